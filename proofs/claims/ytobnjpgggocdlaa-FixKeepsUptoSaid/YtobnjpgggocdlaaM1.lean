/- Part of a proof of a law of this seat: the machine of plain values, its simulation, and the contracts of the functions that the law reaches. Conditions: none beyond the given row. -/
import Derived.Test.YtobnjpgggocdlaaM0
import Derived.Maps.RangeRun
import Derived.RangeFuncRecord
import Derived.Laws.IdiomStrings
import Derived.RangeFuncIn
open Int renaming reduceLT → q5, reduceLE → q6, reduceBEq → q7, reduceBNe → q8, reduceEq → q9
open Nat renaming reduceAdd → y1, reduceLeDiff → y2, reduceLT → y3, reduceEqDiff → y4
set_option linter.unusedSimpArgs false
set_option linter.unusedVariables false
set_option linter.unnecessarySimpa false
set_option maxHeartbeats 4000000
section
namespace Go.Rmp
open Go.ChangeMaps (setBlock)
section
variable {P : Program} {w0 w : World} {g : Ctx} {H : Heap}
theorem SR.drew0 {w' : World} (h : SR w0 g H w) (tr : Tr w w' none2 none1) (hz : w'.heap.size = w.heap.size) : SR w0 g H w' ∧ Le g w g w' := by
  have le : Le g w g w' := Le.of_tr tr (fun _ _ h => h) (fun _ _ h => h) (fun _ _ _ h => h) (fun _ _ hs => hs.elim)
  refine ⟨?_, le⟩
  exact h.step (fun _ => False) tr le (fun _ _ hs => hs.elim) (fun _ hm => hm.elim) (fun r o hr => h.fresh r o (by omega)) h.dom h.domt (fun _ _ _ => rfl) (fun _ _ _ _ => ⟨id, id⟩) (fun _ _ _ _ => rfl) (fun b x hx => .inl ⟨id, hx⟩)
theorem map_at {b : Nat} {vm : Value} {es : List (T × T)} (h : SR w0 g H w) (hm : VR g w (.map b) vm) (hes : mapEs H (.map b) = some es) :
    ∃ r o q, vm = .map (some r) ∧ g.φ b = some (r, o, q) ∧ g.κ r 0 = .mut b ∧ b < H.length ∧ ∃ ents clock, w.heap[r]? = some (.map ents clock) ∧ EntsOk g w es ents ∧ BornOk ents clock := by
  cases hm with
  | @map _ r o q hφ =>
    simp only [mapEs] at hes
    cases hb : H[b]? with
    | none => simp [hb] at hes
    | some y =>
      have hbl := (List.getElem?_eq_some_iff.1 hb).1
      cases y <;> simp [hb] at hes
      · subst hes
        obtain ⟨h1, ents, c, h2, h3, h4⟩ := h.blk b _ hb r o q hφ
        exact ⟨r, o, q, rfl, hφ, h1, hbl, ents, c, h2, h3, h4⟩
      · subst hes
        obtain ⟨r2, o', q', hφ', h1, ents, c, h2, h3, h4, _⟩ := h.blk b _ hb
        rw [hφ] at hφ'; cases hφ'
        exact ⟨r, o, q, rfl, hφ, h1, hbl, ents, c, h2, h3, h4⟩
theorem sim_rng {ty key elem : TypeId} {b : Nat} {vm : Value} {es : List (T × T)} (hu : P.underlying ty = some (.map key elem)) (h : SR w0 g H w) (hm : VR g w (.map b) vm) (hes : mapEs H (.map b) = some es) :
    Sim P w0 g H w (Instr.range ty vm) (.ptr H.length 0) (H.set b (.rmap es (List.range es.length) H.length none) ++ [.itr b]) := by
  obtain ⟨r, o, q, rfl, hφ, hk, hbl, ents, c, h2, h3, h4⟩ := map_at h hm hes
  have hsx : solid (.mapIter (some r) c #[] c) = true := rfl
  have tr' := Tr.alloc w (.mapIter (some r) c #[] c)
  have hne : ∀ r j ow, g.κ r j = ow → ow ≠ .free → r ≠ w.heap.size := by rintro r j ow e hn rfl; exact hn (e ▸ h.fresh _ j (Nat.le_refl _))
  have hnφ := h.noφ (b := H.length) (Nat.le_refl _)
  have hrne := hne r 0 _ hk (by simp)
  have le : Le g w ((g.row w.heap.size fun _ => .mut b).at H.length (w.heap.size, 0, 0)) (w.alloc (.mapIter (some r) c #[] c)) := Le.of_tr tr'
    (fun b' x hx => by simp only [Ctx.at, Ctx.row]; split; rename_i e; subst e; rw [hnφ] at hx; simp at hx; exact hx)
    (fun r o hk => by simp only [Ctx.row, Ctx.at]; rw [if_neg (hne r o _ hk (by simp))]; exact hk) (fun _ _ _ h => h) (fun _ _ hs => hs.elim)
  have hlt : r < w.heap.size := (Array.getElem?_eq_some_iff.1 h2).1
  refine ⟨_, _, _, by simp [Instr.range, run_underlying hu, getObj, Sem.run, h2, newObj], le, ?_, .ptr (r := w.heap.size) (o := 0) (q := 0) (by simp [Ctx.at]), by simp, fun b' x a _ d => ?_⟩
  · refine h.step (fun b' => b' = b ∨ b' = H.length) tr' le (fun _ _ hs => hs.elim) (fun _ hm => hm.elim) (fun r o hr => ?_) (fun b' x hx => ?_) (fun t e x hx => by have := h.domt t e x hx; simp; omega) (fun b' _ hb' => ?_) (fun r j b' hb' => ?_) (fun _ _ _ _ => rfl) (fun b' x hx => ?_)
    · simp at hr
      simp only [Ctx.row, Ctx.at]; rw [if_neg (by omega)]; exact h.fresh r o (by omega)
    · simp only [Ctx.at, Ctx.row] at hx
      split at hx
      · rename_i e; subst e; simp
      · have := h.dom b' x hx; simp; omega
    · simp only [Ctx.at, Ctx.row]; rw [if_neg (fun e => hb' (.inr e))]
    · constructor <;> intro e <;> simp only [Ctx.row, Ctx.at] <;> rw [if_neg (hne r j _ e (by simp))] <;> exact e
    · by_cases e : b' = H.length
      · subst e
        rw [List.getElem?_append_right (by simp)] at hx
        simp at hx; subst hx
        exact .inr trivial
      · have hb' : b' < H.length := by
          have := (List.getElem?_eq_some_iff.1 hx).1
          simp at this; omega
        rw [List.getElem?_append_left (by simpa using hb')] at hx
        rcases set_get hbl hx with ⟨rfl, rfl⟩ | ⟨hn, hx'⟩
        · refine .inr ⟨r, o, q, le.φ _ _ hφ, by simp only [Ctx.row, Ctx.at]; rw [if_neg hrne]; exact hk, ents, c, ?_, h3.mono le, h4, w.heap.size, 0, #[], by simp [Ctx.at], by simp [Ctx.row, Ctx.at], World.alloc_heap_new w _, List.nodup_range, fun i => ?_, fun c hc => by cases hc⟩
          · show (w.heap.push _)[r]? = _
            rw [Array.getElem?_push, if_neg (by omega)]; exact h2
          · rw [List.mem_range, ← h3.1]
            exact ⟨fun hi => ⟨ents[i], Array.getElem?_eq_getElem hi, by simp⟩, fun ⟨m, hm, _⟩ => (Array.getElem?_eq_some_iff.1 hm).1⟩
        · exact .inl ⟨fun hh => hh.elim hn e, hx'⟩
  · have hl := (List.getElem?_eq_some_iff.1 a).1
    refine ⟨?_, by simp only [Ctx.at, Ctx.row]; rw [if_neg (by omega)]; exact d⟩
    rw [List.getElem?_append_left (by simpa using hl)]
    exact set_ne a (by rintro rfl; rw [hφ] at d; cases d)
theorem sim_nxt {ty : TypeId} {b bi : Nat} {v : Value} {es : List (T × T)} {ix : List Nat} {cur : Option Nat} (h : SR w0 g H w) (hx : VR g w (.ptr bi 0) v) (hb : H[b]? = some (.rmap es ix bi cur)) :
    ∃ t H', NxtTo H b bi es ix t H' ∧ Sim P w0 g H w (Instr.next v false ty) t H' := by
  have hbl : b < H.length := (List.getElem?_eq_some_iff.1 hb).1
  obtain ⟨r, o, q, hφ, h1, ents, c, h2, h3, h4, ri, q', seen, h5, h6, h7, h8, h9, h10⟩ := h.blk b _ hb
  cases hx with
  | @ptr _ _ r2 o2 q2 hφ2 =>
    rw [h5] at hφ2; cases hφ2
    have hfr : ∀ y, Fr g H g (H.set b y) := fun y => ⟨by simp, fun b' x a _ d => ⟨set_ne a (by rintro rfl; rw [hφ] at d; cases d), d⟩⟩
    rcases run_next_at (P := P) w ty ri r c c seen ents c h7 h2 h4.1 (Nat.le_refl _) with ⟨hz, hrun⟩ | ⟨e, he, w1, hw1, hrun⟩
    · have hix : ix = [] := by
        refine List.eq_nil_iff_forall_not_mem.2 fun i hi => ?_
        obtain ⟨m, hm, hn⟩ := (h9 i).1 hi
        have : m ∈ leftOf ents seen := by
          simp only [leftOf, Array.mem_filter]
          exact ⟨Array.mem_of_getElem? hm, by simpa using hn⟩
        rw [Array.eq_empty_of_size_eq_zero hz] at this
        simp at this
      refine ⟨_, _, .inl ⟨hix, rfl, rfl⟩, .tuple #[.bool false], w, g, by simpa using hrun, .refl _ _, ?_, .tup rfl (fun i t v a b => ?_), hfr _⟩
      · refine h.step (fun b' => b' = b) (Tr.refl w) (.refl _ _) (fun _ _ hs => hs.elim) (fun _ hm => hm.elim) h.fresh (fun b' x hx => by rw [List.length_set]; exact h.dom b' x hx) (fun t e x hx => by rw [List.length_set]; exact h.domt t e x hx) (fun _ _ _ => rfl) (fun _ _ _ _ => ⟨id, id⟩) (fun _ _ _ _ => rfl) (fun b' x hx => ?_)
        rcases set_get hbl hx with ⟨rfl, rfl⟩ | ⟨hn, hx'⟩
        · refine .inr fun r' o' q' hφ' => ?_
          rw [hφ] at hφ'; cases hφ'
          exact ⟨h1, ents, c, h2, h3, h4⟩
        · exact .inl ⟨hn, hx'⟩
      · cases i with
        | zero => simp at a b; subst a; subst b; exact .bool _
        | succ i => simp at a
    · have hel : e ∈ ents ∧ e.born ∉ seen := by
        have : e ∈ leftOf ents seen := by simpa using he
        simp only [leftOf, Array.mem_filter] at this
        exact ⟨this.1, by simpa using this.2⟩
      obtain ⟨i, hi, hei⟩ := Array.getElem_of_mem hel.1
      have hie : ents[i]? = some e := by rw [Array.getElem?_eq_getElem hi, hei]
      have hil : i < es.length := by rw [← h3.1]; exact hi
      have hix : i ∈ ix := (h9 i).2 ⟨e, hie, hel.2⟩
      have hvr := h3.2 i es[i] e (List.getElem?_eq_getElem hil) hie
      have trd : Tr w w1 none2 none1 := by rcases hw1 with rfl | rfl; exact Tr.refl _; exact Tr.drew _
      obtain ⟨sr1, le1⟩ := h.drew0 trd (by rcases hw1 with rfl | rfl <;> rfl)
      have h71 : w1.heap[ri]? = some (.mapIter (some r) c seen c) := by rcases hw1 with rfl | rfl <;> exact h7
      have h21 : w1.heap[r]? = some (.map ents c) := by rcases hw1 with rfl | rfl <;> exact h2
      have tr : Tr w1 (World.putObj' w1 ri (.mapIter (some r) c (seen.push e.born) c)) none2 (fun r' => r' = ri) := Tr.setobj w1 ri rfl rfl h71
      have le : Le g w1 g (World.putObj' w1 ri (.mapIter (some r) c (seen.push e.born) c)) := Le.of_tr tr (fun _ _ h => h) (fun _ _ h => h) (fun _ _ _ h => h) (fun _ _ hs => hs.elim)
      have hrr : r ≠ ri := by rintro rfl; rw [h21] at h71; cases h71
      refine ⟨_, _, .inr ⟨i, es[i], hix, List.getElem?_eq_getElem hil, rfl, rfl⟩, .tuple #[.bool true, e.key, e.val], _, g, by simpa [setBlock, World.putObj'] using hrun, le1.trans le, ?_, .tup rfl (fun i t v a b => ?_), hfr _⟩
      · show SR w0 g _ (World.putObj' w1 ri (.mapIter (some r) c (seen.push e.born) c))
        refine sr1.step (fun b' => b' = b) tr le (fun _ _ hs => hs.elim) (fun r' hm => ⟨b, by rw [hm]; exact h6, rfl⟩) (fun r' j hr' => sr1.fresh r' j (by simpa [World.putObj'] using hr')) (fun b' x hx => by rw [List.length_set]; exact h.dom b' x hx) (fun t e x hx => by rw [List.length_set]; exact h.domt t e x hx) (fun _ _ _ => rfl) (fun _ _ _ _ => ⟨id, id⟩) (fun _ _ _ _ => rfl) (fun b' x hx => ?_)
        rcases set_get hbl hx with ⟨rfl, rfl⟩ | ⟨hn, hx'⟩
        · refine .inr ⟨r, o, q, hφ, h1, ents, c, ?_, h3.mono (le1.trans le), h4, ri, q', seen.push e.born, h5, h6, put_same _ _ (Array.getElem?_eq_some_iff.1 h71).1, h8.erase _, fun j => ?_, fun c' hc' => ?_⟩
          · rw [put_ne _ _ hrr]; exact h21
          · rw [h8.mem_erase_iff, h9 j]
            constructor
            · rintro ⟨hji, m, hm, hn⟩
              refine ⟨m, hm, fun hin => ?_⟩
              rcases Array.mem_push.1 hin with hin | hin
              · exact hn hin
              · apply hji
                have hj := (Array.getElem?_eq_some_iff.1 hm).1
                have hnd := h4.2
                have e1 : (ents.toList.map (·.born))[j]? = some m.born := by simp [hm]
                have e2 : (ents.toList.map (·.born))[i]? = some m.born := by simp [hie, hin]
                have hjl : j < (ents.toList.map (·.born)).length := by simpa using hj
                exact (List.getElem?_inj hjl hnd).1 (e1.trans e2.symm)
            · rintro ⟨m, hm, hn⟩
              refine ⟨fun hji => ?_, m, hm, fun hin => hn (Array.mem_push.2 (.inl hin))⟩
              subst hji
              rw [hie] at hm; cases hm
              exact hn (Array.mem_push.2 (.inr rfl))
          · cases hc'
            exact ⟨e, hie, by simp⟩
        · exact .inl ⟨hn, hx'⟩
      · have hv1 := hvr.1.mono (le1.trans le)
        have hv2 := hvr.2.mono (le1.trans le)
        match i, a, b with
        | 0, a, b => simp at a b; subst a; subst b; exact .bool _
        | 1, a, b => simp at a b; subst a; subst b; exact hv1
        | 2, a, b => simp at a b; subst a; subst b; exact hv2
        | i + 3, a, b => simp at a
theorem sim_ent {b bi c : Nat} {v : Value} {es : List (T × T)} {ix : List Nat} {e : T × T} (h : SR w0 g H w) (hx : VR g w (.ptr bi 0) v) (hb : H[b]? = some (.rmap es ix bi (some c))) (he : es[c]? = some e) :
    Sim P w0 g H w (Instr.entry v) (.tup [e.1, e.2]) H := by
  obtain ⟨r, o, q, hφ, h1, ents, cl, h2, h3, h4, ri, q', seen, h5, h6, h7, h8, h9, h10⟩ := h.blk b _ hb
  cases hx with
  | @ptr _ _ r2 o2 q2 hφ2 =>
    rw [h5] at hφ2; cases hφ2
    obtain ⟨m, hm, hs⟩ := h10 c rfl
    have hvr := h3.2 c e m he hm
    have hmem : m ∈ ents.toList := by have := Array.mem_of_getElem? hm; simpa using this
    have hf : ents.find? (·.born == m.born) = some m := by rw [← Array.find?_toList]; exact find_born m ents.toList h4.2 hmem
    refine Sim.same h (v := .tuple #[m.key, m.val]) ?_ (.tup rfl fun i t v a b => ?_)
    · simp [Instr.entry, getObj, Sem.run, h7, h2, hs, hf]
    · match i, a, b with
      | 0, a, b => simp at a b; subst a; subst b; exact hvr.1
      | 1, a, b => simp at a b; subst a; subst b; exact hvr.2
      | i + 2, a, b => simp at a
theorem sim_clr {ty rt elem : TypeId} {ei : TypeInfo} {zv : Value} {z : List T} {v : Value} {b off len : Nat} {cs : List T} (hu : P.underlying ty = some (.slice elem)) (hi : P.info? elem = some ei) (hz : ei.zero = some zv) (hzc : constL zv.cells.toList = some z)
    (h : SR w0 g H w) (hx : VR g w (.msl b off len ei.size) v) (hb : H[b]? = some (.cells cs)) (hzl : z.length = ei.size) (hle : off + len * ei.size ≤ cs.length) :
    Sim P w0 g H w (Builtin.clear_ #[ty] rt #[v]) (.tup []) (H.set b (.cells (cs.take off ++ (List.replicate len z).flatten ++ cs.drop (off + len * ei.size)))) := by
  cases hx with
  | @msl _ _ _ _ r o q cap hφ hc hq =>
    obtain ⟨h1, h2, h3⟩ := h.blk b _ hb r o q hφ
    obtain ⟨hzv, hzo⟩ := constL_ok (g := g) (w := w) _ _ hzc
    have hvr := rep_flat hzv hzl len
    have hon := rep_ones hzo len
    have hlen : (List.replicate len z).flatten.length = len * ei.size := by simp [List.length_flatten, hzl]
    have hzs : zv.cells.size = ei.size := by have := hzv.1; simp at this; omega
    have hvr' : VRs g w (List.replicate len z).flatten (Builtin.zeroCells zv.cells len).toList := by
      simpa [Builtin.zeroCells, hzs] using hvr
    obtain ⟨le, sr⟩ := h.store hb hφ (by rw [hlen]; exact hle) hvr' hon
    rw [hlen] at sr
    refine ⟨.tuple #[], _, g, ?_, le, sr, .tup rfl (by simp), by simp, fun b' y' a _ d => ⟨set_ne a (by rintro rfl; rw [hφ] at d; cases d), d⟩⟩
    have hl := hvr'.1
    rw [hlen] at hl
    cases len with
    | zero =>
      have e : (Builtin.zeroCells zv.cells 0).toList = [] := List.eq_nil_of_length_eq_zero (by rw [← hl]; simp)
      rw [e]
      simp [Builtin.clear_, run_underlying hu, World.setCells]
    | succ len =>
      have hrun := run_storeCells_cells (P := P) r (o + off) (Builtin.zeroCells zv.cells (len + 1)).toList 0 w (fun j hj => (h2 _ (by omega) (by omega)).2.2) (fun j hj => (h2 (o + off + 0 + j) (by omega) (by omega)).2.1 _) (hvr'.oneCell hon)
      have hzr : (zeroValue elem).run P w = .ok zv w := by simp [zeroValue, run_ti hi, hz]
      simp only [Nat.add_zero] at hrun
      simp [Builtin.clear_, run_underlying hu, hzr, hrun]
theorem SR.shrink {b : Nat} {cs : List T} (k : Nat) (h : SR w0 g H w) (hb : H[b]? = some (.cells cs)) (hφ : ∃ x, g.φ b = some x) : SR w0 g (H.set b (.cells (cs.take k))) w ∧ Fr g H g (H.set b (.cells (cs.take k))) := by
  have hbl : b < H.length := (List.getElem?_eq_some_iff.1 hb).1
  obtain ⟨y, hy⟩ := hφ
  refine ⟨?_, by simp, fun b' x a _ d => ⟨set_ne a (by rintro rfl; rw [hy] at d; cases d), d⟩⟩
  refine h.step (fun b' => b' = b) (Tr.refl w) (.refl _ _) (fun _ _ hs => hs.elim) (fun _ hm => hm.elim) h.fresh (fun b' x hx => by rw [List.length_set]; exact h.dom b' x hx) (fun t e x hx => by rw [List.length_set]; exact h.domt t e x hx) (fun _ _ _ => rfl) (fun _ _ _ _ => ⟨id, id⟩) (fun _ _ _ _ => rfl) (fun b' x hx => ?_)
  rcases set_get hbl hx with ⟨rfl, rfl⟩ | ⟨hn, hx'⟩
  · refine .inr fun r o q hφ => ?_
    obtain ⟨h1, h2, h3⟩ := h.blk b' _ hb r o q hφ
    refine ⟨by simp; omega, h2, fun i t hi => h3 i t ?_⟩
    rw [List.getElem?_take] at hi
    split at hi
    · exact hi
    · cases hi
  · exact .inl ⟨hn, hx'⟩
end
end Go.Rmp
end

section
namespace Go.Rmp
def compX : Operand → Option X
  | .tmp t => some (.r t)
  | .const v => (constT v).map .c
  | .func f => some (.c (.fn f []))
  | .global _ => none
def compXs : List Operand → Option (List X)
  | [] => some []
  | x :: xs => match compX x, compXs xs with
    | some y, some ys => some (y :: ys)
    | _, _ => none
def compXo : Option Operand → Option (Option X)
  | none => some none
  | some x => (compX x).map some
def compPs : List (Nat × Operand) → Option (List (Nat × X))
  | [] => some []
  | (i, x) :: xs => match compX x, compPs xs with
    | some y, some ys => some ((i, y) :: ys)
    | _, _ => none
def ty1 : TypeDesc → Option Ty1
  | .int _ => some .int
  | .string => some .str
  | .bool => some .bool
  | _ => none
def kinds (P : Program) : List Field → Option (List Ty1)
  | [] => some []
  | f :: fs => match (P.underlying f.type).bind ty1, kinds P fs with
    | some k, some ks => some (k :: ks)
    | _, _ => none
def compKT (P : Program) (ty : TypeId) : Option KT :=
  match P.underlying ty with
  | some (.struct fs) => (kinds P fs.toList).map .st
  | some d => (ty1 d).map .sc
  | none => none
def zeroOf (P : Program) (ty : TypeId) : Option (List T) :=
  match P.info? ty with
  | some i => match i.zero with
    | some zv => constL zv.cells.toList
    | none => none
  | none => none
def isEq : BinOp → Option Bool
  | .eql => some false
  | .neq => some true
  | _ => none
def cls : TypeDesc → Option Cls
  | .pointer _ => some .ptr
  | .slice _ => some .slice
  | .map _ _ => some .map
  | .func _ _ _ => some .func
  | _ => none
def cBin (P : Program) (op : BinOp) (ty : TypeId) (x y : X) : Option Bo :=
  match P.underlying ty with
  | some (.int _) | some .string => some (.bin op x y)
  | some .bool => (isEq op).map fun n => .beq n x y
  | some (.struct fs) => match isEq op, kinds P fs.toList with
    | some n, some ks => if flat P fs.toList 0 ks && !P.stoodInHeld ty && !P.eqGuardType P.depth ty then some (.eqs n ks x y) else none
    | _, _ => none
  | some d => match isEq op, cls d with
    | some n, some c => some (.eqr n c x y)
    | _, _ => none
  | none => none
def cLoad (P : Program) (ty : TypeId) (x : X) : Option Bo :=
  match P.underlying ty, P.info? ty with
  | some d, some i => some (.ld (if isAggD d then i.size else 1) (isAggD d) x)
  | _, _ => none
def cField (P : Program) (ty : TypeId) (x : X) (f : Nat) (ad : Bool) : Option Bo :=
  match P.underlying ty with
  | some (.struct fs) => match fs[f]? with
    | some f => match P.underlying f.type, P.info? f.type with
      | some d, some i => if ad then (if i.size = 0 then none else some (.fad f.offset x)) else some (.fld f.offset i.size (isAggD d) x)
      | _, _ => none
    | none => none
  | _ => none
def cIdx (P : Program) (ty : TypeId) (x i : X) (ad : Bool) : Option Bo :=
  match P.underlying ty, ad with
  | some (.slice e), true => (P.info? e).map fun ei => .iad ei.size x i
  | some (.array n e), true => (P.info? e).map fun ei => .iaa n ei.size x i
  | some .string, false => some (.ixs x i)
  | some (.array n e), false => match P.info? e, P.underlying e with
    | some ei, some d => some (.ixa n ei.size (isAggD d) x i)
    | _, _ => none
  | _, _ => none
def cSlice (P : Program) (ty : TypeId) (x : X) (lo hi mx : Option X) : Option Bo :=
  match P.underlying ty with
  | some .string => if mx.isSome then none else some (.sls x lo hi)
  | some (.slice e) => match P.info? e with
    | some ei => if mx.isSome && hi.isNone then none else some (.sll ei.size x lo hi mx)
    | none => none
  | _ => none
def cSlr (P : Program) (ty : TypeId) (x : X) (lo hi mx : Option X) : Option Bo :=
  match P.underlying ty, lo, hi, mx with
  | some (.slice e), none, some hi, none => (P.info? e).map fun ei => .slr ei.size x hi
  | _, _, _, _ => none
def cConv (P : Program) (src dst : TypeId) (x : X) : Option Bo :=
  match P.underlying src, P.underlying dst with
  | some (.int _), some (.int k) => some (.cvi k x)
  | some .string, some .string => none
  | some .string, some (.slice e) => match P.underlying e with
    | some (.int .u8) => some (.cvb false x)
    | _ => none
  | some (.slice e), some .string => match P.underlying e with
    | some (.int .u8) => some (.cvs x)
    | _ => none
  | some (.slice _), some (.slice e) => if src == dst then (match P.underlying e with
    | some (.int .u8) => some (.cvb true x)
    | _ => none) else none
  | _, _ => none
def notInt : TypeDesc → Bool
  | .int _ => false
  | _ => true
def cAppend (P : Program) (mu : Bool) (tys : List TypeId) (aq : List X) : Option Bo :=
  match tys, aq with
  | [sT, xT], [x, y] => match P.underlying sT, P.underlying xT with
    | some (.slice e), some d => match P.info? e with
      | some ei => match ei.zero with
        | some zv => if notInt d && zv.cells.size == ei.size && ei.bytes != 0 then some (.app ei.size ei.bytes mu x y) else none
        | none => none
      | none => none
    | _, _ => none
  | _, _ => none
def cApz (P : Program) (tys : List TypeId) (aq : List X) : Option Bo :=
  match tys, aq with
  | [sT, xT], [x, k] => match P.underlying sT, P.underlying xT with
    | some (.slice e), some (.int _) => match P.info? e, zeroOf P e with
      | some ei, some z => if ei.bytes != 0 then some (.apz ei.size ei.bytes z x k) else none
      | _, _ => none
    | _, _ => none
  | _, _ => none
def cBuiltin (P : Program) (mu : Bool) (b : Builtin) (tys : List TypeId) (aq : List X) : Option Bo :=
  match b, tys, aq with
  | .append, tys, aq => match cApz P tys aq with
    | some b => some b
    | none => cAppend P mu tys aq
  | .cap, [t], [x] => match P.underlying t with
    | some (.slice _) => some (.cap x)
    | _ => none
  | .copy, [dT, _], [x, y] => match P.underlying dT with
    | some (.slice e) => (P.info? e).map fun ei => .cpy ei.size x y
    | _ => none
  | .len, [t], [x] => match P.underlying t with
    | some .string => some (.len .str x)
    | some (.slice _) => some (.len .sl x)
    | some (.map _ _) => some (.len .map x)
    | _ => none
  | .clear, [t], [x] => match P.underlying t with
    | some (.slice e) => match P.info? e, zeroOf P e with
      | some ei, some z => some (.clr ei.size z x)
      | _, _ => none
    | _ => none
  | .min, _, [x, y] => some (.mn x y)
  | .max, _, [x, y] => some (.mx x y)
  | .delete, [t, _], [m, k] => match P.underlying t with
    | some (.map key _) => match compKT P key with
      | some kt => if ktOk P key kt then some (.del kt m k) else none
      | none => none
    | _ => none
  | _, _, _ => none
def cMap (P : Program) (ty : TypeId) (m k : X) : Option (Nat × KT × T) :=
  match P.underlying ty with
  | some (.map key e) => match compKT P key, P.info? e with
    | some kt, some ei => match ei.zero with
      | some zv => match constT zv with
        | some z => if ktOk P key kt then some (e, kt, z) else none
        | none => none
      | none => none
    | _, _ => none
  | _ => none
def fieldsOk (P : Program) (fs : List Field) : Bool := fs.all fun f => (P.info? f.type).isSome
def cBuild (P : Program) (ty : TypeId) (ps : List (Nat × X)) : Option Bo :=
  match P.underlying ty, zeroOf P ty with
  | some (.struct fs), some z => if fieldsOk P fs.toList && ps.all (fun p => p.1 < fs.size) then
      some (.build z (ps.map fun p => ((((placesOf P fs.toList)[p.1]?).getD (0, 0)).1, (((placesOf P fs.toList)[p.1]?).getD (0, 0)).2, p.2))) else none
  | _, _ => none
def cBsl (P : Program) (mu : Bool) (ty : TypeId) (n : Nat) (ps : List (Nat × X)) : Option Bo :=
  match P.underlying ty with
  | some (.slice e) => match P.info? e, zeroOf P e with
    | some ei, some z => if z.length == ei.size && decide (n * ei.size ≤ 16777216) then some (if mu then .bsm n z ps else .bsl n z ps) else none
    | _, _ => none
  | _ => none
def cMks (P : Program) (mu : Bool) (ty : TypeId) (l c : X) : Option Bo :=
  match P.underlying ty with
  | some (.slice e) => match P.info? e, zeroOf P e with
    | some ei, some z => if z.length == ei.size && ei.size != 0 then some (.mks mu ei.bytes z l c) else none
    | _, _ => none
  | _ => none
def noRow (n : String) : Bool := (Extern.allGenericRows.lookup n).isNone && (Extern.allTypedRows.lookup n).isNone && (Extern.allRows.lookup n).isNone
def isOvl (P : Program) (f : FuncId) : Option Nat :=
  match P.funcs[f]? with
  | some fn => match fn.params[0]? with
    | some t => match P.underlying t with
      | some (.slice e) => match P.info? e with
        | some ei => if fn.name != "runtime.NumGoroutine" && fn.body.isNone && (Extern.findNext fn).isNone && fn.origin == "slices.overlaps" && noRow fn.name then some ei.size else none
        | none => none
      | _ => none
    | none => none
  | none => none
def compOp (P : Program) (mu : Bool) : Op → Option Bo
  | .move x | .assign x => (compX x).map .mov
  | .pick c a b => match compX c, compX a, compX b with
    | some c, some a, some b => some (.pick c a b)
    | _, _, _ => none
  | .binOp op ty x y _ => match compX x, compX y with
    | some x, some y => cBin P op ty x y
    | _, _ => none
  | .unOp op _ x => (compX x).map (.un op)
  | .convert s d x => (compX x).bind (cConv P s d)
  | .alloc ty => (zeroOf P ty).map .alloc
  | .box _ x => (compX x).map .box
  | .build ty ps => (compPs ps.toList).bind (cBuild P ty)
  | .buildSlice ty n ps => (compPs ps.toList).bind (cBsl P mu ty n)
  | .load ty x => (compX x).bind (cLoad P ty)
  | .store ty a v => match P.info? ty, compX a, compX v with
    | some i, some a, some v => some (.st i.size a v)
    | _, _, _ => none
  | .fieldAddr ty x f => (compX x).bind fun x => cField P ty x f true
  | .field ty x f => (compX x).bind fun x => cField P ty x f false
  | .indexAddr ty x i => match compX x, compX i with
    | some x, some i => cIdx P ty x i true
    | _, _ => none
  | .index ty x i => match compX x, compX i with
    | some x, some i => cIdx P ty x i false
    | _, _ => none
  | .slice ty x lo hi mx => match compX x, compXo lo, compXo hi, compXo mx with
    | some x, some lo, some hi, some mx => if mu then cSlr P ty x lo hi mx else cSlice P ty x lo hi mx
    | _, _, _, _ => none
  | .makeMap _ none => some .mkm
  | .lookup ty m k ok => match compX m, compX k with
    | some m, some k => (cMap P ty m k).map fun (_, kt, z) => .lkp kt z ok m k
    | _, _ => none
  | .mapUpdate ty m k v | .insert ty m k v => match compX m, compX k, compX v with
    | some m, some k, some v => (cMap P ty m k).map fun (_, kt, _) => .upm kt m k v
    | _, _, _ => none
  | .makeSlice ty l c => match compX l, compX c with
    | some l, some c => cMks P mu ty l c
    | _, _ => none
  | .makeFunc (.func f) first caps => if first.size = 0 then (compXs caps.toList).map (.mkf f) else none
  | .extract x i => (compX x).map (.ext i)
  | .nilCheck x => (compX x).map .nilc
  | .range ty m => match P.underlying ty with
    | some (.map _ _) => (compX m).map .rng
    | _ => none
  | .next it false => (compX it).map .nxt
  | .entry it => (compX it).map .ent
  | .call { callee := .value (.func f), args, .. } => match isOvl P f, compXs args.toList with
    | some n, some [x, y] => some (.ovl n x y)
    | _, _ => none
  | .call { callee := .builtin b, args, argTypes } => (compXs args.toList).bind (cBuiltin P mu b argTypes.toList)
  | _ => none
def Did (P : Program) (w0 : World) (g : Ctx) (H : Heap) (w : World) (s : Sem Next) (t : T) (H' : Heap) : Prop :=
  ∃ nx v w' g', s.run P w = .ok nx w' ∧ (nx = .value v ∨ (nx = .skip ∧ v = undef)) ∧ Le g w g' w' ∧ SR w0 g' H' w' ∧ VR g' w' t v ∧ Fr g H g' H'
theorem Sim.did {P : Program} {w0 w : World} {g : Ctx} {H H' : Heap} {s : Sem Value} {t : T} (h : Sim P w0 g H w s t H') : Did P w0 g H w (do pure (.value (← s))) t H' := by
  obtain ⟨v, w', g', h1, h2⟩ := h
  exact ⟨.value v, v, w', g', by simp [h1], .inl rfl, h2⟩
theorem undef_vr {g : Ctx} {w : World} : VR g w undefT undef := .tup rfl (by simp)
section
variable {P : Program} {w0 w : World} {g : Ctx} {H : Heap} {R : Regs} {ρ : Operand → Value}
def RV (g : Ctx) (w : World) (R : Regs) (ρ : Operand → Value) (xs : List Operand) : Prop := ∀ x ∈ xs, ∀ y, compX x = some y → VR g w (y.ev R) (ρ x)
theorem compXs_ok : ∀ (xs : List Operand) (ys : List X), compXs xs = some ys → RV g w R ρ xs → VRs g w (ys.map (X.ev R)) (xs.map ρ)
  | [], ys, h, _ => by simp [compXs] at h; subst h; exact VRs.nil
  | x :: xs, ys, h, hv => by
    simp only [compXs] at h
    cases h1 : compX x with
    | none => simp [h1] at h
    | some y =>
      cases h2 : compXs xs with
      | none => simp [h1, h2] at h
      | some ys' =>
        simp [h1, h2] at h; subst h
        exact VRs.cons (hv x (by simp) y h1) (compXs_ok xs ys' h2 (fun z hz => hv z (by simp [hz])))
theorem compPs_ok : ∀ (ps : List (Nat × Operand)) (qs : List (Nat × X)), compPs ps = some qs → RV g w R ρ (ps.map (·.2)) → PV g w R qs (ps.map fun p => (p.1, ρ p.2))
  | [], qs, h, _ => by simp [compPs] at h; subst h; exact .nil
  | (i, x) :: ps, qs, h, hv => by
    simp only [compPs] at h
    cases h1 : compX x with
    | none => simp [h1] at h
    | some y =>
      cases h2 : compPs ps with
      | none => simp [h1, h2] at h
      | some qs' =>
        simp [h1, h2] at h; subst h
        exact .cons (hv x (by simp) y h1) (compPs_ok ps qs' h2 (fun z hz => hv z (by simp at hz ⊢; exact .inr hz)))
end
end Go.Rmp
end

section
namespace Go.Rmp
section
variable {P : Program} {w0 w : World} {g : Ctx} {H H' : Heap} {R : Regs} {ρ : Operand → Value} {t : T}
theorem did_bin {op : BinOp} {ty : TypeId} {ox oy : Operand} {x y : X} {b : Bo} (hc : cBin P op ty x y = some b) (h : SR w0 g H w) (hx : VR g w (x.ev R) (ρ ox)) (hy : VR g w (y.ev R) (ρ oy)) (he : evop R H b = some (t, H')) :
    Did P w0 g H w (do pure (Next.value (← (do eqGuard op ty ox oy (ρ ox) (ρ oy); binOp op ty (ρ ox) (ρ oy))))) t H' := by
  refine Sim.did ?_
  unfold cBin at hc
  cases hu : P.underlying ty with
  | none => simp [hu] at hc
  | some d =>
    rw [hu] at hc
    have heq : ∀ n, isEq op = some n → op = if n then .neq else .eql := by
      intro n hn; cases op <;> simp [isEq] at hn <;> subst hn <;> rfl
    have bin : b = .bin op x y → Sim P w0 g H w (do eqGuard op ty ox oy (ρ ox) (ρ oy); binOp op ty (ρ ox) (ρ oy)) t H' := by
      rintro rfl
      simp only [evop, Option.map_eq_some_iff, Prod.mk.injEq] at he
      obtain ⟨t', h1, rfl, rfl⟩ := he
      exact sim_bin h hx hy h1
    have ref : (∃ n c, isEq op = some n ∧ cls d = some c ∧ b = .eqr n c x y) → Sim P w0 g H w (do eqGuard op ty ox oy (ρ ox) (ρ oy); binOp op ty (ρ ox) (ρ oy)) t H' := by
      rintro ⟨n, c, h1, h2, rfl⟩
      simp only [evop, Option.map_eq_some_iff, Prod.mk.injEq] at he
      obtain ⟨r, h3, rfl, rfl⟩ := he
      rw [heq n h1]
      exact sim_eqr hu (by cases d <;> simp [cls] at h2 <;> subst h2 <;> rfl) h hx hy h3
    have ref' : (match isEq op, cls d with | some n, some c => some (Bo.eqr n c x y) | _, _ => none) = some b → (∃ n c, isEq op = some n ∧ cls d = some c ∧ b = .eqr n c x y) := by
      intro hh
      cases h1 : isEq op with
      | none => simp [h1] at hh
      | some n =>
        cases h2 : cls d with
        | none => simp [h1, h2] at hh
        | some c => simp [h1, h2] at hh; exact ⟨n, c, rfl, rfl, hh.symm⟩
    cases d with
    | int k => simp at hc; exact bin hc.symm
    | string => simp at hc; exact bin hc.symm
    | bool =>
      simp only [Option.map_eq_some_iff] at hc
      obtain ⟨n, h1, rfl⟩ := hc
      simp only [evop] at he
      rw [heq n h1]
      generalize x.ev R = tx at hx he
      generalize y.ev R = tyy at hy he
      cases tx <;> cases tyy <;> simp at he
      obtain ⟨rfl, rfl⟩ := he
      exact sim_beq hu h hx hy
    | struct fs =>
      cases h1 : isEq op with
      | none => simp [h1] at hc
      | some n =>
        cases h2 : kinds P fs.toList with
        | none => simp [h1, h2] at hc
        | some ks =>
          simp only [h1, h2] at hc
          split at hc
          · rename_i hcond
            simp only [Bool.and_eq_true, Bool.not_eq_true'] at hcond
            simp at hc; subst hc
            simp only [evop] at he
            rw [heq n h1]
            generalize x.ev R = tx at hx he
            generalize y.ev R = tyy at hy he
            cases tx <;> cases tyy <;> (try simp only [reduceCtorEq] at he)
            split at he
            · rename_i hk
              simp only [Option.map_eq_some_iff, Prod.mk.injEq] at he
              obtain ⟨r, h3, rfl, rfl⟩ := he
              exact sim_eqs hu hcond.1.1 hcond.1.2 hcond.2 h hx hy hk h3
            · cases he
          · cases hc
    | pointer _ => exact ref (ref' hc)
    | slice _ => exact ref (ref' hc)
    | map _ _ => exact ref (ref' hc)
    | func _ _ _ => exact ref (ref' hc)
    | invalid => exact ref (ref' hc)
    | float _ => exact ref (ref' hc)
    | complex _ => exact ref (ref' hc)
    | unsafePointer => exact ref (ref' hc)
    | array _ _ => exact ref (ref' hc)
    | chan _ _ => exact ref (ref' hc)
    | interface _ => exact ref (ref' hc)
    | tuple _ => exact ref (ref' hc)
    | named _ _ => exact ref (ref' hc)
theorem did_load {ty : TypeId} {v : Value} {x : X} {b : Bo} (hc : cLoad P ty x = some b) (h : SR w0 g H w) (hx : VR g w (x.ev R) v) (he : evop R H b = some (t, H')) : Did P w0 g H w (do pure (Next.value (← Instr.loadAt ty v))) t H' := by
  refine Sim.did ?_
  unfold cLoad at hc
  cases hu : P.underlying ty with
  | none => simp [hu] at hc
  | some d =>
    cases hi : P.info? ty with
    | none => simp [hu, hi] at hc
    | some i =>
      simp only [hu, hi, Option.some.injEq] at hc
      subst hc
      simp only [evop] at he
      cases hl : ldc H (if isAggD d then i.size else 1) (x.ev R) with
      | none => simp [hl] at he
      | some cs =>
        simp only [hl, Option.map_eq_some_iff, Prod.mk.injEq] at he
        obtain ⟨t', h1, rfl, rfl⟩ := he
        exact sim_ld hu hi rfl (fun e => by rw [if_pos e]) h hx hl h1
theorem did_field {ty : TypeId} {v : Value} {x : X} {f : Nat} {ad : Bool} {b : Bo} (hc : cField P ty x f ad = some b) (h : SR w0 g H w) (hx : VR g w (x.ev R) v) (he : evop R H b = some (t, H')) :
    Sim P w0 g H w (if ad then Instr.fieldAt ty v f else Instr.field ty v f) t H' := by
  unfold cField at hc
  cases hu : P.underlying ty with
  | none => simp [hu] at hc
  | some d =>
    cases d <;> simp only [hu] at hc <;> (try (cases hc; done))
    rename_i fs
    cases hf : fs[f]? with
    | none => simp [hf] at hc
    | some fl =>
      simp only [hf] at hc
      cases hd : P.underlying fl.type with
      | none => simp [hd] at hc
      | some d =>
        cases hi : P.info? fl.type with
        | none => simp [hd, hi] at hc
        | some i =>
          simp only [hd, hi] at hc
          cases ad with
          | true =>
            simp only [if_true] at hc
            split at hc
            · cases hc
            · rename_i hz
              simp at hc; subst hc
              simp only [evop] at he
              simp only [Option.map_eq_some_iff, Prod.mk.injEq] at he
              obtain ⟨t', h1, rfl, rfl⟩ := he
              exact sim_fad hu hf hi hz h hx h1
          | false =>
            simp only [Bool.false_eq_true, if_false, Option.some.injEq] at hc
            subst hc
            simp only [evop] at he
            generalize x.ev R = tx at hx he
            cases tx <;> (try simp only [reduceCtorEq] at he)
            rename_i cs
            split at he
            · rename_i hle
              simp only [Option.map_eq_some_iff, Prod.mk.injEq] at he
              obtain ⟨t', h1, rfl, rfl⟩ := he
              exact sim_fld hu hf hd hi rfl h hx hle h1
            · cases he
theorem did_idx {ty : TypeId} {v vi : Value} {x i : X} {ad : Bool} {b : Bo} (hc : cIdx P ty x i ad = some b) (h : SR w0 g H w) (hx : VR g w (x.ev R) v) (hi : VR g w (i.ev R) vi) (he : evop R H b = some (t, H')) :
    Sim P w0 g H w (if ad then Instr.indexAt ty v vi else Instr.index ty v vi) t H' := by
  unfold cIdx at hc
  cases hu : P.underlying ty with
  | none => simp [hu] at hc
  | some d =>
    cases d <;> cases ad <;> simp only [hu] at hc <;> (try (cases hc; done))
    · -- string
      simp at hc; subst hc
      simp only [evop] at he
      generalize x.ev R = tx at hx he
      cases tx <;> (try simp only [reduceCtorEq] at he)
      cases hn : natOf (i.ev R) with
      | none => simp [hn] at he
      | some n =>
        simp only [hn, Option.map_eq_some_iff, Prod.mk.injEq] at he
        obtain ⟨c, h1, rfl, rfl⟩ := he
        exact sim_ixs hu h hx hi hn h1
    · -- slice
      rename_i e
      cases hei : P.info? e with
      | none => simp [hei] at hc
      | some ei =>
        simp [hei] at hc; subst hc
        simp only [evop] at he
        simp only [Option.bind_eq_some_iff, Option.map_eq_some_iff, Prod.mk.injEq] at he
        obtain ⟨n, h1, t', h2, rfl, rfl⟩ := he
        exact sim_iad hu hei h hx hi h1 h2
    · -- array's value
      rename_i n e
      cases hei : P.info? e with
      | none => simp [hei] at hc
      | some ei =>
        cases hed : P.underlying e with
        | none => simp [hei, hed] at hc
        | some d =>
          simp [hei, hed] at hc; subst hc
          simp only [evop] at he
          generalize x.ev R = tx at hx he
          cases tx <;> (try simp only [reduceCtorEq] at he)
          cases hn : natOf (i.ev R) with
          | none => simp [hn] at he
          | some m =>
            simp only [hn] at he
            split at he
            · rename_i hcnd
              simp only [Option.map_eq_some_iff, Prod.mk.injEq] at he
              obtain ⟨t', h1, rfl, rfl⟩ := he
              exact sim_ixa hu hed hei rfl h hx hi hn hcnd.1 hcnd.2 h1
            · cases he
    · -- array's address
      rename_i n e
      cases hei : P.info? e with
      | none => simp [hei] at hc
      | some ei =>
        simp [hei] at hc; subst hc
        simp only [evop] at he
        generalize x.ev R = tx at hx he
        cases tx <;> (try simp only [reduceCtorEq] at he)
        cases hn : natOf (i.ev R) with
        | none => simp [hn] at he
        | some m =>
          simp only [hn] at he
          split at he
          · rename_i hlt
            simp at he
            obtain ⟨rfl, rfl⟩ := he
            exact sim_iaa hu hei h hx hi hn hlt
          · cases he
theorem compXo_ok {x : Option Operand} {y : Option X} (h : compXo x = some y) (hv : RV g w R ρ x.toList) : OV g w R y (x.map ρ) := by
  cases x with
  | none => simp [compXo] at h; subst h; trivial
  | some x =>
    simp only [compXo, Option.map_eq_some_iff] at h
    obtain ⟨y', h1, rfl⟩ := h
    exact hv x (by simp) y' h1
theorem did_slr {ty : TypeId} {v : Value} {x : X} {lo hi mx : Option X} {vlo vhi vmx : Option Value} {b : Bo} (hc : cSlr P ty x lo hi mx = some b) (h : SR w0 g H w) (hx : VR g w (x.ev R) v) (hlo : OV g w R lo vlo) (hhi : OV g w R hi vhi) (hmx : OV g w R mx vmx)
    (he : evop R H b = some (t, H')) : Did P w0 g H w (do pure (Next.value (← Instr.sliceAt ty v vlo vhi vmx))) t H' := by
  refine Sim.did ?_
  unfold cSlr at hc
  split at hc
  · rename_i e hi0 hu
    cases hei : P.info? e with
    | none => simp [hei] at hc
    | some ei =>
      simp only [hei, Option.map_some, Option.some.injEq] at hc
      subst hc
      cases vlo with
      | some _ => exact hlo.elim
      | none => cases vmx with
        | some _ => exact hmx.elim
        | none => cases vhi with
          | none => exact hhi.elim
          | some vh =>
            simp only [evop] at he
            generalize x.ev R = tx at hx he
            split at he
            · rename_i bb off len n' hh hnat
              split at he
              · rename_i hcnd
                obtain ⟨rfl, h1, h2, h3⟩ := hcnd
                simp only [Option.some.injEq, Prod.mk.injEq] at he
                obtain ⟨rfl, rfl⟩ := he
                exact sim_slr hu hei h hx hhi hnat h1 h2 h3
              · cases he
            · cases he
  · cases hc
theorem did_slice {ty : TypeId} {v : Value} {x : X} {lo hi mx : Option X} {vlo vhi vmx : Option Value} {b : Bo} (hc : cSlice P ty x lo hi mx = some b) (h : SR w0 g H w) (hx : VR g w (x.ev R) v) (hlo : OV g w R lo vlo) (hhi : OV g w R hi vhi) (hmx : OV g w R mx vmx)
    (he : evop R H b = some (t, H')) : Did P w0 g H w (do pure (Next.value (← Instr.sliceAt ty v vlo vhi vmx))) t H' := by
  refine Sim.did ?_
  unfold cSlice at hc
  cases hu : P.underlying ty with
  | none => simp [hu] at hc
  | some d =>
    cases d <;> simp only [hu] at hc <;> (try (cases hc; done))
    · -- string
      cases mx with
      | some _ => simp at hc
      | none =>
        cases vmx with
        | some _ => exact hmx.elim
        | none =>
          simp at hc; subst hc
          simp only [evop] at he
          generalize x.ev R = tx at hx he
          cases tx <;> (try simp only [reduceCtorEq] at he)
          rename_i s
          cases hl : bnd R 0 lo with
          | none => simp [hl] at he
          | some l =>
            cases hh : bnd R s.size hi with
            | none => simp [hl, hh] at he
            | some r =>
              simp only [hl, hh] at he
              split at he
              · rename_i hcnd
                simp at he
                obtain ⟨rfl, rfl⟩ := he
                exact sim_sls hu h hx hlo hhi hl hh hcnd.1 hcnd.2
              · cases he
    · -- slice
      rename_i e
      cases hei : P.info? e with
      | none => simp [hei] at hc
      | some ei =>
        simp only [hei] at hc
        split at hc
        · cases hc
        · rename_i hmh
          simp at hc; subst hc
          simp only [evop] at he
          generalize x.ev R = tx at hx he
          cases tx <;> (try simp only [reduceCtorEq] at he)
          · rename_i k es
            cases hl : bnd R 0 lo with
            | none => simp [hl] at he
            | some l =>
              cases hh : bnd R es.length hi with
              | none => simp [hl, hh] at he
              | some r =>
                simp only [hl, hh] at he
                cases mx with
                | none =>
                  cases vmx with
                  | some _ => exact hmx.elim
                  | none =>
                    simp only at he
                    split at he
                    · rename_i hcnd
                      simp at he
                      obtain ⟨rfl, rfl⟩ := he
                      exact sim_sll hu hei h hx hlo hhi hl hh hcnd.1 hcnd.2.1 hcnd.2.2
                    · cases he
                | some m =>
                  cases vmx with
                  | none => exact hmx.elim
                  | some vm =>
                    cases hi with
                    | none => simp at hmh
                    | some hi =>
                      cases vhi with
                      | none => exact hhi.elim
                      | some vh =>
                        simp only at he
                        cases hm : natOf (m.ev R) with
                        | none => simp [hm] at he
                        | some m' =>
                          simp only [hm] at he
                          split at he
                          · rename_i hcnd
                            simp only [Option.some.injEq, Prod.mk.injEq] at he
                            obtain ⟨rfl, rfl⟩ := he
                            exact sim_sll3 hu hei h hx hlo hhi hmx hl hh hm hcnd.1 hcnd.2.1 hcnd.2.2.1 hcnd.2.2.2
                          · cases he
          · rename_i bb off len n'
            cases hl : bnd R 0 lo with
            | none => simp [hl] at he
            | some l =>
              cases hh : bnd R len hi with
              | none => simp [hl, hh] at he
              | some r =>
                simp only [hl, hh] at he
                cases mx with
                | some _ => simp at he
                | none =>
                  cases vmx with
                  | some _ => exact hmx.elim
                  | none =>
                    simp only at he
                    split at he
                    · rename_i hcnd
                      obtain ⟨rfl, h1, h2⟩ := hcnd
                      simp only [Option.some.injEq, Prod.mk.injEq] at he
                      obtain ⟨rfl, rfl⟩ := he
                      exact sim_sllm hu hei h hx hlo hhi hl hh h1 h2
                    · cases he
          · rename_i bb off len n' cc
            cases hl : bnd R 0 lo with
            | none => simp [hl] at he
            | some l =>
              cases hh : bnd R len hi with
              | none => simp [hl, hh] at he
              | some r =>
                simp only [hl, hh] at he
                cases mx with
                | some _ => simp at he
                | none =>
                  cases vmx with
                  | some _ => exact hmx.elim
                  | none =>
                    simp only at he
                    split at he
                    · rename_i hcnd
                      obtain ⟨rfl, h1, h2⟩ := hcnd
                      simp only [Option.some.injEq, Prod.mk.injEq] at he
                      obtain ⟨rfl, rfl⟩ := he
                      exact sim_sllc hu hei h hx hlo hhi hl hh h1 h2
                    · cases he
theorem sim_cvb {src dst e : TypeId} {s : ByteArray} (hs : P.underlying src = some .string) (hd : P.underlying dst = some (.slice e)) (he : P.underlying e = some (.int .u8)) (h : SR w0 g H w) :
    Sim P w0 g H w (convert src dst (.string s)) (.sl .arg (s.data.toList.map fun c => [.int .u8 c.toNat])) H := by
  have hrun := run_bytes_of_string w src dst e s hs hd he
  have hge := grownCap_ge w s.size 0 e
  generalize grownCap w s.size 0 e = cap at hrun hge
  have hfl : (s.data.toList.map fun c => [T.int .u8 c.toNat]).flatten = s.data.toList.map fun c => T.int .u8 c.toNat := by
    generalize s.data.toList = l
    induction l with
    | nil => rfl
    | cons c l ih => simp only [List.map_cons, List.flatten_cons, ih]; rfl
  have hlen : (s.data.toList.map fun c => [T.int .u8 c.toNat]).length = s.size := by rw [List.length_map, Array.length_toList]; rfl
  obtain ⟨le, sr, fr, imm⟩ := h.immM (c := bytesRow s cap) (ty := e) (fr := ((bytesRow s cap).size, (bytesRow s cap).size + 1)) (Tr.drew w) rfl
  refine ⟨_, _, _, hrun, le, sr, ?_, fr⟩
  have := VR.of_row (g := g.row w.heap.size fun _ => .imm) (w := w.drew.alloc (.cells (bytesRow s cap) e ((bytesRow s cap).size, (bytesRow s cap).size + 1))) (k := .arg) (es := s.data.toList.map fun c => [T.int .u8 c.toNat]) (r := w.heap.size) (o := 0) (cap := cap) (n := 1)
    (vs := s.data.toList.map fun c => Value.int .u8 c.toNat) (by intro c hc; obtain ⟨b, _, rfl⟩ := List.mem_map.1 hc; rfl) (by
      rw [hfl]
      refine ⟨by simp, fun i t v a b => ?_⟩
      rw [List.getElem?_map] at a b
      cases hc : s.data.toList[i]? with
      | none => rw [hc] at a; cases a
      | some c => rw [hc] at a b; cases a; cases b; exact .int _ _)
    (by rw [hfl]; intro t ht; obtain ⟨c, _, rfl⟩ := List.mem_map.1 ht; rfl) (by rw [hlen]; exact hge) trivial (fun j v hj => by
      rw [Nat.zero_add]
      refine imm j v ?_
      have hlt : j < s.data.size := by have := (List.getElem?_eq_some_iff.1 hj).1; simpa using this
      unfold bytesRow
      rw [Array.getElem?_append_left (by simpa using hlt)]
      rw [← hj]; simp)
  rw [hlen] at this
  exact this
theorem freeze_get (w : World) (a : Addr) (n r : Nat) (hr : r ≠ a.block) : (w.freeze a n).heap[r]? = w.heap[r]? := by
  unfold World.freeze
  split
  · rfl
  · simp only [Array.getElem?_modify]
    rw [if_neg (fun e => hr e.symm)]
theorem freeze_at (w : World) (a : Addr) (n : Nat) {c : Array Value} {t : TypeId} (h : w.heap[a.block]? = some (.cells c t)) (hn : n ≠ 0) : (w.freeze a n).heap[a.block]? = some (.cells c t (a.off, a.off + n)) := by
  unfold World.freeze
  rw [if_neg hn]
  simp only [Array.getElem?_modify, if_true, h]
  rfl
theorem freeze_cell (w : World) (a : Addr) (n r j : Nat) {c : Array Value} {t : TypeId} (h : w.heap[a.block]? = some (.cells c t)) (hn : n ≠ 0) : (w.freeze a n).cell? ⟨r, j, none⟩ = w.cell? ⟨r, j, none⟩ := by
  unfold World.cell?
  by_cases hr : r = a.block
  · subst hr
    simp only [freeze_at w a n h hn, h]
  · simp only [freeze_get w a n r hr]
theorem sim_mkb {ty e : TypeId} {b len : Nat} {cs : List T} {v : Value} (hd : P.underlying ty = some (.slice e)) (he : P.underlying e = some (.int .u8)) (h : SR w0 g H w) (hv : VR g w (.msl b 0 len 1) v) (hb : H[b]? = some (.lit cs)) (hl : len = cs.length) :
    Sim P w0 g H w (convert ty ty v) (.sl .arg (cs.map fun c => [c])) (H.set b .dead) := by
  obtain ⟨r, q, hφ', h1, h2, c, t0, h3, h4, h5, h6⟩ := h.blk b _ hb
  cases hv with
  | msl hφ hc hq =>
  rename_i r1 o1 q1 cap
  rw [hφ] at hφ'; cases hφ'
  have hbl : b < H.length := (List.getElem?_eq_some_iff.1 hb).1
  have hrun : (convert ty ty (.slice (some ⟨r, 0 + 0, none⟩) len cap)).run P w = .ok (.slice (some ⟨r, 0 + 0, none⟩) len cap) (w.freeze ⟨r, q, none⟩ 1) := by
    have hsh : w.shape? r = some (t0, c.size) := by unfold World.shape?; rw [h3]
    simp [convert, run_underlying hd, run_underlying he, markStringish, Sem.run, shape, freeze, hsh, h4]
  have hcell : ∀ r' j, (w.freeze ⟨r, q, none⟩ 1).cell? ⟨r', j, none⟩ = w.cell? ⟨r', j, none⟩ := fun r' j => freeze_cell w ⟨r, q, none⟩ 1 r' j h3 (by decide)
  have hget : ∀ r', r' ≠ r → (w.freeze ⟨r, q, none⟩ 1).heap[r']? = w.heap[r']? := fun r' hr => freeze_get w ⟨r, q, none⟩ 1 r' hr
  have hsize : (w.freeze ⟨r, q, none⟩ 1).heap.size = w.heap.size := by unfold World.freeze; simp
  have le : Le g w g (w.freeze ⟨r, q, none⟩ 1) := ⟨fun _ _ h => h, fun _ _ h => h, fun _ _ _ h => h, fun r' o v _ hh => by rw [hcell]; exact hh, rfl⟩
  have tr : Tr0 w (w.freeze ⟨r, q, none⟩ 1) (fun r' j => r' = r ∧ j = q) (fun _ => False) := by
    refine ⟨by rw [hsize]; exact Nat.le_refl _, fun r' j _ _ => hcell r' j, fun r' j _ hh => by rw [hcell]; exact hh, fun r' x _ hx hh => ?_, fun r' _ _ hn => ?_, by unfold World.freeze; rfl, by unfold World.freeze; rfl⟩
    · by_cases hr : r' = r
      · subst hr; rw [h3] at hh; cases hh; cases hx
      · rw [hget r' hr]; exact hh
    · by_cases hr : r' = r
      · exact absurd ⟨hr, rfl⟩ (hn q)
      · exact hget r' hr
  refine ⟨_, _, g, hrun, le, ?_, ?_, ⟨by simp, fun b' y a _ d => ⟨set_ne a (by rintro rfl; rw [hφ] at d; cases d), d⟩⟩⟩
  · refine h.stepZ (fun b' => b' = b) tr (fun r' j j0 b' _ hb' hk => ?_) le (fun r' j hs => .inr (.inl ⟨b, by rw [hs.1, hs.2]; exact h1, rfl⟩)) (fun _ hm => hm.elim) (fun r' o hr => h.fresh r' o (by rwa [hsize] at hr)) (fun b' x hx => by rw [List.length_set]; exact h.dom b' x hx)
      (fun t e x hx => by rw [List.length_set]; exact h.domt t e x hx) (fun _ _ _ => rfl) (fun _ _ _ _ => ⟨id, id⟩) (fun _ _ _ _ => rfl) (fun b' x hx => ?_)
    · by_cases hr : r' = r
      · subst hr
        by_cases hj : j = q
        · subst hj
          rcases hk with hk | hk <;> rw [h1] at hk <;> cases hk
          exact absurd rfl hb'
        · rcases hk with hk | hk <;> rw [h2 j hj] at hk <;> cases hk
      · unfold World.frozen?; rw [hget r' hr]
    · rcases set_get hbl hx with ⟨rfl, rfl⟩ | ⟨hne, hx'⟩
      · right; trivial
      · exact .inl ⟨hne, hx'⟩
  · have hfl : (cs.map fun c => [c]).flatten = cs := by
      clear h6 h5 hl hb
      induction cs with
      | nil => rfl
      | cons c l ih => simp only [List.map_cons, List.flatten_cons, ih]; rfl
    have hlen : (cs.map fun c => [c]).length = len := by rw [List.length_map]; exact hl.symm
    have := VR.of_row (g := g) (w := w.freeze ⟨r, q, none⟩ 1) (k := .arg) (es := cs.map fun c => [c]) (r := r) (o := 0 + 0) (cap := cap) (n := 1) (vs := c.toList)
      (by intro c hc; obtain ⟨b, _, rfl⟩ := List.mem_map.1 hc; rfl) (by
        rw [hfl]
        refine ⟨by have := Array.length_toList (xs := c); omega, fun i t v a bb => ?_⟩
        obtain ⟨_, v', k1, k2⟩ := h6 i t a
        rw [Array.getElem?_toList, k1] at bb; cases bb
        exact k2.mono le)
      (by rw [hfl]; intro t ht; obtain ⟨i, hi⟩ := List.getElem?_of_mem ht; exact (h6 i t hi).1) (by rw [hlen]; exact hc) trivial (fun j v hj => by
        rw [Array.getElem?_toList] at hj
        have hlt : j < c.size := (Array.getElem?_eq_some_iff.1 hj).1
        refine ⟨h2 (0 + 0 + j) (by rw [← h4]; omega), ?_⟩
        rw [hcell]
        unfold World.cell?
        simp only [h3, Nat.zero_add]
        exact hj)
    rw [hlen] at this
    exact this
theorem did_conv {src dst : TypeId} {v : Value} {x : X} {b : Bo} (hc : cConv P src dst x = some b) (h : SR w0 g H w) (hx : VR g w (x.ev R) v) (he : evop R H b = some (t, H')) : Did P w0 g H w (do pure (Next.value (← convert src dst v))) t H' := by
  refine Sim.did ?_
  unfold cConv at hc
  cases hs : P.underlying src with
  | none => simp [hs] at hc
  | some ds =>
    cases hd : P.underlying dst with
    | none => simp [hs, hd] at hc
    | some dd =>
      rw [hs, hd] at hc
      cases ds <;> cases dd <;> simp only [reduceCtorEq] at hc
      · rename_i k0 k
        simp at hc; subst hc
        simp only [evop] at he
        generalize x.ev R = tx at hx he
        cases tx <;> simp at he
        obtain ⟨rfl, rfl⟩ := he
        exact sim_cvi hs hd h hx
      · rename_i e
        cases hu : P.underlying e with
        | none => simp [hu] at hc
        | some d =>
          have hd8 : d = .int .u8 ∧ b = .cvb false x := by
            rw [hu] at hc
            cases d with
            | int k => cases k <;> simp at hc; exact ⟨rfl, hc.symm⟩
            | _ => simp at hc
          obtain ⟨rfl, rfl⟩ := hd8
          simp only [evop] at he
          generalize x.ev R = tx at hx he
          cases hx <;> (try simp only [reduceCtorEq] at he)
          · split at he
            · cases he; exact sim_cvb hs hd hu h
            · cases he
          · rename_i b0 off0 len0 n0 r0 o0 q0 cap0 _ _ _
            cases hb : H[b0]? with
            | none => simp [hb] at he
            | some y => cases y <;> simp [hb] at he
      · rename_i e
        cases hu : P.underlying e with
        | none => simp [hu] at hc
        | some d =>
          have hd8 : d = .int .u8 ∧ b = .cvs x := by
            rw [hu] at hc
            cases d with
            | int k => cases k <;> simp at hc; exact ⟨rfl, hc.symm⟩
            | _ => simp at hc
          obtain ⟨rfl, rfl⟩ := hd8
          simp only [evop] at he
          cases hes : elemsOf H 1 (x.ev R) with
          | none => simp [hes] at he
          | some es =>
            have hns : ∀ s, x.ev R ≠ .str s := by
              intro s e; simp only [e] at he; split at he <;> cases he
            have he' : (bytesOf es).map (fun l => (T.str ⟨l.toArray⟩, H)) = some (t, H') := by
              simp only [hes] at he
              generalize x.ev R = tx at he hns
              cases tx <;> first | exact he | exact absurd rfl (hns _)
            simp only [Option.map_eq_some_iff, Prod.mk.injEq] at he'
            obtain ⟨l, h1, rfl, rfl⟩ := he'
            exact sim_cvs hs hu hd h hx hes hns h1
      · rename_i e0 e
        split at hc
        · rename_i hsd
          have hsd : src = dst := by simpa using hsd
          subst hsd
          cases hu : P.underlying e with
          | none => simp [hu] at hc
          | some d =>
            have hd8 : d = .int .u8 ∧ b = .cvb true x := by
              rw [hu] at hc
              cases d with
              | int k => cases k <;> simp at hc; exact ⟨rfl, hc.symm⟩
              | _ => simp at hc
            obtain ⟨rfl, rfl⟩ := hd8
            simp only [evop] at he
            generalize x.ev R = tx at hx he
            cases tx <;> (try simp only [reduceCtorEq] at he)
            · simp at he
            rename_i b0 off len n
            cases hb : H[b0]? with
            | none => simp [hb] at he
            | some y =>
              cases y <;> simp only [hb, reduceCtorEq] at he
              split at he
              · rename_i hh
                obtain ⟨_, rfl, rfl, hl⟩ := hh
                cases he
                exact sim_mkb hd hu h hx hb hl
              · cases he
        · cases hc
end
end Go.Rmp
end

section
namespace Go.Rmp
section
variable {P : Program} {w0 w : World} {g : Ctx} {H H' : Heap} {R : Regs} {ρ : Operand → Value} {t : T}
theorem zeroOf_ok {ty : TypeId} {z : List T} (h : zeroOf P ty = some z) : ∃ i zv, P.info? ty = some i ∧ i.zero = some zv ∧ constL zv.cells.toList = some z := by
  unfold zeroOf at h
  cases h1 : P.info? ty with
  | none => simp [h1] at h
  | some i =>
    simp only [h1] at h
    cases h2 : i.zero with
    | none => simp [h2] at h
    | some zv => simp only [h2] at h; exact ⟨i, zv, rfl, h2, h⟩
theorem did_append {tys : List TypeId} {rt : TypeId} {mu : Bool} {aq : List X} {vs : List Value} {b : Bo} (hc : cAppend P mu tys aq = some b) (h : SR w0 g H w) (hv : VRs g w (aq.map (X.ev R)) vs) (he : evop R H b = some (t, H')) :
    Sim P w0 g H w (Builtin.append_ tys.toArray rt vs.toArray) t H' := by
  unfold cAppend at hc
  split at hc
  · rename_i sT xT x y
    cases vs with
    | nil => have := hv.1; simp at this
    | cons vx vs =>
      cases vs with
      | nil => have := hv.1; simp at this
      | cons vy vs =>
        cases vs with
        | cons _ _ => have := hv.1; simp at this
        | nil =>
          have hx : VR g w (x.ev R) vx := hv.head
          have hy : VR g w (y.ev R) vy := hv.tail.head
          cases hs : P.underlying sT with
          | none => simp [hs] at hc
          | some ds =>
            cases hxT : P.underlying xT with
            | none => cases ds <;> simp [hs, hxT] at hc
            | some dx =>
              cases ds <;> simp only [hs, hxT] at hc <;> (try (cases hc; done))
              rename_i e
              cases hi : P.info? e with
              | none => simp [hi] at hc
              | some ei =>
                simp only [hi] at hc
                cases hz : ei.zero with
                | none => simp [hz] at hc
                | some zv =>
                  simp only [hz] at hc
                  split at hc
                  · rename_i hcond
                    simp only [Bool.and_eq_true, beq_iff_eq, bne_iff_ne] at hcond
                    simp at hc; subst hc
                    have E : ElemOk P sT xT e ei zv ei.size ei.bytes := ⟨hs, hi, ⟨dx, hxT, fun k e => by subst e; simp [notInt] at hcond⟩, rfl, hz, hcond.1.2, rfl, hcond.2⟩
                    simp only [evop] at he
                    cases hsrc : elemsOf H ei.size (y.ev R) with
                    | none => simp [hsrc] at he
                    | some new =>
                      simp only [hsrc] at he
                      cases mu with
                      | true =>
                        simp only [if_true] at he
                        exact sim_appm E h hx.fgt hy hsrc he
                      | false =>
                        simp only [Bool.false_eq_true, if_false] at he
                        generalize x.ev R = tx at hx he
                        cases tx <;> (try simp only [reduceCtorEq] at he)
                        split at he
                        · rename_i hall
                          exact sim_app E h hx hy hall hsrc he
                        · cases he
                  · cases hc
  · cases hc
theorem did_apz {tys : List TypeId} {rt : TypeId} {aq : List X} {vs : List Value} {b : Bo} (hc : cApz P tys aq = some b) (h : SR w0 g H w) (hv : VRs g w (aq.map (X.ev R)) vs) (he : evop R H b = some (t, H')) :
    Sim P w0 g H w (Builtin.append_ tys.toArray rt vs.toArray) t H' := by
  unfold cApz at hc
  split at hc
  · rename_i sT xT x k
    cases vs with
    | nil => have := hv.1; simp at this
    | cons vx vs =>
      cases vs with
      | nil => have := hv.1; simp at this
      | cons vk vs =>
        cases vs with
        | cons _ _ => have := hv.1; simp at this
        | nil =>
          have hx : VR g w (x.ev R) vx := hv.head
          have hk : VR g w (k.ev R) vk := hv.tail.head
          cases hs : P.underlying sT with
          | none => simp [hs] at hc
          | some ds =>
            cases hxT : P.underlying xT with
            | none => cases ds <;> simp [hs, hxT] at hc
            | some dx =>
              cases ds <;> cases dx <;> simp only [hs, hxT] at hc <;> (try (cases hc; done))
              rename_i e kn
              cases hi : P.info? e with
              | none => simp [hi] at hc
              | some ei =>
                cases hz : zeroOf P e with
                | none => simp [hi, hz] at hc
                | some z =>
                  simp only [hi, hz] at hc
                  split at hc
                  · rename_i hcond
                    simp only [bne_iff_ne, ne_eq] at hcond
                    simp only [Option.some.injEq] at hc; subst hc
                    obtain ⟨i, zv, h1, h2, h3⟩ := zeroOf_ok hz
                    rw [hi] at h1; cases h1
                    simp only [evop, Option.bind_eq_some_iff] at he
                    obtain ⟨kk, hkk, he⟩ := he
                    generalize k.ev R = tk at hk hkk
                    cases hk <;> simp only [natOf] at hkk <;> (try (cases hkk; done))
                    rename_i kq m
                    split at hkk
                    · rename_i hm
                      simp only [Option.some.injEq] at hkk
                      subst hkk
                      have := sim_apz (rt := rt) (kq := kq) hs hxT hi h2 h3 hcond h hx he
                      rw [Int.toNat_of_nonneg hm] at this
                      exact this
                    · cases hkk
                  · cases hc
  · cases hc
theorem did_ovl {f : FuncId} {n : Nat} {x y : X} {args : Array Operand} {ρ : Operand → Value} (hov : isOvl P f = some n) (h : SR w0 g H w) (hvs : VRs g w ([x, y].map (X.ev R)) (args.toList.map ρ)) (he : ovlT H n (x.ev R) (y.ev R) = some (t, H')) :
    Did P w0 g H w (callFunc f (args.map ρ)) t H' := by
  unfold isOvl at hov
  cases hf : P.funcs[f]? with
  | none => simp [hf] at hov
  | some fn =>
    simp only [hf] at hov
    cases hp : fn.params[0]? with
    | none => simp [hp] at hov
    | some tS =>
      simp only [hp] at hov
      cases ht : P.underlying tS with
      | none => simp [ht] at hov
      | some d =>
        cases d <;> simp only [ht] at hov <;> (try (cases hov; done))
        rename_i e
        cases hi : P.info? e with
        | none => simp [hi] at hov
        | some ei =>
          simp only [hi] at hov
          split at hov
          · rename_i hc
            simp only [Option.some.injEq] at hov; subst hov
            simp only [Bool.and_eq_true, noRow, Option.isNone_iff_eq_none, beq_iff_eq, bne_iff_ne, ne_eq] at hc
            obtain ⟨⟨⟨⟨c1, c2⟩, c3⟩, c4⟩, ⟨c5, c6⟩, c7⟩ := hc
            have hfind : Extern.find fn = some (Extern.SlicesOverlaps.overlaps fn.params fn.resultTypes) := by
              have r1 : Extern.allGenericRows.lookup "slices.overlaps" = none := by kernel_rfl
              have r2 : Extern.allTypedRows.lookup "slices.overlaps" = some Extern.SlicesOverlaps.overlaps := by kernel_rfl
              unfold Extern.find
              simp only [c4, c5, c6, c7, r1, r2, Option.map_none, Option.map_some]
              rfl
            cases ha : args.toList.map ρ with
            | nil => rw [ha] at hvs; have := hvs.1; simp at this
            | cons vx vs =>
              cases vs with
              | nil => rw [ha] at hvs; have := hvs.1; simp at this
              | cons vy vs =>
                cases vs with
                | cons _ _ => rw [ha] at hvs; have := hvs.1; simp at this
                | nil =>
                  rw [ha] at hvs
                  have hx : VR g w (x.ev R) vx := hvs.head
                  have hy : VR g w (y.ev R) vy := hvs.tail.head
                  have harr : args.map ρ = #[vx, vy] := by apply Array.ext'; simp [ha]
                  obtain ⟨v, w', g', h1, h2, h3, h4, h5⟩ := sim_ovl (results := fn.resultTypes) hp ht hi h hx hy he
                  refine ⟨.value v, v, w', g', ?_, .inl rfl, h2, h3, h4, h5⟩
                  rw [harr, run_callFunc_extern hf (by simpa using c1) (by simp [c2]) c3 hfind, h1]
                  rfl
          · cases hov
theorem did_builtin {bi : Builtin} {tys : List TypeId} {rt : TypeId} {cs : Array Bool} {mu : Bool} {aq : List X} {vs : List Value} {b : Bo} (hc : cBuiltin P mu bi tys aq = some b) (h : SR w0 g H w) (hv : VRs g w (aq.map (X.ev R)) vs) (he : evop R H b = some (t, H')) :
    Did P w0 g H w (builtin bi tys.toArray rt cs vs.toArray) t H' := by
  have two : ∀ (x y : X), aq = [x, y] → ∃ vx vy, vs = [vx, vy] ∧ VR g w (x.ev R) vx ∧ VR g w (y.ev R) vy := by
    rintro x y rfl
    cases vs with
    | nil => have := hv.1; simp at this
    | cons vx vs =>
      cases vs with
      | nil => have := hv.1; simp at this
      | cons vy vs =>
        cases vs with
        | cons _ _ => have := hv.1; simp at this
        | nil => exact ⟨vx, vy, rfl, hv.head, hv.tail.head⟩
  unfold cBuiltin at hc
  split at hc
  · cases hz : cApz P tys aq with
    | some b' => rw [hz] at hc; simp only [Option.some.injEq] at hc; subst hc; exact (did_apz hz h hv he).did
    | none => rw [hz] at hc; exact (did_append hc h hv he).did
  · -- cap
    rename_i ty x
    cases vs with
    | nil => have := hv.1; simp at this
    | cons vx vs =>
      cases vs with
      | cons _ _ => have := hv.1; simp at this
      | nil =>
        have hx : VR g w (x.ev R) vx := hv.head
        cases hu : P.underlying ty with
        | none => simp [hu] at hc
        | some d =>
          cases d <;> simp only [hu] at hc <;> (try (cases hc; done))
          simp only [Option.some.injEq] at hc; subst hc
          simp only [evop] at he
          generalize x.ev R = tx at hx he
          cases tx <;> simp only [reduceCtorEq, Option.some.injEq, Prod.mk.injEq] at he
          obtain ⟨rfl, rfl⟩ := he
          exact (sim_cap hu h hx).did
  · -- copy
    rename_i dT sT x y
    obtain ⟨vx, vy, rfl, hx, hy⟩ := two x y rfl
    cases hu : P.underlying dT with
    | none => simp [hu] at hc
    | some d =>
      cases d <;> simp only [hu] at hc <;> (try (cases hc; done))
      rename_i e
      cases hi : P.info? e with
      | none => simp [hi] at hc
      | some ei =>
        simp only [hi, Option.map_some, Option.some.injEq] at hc; subst hc
        simp only [evop] at he
        exact (sim_cpy hu hi h hx hy he).did
  · -- len
    rename_i ty x
    cases vs with
    | nil => have := hv.1; simp at this
    | cons vx vs =>
      cases vs with
      | cons _ _ => have := hv.1; simp at this
      | nil =>
        have hx : VR g w (x.ev R) vx := hv.head
        cases hu : P.underlying ty with
        | none => simp [hu] at hc
        | some d =>
          have hl : ∃ k, lcD k d = true ∧ b = .len k x := by
            cases d <;> simp [hu] at hc
            · exact ⟨.str, rfl, hc.symm⟩
            · exact ⟨.sl, rfl, hc.symm⟩
            · exact ⟨.map, rfl, hc.symm⟩
          obtain ⟨k, hk, rfl⟩ := hl
          simp only [evop, Option.map_eq_some_iff, Prod.mk.injEq] at he
          obtain ⟨n, h1, rfl, rfl⟩ := he
          exact (sim_len hu hk h hx h1).did
  · -- clear
    rename_i ty x
    cases vs with
    | nil => have := hv.1; simp at this
    | cons vx vs =>
      cases vs with
      | cons _ _ => have := hv.1; simp at this
      | nil =>
        have hx : VR g w (x.ev R) vx := hv.head
        cases hu : P.underlying ty with
        | none => simp [hu] at hc
        | some d =>
          cases d <;> simp only [hu] at hc <;> (try (cases hc; done))
          rename_i e
          cases hi : P.info? e with
          | none => simp [hi] at hc
          | some ei =>
            cases hz : zeroOf P e with
            | none => simp [hi, hz] at hc
            | some z =>
              simp only [hi, hz, Option.some.injEq] at hc; subst hc
              obtain ⟨i, zv, k1, k2, k3⟩ := zeroOf_ok hz
              rw [hi] at k1; cases k1
              simp only [evop] at he
              generalize x.ev R = tx at hx he
              cases tx <;> (try (simp only [reduceCtorEq] at he; done))
              rename_i bb off len n'
              simp only at he
              cases hb : H[bb]? with
              | none => simp [hb] at he
              | some y =>
                cases y <;> simp only [hb] at he <;> (try (cases he; done))
                rename_i cs'
                split at he
                · rename_i hcc
                  obtain ⟨rfl, hzl, hle⟩ := hcc
                  simp only [Option.some.injEq, Prod.mk.injEq] at he
                  obtain ⟨rfl, rfl⟩ := he
                  exact (sim_clr hu hi k2 k3 h hx hb hzl hle).did
                · cases he
  · rename_i x y
    obtain ⟨vx, vy, rfl, hx, hy⟩ := two x y rfl
    simp at hc; subst hc
    simp only [evop] at he
    generalize x.ev R = tx at hx he
    generalize y.ev R = tyy at hy he
    cases tx <;> cases tyy <;> simp only [reduceCtorEq, Option.some.injEq, Prod.mk.injEq] at he
    obtain ⟨rfl, rfl⟩ := he
    exact (sim_mn h hx hy).did
  · rename_i x y
    obtain ⟨vx, vy, rfl, hx, hy⟩ := two x y rfl
    simp at hc; subst hc
    simp only [evop] at he
    generalize x.ev R = tx at hx he
    generalize y.ev R = tyy at hy he
    cases tx <;> cases tyy <;> simp only [reduceCtorEq, Option.some.injEq, Prod.mk.injEq] at he
    obtain ⟨rfl, rfl⟩ := he
    exact (sim_mx h hx hy).did
  · -- delete
    rename_i ty xt m k
    obtain ⟨vm, vk, rfl, hm, hk⟩ := two m k rfl
    cases hu : P.underlying ty with
    | none => simp [hu] at hc
    | some d =>
      cases d <;> simp only [hu] at hc <;> (try (cases hc; done))
      rename_i key elem
      cases hkt : compKT P key with
      | none => simp [hkt] at hc
      | some kt =>
        simp only [hkt] at hc
        split at hc
        · rename_i hok
          simp at hc; subst hc
          simp only [evop] at he
          generalize m.ev R = tm at hm he
          cases tm <;> (try simp only [reduceCtorEq] at he)
          rename_i bb
          split at he
          · rename_i hhk
            cases hb : H[bb]? with
            | none => simp [hb] at he
            | some z =>
              cases z <;> simp only [hb] at he <;> (try (cases he; done))
              rename_i es
              cases hr : mfind (k.ev R) es with
              | none => simp [hr] at he
              | some r =>
                have := sim_del (rt := rt) (xt := xt) hu hok h hm hk hhk hb hr
                cases r with
                | none => simp only [hr, Option.some.injEq, Prod.mk.injEq] at he; obtain ⟨rfl, rfl⟩ := he; exact this.did
                | some i => simp only [hr, Option.some.injEq, Prod.mk.injEq] at he; obtain ⟨rfl, rfl⟩ := he; exact this.did
          · cases he
        · cases hc
  · cases hc
theorem cMap_ok {ty : TypeId} {m k : X} {e : Nat} {kt : KT} {z : T} (h : cMap P ty m k = some (e, kt, z)) : ∃ key ei zv, P.underlying ty = some (.map key e) ∧ P.info? e = some ei ∧ ei.zero = some zv ∧ constT zv = some z ∧ ktOk P key kt = true := by
  unfold cMap at h
  cases hu : P.underlying ty with
  | none => simp [hu] at h
  | some d =>
    cases d <;> simp only [hu] at h <;> (try (cases h; done))
    rename_i key e'
    cases h1 : compKT P key with
    | none => simp [h1] at h
    | some kt' =>
      cases h2 : P.info? e' with
      | none => simp [h1, h2] at h
      | some ei =>
        simp only [h1, h2] at h
        cases h3 : ei.zero with
        | none => simp [h3] at h
        | some zv =>
          simp only [h3] at h
          cases h4 : constT zv with
          | none => simp [h4] at h
          | some z' =>
            simp only [h4] at h
            split at h
            · rename_i hok
              simp at h
              obtain ⟨rfl, rfl, rfl⟩ := h
              exact ⟨key, ei, zv, rfl, h2, h3, h4, hok⟩
            · cases h
theorem did_upm {ty : TypeId} {m k v : X} {vm vk vv : Value} {e : Nat} {kt : KT} {z : T} (hc : cMap P ty m k = some (e, kt, z)) (h : SR w0 g H w) (hm : VR g w (m.ev R) vm) (hk : VR g w (k.ev R) vk) (hv : VR g w (v.ev R) vv) (he : evop R H (.upm kt m k v) = some (t, H')) :
    Did P w0 g H w (do Instr.mapUpdate ty vm vk vv; pure Next.skip) t H' := by
  obtain ⟨key, ei, zv, hu, hi, hz, hz', hok⟩ := cMap_ok hc
  simp only [evop] at he
  generalize m.ev R = tm at hm he
  cases tm <;> (try simp only [reduceCtorEq] at he)
  rename_i bb
  split at he
  · rename_i hhk
    cases hb : H[bb]? with
    | none => simp [hb] at he
    | some y =>
      cases y <;> simp only [hb] at he <;> (try (cases he; done))
      rename_i es
      cases hr : mfind (k.ev R) es with
      | none => simp [hr] at he
      | some r =>
        obtain ⟨w', g', h1, h2, h3, h4⟩ := sim_upm hu hok h hm hk hv hhk hb hr
        cases r with
        | none => simp only [hr, Option.some.injEq, Prod.mk.injEq] at he; obtain ⟨rfl, rfl⟩ := he; exact ⟨.skip, undef, w', g', by simp [h1], .inr ⟨rfl, rfl⟩, h2, h3, undef_vr, h4⟩
        | some i => simp only [hr, Option.some.injEq, Prod.mk.injEq] at he; obtain ⟨rfl, rfl⟩ := he; exact ⟨.skip, undef, w', g', by simp [h1], .inr ⟨rfl, rfl⟩, h2, h3, undef_vr, h4⟩
  · cases he
theorem did_lkp {ty : TypeId} {m k : X} {vm vk : Value} {e : Nat} {kt : KT} {z : T} {ok : Bool} (hc : cMap P ty m k = some (e, kt, z)) (h : SR w0 g H w) (hm : VR g w (m.ev R) vm) (hk : VR g w (k.ev R) vk) (he : evop R H (.lkp kt z ok m k) = some (t, H')) :
    Sim P w0 g H w (Instr.lookup ty vm vk ok) t H' := by
  obtain ⟨key, ei, zv, hu, hi, hz, hz', hok⟩ := cMap_ok hc
  simp only [evop] at he
  split at he
  · rename_i hhk
    cases hes : mapEs H (m.ev R) with
    | none => simp [hes] at he
    | some es =>
      simp only [hes] at he
      cases hr : mfind (k.ev R) es with
      | none => simp [hr] at he
      | some r =>
        cases r with
        | none =>
          simp only [hr, Option.some.injEq, Prod.mk.injEq] at he
          obtain ⟨rfl, rfl⟩ := he
          exact sim_lkp hu hi hz hz' hok h hm hk hhk hes hr rfl
        | some i =>
          simp only [hr] at he
          cases hx : es[i]? with
          | none => simp [hx] at he
          | some x =>
            simp only [hx, Option.some.injEq, Prod.mk.injEq] at he
            obtain ⟨rfl, rfl⟩ := he
            exact sim_lkp hu hi hz hz' hok h hm hk hhk hes hr (by simp [hx])
  · cases he
theorem did_build {ty : TypeId} {ps : List (Nat × X)} {pv : List (Nat × Value)} {b : Bo} (hc : cBuild P ty ps = some b) (h : SR w0 g H w) (hv : PV g w R ps pv) (he : evop R H b = some (t, H')) : Sim P w0 g H w (Instr.build ty pv.toArray) t H' := by
  unfold cBuild at hc
  cases hu : P.underlying ty with
  | none => simp [hu] at hc
  | some d =>
    cases hz : zeroOf P ty with
    | none => cases d <;> simp [hu, hz] at hc
    | some z =>
      cases d <;> simp only [hu, hz] at hc <;> (try (cases hc; done))
      rename_i fs
      split at hc
      · rename_i hcond
        simp only [Bool.and_eq_true] at hcond
        simp only [Option.some.injEq] at hc; subst hc
        obtain ⟨i, zv, h1, h2, h3⟩ := zeroOf_ok hz
        simp only [evop] at he
        split at he
        · rename_i l hl
          simp only [Option.map_eq_some_iff, Prod.mk.injEq] at he
          obtain ⟨cs, h4, rfl, rfl⟩ := he
          refine sim_build hu h1 h2 h3 (fun f hf => ?_) (fun p hp => ?_) h hv hl h4
          · have := hcond.1
            simp only [fieldsOk, List.all_eq_true] at this
            exact Option.isSome_iff_exists.1 (this f hf)
          · have := hcond.2
            simp only [List.all_eq_true, decide_eq_true_eq] at this
            exact this p hp
        · cases he
      · cases hc
theorem did_bsl {ty : TypeId} {n : Nat} {ps : List (Nat × X)} {pv : List (Nat × Value)} {b : Bo} {mu : Bool} (hc : cBsl P mu ty n ps = some b) (h : SR w0 g H w) (hv : PV g w R ps pv) (he : evop R H b = some (t, H')) : Sim P w0 g H w (Instr.buildSlice ty n pv.toArray) t H' := by
  unfold cBsl at hc
  cases hu : P.underlying ty with
  | none => simp [hu] at hc
  | some d =>
    cases d <;> simp only [hu] at hc <;> (try (cases hc; done))
    rename_i e
    cases hi : P.info? e with
    | none => simp [hi] at hc
    | some ei =>
      cases hz : zeroOf P e with
      | none => simp [hi, hz] at hc
      | some z =>
        simp only [hi, hz] at hc
        split at hc
        · rename_i hcond
          simp only [Bool.and_eq_true, beq_iff_eq, decide_eq_true_eq] at hcond
          simp at hc; subst hc
          obtain ⟨i, zv, h1, h2, h3⟩ := zeroOf_ok hz
          rw [hi] at h1; cases h1
          cases mu with
          | false =>
            simp only [Bool.false_eq_true, if_false, evop, Option.map_eq_some_iff, Prod.mk.injEq] at he
            obtain ⟨fs, h4, rfl, rfl⟩ := he
            exact sim_bsl hu hi h2 h3 hcond.1 hcond.2 h hv h4
          | true =>
            simp only [if_true, evop, Option.bind_eq_some_iff] at he
            obtain ⟨fs, h4, he⟩ := he
            split at he
            · simp only [Option.some.injEq, Prod.mk.injEq] at he
              obtain ⟨rfl, rfl⟩ := he
              exact sim_bsm hu hi h2 h3 hcond.1 hcond.2 h hv h4
            · cases he
        · cases hc
theorem did_mks {ty : TypeId} {mu : Bool} {l c : X} {vl vc : Value} {b : Bo} (hc : cMks P mu ty l c = some b) (h : SR w0 g H w) (hl : VR g w (l.ev R) vl) (hcv : VR g w (c.ev R) vc) (he : evop R H b = some (t, H')) : Sim P w0 g H w (Instr.makeSlice ty vl vc) t H' := by
  unfold cMks at hc
  cases hu : P.underlying ty with
  | none => simp [hu] at hc
  | some d =>
    cases d <;> simp only [hu] at hc <;> (try (cases hc; done))
    rename_i e
    cases hi : P.info? e with
    | none => simp [hi] at hc
    | some ei =>
      cases hz : zeroOf P e with
      | none => simp [hi, hz] at hc
      | some z =>
        simp only [hi, hz] at hc
        split at hc
        · rename_i hcond
          simp only [Bool.and_eq_true, beq_iff_eq, bne_iff_ne] at hcond
          simp at hc; subst hc
          obtain ⟨i, zv, h1, h2, h3⟩ := zeroOf_ok hz
          rw [hi] at h1; cases h1
          simp only [evop] at he
          cases hnl : natOf (l.ev R) with
          | none => simp [hnl] at he
          | some nl =>
            cases hnc : natOf (c.ev R) with
            | none => simp [hnl, hnc] at he
            | some nc =>
              simp only [hnl, hnc] at he
              split at he
              · rename_i hcnd
                refine sim_mks (mu := mu) hu hi h2 h3 hcond.1 hcond.2 h hl hcv hnl hnc hcnd.1 hcnd.2.1 hcnd.2.2 ?_
                cases mu with
                | true => simpa using he
                | false =>
                  simp only [Bool.false_eq_true, if_false] at he ⊢
                  split at he
                  · rename_i e0; rw [if_pos e0]; simpa using he
                  · rename_i e0; rw [if_neg e0]; simpa using he
              · cases he
        · cases hc
theorem RV.get {xs : List Operand} (h : RV g w R ρ xs) {x : Operand} {y : X} (hx : x ∈ xs) (hc : compX x = some y) : VR g w (y.ev R) (ρ x) := h x hx y hc
theorem sim_op {mu : Bool} {o : Oper} {b : Bo} (hρ : ∀ f : FuncId, ρ (.func f) = .func (.func f) #[] #[]) (hc : compOp P mu o.op = some b) (h : SR w0 g H w) (hv : RV g w R ρ o.op.operands.toList) (he : evop R H b = some (t, H')) : Did P w0 g H w (execOp ρ o) t H' := by
  obtain ⟨dst, op, ty, pos, after, guard⟩ := o
  cases op <;> simp only [compOp] at hc <;> (try (cases hc; done)) <;> simp only [Op.operands] at hv
  case move x =>
    simp only [Option.map_eq_some_iff] at hc
    obtain ⟨y, h1, rfl⟩ := hc
    simp only [evop, Option.some.injEq, Prod.mk.injEq] at he
    obtain ⟨rfl, rfl⟩ := he
    exact ⟨_, _, w, g, rfl, .inl rfl, .refl _ _, h, hv.get (by simp) h1, .refl _ _⟩
  case assign x =>
    simp only [Option.map_eq_some_iff] at hc
    obtain ⟨y, h1, rfl⟩ := hc
    simp only [evop, Option.some.injEq, Prod.mk.injEq] at he
    obtain ⟨rfl, rfl⟩ := he
    exact ⟨_, _, w, g, rfl, .inl rfl, .refl _ _, h, hv.get (by simp) h1, .refl _ _⟩
  case pick c x y =>
    cases h1 : compX c with
    | none => simp [h1] at hc
    | some c' =>
      cases h2 : compX x with
      | none => simp [h1, h2] at hc
      | some x' =>
        cases h3 : compX y with
        | none => simp [h1, h2, h3] at hc
        | some y' =>
          simp only [h1, h2, h3, Option.some.injEq] at hc
          subst hc
          have vc := hv.get (by simp) h1
          have vx := hv.get (by simp) h2
          have vy := hv.get (by simp) h3
          simp only [evop] at he
          generalize c'.ev R = tc at vc he
          cases tc <;> (try simp only [reduceCtorEq] at he)
          simp only [Option.some.injEq, Prod.mk.injEq] at he
          obtain ⟨rfl, rfl⟩ := he
          obtain ⟨v, w', g', k1, k2⟩ := sim_pick (P := P) h vc vx vy
          refine ⟨.value v, v, w', g', ?_, .inl rfl, k2⟩
          simp only [execOp, Sem.run_bind, Sem.run_pure] at k1 ⊢
          generalize (asBool (ρ c)).run P w = r at k1 ⊢
          cases r <;> simp_all
  case alloc ty' =>
    simp only [Option.map_eq_some_iff] at hc
    obtain ⟨z, h1, rfl⟩ := hc
    obtain ⟨i, zv, h2, h3, h4⟩ := zeroOf_ok h1
    simp only [evop, Option.some.injEq, Prod.mk.injEq] at he
    obtain ⟨rfl, rfl⟩ := he
    exact (sim_alloc h2 h3 h4 h).did
  case box ty' x =>
    simp only [Option.map_eq_some_iff] at hc
    obtain ⟨y, h1, rfl⟩ := hc
    simp only [evop, Option.map_eq_some_iff, Prod.mk.injEq] at he
    obtain ⟨cs, h2, rfl, rfl⟩ := he
    exact (sim_box h (hv.get (by simp) h1) h2).did
  case build ty' ps =>
    simp only [Option.bind_eq_some_iff] at hc
    obtain ⟨qs, h1, h2⟩ := hc
    have hp := compPs_ok (ρ := ρ) _ _ h1 (by simpa using hv)
    have := (did_build h2 h hp he).did
    have e : (ps.map fun x => (x.1, ρ x.2)) = (ps.toList.map fun p => (p.1, ρ p.2)).toArray := by apply Array.ext'; simp
    simp only [execOp]
    rw [e]; exact this
  case buildSlice ty' n ps =>
    simp only [Option.bind_eq_some_iff] at hc
    obtain ⟨qs, h1, h2⟩ := hc
    have hp := compPs_ok (ρ := ρ) _ _ h1 (by simpa using hv)
    have := (did_bsl h2 h hp he).did
    have e : (ps.map fun x => (x.1, ρ x.2)) = (ps.toList.map fun p => (p.1, ρ p.2)).toArray := by apply Array.ext'; simp
    simp only [execOp]
    rw [e]; exact this
  case insert ty' m k v =>
    cases h1 : compX m with
    | none => simp [h1] at hc
    | some m' =>
      cases h2 : compX k with
      | none => simp [h1, h2] at hc
      | some k' =>
        cases h3 : compX v with
        | none => simp [h1, h2, h3] at hc
        | some v' =>
          simp only [h1, h2, h3, Option.map_eq_some_iff] at hc
          obtain ⟨⟨e, kt, z⟩, h4, rfl⟩ := hc
          exact did_upm h4 h (hv.get (by simp) h1) (hv.get (by simp) h2) (hv.get (by simp) h3) he
  case mapUpdate ty' m k v =>
    cases h1 : compX m with
    | none => simp [h1] at hc
    | some m' =>
      cases h2 : compX k with
      | none => simp [h1, h2] at hc
      | some k' =>
        cases h3 : compX v with
        | none => simp [h1, h2, h3] at hc
        | some v' =>
          simp only [h1, h2, h3, Option.map_eq_some_iff] at hc
          obtain ⟨⟨e, kt, z⟩, h4, rfl⟩ := hc
          exact did_upm h4 h (hv.get (by simp) h1) (hv.get (by simp) h2) (hv.get (by simp) h3) he
  case load ty' x =>
    simp only [Option.bind_eq_some_iff] at hc
    obtain ⟨y, h1, h2⟩ := hc
    exact did_load h2 h (hv.get (by simp) h1) he
  case store ty' a v =>
    cases h1 : P.info? ty' with
    | none => simp [h1] at hc
    | some i =>
      cases h2 : compX a with
      | none => simp [h1, h2] at hc
      | some a' =>
        cases h3 : compX v with
        | none => simp [h1, h2, h3] at hc
        | some v' =>
          simp only [h1, h2, h3, Option.some.injEq] at hc
          subst hc
          simp only [evop] at he
          cases h4 : (v'.ev R).cells? with
          | none => simp [h4] at he
          | some vs =>
            simp only [h4] at he
            split at he
            · rename_i hn
              simp only [Option.map_eq_some_iff, Prod.mk.injEq] at he
              obtain ⟨H1, h5, rfl, rfl⟩ := he
              obtain ⟨w', g', k1, k2, k3, k4⟩ := sim_st (P := P) h1 h (hv.get (by simp) h2) (hv.get (by simp) h3) h4 hn h5
              exact ⟨.skip, undef, w', g', by simp [execOp, k1], .inr ⟨rfl, rfl⟩, k2, k3, undef_vr, k4⟩
            · cases he
  case nilCheck x =>
    simp only [Option.map_eq_some_iff] at hc
    obtain ⟨y, h1, rfl⟩ := hc
    have vx := hv.get (by simp) h1
    simp only [evop] at he
    have key : t = y.ev R ∧ H' = H ∧ ∃ v, (execOp ρ ⟨dst, .nilCheck x, ty, pos, after, guard⟩).run P w = .ok (.value v) w ∧ v = ρ x := by
      simp only [execOp]
      generalize y.ev R = tx at vx he
      generalize ρ x = vv at vx
      cases vx <;> simp only [reduceCtorEq, Option.some.injEq, Prod.mk.injEq] at he <;> obtain ⟨rfl, rfl⟩ := he <;> exact ⟨rfl, rfl, _, rfl, rfl⟩
    obtain ⟨rfl, rfl, v, k1, rfl⟩ := key
    exact ⟨_, _, w, g, k1, .inl rfl, .refl _ _, h, vx, .refl _ _⟩
  case binOp op ty' x y yt =>
    cases h1 : compX x with
    | none => simp [h1] at hc
    | some x' =>
      cases h2 : compX y with
      | none => simp [h1, h2] at hc
      | some y' =>
        simp only [h1, h2] at hc
        exact did_bin hc h (hv.get (by simp) h1) (hv.get (by simp) h2) he
  case unOp op ty' x =>
    simp only [Option.map_eq_some_iff] at hc
    obtain ⟨y, h1, rfl⟩ := hc
    simp only [evop, Option.map_eq_some_iff, Prod.mk.injEq] at he
    obtain ⟨t', h2, rfl, rfl⟩ := he
    exact (sim_un h (hv.get (by simp) h1) h2).did
  case convert s d x =>
    simp only [Option.bind_eq_some_iff] at hc
    obtain ⟨y, h1, h2⟩ := hc
    exact did_conv h2 h (hv.get (by simp) h1) he
  case makeFunc fn first caps =>
    cases fn <;> simp only [compOp] at hc <;> (try (cases hc; done))
    rename_i f
    split at hc
    · rename_i h0
      simp only [Option.map_eq_some_iff] at hc
      obtain ⟨ys, h1, rfl⟩ := hc
      have : first = #[] := Array.eq_empty_of_size_eq_zero h0
      subst this
      simp only [evop, Option.some.injEq, Prod.mk.injEq] at he
      obtain ⟨rfl, rfl⟩ := he
      have hvs := compXs_ok (ρ := ρ) _ _ h1 (fun x hx => hv x (by simpa using hx))
      have := (sim_mkf (P := P) (f := f) h hvs).did
      have e : caps.map ρ = (caps.toList.map ρ).toArray := by apply Array.ext'; simp
      have e0 : (#[] : Array Operand).map ρ = #[] := by simp
      simp only [execOp]
      rw [e, e0]; exact this
    · cases hc
  case range ty' m =>
    cases hu : P.underlying ty' with
    | none => simp [hu] at hc
    | some d =>
      cases d <;> simp only [hu] at hc <;> (try (cases hc; done))
      simp only [Option.map_eq_some_iff] at hc
      obtain ⟨y, h1, rfl⟩ := hc
      have vm := hv.get (by simp) h1
      simp only [evop] at he
      generalize y.ev R = tm at vm he
      cases tm <;> (try (simp only [reduceCtorEq] at he; done))
      rename_i bb
      simp only [Option.map_eq_some_iff, Prod.mk.injEq] at he
      obtain ⟨es, h2, rfl, rfl⟩ := he
      exact (sim_rng hu h vm h2).did
  case next it str =>
    cases str <;> simp only [compOp] at hc <;> (try (cases hc; done))
    simp only [Option.map_eq_some_iff] at hc
    obtain ⟨y, h1, rfl⟩ := hc
    simp [evop] at he
  case entry it =>
    simp only [Option.map_eq_some_iff] at hc
    obtain ⟨y, h1, rfl⟩ := hc
    have vm := hv.get (by simp) h1
    simp only [evop] at he
    generalize y.ev R = tm at vm he
    cases tm <;> (try (simp only [reduceCtorEq] at he; done))
    rename_i bi off
    cases off with
    | succ _ => simp at he
    | zero =>
      simp only at he
      cases hi : H[bi]? with
      | none => simp [hi] at he
      | some yi =>
        cases yi <;> simp only [hi] at he <;> (try (cases he; done))
        rename_i bb
        cases hb : H[bb]? with
        | none => simp [hb] at he
        | some yb =>
          cases yb <;> simp only [hb] at he <;> (try (cases he; done))
          rename_i es ix bi' cur
          cases cur with
          | none => simp at he
          | some c =>
            simp only at he
            split at he
            · rename_i e; subst e
              simp only [Option.map_eq_some_iff, Prod.mk.injEq] at he
              obtain ⟨e, h2, rfl, rfl⟩ := he
              exact (sim_ent h vm hb h2).did
            · cases he
  case makeMap ty' r =>
    cases r with
    | some _ => simp [compOp] at hc
    | none =>
      simp only [compOp, Option.some.injEq] at hc
      subst hc
      simp only [evop, Option.some.injEq, Prod.mk.injEq] at he
      obtain ⟨rfl, rfl⟩ := he
      exact (sim_mkm h).did
  case makeSlice ty' l c =>
    cases h1 : compX l with
    | none => simp [h1] at hc
    | some l' =>
      cases h2 : compX c with
      | none => simp [h1, h2] at hc
      | some c' =>
        simp only [h1, h2] at hc
        exact (did_mks hc h (hv.get (by simp) h1) (hv.get (by simp) h2) he).did
  case slice ty' x lo hi mx =>
    cases h1 : compX x with
    | none => simp [h1] at hc
    | some x' =>
      cases h2 : compXo lo with
      | none => simp [h1, h2] at hc
      | some lo' =>
        cases h3 : compXo hi with
        | none => simp [h1, h2, h3] at hc
        | some hi' =>
          cases h4 : compXo mx with
          | none => simp [h1, h2, h3, h4] at hc
          | some mx' =>
            simp only [h1, h2, h3, h4] at hc
            split at hc
            · exact did_slr hc h (hv.get (by simp) h1) (compXo_ok h2 (fun z hz => hv z (by simp; simp at hz; simp [hz]))) (compXo_ok h3 (fun z hz => hv z (by simp; simp at hz; simp [hz]))) (compXo_ok h4 (fun z hz => hv z (by simp; simp at hz; simp [hz]))) he
            · exact did_slice hc h (hv.get (by simp) h1) (compXo_ok h2 (fun z hz => hv z (by simp; simp at hz; simp [hz]))) (compXo_ok h3 (fun z hz => hv z (by simp; simp at hz; simp [hz]))) (compXo_ok h4 (fun z hz => hv z (by simp; simp at hz; simp [hz]))) he
  case fieldAddr ty' x f =>
    simp only [Option.bind_eq_some_iff] at hc
    obtain ⟨y, h1, h2⟩ := hc
    exact (did_field h2 h (hv.get (by simp) h1) he).did
  case field ty' x f =>
    simp only [Option.bind_eq_some_iff] at hc
    obtain ⟨y, h1, h2⟩ := hc
    exact (did_field h2 h (hv.get (by simp) h1) he).did
  case indexAddr ty' x i =>
    cases h1 : compX x with
    | none => simp [h1] at hc
    | some x' =>
      cases h2 : compX i with
      | none => simp [h1, h2] at hc
      | some i' =>
        simp only [h1, h2] at hc
        exact (did_idx hc h (hv.get (by simp) h1) (hv.get (by simp) h2) he).did
  case index ty' x i =>
    cases h1 : compX x with
    | none => simp [h1] at hc
    | some x' =>
      cases h2 : compX i with
      | none => simp [h1, h2] at hc
      | some i' =>
        simp only [h1, h2] at hc
        exact (did_idx hc h (hv.get (by simp) h1) (hv.get (by simp) h2) he).did
  case lookup ty' m k ok =>
    cases h1 : compX m with
    | none => simp [h1] at hc
    | some m' =>
      cases h2 : compX k with
      | none => simp [h1, h2] at hc
      | some k' =>
        simp only [h1, h2, Option.map_eq_some_iff] at hc
        obtain ⟨⟨e, kt, z⟩, h4, rfl⟩ := hc
        exact (did_lkp h4 h (hv.get (by simp) h1) (hv.get (by simp) h2) he).did
  case extract x i =>
    simp only [Option.map_eq_some_iff] at hc
    obtain ⟨y, h1, rfl⟩ := hc
    have vx := hv.get (by simp) h1
    simp only [evop] at he
    generalize y.ev R = tx at vx he
    cases tx <;> (try simp only [reduceCtorEq] at he)
    simp only [Option.map_eq_some_iff, Prod.mk.injEq] at he
    obtain ⟨t', h2, rfl, rfl⟩ := he
    exact (sim_ext h vx h2).did
  case call c =>
    obtain ⟨callee, args, tys⟩ := c
    cases callee
    case value cv =>
      cases cv <;> simp only [compOp] at hc <;> (try (cases hc; done))
      rename_i f
      split at hc
      · rename_i n x y hov h1
        simp only [Option.some.injEq] at hc; subst hc
        have hvs := compXs_ok (ρ := ρ) _ _ h1 (fun x hx => hv x (by simp [Call.operands]; exact .inr (by simpa using hx)))
        simp only [evop] at he
        have hd := did_ovl hov h hvs he
        simpa [execOp, resolve, hρ, Deferred.ofValue, invoke] using hd
      · cases hc
    all_goals simp only [compOp] at hc <;> (try (cases hc; done))
    rename_i bi
    simp only [Option.bind_eq_some_iff] at hc
    obtain ⟨aq, h1, h2⟩ := hc
    have hvs := compXs_ok (ρ := ρ) _ _ h1 (fun x hx => hv x (by simpa [Call.operands] using hx))
    have e : args.map ρ = (args.toList.map ρ).toArray := by apply Array.ext'; simp
    have e2 : tys = tys.toList.toArray := by simp
    have := did_builtin (rt := ty) (cs := args.map fun | .const _ => true | _ => false) h2 h hvs he
    simp only [execOp, resolve, pure_bind, invoke]
    rw [e, e2]
    exact this
end
end Go.Rmp
end

section
namespace Go.Rmp
section
variable {P : Program} {w0 w : World} {g : Ctx} {H : Heap}
theorem SR.setblk {b r o q : Nat} {x x' : Obj} {y y' : B} (h : SR w0 g H w) (hb : H[b]? = some y) (hφ : g.φ b = some (r, o, q)) (h1 : g.κ r 0 = .mut b) (hr : w.heap[r]? = some x) (hs : solid x = true) (hs' : solid x' = true)
    (hok : ∀ w', Le g w g w' → w'.heap[r]? = some x' → BlkOk g w' b y') :
    Le g w g (w.putObj r x') ∧ SR w0 g (H.set b y') (w.putObj r x') ∧ Fr g H g (H.set b y') := by
  have hbl : b < H.length := (List.getElem?_eq_some_iff.1 hb).1
  have tr : Tr w (w.putObj r x') none2 (fun r' => r' = r) := Tr.setobj w r hs hs' hr
  have le : Le g w g (w.putObj r x') := Le.of_tr tr (fun _ _ h => h) (fun _ _ h => h) (fun _ _ _ h => h) (fun _ _ hs => hs.elim)
  refine ⟨le, h.step (fun b' => b' = b) tr le (fun _ _ hs => hs.elim) (fun r' hm => ⟨b, by rw [hm]; exact h1, rfl⟩) (fun r' j hr' => h.fresh r' j (by simpa [World.putObj] using hr')) (fun b' x hx => by rw [List.length_set]; exact h.dom b' x hx)
    (fun t e x hx => by rw [List.length_set]; exact h.domt t e x hx) (fun _ _ _ => rfl) (fun _ _ _ _ => ⟨id, id⟩) (fun _ _ _ _ => rfl) (fun b' x hx => ?_), by simp, fun b' x a _ d => ⟨set_ne a (by rintro rfl; rw [hφ] at d; cases d), d⟩⟩
  rcases set_get hbl hx with ⟨rfl, rfl⟩ | ⟨hne, hx'⟩
  · exact .inr (hok _ le (World.putObj_heap_same (Array.getElem?_eq_some_iff.1 hr).1))
  · exact .inl ⟨hne, hx'⟩
theorem SR.newblk {x : Obj} {y : B} (h : SR w0 g H w) (hsx : solid x = true)
    (hok : ∀ g' w', Le g w g' w' → g'.κ w.heap.size 0 = .mut H.length → g'.φ H.length = some (w.heap.size, 0, 0) → w'.heap[w.heap.size]? = some x → BlkOk g' w' H.length y) :
    ∃ g', Le g w g' (w.alloc x) ∧ SR w0 g' (H ++ [y]) (w.alloc x) ∧ Fr g H g' (H ++ [y]) ∧ g'.φ H.length = some (w.heap.size, 0, 0) := by
  have tr' := Tr.alloc w x
  have hne : ∀ r j ow, g.κ r j = ow → ow ≠ .free → r ≠ w.heap.size := by rintro r j ow e hn rfl; exact hn (e ▸ h.fresh _ j (Nat.le_refl _))
  have hnφ := h.noφ (b := H.length) (Nat.le_refl _)
  have le : Le g w ((g.row w.heap.size fun _ => .mut H.length).at H.length (w.heap.size, 0, 0)) (w.alloc x) := Le.of_tr tr'
    (fun b' x hx => by simp only [Ctx.at, Ctx.row]; split; rename_i e; subst e; rw [hnφ] at hx; simp at hx; exact hx)
    (fun r o hk => by simp only [Ctx.row, Ctx.at]; rw [if_neg (hne r o _ hk (by simp))]; exact hk) (fun _ _ _ h => h) (fun _ _ hs => hs.elim)
  refine ⟨_, le, ?_, ⟨by simp, fun b x a _ d => ⟨get_old a, ?_⟩⟩, by simp [Ctx.at]⟩
  · refine h.step (fun b' => b' = H.length) tr' le (fun _ _ hs => hs.elim) (fun _ hm => hm.elim) (fun r o hr => ?_) (fun b' x hx => ?_) (fun t e x hx => by have := h.domt t e x hx; simp; omega) (fun b' _ hb' => ?_) (fun r j b' hb' => ?_) (fun _ _ _ _ => rfl) (fun b' x hx => ?_)
    · simp at hr
      simp only [Ctx.row, Ctx.at]; rw [if_neg (by omega)]; exact h.fresh r o (by omega)
    · simp only [Ctx.at, Ctx.row] at hx
      split at hx
      · rename_i e; subst e; simp
      · have := h.dom b' x hx; simp; omega
    · simp only [Ctx.at, Ctx.row]; rw [if_neg hb']
    · constructor <;> intro e <;> simp only [Ctx.row, Ctx.at] <;> rw [if_neg (hne r j _ e (by simp))] <;> exact e
    · by_cases e : b' = H.length
      · subst e
        rw [get_tail] at hx; cases hx
        exact .inr (hok _ _ le (by simp [Ctx.row, Ctx.at]) (by simp [Ctx.at]) (World.alloc_heap_new w _))
      · exact .inl ⟨e, get_tail_ne e hx⟩
  · have := (List.getElem?_eq_some_iff.1 a).1
    simp only [Ctx.at, Ctx.row]; rw [if_neg (by omega)]; exact d
theorem SR.freeze {b : Nat} {cs : List T} (h : SR w0 g H w) (hb : H[b]? = some (.cells cs)) (hφ : ∃ x, g.φ b = some x) :
    ∃ g', Le g w g' w ∧ SR w0 g' (H.set b .dead) w ∧ Fr g H g' (H.set b .dead) ∧ ∀ t v, VR g w t v → VR g' w (frzV b cs t) v := by
  let g' : Ctx := { g with κ := fun r o => if g.κ r o = .mut b then .imm else g.κ r o }
  have le : Le g w g' w := ⟨fun _ _ h => h, fun r o e => by simp only [g']; rw [e]; simp, fun _ _ _ h => h, fun _ _ _ _ h => h, rfl⟩
  have hbl : b < H.length := (List.getElem?_eq_some_iff.1 hb).1
  have tr : Tr w w (fun _ _ => False) (fun _ => False) := ⟨⟨Nat.le_refl _, fun _ _ _ _ => rfl, fun _ _ _ h => h, fun _ _ _ _ h => h, fun _ _ _ _ => rfl, rfl, rfl⟩, fun _ _ _ => rfl⟩
  have sr : SR w0 g' (H.set b .dead) w := by
    refine h.step (fun b' => b' = b) tr le (fun _ _ h => h.elim) (fun _ h => h.elim) (fun r o hr => ?_) (fun b' x hx => ?_) (fun t e x hx => ?_) (fun _ _ _ => rfl) (fun r j b' hne => ⟨fun e => ?_, fun e => ?_⟩) (fun _ _ _ _ => rfl) (fun b' x hx => ?_)
    · simp only [g']; rw [h.fresh r o hr]; simp
    · rw [List.length_set]; exact h.dom b' x hx
    · rw [List.length_set]; exact h.domt t e x hx
    · simp only [g']; rw [e, if_neg (by simpa using hne)]
    · simp only [g']; rw [e, if_neg (by simp)]
    · rcases set_get hbl hx with ⟨rfl, rfl⟩ | ⟨hne, hx'⟩
      · exact .inr trivial
      · exact .inl ⟨hne, hx'⟩
  have one : ∀ t v, VR g w t v → VR g' w (frz1 b cs t) v := by
    intro t v hv
    cases t with
    | msl b' off len n =>
      simp only [frz1]
      split
      · rename_i hc
        obtain ⟨rfl, hle⟩ := hc
        cases hv with
        | @msl _ _ _ _ r o q cap hp hc hq =>
          obtain ⟨c1, c2, c3⟩ := h.blk _ _ hb r o q hp
          have hlen : (frzE cs off len n).length = len := by simp [frzE]
          have hget : ∀ (i j : Nat) (c : List T) (t : T), (frzE cs off len n)[i]? = some c → c[j]? = some t → j < n ∧ i < len ∧ cs[off + i * n + j]? = some t := by
            intro i j c t hi hj
            have hil : i < len := by have := (List.getElem?_eq_some_iff.1 hi).1; rw [hlen] at this; exact this
            simp only [frzE, List.getElem?_map, List.getElem?_range hil, Option.map_some, Option.some.injEq] at hi
            subst hi
            rw [List.getElem?_take] at hj
            split at hj
            · rename_i hjn
              rw [List.getElem?_drop] at hj
              exact ⟨hjn, hil, hj⟩
            · cases hj
          have key : ∀ (i j : Nat) (c : List T) (t : T), (frzE cs off len n)[i]? = some c → c[j]? = some t → t.one = true ∧ ∃ v, w.cell? ⟨r, o + off + i * n + j, none⟩ = some v ∧ VR g w t v ∧ g.κ r (o + off + i * n + j) = .mut b' := by
            intro i j c t hi hj
            obtain ⟨h1, h2, h3⟩ := hget i j c t hi hj
            obtain ⟨k1, v, k2, k3⟩ := c3 _ _ h3
            have hin : off + i * n + j < cs.length := (List.getElem?_eq_some_iff.1 h3).1
            refine ⟨k1, v, ?_, k3, ?_⟩
            · rw [show o + off + i * n + j = o + (off + i * n + j) by omega]; exact k2
            · exact (c2 (o + off + i * n + j) (by omega) (by omega)).1
          have := VR.sl (g := g') (w := w) (k := .arg) (es := frzE cs off len n) (r := r) (o := o + off) (cap := cap) (n := n) (fun i j => (w.cell? ⟨r, o + off + i * n + j, none⟩).getD undef) trivial (by rw [hlen]; exact hc)
            (fun c hc' => by
              obtain ⟨i, hi, rfl⟩ := List.mem_map.1 hc'
              have hi := List.mem_range.1 hi
              have : i * n + n ≤ len * n := by rw [← Nat.succ_mul]; exact Nat.mul_le_mul_right n hi
              rw [List.length_take, List.length_drop]; omega)
            (fun i j c t hi hj => by
              obtain ⟨k1, v, k2, _, k4⟩ := key i j c t hi hj
              refine ⟨k1, ?_, by rw [k2]; rfl⟩
              simp only [g']; rw [if_pos k4])
            (fun i j c t hi hj => by
              obtain ⟨_, v, k2, k3, _⟩ := key i j c t hi hj
              rw [k2]; exact k3.mono le)
          rw [hlen] at this
          exact this
      · exact hv.mono le
    | _ => exact hv.mono le
  refine ⟨g', le, sr, ⟨by simp, fun b' y a _ d => ⟨set_ne a (by rintro rfl; obtain ⟨x, hx⟩ := hφ; rw [hx] at d; cases d), d⟩⟩, fun t v hv => ?_⟩
  cases t with
  | tup vs =>
    cases hv with
    | tup hl h2 =>
      refine .tup (by simpa using hl) fun i t v hi hv' => ?_
      rw [List.getElem?_map, Option.map_eq_some_iff] at hi
      obtain ⟨t', ht', rfl⟩ := hi
      exact one _ _ (h2 i t' v ht' hv')
  | _ => exact one _ _ hv
end
section
variable {w0 w : World} {g : Ctx} {H : Heap}
theorem SR.freezeK {b : Nat} {cs : List T} (h : SR w0 g H w) (hb : H[b]? = some (.cells cs)) (hφ : ∃ x, g.φ b = some x) :
    ∃ g', Le g w g' w ∧ SR w0 g' (H.set b (.fz cs)) w ∧ Fr g H g' (H.set b (.fz cs)) := by
  let g' : Ctx := { g with κ := fun r o => if g.κ r o = .mut b then .imm else g.κ r o }
  have le : Le g w g' w := ⟨fun _ _ h => h, fun r o e => by simp only [g']; rw [e]; simp, fun _ _ _ h => h, fun _ _ _ _ h => h, rfl⟩
  have hbl : b < H.length := (List.getElem?_eq_some_iff.1 hb).1
  have tr : Tr w w (fun _ _ => False) (fun _ => False) := ⟨⟨Nat.le_refl _, fun _ _ _ _ => rfl, fun _ _ _ h => h, fun _ _ _ _ h => h, fun _ _ _ _ => rfl, rfl, rfl⟩, fun _ _ _ => rfl⟩
  have sr : SR w0 g' (H.set b (.fz cs)) w := by
    refine h.step (fun b' => b' = b) tr le (fun _ _ h => h.elim) (fun _ h => h.elim) (fun r o hr => ?_) (fun b' x hx => ?_) (fun t e x hx => ?_) (fun _ _ _ => rfl) (fun r j b' hne => ⟨fun e => ?_, fun e => ?_⟩) (fun _ _ _ _ => rfl) (fun b' x hx => ?_)
    · simp only [g']; rw [h.fresh r o hr]; simp
    · rw [List.length_set]; exact h.dom b' x hx
    · rw [List.length_set]; exact h.domt t e x hx
    · simp only [g']; rw [e, if_neg (by simpa using hne)]
    · simp only [g']; rw [e, if_neg (by simp)]
    · rcases set_get hbl hx with ⟨rfl, rfl⟩ | ⟨hne, hx'⟩
      · refine .inr fun r o q hq => ?_
        obtain ⟨c1, c2, c3⟩ := h.blk _ _ hb r o q hq
        refine ⟨c1, fun i t hi => ?_⟩
        have hil : i < cs.length := (List.getElem?_eq_some_iff.1 hi).1
        obtain ⟨k1, v, k2, k3⟩ := c3 i t hi
        refine ⟨k1, v, ⟨?_, k2⟩, k3.mono le⟩
        simp only [g']; rw [if_pos (c2 (o + i) (by omega) (by omega)).1]
      · exact .inl ⟨hne, hx'⟩
  exact ⟨g', le, sr, ⟨by simp, fun b' y a _ d => ⟨set_ne a (by rintro rfl; obtain ⟨x, hx⟩ := hφ; rw [hx] at d; cases d), d⟩⟩⟩
theorem frzE_len (cs : List T) (off len n : Nat) : (frzE cs off len n).length = len := by simp [frzE]
theorem frzE_get {cs : List T} {off len n i j : Nat} {c : List T} {t : T} (hi : (frzE cs off len n)[i]? = some c) (hj : c[j]? = some t) : j < n ∧ i < len ∧ cs[off + i * n + j]? = some t := by
  have hil : i < len := by have := (List.getElem?_eq_some_iff.1 hi).1; rw [frzE_len] at this; exact this
  simp only [frzE, List.getElem?_map, List.getElem?_range hil, Option.map_some, Option.some.injEq] at hi
  subst hi
  rw [List.getElem?_take] at hj
  split at hj
  · rename_i hjn
    rw [List.getElem?_drop] at hj
    exact ⟨hjn, hil, hj⟩
  · cases hj
theorem SR.freezeT {b len n : Nat} {cs : List T} {v : Value} (h : SR w0 g H w) (hb : H[b]? = some (.cells cs)) (hv : VR g w (.msl b 0 len n) v) (hlen : len * n = cs.length) (h0 : 0 < len) :
    ∃ g', Le g w g' w ∧ SR w0 g' (H.set b (.fz cs) ++ [.tok len]) w ∧ Fr g H g' (H.set b (.fz cs) ++ [.tok len]) ∧ ∀ v, VR g w (.msl b 0 len n) v → VR g' w (.sl (.own H.length len) (frzE cs 0 len n)) v := by
  obtain ⟨r, o, q, hφ⟩ : ∃ r o q, g.φ b = some (r, o, q) := by cases hv with | msl hp => exact ⟨_, _, _, hp⟩
  obtain ⟨c1, c2, c3⟩ := h.blk _ _ hb r o q hφ
  have hbl : b < H.length := (List.getElem?_eq_some_iff.1 hb).1
  let g' : Ctx := { g with κ := fun r' o' => if g.κ r' o' = .mut b then (if r' = r ∧ o + cs.length ≤ o' ∧ o' < q then .spare H.length else .imm) else g.κ r' o', π := fun t e => if t = H.length then (if e = len then some (r, o + cs.length, q) else none) else g.π t e }
  have hnp : ∀ e, g.π H.length e = none := fun e => by
    cases hp : g.π H.length e with
    | none => rfl
    | some x => exact absurd (h.domt _ _ _ hp) (Nat.lt_irrefl _)
  have le : Le g w g' w := ⟨fun _ _ h => h, fun r o e => by simp only [g']; rw [e]; simp, fun t e x hx => by
    simp only [g']; rw [if_neg (by rintro rfl; rw [hnp] at hx; cases hx)]; exact hx, fun _ _ _ _ h => h, rfl⟩
  have tr : Tr w w (fun _ _ => False) (fun _ => False) := ⟨⟨Nat.le_refl _, fun _ _ _ _ => rfl, fun _ _ _ h => h, fun _ _ _ _ h => h, fun _ _ _ _ => rfl, rfl, rfl⟩, fun _ _ _ => rfl⟩
  have imm : ∀ i, i < cs.length → g'.κ r (o + i) = .imm := fun i hi => by
    simp only [g']; rw [if_pos (c2 (o + i) (by omega) (by omega)).1, if_neg (by omega)]
  have sr : SR w0 g' (H.set b (.fz cs) ++ [.tok len]) w := by
    refine h.step (fun b' => b' = b ∨ b' = H.length) tr le (fun _ _ h => h.elim) (fun _ h => h.elim) (fun r o hr => ?_) (fun b' x hx => ?_) (fun t e x hx => ?_) (fun _ _ _ => rfl) (fun r j b' hne => ⟨fun e => ?_, fun e => ?_⟩) (fun t e _ ht => ?_) (fun b' x hx => ?_)
    · simp only [g']; rw [h.fresh r o hr]; simp
    · have := h.dom b' x hx; simp; omega
    · simp only [g'] at hx
      split at hx
      · rename_i e; subst e; simp
      · have := h.domt t e x hx; simp; omega
    · simp only [g']; rw [e, if_neg (by simpa using fun e => hne (.inl e))]
    · simp only [g']; rw [e, if_neg (by simp)]
    · simp only [g']; rw [if_neg (fun e => ht (.inr e))]
    · by_cases e : b' = H.length
      · subst e
        have : (H.set b (.fz cs) ++ [B.tok len])[H.length]? = some (.tok len) := by rw [show H.length = (H.set b (.fz cs)).length by simp]; exact get_tail _ _
        rw [this] at hx; cases hx
        refine .inr ⟨r, o + cs.length, q, by simp [g'], c1, fun j a c => ⟨?_, (c2 j (by omega) c).2⟩, fun e' he => ?_⟩
        · simp only [g', true_and]; rw [if_pos (c2 j (by omega) c).1, if_pos ⟨a, c⟩]
        · simp only [g', if_true]; rw [if_neg (by omega)]
      · have hx' : (H.set b (.fz cs))[b']? = some x := get_tail_ne (by simpa using e) hx
        rcases set_get hbl hx' with ⟨rfl, rfl⟩ | ⟨hne, hx'⟩
        · refine .inr fun r' o' q' hq => ?_
          have e1 : g.φ b' = some (r', o', q') := hq
          rw [hφ] at e1; cases e1
          refine ⟨c1, fun i t hi => ?_⟩
          have hil : i < cs.length := (List.getElem?_eq_some_iff.1 hi).1
          obtain ⟨k1, v, k2, k3⟩ := c3 i t hi
          exact ⟨k1, v, ⟨imm i hil, k2⟩, k3.mono le⟩
        · exact .inl ⟨fun e' => e'.elim hne e, hx'⟩
  refine ⟨g', le, sr, ⟨by simp, fun b' y a _ d => ⟨get_old (set_ne a (by rintro rfl; rw [hφ] at d; cases d)), d⟩⟩, fun v hv => ?_⟩
  cases hv with
  | @msl _ _ _ _ r1 o1 q1 cap hp hc hq =>
    rw [hφ] at hp; cases hp
    have key : ∀ (i j : Nat) (c : List T) (t : T), (frzE cs 0 len n)[i]? = some c → c[j]? = some t → t.one = true ∧ ∃ v, w.cell? ⟨r, o + i * n + j, none⟩ = some v ∧ VR g w t v ∧ g'.κ r (o + i * n + j) = .imm := by
      intro i j c t hi hj
      obtain ⟨_, _, h3⟩ := frzE_get hi hj
      obtain ⟨k1, v, k2, k3⟩ := c3 _ _ h3
      have hin : 0 + i * n + j < cs.length := (List.getElem?_eq_some_iff.1 h3).1
      refine ⟨k1, v, ?_, k3, ?_⟩
      · rw [show o + i * n + j = o + (0 + i * n + j) by omega]; exact k2
      · rw [show o + i * n + j = o + (i * n + j) by omega]; exact imm _ (by omega)
    have := VR.sl (g := g') (w := w) (k := .own H.length len) (es := frzE cs 0 len n) (r := r) (o := o) (cap := cap) (n := n) (fun i j => (w.cell? ⟨r, o + i * n + j, none⟩).getD undef)
      (by
        rw [frzE_len]
        refine ⟨?_, h0⟩
        simp only [g']
        simp only [if_true]
        rw [hlen]
        have : o + cap * n = q := by omega
        rw [this])
      (by rw [frzE_len]; exact hc)
      (fun c hc' => by
        obtain ⟨i, hi, rfl⟩ := List.mem_map.1 hc'
        have hi := List.mem_range.1 hi
        have : i * n + n ≤ len * n := by rw [← Nat.succ_mul]; exact Nat.mul_le_mul_right n hi
        rw [List.length_take, List.length_drop]; omega)
      (fun i j c t hi hj => by
        obtain ⟨k1, v, k2, _, k4⟩ := key i j c t hi hj
        exact ⟨k1, k4, by rw [k2]; rfl⟩)
      (fun i j c t hi hj => by
        obtain ⟨_, v, k2, k3, _⟩ := key i j c t hi hj
        rw [k2]; exact k3.mono le)
    rw [frzE_len] at this
    exact this
theorem Vw.ok {t t' : T} (hv : Vw H t t') (h : SR w0 g H w) : ∀ v, VR g w t v → VR g w t' v := by
  induction hv with
  | refl t => exact fun v hv => hv
  | @ms b off len n cs es src hb hl hn hle h1 h2 ih =>
    intro v hv
    cases hv with
    | @msl _ _ _ _ r o q cap hp hc hq =>
      have hf := h.blk _ _ hb r o q hp
      have key : ∀ (i j : Nat) (c : List T) (t' : T), es[i]? = some c → c[j]? = some t' → t'.one = true ∧ ∃ v, Imm g w r (o + off + i * n + j) v ∧ VR g w t' v := by
        intro i j c t' hi hj
        obtain ⟨k1, k2⟩ := h1 i j c t' hi hj
        obtain ⟨_, v, k3, k4⟩ := hf.2 _ _ k1
        exact ⟨k2, v, by rw [show o + off + i * n + j = o + (off + i * n + j) by omega]; exact k3, ih i j c t' hi hj v k4⟩
      have := VR.sl (g := g) (w := w) (k := .arg) (es := es) (r := r) (o := o + off) (cap := cap) (n := n) (fun i j => (w.cell? ⟨r, o + off + i * n + j, none⟩).getD undef) trivial (by rw [hl]; exact hc) hn
        (fun i j c t' hi hj => by
          obtain ⟨k1, v, k2, _⟩ := key i j c t' hi hj
          refine ⟨k1, k2.1, ?_⟩
          rw [k2.2]; rfl)
        (fun i j c t' hi hj => by
          obtain ⟨_, v, k2, k3⟩ := key i j c t' hi hj
          rw [k2.2]; exact k3)
      rw [hl] at this
      exact this
end
end Go.Rmp
end

section
namespace Go.Rmp
def callable (P : Program) (f : FuncId) : Bool :=
  match P.funcs[f]? with
  | some fn => fn.name != "runtime.NumGoroutine" && fn.body.isSome
  | none => false
def compOp2 (P : Program) (mu : Bool) : Op → Option Op1
  | .call { callee := .value (.func f), args, .. } => if callable P f then (compXs args.toList).map (.call f) else match isOvl P f, compXs args.toList with
    | some n, some [x, y] => some (.b (.ovl n x y))
    | _, _ => none
  | .call { callee := .value (.tmp t), args, .. } => (compXs args.toList).map (.callv (.r t))
  | op => (compOp P mu op).map .b
def notDf : Op → Bool
  | .defer _ => false
  | _ => true
def compOp1 (P : Program) (mu : Bool) (op : Op) : Option Op1 := match compOp2 P mu op with
  | some y => some y
  | none => if mu && notDf op then some (.callv (.c .nilf) []) else none
def compG (ops : Array Oper) : Option (Nat × Bool) → Option Gd
  | none => some none
  | some (j, b) => match (ops[j]?).bind (·.dst) with
    | some d => some (some (d, b))
    | none => none
def regsX : X → List Nat
  | .r t => [t]
  | .c _ => []
def regsXo : Option X → List Nat
  | some x => regsX x
  | none => []
def regsB : Bo → List Nat
  | .mov x | .un _ x | .cvi _ x | .cvs x | .cvb _ x | .len _ x | .box x | .ld _ _ x | .fad _ x | .fld _ _ _ x | .ext _ x | .nilc x | .cap x | .rng x | .nxt x | .ent x | .clr _ _ x => regsX x
  | .bin _ x y | .eqr _ _ x y | .beq _ x y | .eqs _ _ x y | .st _ x y | .iad _ x y | .iaa _ _ x y | .ixs x y | .ixa _ _ _ x y | .lkp _ _ _ x y | .del _ x y | .app _ _ _ x y | .mks _ _ _ x y | .mn x y | .mx x y | .cpy _ x y | .ovl _ x y | .apz _ _ _ x y => regsX x ++ regsX y
  | .pick x y z | .upm _ x y z => regsX x ++ regsX y ++ regsX z
  | .build _ ps => ps.flatMap fun p => regsX p.2.2
  | .bsl _ _ ps | .bsm _ _ ps => ps.flatMap fun p => regsX p.2
  | .sls x lo hi => regsX x ++ regsXo lo ++ regsXo hi
  | .sll _ x lo hi mx => regsX x ++ regsXo lo ++ regsXo hi ++ regsXo mx
  | .slr _ x hi => regsX x ++ regsX hi
  | .mkf _ l => l.flatMap regsX
  | .alloc _ | .mkm => []
def regsO : Op1 → List Nat
  | .b b => regsB b
  | .call _ aq => aq.flatMap regsX
  | .callv f aq => regsX f ++ aq.flatMap regsX
def regsG : Gd → List Nat
  | some (t, _) => [t]
  | none => []
def opTmps (l : List Operand) : List Nat := l.filterMap fun | .tmp t => some t | _ => none
def tmpsOf (o : Oper) (op : Op1) (g : Gd) : List Nat := opTmps o.op.operands.toList ++ (regsG g ++ regsO op)
def compO (P : Program) (n : Nat) (ops : Array Oper) (mu : Bool) (o : Oper) (stab : List Rd) : Option O :=
  match compOp1 P mu o.op, compG ops o.guard with
  | some op, some g => if (tmpsOf o op g).all (· < n) && (o.dst.all (· < n)) then some ⟨o.dst, op, g, stab⟩ else none
  | _, _ => none
def compSeq (P : Program) (n : Nat) (ops : Array Oper) (mu : Nat → Bool) : List Nat → Option (List O)
  | [] => some []
  | i :: is => match ops[i]? with
    | some o => match compO P n ops (mu i) o [], compSeq P n ops mu is with
      | some o, some l => some (o :: l)
      | _, _ => none
    | none => none
def bindsE (o : Oper) : List Nat := (o.after.toList.filter fun e => Region.binds .any e).map (·.on)
def befBits (acc : List Nat) (o : Oper) : Nat := (bindsE o).foldl (fun s j => s ||| 2 ^ j ||| acc.getD j 0) 0
def befs : List Oper → List Nat → List Nat
  | [], acc => acc
  | o :: l, acc => befs l (acc ++ [befBits acc o])
inductive Kl where | pure | read | make | eff
  deriving DecidableEq
def klB : Bo → Kl
  | .mov _ | .pick _ _ _ | .bin _ _ _ | .beq _ _ _ | .eqs _ _ _ _ | .un _ _ | .cvi _ _ | .build _ _ | .bsl _ _ _ | .fad _ _ | .fld _ _ _ _ | .iad _ _ _ | .iaa _ _ _ _ | .ixs _ _ | .ixa _ _ _ _ _ | .sls _ _ _ | .sll _ _ _ _ _
  | .mkf _ _ | .ext _ _ | .mn _ _ | .mx _ _ | .nilc _ => .pure
  | .eqr _ c _ _ => if c = .slice then .eff else .pure
  | .ld _ _ _ | .lkp _ _ _ _ _ | .len _ _ | .cvs _ => .read
  | .alloc _ | .mkm => .make
  | _ => .eff
def klO (o : O) : Kl := match o.op with
  | .b b => match o.d with | some _ => klB b | none => .eff
  | _ => .eff
structure It where
  i : Nat
  o : O
  early : Bool
  ts : List Nat
def stabOf (b : Nat) : List It → List Rd
  | [] => []
  | y :: l => match y.early, y.o.d, y.o.op with
    | true, some d, .b op => if klB op = .read ∧ b.testBit y.i = false then ⟨d, op, y.o.g⟩ :: stabOf b l else stabOf b l
    | _, _, _ => stabOf b l
def isMk : Op → Bool
  | .alloc _ | .makeMap _ none => true
  | _ => false
def okItem (b : Nat) (before : List It) (x : It) (oper : Oper) : Bool :=
  ((bindsE oper).all fun j => decide (j < x.i) && before.any (·.i == j)) &&
  (before.all fun y => y.early || b.testBit y.i) &&
  (before.all fun y => y.i != x.i) &&
  (match x.o.d with
    | some d => (before.all fun y => y.o.d != some d && (!y.ts.contains d || (!x.early && b.testBit y.i))) && !x.ts.contains d
    | none => true) &&
  (before.all fun y => match y.o.d with
    | some d => !x.ts.contains d || b.testBit y.i
    | none => true) &&
  (!x.early || (klO x.o != .eff && (klO x.o != .make || isMk oper.op)))
def compIt (P : Program) (n : Nat) (ops : Array Oper) (mu : Nat → Bool) (b : Nat) (before : List It) (x : Nat × Bool) : Option It :=
  match ops[x.1]? with
  | some o => match compO P n ops (mu x.1) o (if x.2 then [] else stabOf b before) with
    | some o' => let y : It := ⟨x.1, o', x.2, tmpsOf o o'.op o'.g⟩
      if okItem b before y o then some y else none
    | none => none
  | none => none
def compIts (P : Program) (n : Nat) (ops : Array Oper) (mu : Nat → Bool) (bs : List Nat) (before : List It) : List (Nat × Bool) → Option (List It)
  | [] => if (List.range ops.size).all fun i => before.any (·.i == i) then some [] else none
  | x :: l => match compIt P n ops mu (bs.getD x.1 0) before x with
    | some y => (compIts P n ops mu bs (before ++ [y]) l).map (y :: ·)
    | none => none
structure An where
  mu : List (Nat × Nat)
  ord : List (Nat × List (Nat × Bool))
def compC (P : Program) (n : Nat) (an : An) (top : Bool) : Code → Option C
  | .skip => some .skip
  | .region id ops false => (compSeq P n ops (fun i => an.mu.contains (id, i)) (List.range ops.size)).map .ops
  | .region id ops true => match an.ord.find? (·.1 == id) with
    | some (_, ord) => (compIts P n ops (fun i => an.mu.contains (id, i)) (befs ops.toList []) [] ord).map fun its => .ops (its.map (·.o))
    | none => none
  | .seq a b => match compC P n an top a, compC P n an top b with
    | some a, some b => some (.seq a b)
    | _, _ => none
  | .cond c a b => match compX c, compC P n an top a, compC P n an top b with
    | some x, some a, some b => if (match c with | .tmp t => decide (t < n) | _ => true) then some (.cond x a b) else none
    | _, _, _ => none
  | .block id a => (compC P n an top a).map (.block id)
  | .loop a => (compC P n an top a).map .loop
  | .exit id => some (.exit id)
  | .ret => some .ret
  | .rangeFunc g ps asg body => match compX g, compC P n an false asg, compC P n an false body with
    | some x, some a, some b => if top && (regsX x).all (· < n) && ps.toList.all (· < n) then some (.rangeF n x ps.toList a b) else none
    | _, _, _ => none
  | _ => none
def resOf (P : Program) : List ResultVar → Option (List Rs)
  | [] => some []
  | .tmp t :: l => (resOf P l).map (.t t :: ·)
  | .cell a t :: l => match P.underlying t, P.info? t with
    | some d, some i => (resOf P l).map (.cl a (if isAggD d then i.size else 1) (isAggD d) :: ·)
    | _, _ => none
def rsLt (n : Nat) : Rs → Bool
  | .t r | .cl r _ _ => r < n
def compFn (P : Program) (an : An) (f : FuncId) : Option Fn :=
  match P.funcs[f]? with
  | some fn => match fn.body, resOf P fn.results.toList with
    | some c, some res => match compC P fn.ntmps an true c with
      | some c => if callable P f && decide (fn.params.size + fn.nfree ≤ fn.ntmps) && res.all (rsLt fn.ntmps) then some ⟨fn.ntmps, fn.params.size + fn.nfree, res, c⟩ else none
      | none => none
    | _, _ => none
  | none => none
end Go.Rmp
end

section
namespace Go.Rmp
section
variable {R R' : Regs} {H : Heap}
theorem ev_congr {x : X} (h : ∀ t ∈ regsX x, R t = R' t) : x.ev R = x.ev R' := by
  cases x with
  | r t => exact h t (by simp [regsX])
  | c v => rfl
theorem bnd_congr {x : Option X} {d : Nat} (h : ∀ t ∈ regsXo x, R t = R' t) : bnd R d x = bnd R' d x := by
  cases x with
  | none => rfl
  | some x => simp only [bnd]; rw [ev_congr h]
theorem partsT_congr : ∀ (ps : List (Nat × Nat × X)), (∀ t ∈ ps.flatMap (fun p => regsX p.2.2), R t = R' t) → partsT R ps = partsT R' ps
  | [], _ => rfl
  | (off, n, x) :: ps, h => by
    simp only [partsT]
    rw [ev_congr (x := x) (R' := R') (fun t ht => h t (by simp [ht])), partsT_congr ps (fun t ht => h t (by rw [List.flatMap_cons]; exact List.mem_append_right _ ht))]
theorem fillE_congr (n : Nat) : ∀ (ps : List (Nat × X)) (es : List (List T)), (∀ t ∈ ps.flatMap (fun p => regsX p.2), R t = R' t) → fillE n es R ps = fillE n es R' ps
  | [], _, _ => rfl
  | (i, x) :: ps, es, h => by
    simp only [fillE]
    rw [ev_congr (x := x) (R' := R') (fun t ht => h t (by simp [ht]))]
    split
    · split
      · exact fillE_congr n ps _ (fun t ht => h t (by rw [List.flatMap_cons]; exact List.mem_append_right _ ht))
      · rfl
    · rfl
theorem fillM_congr (n : Nat) : ∀ (ps : List (Nat × X)) (es : List (List T)), (∀ t ∈ ps.flatMap (fun p => regsX p.2), R t = R' t) → fillM n es R ps = fillM n es R' ps
  | [], _, _ => rfl
  | (i, x) :: ps, es, h => by
    simp only [fillM]
    rw [ev_congr (x := x) (R' := R') (fun t ht => h t (by simp [ht]))]
    split
    · split
      · exact fillM_congr n ps _ (fun t ht => h t (by rw [List.flatMap_cons]; exact List.mem_append_right _ ht))
      · rfl
    · rfl
theorem caps_congr : ∀ (l : List X), (∀ t ∈ l.flatMap regsX, R t = R' t) → l.map (X.ev R) = l.map (X.ev R')
  | [], _ => rfl
  | x :: l, h => by
    simp only [List.map_cons]
    rw [ev_congr (x := x) (R' := R') (fun t ht => h t (by simp [ht])), caps_congr l (fun t ht => h t (by rw [List.flatMap_cons]; exact List.mem_append_right _ ht))]
theorem evop_congr {b : Bo} (h : ∀ t ∈ regsB b, R t = R' t) : evop R H b = evop R' H b := by
  cases b <;> simp only [regsB, List.mem_append] at h
  case build z ps => simp only [evop]; rw [partsT_congr ps h]
  case bsl n z ps => simp only [evop]; rw [fillE_congr _ ps _ h]
  case bsm n z ps => simp only [evop]; rw [fillM_congr _ ps _ h]
  case mkf f l => simp only [evop, capsT]; rw [caps_congr l h]
  case alloc => rfl
  case mkm => rfl
  case sls x lo hi =>
    have h1 := ev_congr (x := x) (R := R) (R' := R') (fun t ht => h t (.inl (.inl ht)))
    have h2 := fun d => bnd_congr (x := lo) (d := d) (R := R) (R' := R') (fun t ht => h t (.inl (.inr ht)))
    have h3 := fun d => bnd_congr (x := hi) (d := d) (R := R) (R' := R') (fun t ht => h t (.inr ht))
    simp only [evop, h1, h2, h3]
  case sll n x lo hi mx =>
    have hm : ∀ m, mx = some m → m.ev R = m.ev R' := fun m e => ev_congr (fun t ht => h t (.inr (by subst e; exact ht)))
    have h1 := ev_congr (x := x) (R := R) (R' := R') (fun t ht => h t (.inl (.inl (.inl ht))))
    have h2 := fun d => bnd_congr (x := lo) (d := d) (R := R) (R' := R') (fun t ht => h t (.inl (.inl (.inr ht))))
    have h3 := fun d => bnd_congr (x := hi) (d := d) (R := R) (R' := R') (fun t ht => h t (.inl (.inr ht)))
    simp only [evop, h1, h2, h3]
    cases mx with
    | none =>
      cases x.ev R' with
      | sl k es => dsimp only; cases bnd R' 0 lo with
        | none => rfl
        | some l => cases bnd R' es.length hi <;> rfl
      | msl b off len n' => rfl
      | _ => rfl
    | some m =>
      cases x.ev R' with
      | sl k es => dsimp only; cases bnd R' 0 lo with
        | none => rfl
        | some l => cases bnd R' es.length hi with
          | none => rfl
          | some h => dsimp only; rw [hm m rfl]
      | msl b off len n' => rfl
      | _ => rfl
  all_goals first
    | (simp only [evop, ev_congr h]; done)
    | (rename_i x; simp only [evop]; rw [ev_congr (x := x) (R' := R') h])
    | (rename_i x y; simp only [evop]; rw [ev_congr (x := x) (R' := R') (fun t ht => h t (.inl ht)), ev_congr (x := y) (R' := R') (fun t ht => h t (.inr ht))])
    | (rename_i x y z; simp only [evop]; rw [ev_congr (x := x) (R' := R') (fun t ht => h t (.inl (.inl ht))), ev_congr (x := y) (R' := R') (fun t ht => h t (.inl (.inr ht))), ev_congr (x := z) (R' := R') (fun t ht => h t (.inr ht))])
theorem wants_congr {g : Gd} (h : ∀ t ∈ regsG g, R t = R' t) : wants R g = wants R' g := by
  cases g with
  | none => rfl
  | some p => obtain ⟨t, b⟩ := p; simp only [wants]; rw [h t (by simp [regsG])]
theorem evop_map {b : Bo} (hk : klB b = .pure) (H2 : Heap) : evop R H2 b = (evop R H b).map fun p => (p.1, H2) := by
  cases b <;> simp only [klB] at hk <;> (try (cases hk; done)) <;> simp only [evop]
  case sll n x lo hi mx =>
    cases x.ev R with
    | sl k es =>
      dsimp only
      cases bnd R 0 lo with
      | none => rfl
      | some l => cases bnd R es.length hi with
        | none => rfl
        | some h => cases mx with
          | none => dsimp only; split <;> rfl
          | some m => dsimp only; cases natOf (m.ev R) with
            | none => rfl
            | some m => dsimp only; split <;> rfl
    | msl b off len n' =>
      dsimp only
      cases bnd R 0 lo with
      | none => rfl
      | some l => cases bnd R len hi with
        | none => rfl
        | some h => cases mx with
          | none => dsimp only; split <;> rfl
          | some m => rfl
    | mslc b off len n' c =>
      dsimp only
      cases bnd R 0 lo with
      | none => rfl
      | some l => cases bnd R len hi with
        | none => rfl
        | some h => cases mx with
          | none => dsimp only; split <;> rfl
          | some m => rfl
    | _ => rfl
  all_goals (try rfl)
  all_goals (try (simp [Option.map_map, Function.comp_def]; done))
  all_goals (try (simp [Option.map_map, Option.map_bind, Function.comp_def]; done))
  all_goals (repeat' split)
  all_goals (try (simp_all [Option.map_map, Function.comp_def]; done))
theorem evop_pure {b : Bo} {v : T} {H' : Heap} (hk : klB b = .pure) (h : evop R H b = some (v, H')) : H' = H ∧ ∀ H2, evop R H2 b = some (v, H2) := by
  constructor
  · have h1 := evop_map (R := R) (H := H) hk H
    rw [h] at h1; simp at h1; exact h1
  · intro H2; rw [evop_map (H := H) hk H2, h]; rfl
theorem get_ext {l : Heap} {b : Nat} {x : B} (h : H[b]? = some x) : (H ++ l)[b]? = some x := by
  rw [List.getElem?_append_left (List.getElem?_eq_some_iff.1 h).1]; exact h
theorem ldc_ext {n : Nat} {t : T} {cs : List T} (l : Heap) (h : ldc H n t = some cs) : ldc (H ++ l) n t = some cs := by
  unfold ldc at *
  cases t <;> simp only [] at h ⊢ <;> try (first | exact h | cases h)
  rename_i b off
  cases hb : H[b]? with
  | none => simp [hb] at h
  | some x => rw [hb] at h; rw [get_ext hb]; exact h
theorem mapEs_ext {t : T} {es : List (T × T)} (l : Heap) (h : mapEs H t = some es) : mapEs (H ++ l) t = some es := by
  unfold mapEs at *
  cases t <;> simp only [] at h ⊢ <;> try (first | exact h | cases h)
  rename_i b
  cases hb : H[b]? with
  | none => simp [hb] at h
  | some x => rw [hb] at h; rw [get_ext hb]; exact h
theorem lenT_ext {t : T} {k : Lc} {n : Nat} (l : Heap) (h : lenT H k t = some n) : lenT (H ++ l) k t = some n := by
  unfold lenT at *
  cases k <;> cases t <;> simp only [] at h ⊢ <;> try (first | exact h | cases h)
  rename_i b
  cases hb : H[b]? with
  | none => simp [hb] at h
  | some x => rw [hb] at h; rw [get_ext hb]; exact h
theorem elemsOf_ext {t : T} {n : Nat} {es : List (List T)} (l : Heap) (h : elemsOf H n t = some es) : elemsOf (H ++ l) n t = some es := by
  unfold elemsOf at *
  cases t <;> simp only [] at h ⊢ <;> try (first | exact h | cases h)
  rename_i b off len n'
  cases hb : H[b]? with
  | none => simp [hb] at h
  | some x => rw [hb] at h; rw [get_ext hb]; exact h
theorem evop_read {b : Bo} {v : T} {H' : Heap} (hk : klB b = .read) (h : evop R H b = some (v, H')) : H' = H ∧ ∀ l, evop R (H ++ l) b = some (v, H ++ l) := by
  cases b <;> simp only [klB] at hk <;> (try (cases hk; done)) <;> simp only [evop] at h ⊢
  case eqr => split at hk <;> cases hk
  case cvs x =>
    cases he : elemsOf H 1 (x.ev R) with
    | none => simp [he] at h
    | some es =>
      rw [he] at h
      refine ⟨?_, fun l => ?_⟩
      · dsimp only at h; split at h
        · cases h
        · simp only [Option.map_eq_some_iff, Prod.mk.injEq] at h; obtain ⟨_, _, _, e⟩ := h; exact e.symm
      · rw [elemsOf_ext l he]
        dsimp only at h ⊢; split at h
        · cases h
        · simp only [Option.map_eq_some_iff, Prod.mk.injEq] at h ⊢
          obtain ⟨a, h1, h2, _⟩ := h
          rename_i hne
          exact ⟨a, h1, h2, trivial⟩
  case len k x =>
    simp only [Option.map_eq_some_iff, Prod.mk.injEq] at h ⊢
    obtain ⟨a, h1, h2, h3⟩ := h
    exact ⟨h3.symm, fun l => ⟨a, lenT_ext l h1, h2, trivial⟩⟩
  case ld n ag x =>
    cases he : ldc H n (x.ev R) with
    | none => simp [he] at h
    | some cs =>
      simp only [he, Option.map_eq_some_iff, Prod.mk.injEq] at h
      obtain ⟨a, h1, h2, h3⟩ := h
      exact ⟨h3.symm, fun l => by simp [ldc_ext l he, h1, h2]⟩
  case lkp kt z ok m k =>
    split at h
    · rename_i hh
      simp only [hh, if_true]
      cases he : mapEs H (m.ev R) with
      | none => simp [he] at h
      | some es =>
        simp only [he] at h
        simp only [mapEs_ext _ he]
        split at h
        · split at h
          · cases h; exact ⟨rfl, fun l => rfl⟩
          · cases h
        · cases h; exact ⟨rfl, fun l => rfl⟩
        · cases h
    · cases h
end
end Go.Rmp
end

section
namespace Go.Rmp
theorem befs_old : ∀ (l : List Oper) (acc : List Nat), ∃ rest, befs l acc = acc ++ rest ∧ rest.length = l.length
  | [], acc => ⟨[], by simp [befs], rfl⟩
  | o :: l, acc => by
    obtain ⟨r, h, hl⟩ := befs_old l (acc ++ [befBits acc o])
    exact ⟨befBits acc o :: r, by simp [befs, h], by simp [hl]⟩
theorem befs_get : ∀ (l : List Oper) (acc : List Nat) (k : Nat) (o : Oper), l[k]? = some o → (befs l acc)[acc.length + k]? = some (befBits ((befs l acc).take (acc.length + k)) o)
  | [], _, _, _, h => by simp at h
  | x :: l, acc, 0, o, h => by
    simp at h; subst h
    obtain ⟨r, h, _⟩ := befs_old l (acc ++ [befBits acc x])
    simp [befs, h]
  | x :: l, acc, k + 1, o, h => by
    have := befs_get l (acc ++ [befBits acc x]) k o (by simpa using h)
    simp only [List.length_append, List.length_singleton] at this
    simp only [befs]
    rw [show acc.length + (k + 1) = acc.length + 1 + k by omega]
    exact this
theorem foldl_bit (acc : List Nat) (t : Nat) : ∀ (l : List Nat) (s : Nat), (l.foldl (fun s j => s ||| 2 ^ j ||| acc.getD j 0) s).testBit t = true → s.testBit t = true ∨ ∃ j ∈ l, t = j ∨ (acc.getD j 0).testBit t = true
  | [], s, h => .inl h
  | x :: l, s, h => by
    rcases foldl_bit acc t l _ h with h | ⟨j, hj, h⟩
    · simp only [Nat.testBit_or, Bool.or_eq_true, Nat.testBit_two_pow, decide_eq_true_eq] at h
      rcases h with (h | h) | h
      · exact .inl h
      · exact .inr ⟨x, by simp, .inl h.symm⟩
      · exact .inr ⟨x, by simp, .inr h⟩
    · exact .inr ⟨j, by simp [hj], h⟩
theorem befBits_bit {acc : List Nat} {o : Oper} {t : Nat} (h : (befBits acc o).testBit t = true) : ∃ j ∈ bindsE o, t = j ∨ (acc.getD j 0).testBit t = true := by
  rcases foldl_bit acc t _ _ h with h | h
  · simp at h
  · exact h
theorem befs_closed {ops : Array Oper} {D : Nat → Prop} (hD : ∀ i o, ops[i]? = some o → D i → ∀ j ∈ bindsE o, j < i ∧ D j) :
    ∀ (i : Nat) (o : Oper) (t : Nat), ops[i]? = some o → (∀ j ∈ bindsE o, j < i ∧ D j) → ((befs ops.toList []).getD i 0).testBit t = true → D t := by
  intro i
  induction i using Nat.strongRecOn with
  | _ i ih =>
    intro o t ho hp hb
    have h1 := befs_get ops.toList [] i o (by simpa using ho)
    simp only [List.length_nil, Nat.zero_add] at h1
    rw [List.getD_eq_getElem?_getD, h1, Option.getD_some] at hb
    obtain ⟨j, hj, h⟩ := befBits_bit hb
    obtain ⟨hlt, hDj⟩ := hp j hj
    rcases h with rfl | h
    · exact hDj
    · rw [List.getD_eq_getElem?_getD, List.getElem?_take, if_pos hlt, ← List.getD_eq_getElem?_getD] at h
      have hil : i < ops.size := (Array.getElem?_eq_some_iff.1 ho).1
      have hoj : ops[j]? = some ops[j] := Array.getElem?_eq_getElem (Nat.lt_trans hlt hil)
      exact ih j hlt ops[j] t hoj (fun k hk => hD j _ hoj hDj k hk) h
def Fw (r : Option Nat) : Fence := { fn := fun _ => True, depth := none, alive := false, round := r }
theorem callsIn_any {r r' : Option Nat} {n : Nat} {P : Program} {f : FuncId} {args : Array Value} {w : World} {K : Ending → World → Prop} (h : CallsIn (Fw r) n P f args w K) : CallsIn (Fw r') n P f args w K := h
section
variable {P : Program} {w0 w : World} {g : Ctx} {H H' : Heap} {R : Regs} {a : Act} {n : Nat} {ops : Array Oper}
theorem compO_inv {mu : Bool} {o : Oper} {st : List Rd} {y : O} (h : compO P n ops mu o st = some y) : ∃ op gd, compOp1 P mu o.op = some op ∧ compG ops o.guard = some gd ∧ y = ⟨o.dst, op, gd, st⟩ ∧
    (∀ t ∈ tmpsOf o op gd, t < n) ∧ ∀ d, o.dst = some d → d < n := by
  unfold compO at h
  cases h1 : compOp1 P mu o.op with
  | none => simp [h1] at h
  | some op => cases h2 : compG ops o.guard with
    | none => simp [h1, h2] at h
    | some gd =>
      simp only [h1, h2] at h
      split at h
      · rename_i hh
        simp only [Bool.and_eq_true, List.all_eq_true, decide_eq_true_eq] at hh
        exact ⟨op, gd, rfl, rfl, (Option.some.inj h).symm, hh.1, fun d hd => by have := hh.2; simp [hd] at this; exact this⟩
      · cases h
def RgOk (g : Ctx) (w : World) (R : Regs) (a : Act) (ts : List Nat) : Prop := ∀ t ∈ ts, VR g w (R t) (a.tmps.getD t undef)
theorem RgOk.sub {ts ts' : List Nat} (h : RgOk g w R a ts) (hs : ∀ t ∈ ts', t ∈ ts) : RgOk g w R a ts' := fun t ht => h t (hs t ht)
theorem rv_of {l : List Operand} (h : RgOk g w R a (opTmps l)) : RV g w R a.eval l := by
  intro x hx y hy
  cases x with
  | tmp t => simp only [compX, Option.some.injEq] at hy; subst hy; exact h t (by simp only [opTmps, List.mem_filterMap]; exact ⟨_, hx, rfl⟩)
  | const v =>
    simp only [compX, Option.map_eq_some_iff] at hy
    obtain ⟨t, h1, rfl⟩ := hy
    exact constT_ok h1
  | «global» x => simp [compX] at hy
  | func f => simp only [compX, Option.some.injEq] at hy; subst hy; exact .fn rfl (by simp)
theorem wanted_eq {o : Oper} {gd : Gd} (hg : compG ops o.guard = some gd) (hn : a.tmps.size = n) (hd : ∀ t ∈ regsG gd, t < n) (h : RgOk g w R a (regsG gd)) : Region.wanted o (yielded ops a.tmps) = wants R gd := by
  unfold Region.wanted
  cases ho : o.guard with
  | none => rw [ho] at hg; simp only [compG, Option.some.injEq] at hg; subst hg; rfl
  | some p =>
    obtain ⟨j, b⟩ := p
    rw [ho] at hg
    simp only [compG] at hg
    cases hd' : (ops[j]?).bind (·.dst) with
    | none => simp [hd'] at hg
    | some d =>
      simp only [hd', Option.some.injEq] at hg; subst hg
      have hv := h d (by simp [regsG])
      have hlt : d < a.tmps.size := by rw [hn]; exact hd d (by simp [regsG])
      simp only [yielded, hd', Option.bind_some, wants]
      rw [Array.getD_eq_getD_getElem?, Array.getElem?_eq_getElem hlt, Option.getD_some] at hv
      rw [Array.getElem?_eq_getElem hlt]
      generalize R d = t at *
      generalize a.tmps[d] = v at *
      cases hv <;> simp
theorem compOp1_or {mu : Bool} {o : Op} {y : Op1} (h : compOp1 P mu o = some y) : compOp2 P mu o = some y ∨ (y = .callv (.c .nilf) [] ∧ notDf o = true) := by
  unfold compOp1 at h
  split at h
  · rename_i e; cases h; exact .inl e
  · split at h
    · rename_i hc; cases h
      simp only [Bool.and_eq_true] at hc
      exact .inr ⟨rfl, hc.2⟩
    · cases h
theorem not_defer {mu : Bool} {o : Op} {op : Op1} (h : compOp1 P mu o = some op) : ∀ c, o ≠ .defer c := by
  rintro c rfl
  rcases compOp1_or h with h | ⟨_, h⟩
  · simp [compOp2, compOp] at h
  · cases h
theorem compOp1_b {mu : Bool} {o : Op} {b : Bo} (h : compOp1 P mu o = some (.b b)) : compOp P mu o = some b := by
  replace h := (compOp1_or h).resolve_right fun e => by cases e.1
  unfold compOp2 at h
  split at h
  · split at h
    · simp only [Option.map_eq_some_iff] at h; obtain ⟨_, _, h⟩ := h; cases h
    · split at h
      · rename_i h1 h2
        cases h
        simp only [compOp, h1, h2]
      · cases h
  · simp only [Option.map_eq_some_iff] at h; obtain ⟨_, _, h⟩ := h; cases h
  · simp only [Option.map_eq_some_iff] at h; obtain ⟨x, h1, h⟩ := h; cases h; exact h1
theorem step_b {r : Option Nat} {mu : Bool} {o : Oper} {b : Bo} {t : T} (hc : compOp1 P mu o.op = some (.b b)) (h : SR w0 g H w) (hr : RgOk g w R a (opTmps o.op.operands.toList)) (he : evop R H b = some (t, H')) :
    ∃ v w' g', (∀ (K : Act → World → Prop) (Q : Exit → Act → World → Prop), K (a.put o.dst v) w' → o.wpIn (Fw r) 0 P a w K Q) ∧ Le g w g' w' ∧ SR w0 g' H' w' ∧ VR g' w' t v ∧ Fr g H g' H' := by
  obtain ⟨nx, v, w', g', h1, h2, h3⟩ := sim_op (fun _ => rfl) (compOp1_b hc) h (rv_of hr) he
  refine ⟨v, w', g', fun K Q hk => ⟨fun _ _ => trivial, ?_⟩, h3⟩
  rw [Oper.semAt_eq _ _ _ (not_defer hc), h1]
  rcases h2 with rfl | ⟨rfl, rfl⟩
  · exact hk
  · exact hk
theorem compOp_nxt {mu : Bool} {o : Op} {x : X} (h : compOp P mu o = some (.nxt x)) : ∃ it, o = .next it false ∧ compX it = some x := by
  cases o
  case next it str =>
    cases str <;> simp only [compOp] at h <;> (try (cases h; done))
    simp only [Option.map_eq_some_iff, Bo.nxt.injEq] at h
    obtain ⟨y, h1, rfl⟩ := h
    exact ⟨it, rfl, h1⟩
  case range ty m =>
    simp only [compOp] at h
    split at h
    · simp only [Option.map_eq_some_iff] at h; obtain ⟨_, _, h⟩ := h; cases h
    · cases h
  case makeMap ty r =>
    cases r <;> simp only [compOp] at h <;> cases h
  case makeFunc fn first caps =>
    cases fn <;> simp only [compOp] at h <;> (try (cases h; done))
    split at h
    · simp only [Option.map_eq_some_iff] at h; obtain ⟨_, _, h⟩ := h; cases h
    · cases h
  case call c =>
    obtain ⟨callee, args, tys⟩ := c
    cases callee
    case value x =>
      cases x <;> simp only [compOp] at h <;> (try (cases h; done))
      split at h <;> cases h
    case builtin b =>
      simp only [compOp, Option.bind_eq_some_iff] at h
      obtain ⟨l, _, h⟩ := h
      unfold cBuiltin at h
      split at h
      · have hz : ∀ tl l b', cApz P tl l = some b' → b' ≠ .nxt x := by
          rintro tl l b' hb rfl
          simp only [cApz] at hb
          (repeat' split at hb) <;> first | (cases hb; done) | (simp at hb; done)
        split at h
        · rename_i b' hb; exact absurd (Option.some.inj h) (hz _ _ _ hb)
        · simp only [cAppend] at h
          (repeat' split at h) <;> first | (cases h; done) | (simp at h; done)
      all_goals ((repeat' split at h) <;> first | (cases h; done) | (simp at h; done))
    all_goals (simp only [compOp] at h; cases h)
  all_goals simp only [compOp] at h
  all_goals first | (cases h; done) | (simp only [Option.map_eq_some_iff] at h; obtain ⟨_, _, h⟩ := h; cases h; done) | skip
  all_goals (try simp only [Option.bind_eq_some_iff] at h)
  all_goals (try (obtain ⟨_, _, h⟩ := h))
  all_goals (try simp only [cBin, cConv, cLoad, cField, cIdx, cSlice, cSlr, cBuild, cBsl, cMks, cMap] at h)
  all_goals first | ((repeat' split at h) <;> first | (cases h; done) | (simp at h; done)) | skip
theorem step_nxt {r : Option Nat} {mu : Bool} {o : Oper} {x : X} {b bi : Nat} {es : List (T × T)} {ix : List Nat} {cur : Option Nat} (hc : compOp1 P mu o.op = some (.b (.nxt x))) (h : SR w0 g H w) (hr : RgOk g w R a (opTmps o.op.operands.toList))
    (hx : x.ev R = .ptr bi 0) (hb : H[b]? = some (.rmap es ix bi cur)) :
    ∃ t H' v w' g', NxtTo H b bi es ix t H' ∧ (∀ (K : Act → World → Prop) (Q : Exit → Act → World → Prop), K (a.put o.dst v) w' → o.wpIn (Fw r) 0 P a w K Q) ∧ Le g w g' w' ∧ SR w0 g' H' w' ∧ VR g' w' t v ∧ Fr g H g' H' := by
  have hnd := not_defer hc
  obtain ⟨it, ho, h1⟩ := compOp_nxt (compOp1_b hc)
  have hv := rv_of hr it (by rw [ho]; simp [Op.operands]) x h1
  rw [hx] at hv
  obtain ⟨t, H', hn, v, w', g', hrun, h3⟩ := sim_nxt (P := P) (ty := o.type) h hv hb
  refine ⟨t, H', v, w', g', hn, fun K Q hk => ⟨fun _ _ => trivial, ?_⟩, h3⟩
  rw [Oper.semAt_eq _ _ _ hnd]
  have e : (execOp a.eval o).run P w = .ok (.value v) w' := by
    obtain ⟨dst, op, ty, pos, after, guard⟩ := o
    simp only at ho; subst ho
    simp [execOp, hrun]
  rw [e]
  exact hk
theorem run_callFunc {f : FuncId} {args : Array Value} (hf : callable P f = true) : (callFunc f args).run P w = .ok (.enter f args) w := by
  unfold callable at hf
  cases h : P.funcs[f]? with
  | none => simp [h] at hf
  | some fn =>
    simp only [h, Bool.and_eq_true, bne_iff_ne, ne_eq] at hf
    obtain ⟨c, hb⟩ := Option.isSome_iff_exists.1 hf.2
    simp [callFunc, h, hf.1, hb]
def CallTo (r : Option Nat) (P : Program) (o : Oper) (a : Act) (K : Act → World → Prop) : Ending → World → Prop := fun e w' => ∃ v, e = .returned v ∧ K (a.put o.dst v) w'
theorem upon_enter {r : Option Nat} {o : Oper} {f : FuncId} {args : Array Value} {K : Act → World → Prop} {Q : Exit → Act → World → Prop} (h : CallsIn (Fw none) 0 P f args w (CallTo r P o a K)) :
    o.uponIn (Fw r) 0 P a K Q (.ok (.enter f args) w) := by
  rw [Oper.uponIn_enter]
  refine ⟨fun h => by simp [Fw] at h, (callsIn_any h).mono fun e w' he => ?_⟩
  obtain ⟨v, rfl, hk⟩ := he
  exact hk
theorem compOp1_call {mu : Bool} {op : Op} {f : Nat} {aq : List X} (h : compOp1 P mu op = some (.call f aq)) :
    ∃ args tys, op = .call { callee := .value (.func f), args := args, argTypes := tys } ∧ callable P f = true ∧ compXs args.toList = some aq := by
  replace h := (compOp1_or h).resolve_right fun e => by cases e.1
  cases op
  case call c =>
    obtain ⟨callee, args, tys⟩ := c
    cases callee
    case value x =>
      cases x
      case func f' =>
        simp only [compOp2] at h
        split at h
        · rename_i hc
          simp only [Option.map_eq_some_iff] at h
          obtain ⟨aq', h1, h2⟩ := h
          cases h2
          exact ⟨args, tys, rfl, hc, h1⟩
        · split at h <;> cases h
      all_goals simp [compOp2, compOp] at h
    all_goals (simp only [compOp2, Option.map_eq_some_iff] at h; obtain ⟨_, _, h⟩ := h; cases h)
  all_goals (simp only [compOp2, Option.map_eq_some_iff] at h; obtain ⟨_, _, h⟩ := h; cases h)
theorem compOp1_callv {mu : Bool} {op : Op} {x : X} {aq : List X} (h : compOp1 P mu op = some (.callv x aq)) (hx : x ≠ .c .nilf) :
    ∃ t args tys, x = .r t ∧ op = .call { callee := .value (.tmp t), args := args, argTypes := tys } ∧ compXs args.toList = some aq := by
  replace h := (compOp1_or h).resolve_right fun e => by cases e.1; exact hx rfl
  cases op
  case call c =>
    obtain ⟨callee, args, tys⟩ := c
    cases callee
    case value x =>
      cases x
      case tmp t =>
        simp only [compOp2, Option.map_eq_some_iff] at h
        obtain ⟨aq', h1, h2⟩ := h
        cases h2
        exact ⟨t, args, tys, rfl, rfl, h1⟩
      case func f' =>
        simp only [compOp2] at h
        split at h
        · simp only [Option.map_eq_some_iff] at h
          obtain ⟨aq', h1, h2⟩ := h
          cases h2
        · split at h <;> cases h
      all_goals simp [compOp2, compOp] at h
    all_goals (simp only [compOp2, Option.map_eq_some_iff] at h; obtain ⟨_, _, h⟩ := h; cases h)
  all_goals (simp only [compOp2, Option.map_eq_some_iff] at h; obtain ⟨_, _, h⟩ := h; cases h)
theorem step_call {r : Option Nat} {mu : Bool} {o : Oper} {f : Nat} {aq : List X} (hc : compOp1 P mu o.op = some (.call f aq)) (hr : RgOk g w R a (opTmps o.op.operands.toList)) :
    ∃ args : List Value, VRs g w (aq.map (X.ev R)) args ∧
      ∀ (K : Act → World → Prop) (Q : Exit → Act → World → Prop), callable P f = true → CallsIn (Fw none) 0 P f args.toArray w (CallTo r P o a K) → o.wpIn (Fw r) 0 P a w K Q := by
  have hnd := not_defer hc
  obtain ⟨args, tys, ho, hcal, h1⟩ := compOp1_call hc
  have hv := compXs_ok (ρ := a.eval) args.toList aq h1 (rv_of (hr.sub fun t ht => by
    simp only [opTmps, List.mem_filterMap] at ht ⊢
    obtain ⟨x, hx, e⟩ := ht
    exact ⟨x, by rw [ho]; simp only [Op.operands, Call.operands]; simp at hx; simp [hx], e⟩))
  refine ⟨args.toList.map a.eval, hv, fun K Q _ hk => ⟨fun _ _ => trivial, ?_⟩⟩
  rw [Oper.semAt_eq _ _ _ hnd]
  have hrun : (execOp a.eval o).run P w = .ok (.enter f (args.toList.map a.eval).toArray) w := by
    have := run_callFunc (P := P) (w := w) (args := (args.toList.map a.eval).toArray) hcal
    have e2 : (args.toList.map a.eval).toArray = args.map a.eval := by rw [← Array.toList_map]
    rw [e2] at this ⊢
    simp only [execOp, ho, resolve, Act.eval, Deferred.ofValue, invoke]
    simpa using this
  rw [hrun]
  exact upon_enter hk
theorem step_callv {r : Option Nat} {mu : Bool} {o : Oper} {x : X} {f : Nat} {cs : List T} {aq : List X} (hc : compOp1 P mu o.op = some (.callv x aq)) (hr : RgOk g w R a (opTmps o.op.operands.toList)) (hx : x.ev R = .fn f cs) :
    ∃ args : List Value, VRs g w (aq.map (X.ev R) ++ cs) args ∧
      ∀ (K : Act → World → Prop) (Q : Exit → Act → World → Prop), callable P f = true → CallsIn (Fw none) 0 P f args.toArray w (CallTo r P o a K) → o.wpIn (Fw r) 0 P a w K Q := by
  have hnd := not_defer hc
  obtain ⟨t, args, tys, rfl, ho, h1⟩ := compOp1_callv hc (by rintro rfl; cases hx)
  have hv := compXs_ok (ρ := a.eval) args.toList aq h1 (rv_of (hr.sub fun t ht => by
    simp only [opTmps, List.mem_filterMap] at ht ⊢
    obtain ⟨x, hx, e⟩ := ht
    exact ⟨x, by rw [ho]; simp only [Op.operands, Call.operands]; simp at hx; simp [hx], e⟩))
  have hf := hr t (by rw [ho]; simp only [opTmps, List.mem_filterMap]; exact ⟨.tmp t, by simp [Op.operands, Call.operands], rfl⟩)
  simp only [X.ev] at hx
  rw [hx] at hf
  generalize hv' : a.tmps.getD t undef = vf at hf
  cases hf with
  | @fn _ _ vs hl hcs =>
    refine ⟨args.toList.map a.eval ++ vs.toList, hv.append ⟨by simp [hl], fun i t v ha hb => hcs i t v ha (by simpa using hb)⟩, fun K Q hcal hk => ⟨fun _ _ => trivial, ?_⟩⟩
    rw [Oper.semAt_eq _ _ _ hnd]
    have hrun : (execOp a.eval o).run P w = .ok (.enter f (args.toList.map a.eval ++ vs.toList).toArray) w := by
      have := run_callFunc (P := P) (w := w) (args := (args.toList.map a.eval ++ vs.toList).toArray) hcal
      have e2 : (args.toList.map a.eval ++ vs.toList).toArray = args.map a.eval ++ vs := by rw [← Array.toList_map]; simp
      rw [e2] at this ⊢
      have e : a.eval (.tmp t) = .func (.func f) #[] vs := hv'
      simp only [execOp, ho, resolve, e, Deferred.ofValue, invoke]
      simpa using this
    rw [hrun]
    exact upon_enter hk
end
end Go.Rmp
end

section
namespace Go.Rmp
def blkOf : T → Option Nat
  | .ptr b _ | .map b => some b
  | _ => none
def mkOf (R : Regs) (y : It) : Option Nat := match y.o.d, y.o.op with
  | some d, .b (.alloc _) => blkOf (R d)
  | some d, .b .mkm => blkOf (R d)
  | _, _ => none
def Pend (g : Ctx) (N : Nat) (R : Regs) (H : Heap) (y : It) : Prop :=
  (wants R y.o.g = false ∧ ∀ d, y.o.d = some d → R d = undefT) ∨
  (wants R y.o.g = true ∧ ∃ d b, y.o.d = some d ∧ y.o.op = .b b ∧ (
    ((klB b = .pure ∨ klB b = .read) ∧ evop R H b = some (R d, H)) ∨
    (∃ k z, b = .alloc z ∧ R d = .ptr k 0 ∧ H[k]? = some (.cells z) ∧ g.φ k = none ∧ N ≤ k) ∨
    (∃ k, b = .mkm ∧ R d = .map k ∧ H[k]? = some (.map []) ∧ g.φ k = none ∧ N ≤ k)))
theorem Pend.mono {g g' : Ctx} {N : Nat} {R R' : Regs} {H H' : Heap} {y : It} (h : Pend g N R H y) (hg : ∀ t ∈ regsG y.o.g, R' t = R t) (hr : ∀ t ∈ regsO y.o.op, R' t = R t) (hd : ∀ d, y.o.d = some d → R' d = R d)
    (hread : ∀ d b, wants R y.o.g = true → y.o.d = some d → y.o.op = .b b → klB b = .read → evop R H b = some (R d, H) → evop R H' b = some (R d, H'))
    (hmk : ∀ k x, mkOf R y = some k → H[k]? = some x → (∀ e, x ≠ .tok e) → g.φ k = none → N ≤ k → H'[k]? = some x ∧ g'.φ k = none) : Pend g' N R' H' y := by
  have hw : wants R' y.o.g = wants R y.o.g := wants_congr hg
  rcases h with ⟨h1, h2⟩ | ⟨h1, d, b, h2, h3, h4⟩
  · exact .inl ⟨hw ▸ h1, fun d e => by rw [hd d e]; exact h2 d e⟩
  · refine .inr ⟨hw ▸ h1, d, b, h2, h3, ?_⟩
    rw [hd d h2]
    rw [h3] at hr
    rcases h4 with ⟨hk, he⟩ | ⟨k, z, rfl, e1, e2, e3, e4⟩ | ⟨k, rfl, e1, e2, e3, e4⟩
    · refine .inl ⟨hk, ?_⟩
      rw [evop_congr (R := R') (R' := R) hr]
      rcases hk with hk | hk
      · exact (evop_pure hk he).2 H'
      · exact hread d b h1 h2 h3 hk he
    · have hm := hmk k _ (by simp [mkOf, h2, h3, e1, blkOf]) e2 (by simp) e3 e4
      exact .inr (.inl ⟨k, z, rfl, e1, hm.1, hm.2, e4⟩)
    · have hm := hmk k _ (by simp [mkOf, h2, h3, e1, blkOf]) e2 (by simp) e3 e4
      exact .inr (.inr ⟨k, rfl, e1, hm.1, hm.2, e4⟩)
theorem put_getD (a : Act) (d : Option Nat) (v : Value) (t : Nat) (hd : ∀ e, d = some e → e < a.tmps.size) : (a.put d v).tmps.getD t undef = if d = some t then v else a.tmps.getD t undef := by
  cases d with
  | none => simp [Act.put]
  | some d =>
    have hlt := hd d rfl
    simp only [Act.put]
    by_cases e : d = t
    · subst e; simp [Array.getD_eq_getD_getElem?, hlt]
    · rw [if_neg (by simpa using e), Array.getD_eq_getD_getElem?, Array.getD_eq_getD_getElem?, Array.getElem?_setIfInBounds_ne e]
theorem put_size (a : Act) (d : Option Nat) (v : Value) : (a.put d v).tmps.size = a.tmps.size := by cases d <;> simp [Act.put]
theorem put_df (a : Act) (d : Option Nat) (v : Value) : (a.put d v).defers = a.defers := by cases d <;> simp [Act.put]
theorem updo_ne {R : Regs} {d : Option Nat} {v : T} {t : Nat} (h : d ≠ some t) : updo R d v t = R t := by
  cases d with
  | none => rfl
  | some d => simp only [updo, upd]; rw [if_neg]; rintro rfl; exact h rfl
theorem updo_eq {R : Regs} {v : T} {t : Nat} : updo R (some t) v t = v := by simp [updo, upd]
theorem SR.virt {w0 w : World} {g : Ctx} {H : Heap} (h : SR w0 g H w) {x : B} (hx : (∃ cs, x = .cells cs) ∨ ∃ es, x = .map es) : SR w0 g (H ++ [x]) w := by
  refine ⟨h.size, h.old, h.imm0, h.fresh, fun b y hy => by have := h.dom b y hy; simp; omega, fun t e y hy => by have := h.domt t e y hy; simp; omega, fun b y hy => ?_, h.env⟩
  by_cases hb : b = H.length
  · subst hb
    rw [get_tail] at hy
    have hn := h.noφ (b := H.length) (Nat.le_refl _)
    cases hy
    rcases hx with ⟨cs, rfl⟩ | ⟨es, rfl⟩ <;> intro r o q hq <;> rw [hn] at hq <;> cases hq
  · exact h.blk b y (get_tail_ne hb hy)
theorem SR.drew {w0 w w' : World} {g : Ctx} {H : Heap} (h : SR w0 g H w) (tr : Tr w w' none2 none1) (hz : w'.heap.size = w.heap.size) : SR w0 g H w' ∧ Le g w g w' := by
  have le : Le g w g w' := Le.of_tr tr (fun _ _ h => h) (fun _ _ h => h) (fun _ _ _ h => h) (fun _ _ hs => hs.elim)
  refine ⟨?_, le⟩
  exact h.step (fun _ => False) tr le (fun _ _ hs => hs.elim) (fun _ hm => hm.elim) (fun r o hr => h.fresh r o (by omega)) h.dom h.domt (fun _ _ _ => rfl) (fun _ _ _ _ => ⟨id, id⟩) (fun _ _ _ _ => rfl) (fun b x hx => .inl ⟨id, hx⟩)
section
variable {P : Program} {w0 w : World} {g : Ctx} {H : Heap} {a : Act}
theorem place_alloc {r : Option Nat} {mu : Bool} {o : Oper} {z : List T} {k : Nat} (hm : isMk o.op = true) (hc : compOp1 P mu o.op = some (.b (.alloc z))) (h : SR w0 g H w) (hk : H[k]? = some (.cells z)) (hn : g.φ k = none) :
    ∃ v w' g', (∀ (K : Act → World → Prop) (Q : Exit → Act → World → Prop), K (a.put o.dst v) w' → o.wpIn (Fw r) 0 P a w K Q) ∧ Le g w g' w' ∧ SR w0 g' H w' ∧ VR g' w' (.ptr k 0) v ∧ ∀ b, g.φ b = none → b ≠ k → g'.φ b = none := by
  obtain ⟨dst, op, ty, pos, after, guard⟩ := o
  simp only at hm hc
  have hc := compOp1_b hc
  unfold isMk at hm
  split at hm
  · rename_i t _
    simp only [compOp, Option.map_eq_some_iff] at hc
    obtain ⟨z', h1, h2⟩ := hc
    cases h2
    obtain ⟨i, zv, h2, h3, h4⟩ := zeroOf_ok h1
    obtain ⟨hv, ho⟩ := constL_ok (g := g) (w := w) _ _ h4
    have tr : Tr w w none2 none1 := Tr.refl w
    obtain ⟨le, sr, fr⟩ := h.mut (c := zv.cells) (ty := t) (H' := H) (b := k) tr rfl hk hn (fun b' x _ hx => .inl hx) (Nat.le_refl _) (fun b' x hx _ _ _ => hx) (by simpa using hv.getC ho)
    refine ⟨.pointer (some ⟨w.heap.size, 0, none⟩), _, _, fun K Q hk => ⟨fun _ _ => trivial, ?_⟩, le, sr, .ptr (r := w.heap.size) (o := 0) (q := zv.cells.size) (by simp [Ctx.at]), fun b hb hne => by simp only [Ctx.at, Ctx.row]; rw [if_neg hne]; exact hb⟩
    rw [Oper.semAt_eq _ _ _ (by rintro c ⟨⟩)]
    have hrun : (execOp a.eval ⟨dst, .alloc t, ty, pos, after, guard⟩).run P w = .ok (.value (.pointer (some ⟨w.heap.size, 0, none⟩))) (w.alloc (.cells zv.cells t)) := by
      simp [execOp, Instr.alloc, zeroValue, run_ti h2, h3, newVar, newRow]
    rw [hrun]
    exact hk
  · simp [compOp] at hc
  · cases hm
theorem place_mkm {r : Option Nat} {mu : Bool} {o : Oper} {k : Nat} (hm : isMk o.op = true) (hc : compOp1 P mu o.op = some (.b .mkm)) (h : SR w0 g H w) (hk : H[k]? = some (.map [])) (hn : g.φ k = none) :
    ∃ v w' g', (∀ (K : Act → World → Prop) (Q : Exit → Act → World → Prop), K (a.put o.dst v) w' → o.wpIn (Fw r) 0 P a w K Q) ∧ Le g w g' w' ∧ SR w0 g' H w' ∧ VR g' w' (.map k) v ∧ ∀ b, g.φ b = none → b ≠ k → g'.φ b = none := by
  obtain ⟨dst, op, ty, pos, after, guard⟩ := o
  simp only at hm hc
  have hc := compOp1_b hc
  unfold isMk at hm
  split at hm
  · simp [compOp] at hc
  · rename_i t _
    obtain ⟨le, sr⟩ := h.newmap (H' := H) (b := k) hk hn (fun b' x _ hx => hx) (Nat.le_refl _)
    refine ⟨.map (some w.heap.size), _, _, fun K Q hk => ⟨fun _ _ => trivial, ?_⟩, le, sr, .map (r := w.heap.size) (o := 0) (q := 0) (by simp [Ctx.at]), fun b hb hne => by simp only [Ctx.at, Ctx.row]; rw [if_neg hne]; exact hb⟩
    rw [Oper.semAt_eq _ _ _ (by rintro c ⟨⟩)]
    have hrun : (execOp a.eval ⟨dst, .makeMap t none, ty, pos, after, guard⟩).run P w = .ok (.value (.map (some w.heap.size))) (w.alloc (.map #[] 0)) := by
      simp [execOp, Instr.makeMap]
    rw [hrun]
    exact hk
  · cases hm
end
theorem Fr.ext (g : Ctx) (H l : Heap) : Fr g H g (H ++ l) := ⟨by simp, fun b x hx _ hn => ⟨get_ext hx, hn⟩⟩
structure Dr (P : Program) (n : Nat) (ops : Array Oper) (mu : Nat → Bool) (w0 : World) (df : List Deferred) (mk : T) (g0 : Ctx) (ws : World) (H0 : Heap)
    (pre : List It) (L : Array Bool) (g : Ctx) (R : Regs) (H : Heap) (a : Act) (w : World) : Prop where
  lsz : L.size = ops.size
  cmp : ∀ y ∈ pre, ∃ o, ops[y.i]? = some o ∧ (∃ st, compO P n ops (mu y.i) o st = some y.o) ∧ y.ts = tmpsOf o y.o.op y.o.g
  rd : ∀ y ∈ pre, ∀ z ∈ pre, z.early = true → ∀ d, z.o.d = some d → d ∈ y.ts → ((befs ops.toList []).getD y.i 0).testBit z.i = true
  dd : ∀ y ∈ pre, ∀ z ∈ pre, ∀ d, y.o.d = some d → z.o.d = some d → y.i = z.i
  kl : ∀ y ∈ pre, y.early = true → ∀ o, ops[y.i]? = some o → klO y.o = .make → isMk o.op = true
  uniq : ∀ y ∈ pre, ∀ z ∈ pre, y.i = z.i → y = z
  edge : ∀ y ∈ pre, ∀ o, ops[y.i]? = some o → ∀ j ∈ bindsE o, j < y.i
  closed : ∀ i o, ops[i]? = some o → L.getD i false = true → ∀ j ∈ bindsE o, j < i ∧ L.getD j false = true
  sub : ∀ i, L.getD i false = true → ∃ y ∈ pre, y.i = i
  effl : ∀ y ∈ pre, y.early = false → L.getD y.i false = true
  sr : SR w0 g H w
  le : Le g0 ws g w
  fr : Fr g0 H0 g H
  tsz : a.tmps.size = n
  regs : ∀ t, t < n → (∀ y ∈ pre, L.getD y.i false = false → y.o.d ≠ some t) → VR g w (R t) (a.tmps.getD t undef)
  pend : ∀ y ∈ pre, L.getD y.i false = false → Pend g H0.length R H y
  inj : ∀ y ∈ pre, ∀ z ∈ pre, L.getD y.i false = false → L.getD z.i false = false → y.i ≠ z.i → ∀ k, mkOf R y = some k → mkOf R z ≠ some k
  dfe : a.defers = df
  mke : R n = mk
section
variable {P : Program} {n : Nat} {ops : Array Oper} {mu : Nat → Bool} {w0 w ws : World} {df : List Deferred} {mk : T} {g g0 : Ctx} {H H0 H' : Heap} {pre : List It} {L : Array Bool} {R : Regs} {a : Act} {r : Option Nat}
theorem ready_pre {i : Nat} (h : i ∈ Region.ready .any ops L) : L.getD i false = false ∧ ∃ o, ops[i]? = some o ∧ ∀ j ∈ bindsE o, L.getD j false = true := by
  obtain ⟨h1, o, h2, h3⟩ := mem_ready.1 h
  refine ⟨?_, o, h2, fun j hj => ?_⟩
  · cases hi : L[i]? with
    | none => simp [Array.getD_eq_getD_getElem?, hi] at h1
    | some b => simp [Array.getD_eq_getD_getElem?, hi] at h1 ⊢; exact h1
  · simp only [bindsE, List.mem_map, List.mem_filter] at hj
    obtain ⟨e, ⟨he, hb⟩, rfl⟩ := hj
    exact h3 e (by simpa using he) hb
theorem Dr.bit (h : Dr P n ops mu w0 df mk g0 ws H0 pre L g R H a w) {i : Nat} {o : Oper} {t : Nat} (ho : ops[i]? = some o) (hp : ∀ j ∈ bindsE o, j < i ∧ L.getD j false = true)
    (hb : ((befs ops.toList []).getD i 0).testBit t = true) : L.getD t false = true :=
  befs_closed (D := fun i => L.getD i false = true) h.closed i o t ho hp hb
theorem set_getD {i j : Nat} (hi : i < L.size) : (L.setIfInBounds i true).getD j false = if i = j then true else L.getD j false := by
  by_cases e : i = j
  · subst e; simp [Array.getD_eq_getD_getElem?, hi]
  · rw [if_neg e, Array.getD_eq_getD_getElem?, Array.getD_eq_getD_getElem?, Array.getElem?_setIfInBounds_ne e]
theorem regs_of_tmps {o : Oper} {y : It} (h : y.ts = tmpsOf o y.o.op y.o.g) : (∀ t ∈ regsG y.o.g, t ∈ y.ts) ∧ (∀ t ∈ regsO y.o.op, t ∈ y.ts) ∧ ∀ t ∈ opTmps o.op.operands.toList, t ∈ y.ts := by
  rw [h]; unfold tmpsOf
  exact ⟨fun t ht => by simp [ht], fun t ht => by simp [ht], fun t ht => by simp [ht]⟩
theorem Dr.look (h : Dr P n ops mu w0 df mk g0 ws H0 pre L g R H a w) {i : Nat} {o : Oper} {ts : List Nat} (ho : ops[i]? = some o) (hp : ∀ j ∈ bindsE o, j < i ∧ L.getD j false = true) (hn : ∀ t ∈ ts, t < n)
    (hz : ∀ z ∈ pre, z.early = true → ∀ d, z.o.d = some d → d ∈ ts → ((befs ops.toList []).getD i 0).testBit z.i = true) : RgOk g w R a ts := by
  intro t ht
  refine h.regs t (hn t ht) fun z hz' hu hd => ?_
  cases he : z.early with
  | false => rw [h.effl z hz' he] at hu; cases hu
  | true => rw [h.bit ho hp (hz z hz' he t hd ht)] at hu; cases hu
theorem Dr.late (h : Dr P n ops mu w0 df mk g0 ws H0 pre L g R H a w) {y : It} (hy : y ∈ pre) (hr : y.i ∈ Region.ready .any ops L) :
    ∃ v w' g', (∀ (K : Act → World → Prop) (Q : Exit → Act → World → Prop), K (a.put y.o.d v) w' → wpOpIn (Fw r) 0 P ops Q y.i K a w) ∧
      Dr P n ops mu w0 df mk g0 ws H0 pre (L.setIfInBounds y.i true) g' R H (a.put y.o.d v) w' := by
  obtain ⟨hun, o, ho, hpre⟩ := ready_pre hr
  obtain ⟨o', ho', ⟨st, hco⟩, hts⟩ := h.cmp y hy
  rw [ho] at ho'; cases ho'
  obtain ⟨op, gd, hop, hgd, hyo, htn, hdn⟩ := compO_inv hco
  have hd : y.o.d = o.dst := by rw [hyo]
  have hop' : y.o.op = op := by rw [hyo]
  have hg' : y.o.g = gd := by rw [hyo]
  obtain ⟨ht1, ht2, ht3⟩ := regs_of_tmps hts
  have hp : ∀ j ∈ bindsE o, j < y.i ∧ L.getD j false = true := fun j hj => ⟨h.edge y hy o ho j hj, hpre j hj⟩
  have hok : RgOk g w R a y.ts := h.look ho hp (fun t ht => htn t (by rw [hts, hop', hg'] at ht; exact ht)) (h.rd y hy)
  have hwe : Region.wanted o (yielded ops a.tmps) = wants R y.o.g := by
    rw [hg']; exact wanted_eq hgd h.tsz (fun t ht => htn t (by simp [tmpsOf, ht])) (hok.sub (by rw [← hg']; exact ht1))
  have hil : y.i < L.size := by rw [h.lsz]; exact (Array.getElem?_eq_some_iff.1 ho).1
  have hdz : ∀ e, y.o.d = some e → e < a.tmps.size := fun e he => by rw [h.tsz]; exact hdn e (hd ▸ he)
  have keep : ∀ v w' g', Le g w g' w' → SR w0 g' H w' → (∀ d, y.o.d = some d → VR g' w' (R d) v) → Fr g0 H0 g' H → (∀ z ∈ pre, L.getD z.i false = false → z.i ≠ y.i → Pend g' H0.length R H z) →
      Dr P n ops mu w0 df mk g0 ws H0 pre (L.setIfInBounds y.i true) g' R H (a.put y.o.d v) w' := by
    intro v w' g' le sr hv fr hpend
    refine { lsz := (by simp [h.lsz]), cmp := h.cmp, rd := h.rd, dd := h.dd, kl := h.kl, uniq := h.uniq, edge := h.edge, closed := ?_, sub := ?_, effl := ?_, sr := sr, le := h.le.trans le, fr := fr, tsz := (by rw [put_size]; exact h.tsz), regs := ?_, pend := ?_, inj := ?_, dfe := (by rw [put_df]; exact h.dfe), mke := h.mke }
    · intro i oi hoi hLi j hj
      rw [set_getD hil] at hLi ⊢
      by_cases e : y.i = i
      · subst e; rw [ho] at hoi; cases hoi
        obtain ⟨h1, h2⟩ := hp j hj
        exact ⟨h1, by split <;> simp [h2]⟩
      · rw [if_neg e] at hLi
        obtain ⟨h1, h2⟩ := h.closed i oi hoi hLi j hj
        exact ⟨h1, by split <;> simp [h2]⟩
    · intro i hLi
      rw [set_getD hil] at hLi
      by_cases e : y.i = i
      · exact ⟨y, hy, e⟩
      · rw [if_neg e] at hLi; exact h.sub i hLi
    · intro z hz he
      rw [set_getD hil]
      split
      · rfl
      · exact h.effl z hz he
    · intro t ht hno
      rw [put_getD _ _ _ _ hdz]
      split
      · rename_i e; exact hv t e
      · rename_i e
        refine (h.regs t ht fun z hz hu hzd => ?_).mono le
        by_cases ez : y.i = z.i
        · rw [h.uniq y hy z hz ez] at e; exact e hzd
        · exact hno z hz (by rw [set_getD hil, if_neg ez]; exact hu) hzd
    · intro z hz hu
      rw [set_getD hil] at hu
      by_cases ez : y.i = z.i
      · rw [if_pos ez] at hu; cases hu
      · rw [if_neg ez] at hu; exact hpend z hz hu (Ne.symm ez)
    · intro z hz z' hz' hu hu'
      rw [set_getD hil] at hu hu'
      by_cases ez : y.i = z.i
      · rw [if_pos ez] at hu; cases hu
      · by_cases ez' : y.i = z'.i
        · rw [if_pos ez'] at hu'; cases hu'
        · rw [if_neg ez] at hu; rw [if_neg ez'] at hu'; exact h.inj z hz z' hz' hu hu'
  have hpendF : ∀ g', Fr g H g' H → ∀ z ∈ pre, L.getD z.i false = false → z.i ≠ y.i → Pend g' H0.length R H z := fun g' fr z hz hu _ =>
    (h.pend z hz hu).mono (fun _ _ => rfl) (fun _ _ => rfl) (fun _ _ => rfl) (fun _ _ _ _ _ _ e => e) (fun k x _ hx hnt hn _ => fr.2 k x hx hnt hn)
  rcases h.pend y hy hun with ⟨hw, hu⟩ | ⟨hw, d, b, hd1, hb1, hcase⟩
  · refine ⟨undef, w, g, fun K Q hk => ?_, keep undef w g (.refl _ _) h.sr (fun d e => by rw [hu d e]; exact undef_vr) h.fr (hpendF g (.refl _ _))⟩
    unfold wpOpIn
    simp only [ho, hwe, hw]
    rw [hd] at hk
    exact ⟨fun _ _ => trivial, hk⟩
  · have hopb : compOp1 P (mu y.i) o.op = some (.b b) := by rw [← hb1, hop']; exact hop
    rcases hcase with ⟨hk, he⟩ | ⟨k, z, rfl, e1, e2, e3, e4⟩ | ⟨k, rfl, e1, e2, e3, e4⟩
    · obtain ⟨v, w', g', hs, le, sr, hv, fr⟩ := step_b (r := r) hopb h.sr (hok.sub ht3) he
      refine ⟨v, w', g', fun K Q hkk => ?_, keep v w' g' le sr (fun d' e => by rw [hd1] at e; cases e; exact hv) (h.fr.trans fr) (hpendF g' fr)⟩
      unfold wpOpIn
      simp only [ho, hwe, hw, if_true]
      exact hs K Q (by rw [← hd]; exact hkk)
    · -- a variable finds its place
      have hear : y.early = true := by cases he : y.early with | true => rfl | false => rw [h.effl y hy he] at hun; cases hun
      have hmk := h.kl y hy hear o ho (by simp [klO, hb1, hd1, klB])
      obtain ⟨v, w', g', hs, le, sr, hv, hφ⟩ := place_alloc (r := r) (a := a) hmk hopb h.sr e2 e3
      have hmy : mkOf R y = some k := by simp [mkOf, hd1, hb1, e1, blkOf]
      refine ⟨v, w', g', fun K Q hkk => ?_, keep v w' g' le sr (fun d' e => by rw [hd1] at e; cases e; rw [e1]; exact hv) ⟨h.fr.1, fun b x hx hnt hb => ?_⟩ fun z' hz' hu' hne => ?_⟩
      · unfold wpOpIn
        simp only [ho, hwe, hw, if_true]
        exact hs K Q (by rw [← hd]; exact hkk)
      · obtain ⟨f1, f2⟩ := h.fr.2 b x hx hnt hb
        exact ⟨f1, hφ b f2 (by have := (List.getElem?_eq_some_iff.1 hx).1; omega)⟩
      · exact (h.pend z' hz' hu').mono (fun _ _ => rfl) (fun _ _ => rfl) (fun _ _ => rfl) (fun _ _ _ _ _ _ e => e) fun k' x hm' hx _ hn _ =>
          ⟨hx, hφ k' hn (by rintro rfl; exact h.inj y hy z' hz' hun hu' (Ne.symm hne) k' hmy hm')⟩
    · have hear : y.early = true := by cases he : y.early with | true => rfl | false => rw [h.effl y hy he] at hun; cases hun
      have hmk := h.kl y hy hear o ho (by simp [klO, hb1, hd1, klB])
      obtain ⟨v, w', g', hs, le, sr, hv, hφ⟩ := place_mkm (r := r) (a := a) hmk hopb h.sr e2 e3
      have hmy : mkOf R y = some k := by simp [mkOf, hd1, hb1, e1, blkOf]
      refine ⟨v, w', g', fun K Q hkk => ?_, keep v w' g' le sr (fun d' e => by rw [hd1] at e; cases e; rw [e1]; exact hv) ⟨h.fr.1, fun b x hx hnt hb => ?_⟩ fun z' hz' hu' hne => ?_⟩
      · unfold wpOpIn
        simp only [ho, hwe, hw, if_true]
        exact hs K Q (by rw [← hd]; exact hkk)
      · obtain ⟨f1, f2⟩ := h.fr.2 b x hx hnt hb
        exact ⟨f1, hφ b f2 (by have := (List.getElem?_eq_some_iff.1 hx).1; omega)⟩
      · exact (h.pend z' hz' hu').mono (fun _ _ => rfl) (fun _ _ => rfl) (fun _ _ => rfl) (fun _ _ _ _ _ _ e => e) fun k' x hm' hx _ hn _ =>
          ⟨hx, hφ k' hn (by rintro rfl; exact h.inj y hy z' hz' hun hu' (Ne.symm hne) k' hmy hm')⟩
end
end Go.Rmp
end

section
namespace Go.Rmp
structure Hd (P : Program) (n : Nat) (ops : Array Oper) (mu : Nat → Bool) (pre : List It) (x : It) (o : Oper) : Prop where
  ho : ops[x.i]? = some o
  co : compO P n ops (mu x.i) o x.o.stab = some x.o
  ts : x.ts = tmpsOf o x.o.op x.o.g
  st : x.early = false → x.o.stab = stabOf ((befs ops.toList []).getD x.i 0) pre
  pred : ∀ j ∈ bindsE o, j < x.i ∧ ∃ z ∈ pre, z.i = j
  beh : ∀ z ∈ pre, z.early = true ∨ ((befs ops.toList []).getD x.i 0).testBit z.i = true
  ne : ∀ z ∈ pre, z.i ≠ x.i
  dst : ∀ d, x.o.d = some d → (∀ z ∈ pre, z.o.d ≠ some d ∧ (d ∈ z.ts → x.early = false ∧ ((befs ops.toList []).getD x.i 0).testBit z.i = true)) ∧ d ∉ x.ts
  rdz : ∀ z ∈ pre, ∀ d, z.o.d = some d → d ∈ x.ts → ((befs ops.toList []).getD x.i 0).testBit z.i = true
  kl : x.early = true → klO x.o ≠ .eff ∧ (klO x.o = .make → isMk o.op = true)
theorem compIt_hd {P : Program} {n : Nat} {ops : Array Oper} {mu : Nat → Bool} {pre : List It} {y : Nat × Bool} {x : It} (h : compIt P n ops mu ((befs ops.toList []).getD y.1 0) pre y = some x) : ∃ o, Hd P n ops mu pre x o := by
  unfold compIt at h
  generalize hbs : (befs ops.toList []).getD y.1 0 = bs at h
  cases ho : ops[y.1]? with
  | none => simp [ho] at h
  | some o =>
    rw [ho] at h; dsimp only at h
    cases hc : compO P n ops (mu y.1) o (if y.2 = true then [] else stabOf bs pre) with
    | none => rw [hc] at h; cases h
    | some o' =>
      rw [hc] at h; dsimp only at h
      split at h
      · rename_i hk
        cases h
        subst hbs
        have hst : o'.stab = if y.2 = true then [] else stabOf ((befs ops.toList []).getD y.1 0) pre := by
          obtain ⟨op, gd, _, _, e, _⟩ := compO_inv hc; rw [e]
        simp only [okItem, Bool.and_eq_true, List.all_eq_true, decide_eq_true_eq, List.any_eq_true, beq_iff_eq, Bool.or_eq_true, bne_iff_ne, ne_eq, Bool.not_eq_true'] at hk
        obtain ⟨⟨⟨⟨⟨k1, k2⟩, k3⟩, k4⟩, k5⟩, k6⟩ := hk
        refine ⟨o, ho, by rw [hst]; exact hc, rfl, fun he => by simp only at he; rw [hst, he]; rfl, k1, k2, k3, fun d hd => ?_, fun z hz d hd ht => ?_, fun he => ?_⟩
        · simp only at hd
          rw [hd] at k4
          simp only [List.all_eq_true, Bool.and_eq_true, bne_iff_ne, ne_eq, Bool.or_eq_true, Bool.not_eq_true', List.contains_eq_mem, decide_eq_false_iff_not, decide_eq_true_eq] at k4
          exact ⟨fun z hz => ⟨(k4.1 z hz).1, fun ht => ((k4.1 z hz).2.resolve_left (fun hn => hn ht))⟩, k4.2⟩
        · have := k5 z hz
          rw [hd] at this
          simp only [Bool.or_eq_true, Bool.not_eq_true', List.contains_eq_mem, decide_eq_false_iff_not] at this
          exact this.resolve_left (fun hn => hn ht)
        · rcases k6 with k6 | k6
          · have he' : y.2 = true := he
            rw [he'] at k6; cases k6
          · exact ⟨k6.1, fun hm => k6.2.resolve_left (fun hn => hn hm)⟩
      · cases h
theorem compIts_cons {P : Program} {n : Nat} {ops : Array Oper} {mu : Nat → Bool} {pre : List It} {y : Nat × Bool} {ord : List (Nat × Bool)} {its : List It} (h : compIts P n ops mu (befs ops.toList []) pre (y :: ord) = some its) :
    ∃ x l o, its = x :: l ∧ Hd P n ops mu pre x o ∧ compIts P n ops mu (befs ops.toList []) (pre ++ [x]) ord = some l := by
  simp only [compIts] at h
  split at h
  · rename_i x hx
    simp only [Option.map_eq_some_iff] at h
    obtain ⟨l, h1, rfl⟩ := h
    obtain ⟨o, ho⟩ := compIt_hd hx
    exact ⟨x, l, o, rfl, ho, h1⟩
  · cases h
theorem compIts_all {P : Program} {n : Nat} {ops : Array Oper} {mu : Nat → Bool} : ∀ (ord : List (Nat × Bool)) (pre its : List It), compIts P n ops mu (befs ops.toList []) pre ord = some its → ∀ i, i < ops.size → ∃ y ∈ pre ++ its, y.i = i
  | [], pre, its, h, i, hi => by
    simp only [compIts] at h
    split at h
    · rename_i hk
      cases h
      simp only [List.all_eq_true, List.mem_range, List.any_eq_true, beq_iff_eq] at hk
      simpa using hk i hi
    · cases h
  | y :: ord, pre, its, h, i, hi => by
    obtain ⟨x, l, o, rfl, _, h2⟩ := compIts_cons h
    simpa using compIts_all ord (pre ++ [x]) l h2 i hi
theorem compIts_beh {P : Program} {n : Nat} {ops : Array Oper} {mu : Nat → Bool} : ∀ (ord : List (Nat × Bool)) (pre its : List It), compIts P n ops mu (befs ops.toList []) pre ord = some its → ∀ y ∈ its, (∃ o, ops[y.i]? = some o ∧ (∀ j ∈ bindsE o, j < y.i)) ∧ ∀ z ∈ pre, z.early = true ∨ ((befs ops.toList []).getD y.i 0).testBit z.i = true
  | [], pre, its, h, y, hy => by
    simp only [compIts] at h
    split at h
    · cases h; cases hy
    · cases h
  | u :: ord, pre, its, h, y, hy => by
    obtain ⟨x, l, o, rfl, h1, h2⟩ := compIts_cons h
    rcases List.mem_cons.1 hy with rfl | hy
    · exact ⟨⟨o, h1.ho, fun j hj => (h1.pred j hj).1⟩, h1.beh⟩
    · obtain ⟨h3, h4⟩ := compIts_beh ord (pre ++ [x]) l h2 y hy
      exact ⟨h3, fun z hz => h4 z (by simp [hz])⟩
theorem stabOf_mem {b : Nat} {y : It} {d : Nat} {op : Bo} : ∀ (pre : List It), y ∈ pre → y.early = true → y.o.d = some d → y.o.op = .b op → klB op = .read → b.testBit y.i = false → ⟨d, op, y.o.g⟩ ∈ stabOf b pre
  | [], h, _, _, _, _, _ => by cases h
  | z :: pre, h, h1, h2, h3, h4, h5 => by
    rcases List.mem_cons.1 h with rfl | h
    · simp [stabOf, h1, h2, h3, h4, h5]
    · have ih := stabOf_mem pre h h1 h2 h3 h4 h5
      simp only [stabOf]
      split
      · split
        · exact List.mem_cons_of_mem _ ih
        · exact ih
      · exact ih
theorem mkOf_congr {R R' : Regs} {y : It} (h : ∀ d, y.o.d = some d → R' d = R d) : mkOf R' y = mkOf R y := by
  unfold mkOf
  split
  · rename_i d z h1 h2; simp only [h1, h2, h d h1]
  · rename_i d h1 h2; simp only [h1, h2, h d h1]
  · rfl
theorem Pend.lt {g : Ctx} {N : Nat} {R : Regs} {H : Heap} {y : It} (h : Pend g N R H y) {k : Nat} (hm : mkOf R y = some k) : k < H.length := by
  unfold mkOf at hm
  rcases h with ⟨_, h2⟩ | ⟨_, d, b, h2, h3, h4⟩
  · split at hm
    · rename_i d z h1 _; rw [h2 d h1] at hm; cases hm
    · rename_i d h1 _; rw [h2 d h1] at hm; cases hm
    · cases hm
  · rw [h2, h3] at hm
    rcases h4 with ⟨hk, he⟩ | ⟨k', z, rfl, e1, e2, e3, e4⟩ | ⟨k', rfl, e1, e2, e3, e4⟩
    · cases b <;> simp [klB] at hk hm
    · simp only [e1, blkOf, Option.some.injEq] at hm; subst hm; exact (List.getElem?_eq_some_iff.1 e2).1
    · simp only [e1, blkOf, Option.some.injEq] at hm; subst hm; exact (List.getElem?_eq_some_iff.1 e2).1
section
variable {P : Program} {n : Nat} {ops : Array Oper} {mu : Nat → Bool} {w0 w w' ws : World} {df : List Deferred} {mk : T} {g g' g0 : Ctx} {H H0 H' : Heap} {pre : List It} {L : Array Bool} {R : Regs} {a : Act} {r : Option Nat} {x : It} {o : Oper}
theorem Dr.not_listed (h : Dr P n ops mu w0 df mk g0 ws H0 pre L g R H a w) (hd : Hd P n ops mu pre x o) : L.getD x.i false = false := by
  cases e : L.getD x.i false with
  | false => rfl
  | true => obtain ⟨y, hy, e⟩ := h.sub x.i e; exact absurd e (hd.ne y hy)
theorem mem_snoc {α : Type} {y x : α} {l : List α} (h : y ∈ l ++ [x]) : y ∈ l ∨ y = x := by simpa using h
theorem Dr.take (h : Dr P n ops mu w0 df mk g0 ws H0 pre L g R H a w) (hd : Hd P n ops mu pre x o) (he : x.early = true) {t : T} (hp : Pend g H0.length (updo R x.o.d t) H' x)
    (hH : H' = H ∨ ∃ B, H' = H ++ [B] ∧ ((∃ cs, B = .cells cs) ∨ ∃ es, B = .map es)) (hm : ∀ k, mkOf (updo R x.o.d t) x = some k → H.length ≤ k) : Dr P n ops mu w0 df mk g0 ws H0 (pre ++ [x]) L g (updo R x.o.d t) H' a w := by
  have hxl := h.not_listed hd
  have hnd : ∀ t : T, x.o.d ≠ some n := fun _ e => by
    obtain ⟨op, gd, _, _, hyo, _, hdn⟩ := compO_inv hd.co
    have hdo : x.o.d = o.dst := by rw [hyo]
    exact Nat.lt_irrefl n (hdn n (hdo ▸ e))
  have hts : ∀ z ∈ pre, ∀ u ∈ z.ts, updo R x.o.d t u = R u := fun z hz u hu => updo_ne fun e => by
    obtain ⟨h1, _⟩ := ((hd.dst u e).1 z hz).2 hu
    rw [he] at h1; cases h1
  have hds : ∀ z ∈ pre, ∀ d, z.o.d = some d → updo R x.o.d t d = R d := fun z hz d hzd => updo_ne fun e => ((hd.dst d e).1 z hz).1 hzd
  have hext : ∃ l, H' = H ++ l := by
    rcases hH with rfl | ⟨B, rfl, _⟩
    · exact ⟨[], by simp⟩
    · exact ⟨[B], rfl⟩
  obtain ⟨l, hl⟩ := hext
  have hpz : ∀ z ∈ pre, L.getD z.i false = false → Pend g H0.length (updo R x.o.d t) H' z := fun z hz hu => by
    obtain ⟨oz, _, _, hzt⟩ := h.cmp z hz
    obtain ⟨t1, t2, _⟩ := regs_of_tmps hzt
    refine (h.pend z hz hu).mono (fun u hu => hts z hz u (t1 u hu)) (fun u hu => hts z hz u (t2 u hu)) (hds z hz) (fun d b _ _ _ hk e => ?_) (fun k y _ hy _ hn _ => ?_)
    · subst hl; exact (evop_read hk e).2 l
    · subst hl; exact ⟨get_ext hy, hn⟩
  refine { lsz := h.lsz, cmp := ?_, rd := ?_, dd := ?_, kl := ?_, uniq := ?_, edge := ?_, closed := h.closed, sub := fun i hi => ?_, effl := ?_, sr := ?_, le := h.le, fr := ?_, tsz := h.tsz, regs := ?_, pend := ?_, inj := ?_, dfe := h.dfe, mke := (by rw [updo_ne (hnd t)]; exact h.mke) }
  · intro y hy
    replace hy := mem_snoc hy; rcases hy with hy | rfl
    · exact h.cmp y hy
    · exact ⟨o, hd.ho, ⟨_, hd.co⟩, hd.ts⟩
  · intro y hy z hz hez d hzd hyt
    replace hy := mem_snoc hy; rcases hy with hy | rfl
    · replace hz := mem_snoc hz; rcases hz with hz | rfl
      · exact h.rd y hy z hz hez d hzd hyt
      · obtain ⟨h1, _⟩ := ((hd.dst d hzd).1 y hy).2 hyt
        rw [he] at h1; cases h1
    · replace hz := mem_snoc hz; rcases hz with hz | rfl
      · exact hd.rdz z hz d hzd hyt
      · exact absurd hyt (hd.dst d hzd).2
  · intro y hy z hz d hyd hzd
    replace hy := mem_snoc hy; rcases hy with hy | rfl
    · replace hz := mem_snoc hz; rcases hz with hz | rfl
      · exact h.dd y hy z hz d hyd hzd
      · exact absurd hyd ((hd.dst d hzd).1 y hy).1
    · replace hz := mem_snoc hz; rcases hz with hz | rfl
      · exact absurd hzd ((hd.dst d hyd).1 z hz).1
      · rfl
  · intro y hy hey o' ho'
    replace hy := mem_snoc hy; rcases hy with hy | rfl
    · exact h.kl y hy hey o' ho'
    · rw [hd.ho] at ho'; cases ho'; exact (hd.kl hey).2
  · intro y hy z hz e
    replace hy := mem_snoc hy; rcases hy with hy | rfl
    · replace hz := mem_snoc hz; rcases hz with hz | rfl
      · exact h.uniq y hy z hz e
      · exact absurd e (hd.ne y hy)
    · replace hz := mem_snoc hz; rcases hz with hz | rfl
      · exact absurd e.symm (hd.ne z hz)
      · rfl
  · intro y hy o' ho' j hj
    replace hy := mem_snoc hy; rcases hy with hy | rfl
    · exact h.edge y hy o' ho' j hj
    · rw [hd.ho] at ho'; cases ho'; exact (hd.pred j hj).1
  · obtain ⟨y, hy, e⟩ := h.sub i hi
    exact ⟨y, by simp [hy], e⟩
  · intro y hy hey
    replace hy := mem_snoc hy; rcases hy with hy | rfl
    · exact h.effl y hy hey
    · rw [he] at hey; cases hey
  · rcases hH with rfl | ⟨B, rfl, hB⟩
    · exact h.sr
    · exact h.sr.virt hB
  · subst hl; exact h.fr.trans (Fr.ext g H l)
  · intro u hu hno
    rw [updo_ne (hno x (by simp) hxl)]
    exact h.regs u hu fun y hy hyl => hno y (by simp [hy]) hyl
  · intro y hy hyl
    replace hy := mem_snoc hy; rcases hy with hy | rfl
    · exact hpz y hy hyl
    · exact hp
  · intro y hy z hz hyl hzl hne k hk hk'
    replace hy := mem_snoc hy; rcases hy with hy | rfl
    · rw [mkOf_congr (hds y hy)] at hk
      replace hz := mem_snoc hz; rcases hz with hz | rfl
      · rw [mkOf_congr (hds z hz)] at hk'
        exact h.inj y hy z hz hyl hzl hne k hk hk'
      · have h1 := (h.pend y hy hyl).lt hk
        have h2 := hm k hk'
        omega
    · replace hz := mem_snoc hz; rcases hz with hz | rfl
      · rw [mkOf_congr (hds z hz)] at hk'
        have h1 := (h.pend z hz hzl).lt hk'
        have h2 := hm k hk
        omega
      · exact hne rfl
theorem Dr.both (h : Dr P n ops mu w0 df mk g0 ws H0 pre L g R H a w) (hd : Hd P n ops mu pre x o) (he : x.early = false) (hp : ∀ j ∈ bindsE o, L.getD j false = true) {t : T} {v : Value} (le : Le g w g' w') (sr : SR w0 g' H' w') (hv : VR g' w' t v) (fr : Fr g H g' H')
    (hs : ∀ y ∈ pre, L.getD y.i false = false → ∀ d b, wants R y.o.g = true → y.o.d = some d → y.o.op = .b b → klB b = .read → evop R H b = some (R d, H) → evop R H' b = some (R d, H')) :
    Dr P n ops mu w0 df mk g0 ws H0 (pre ++ [x]) (L.setIfInBounds x.i true) g' (updo R x.o.d t) H' (a.put x.o.d v) w' := by
  have hil : x.i < L.size := by rw [h.lsz]; exact (Array.getElem?_eq_some_iff.1 hd.ho).1
  have hpp : ∀ j ∈ bindsE o, j < x.i ∧ L.getD j false = true := fun j hj => ⟨(hd.pred j hj).1, hp j hj⟩
  obtain ⟨op, gd, hop, hgd, hyo, htn, hdn⟩ := compO_inv hd.co
  have hdo : x.o.d = o.dst := by rw [hyo]
  have hdz : ∀ e, x.o.d = some e → e < a.tmps.size := fun e h1 => by rw [h.tsz]; exact hdn e (hdo ▸ h1)
  have hts : ∀ z ∈ pre, L.getD z.i false = false → ∀ u ∈ z.ts, updo R x.o.d t u = R u := fun z hz hu u hut => updo_ne fun e => by
    obtain ⟨_, h2⟩ := ((hd.dst u e).1 z hz).2 hut
    rw [h.bit hd.ho hpp h2] at hu; cases hu
  have hds : ∀ z ∈ pre, ∀ d, z.o.d = some d → updo R x.o.d t d = R d := fun z hz d hzd => updo_ne fun e => ((hd.dst d e).1 z hz).1 hzd
  refine { lsz := (by simp [h.lsz]), cmp := ?_, rd := ?_, dd := ?_, kl := ?_, uniq := ?_, edge := ?_, closed := ?_, sub := ?_, effl := ?_, sr := sr, le := h.le.trans le, fr := h.fr.trans fr, tsz := (by rw [put_size]; exact h.tsz), regs := ?_, pend := ?_, inj := ?_, dfe := (by rw [put_df]; exact h.dfe), mke := (by rw [updo_ne (fun e => Nat.lt_irrefl n (hdn n (hdo ▸ e)))]; exact h.mke) }
  · intro y hy
    replace hy := mem_snoc hy; rcases hy with hy | rfl
    · exact h.cmp y hy
    · exact ⟨o, hd.ho, ⟨_, hd.co⟩, hd.ts⟩
  · intro y hy z hz hez d hzd hyt
    replace hz := mem_snoc hz; rcases hz with hz | rfl
    · replace hy := mem_snoc hy; rcases hy with hy | rfl
      · exact h.rd y hy z hz hez d hzd hyt
      · exact hd.rdz z hz d hzd hyt
    · rw [he] at hez; cases hez
  · intro y hy z hz d hyd hzd
    replace hy := mem_snoc hy; rcases hy with hy | rfl
    · replace hz := mem_snoc hz; rcases hz with hz | rfl
      · exact h.dd y hy z hz d hyd hzd
      · exact absurd hyd ((hd.dst d hzd).1 y hy).1
    · replace hz := mem_snoc hz; rcases hz with hz | rfl
      · exact absurd hzd ((hd.dst d hyd).1 z hz).1
      · rfl
  · intro y hy hey o' ho'
    replace hy := mem_snoc hy; rcases hy with hy | rfl
    · exact h.kl y hy hey o' ho'
    · rw [he] at hey; cases hey
  · intro y hy z hz e
    replace hy := mem_snoc hy; rcases hy with hy | rfl
    · replace hz := mem_snoc hz; rcases hz with hz | rfl
      · exact h.uniq y hy z hz e
      · exact absurd e (hd.ne y hy)
    · replace hz := mem_snoc hz; rcases hz with hz | rfl
      · exact absurd e.symm (hd.ne z hz)
      · rfl
  · intro y hy o' ho' j hj
    replace hy := mem_snoc hy; rcases hy with hy | rfl
    · exact h.edge y hy o' ho' j hj
    · rw [hd.ho] at ho'; cases ho'; exact (hd.pred j hj).1
  · intro i oi hoi hLi j hj
    rw [set_getD hil] at hLi ⊢
    by_cases e : x.i = i
    · subst e
      rw [hd.ho] at hoi; cases hoi
      obtain ⟨h1, h2⟩ := hpp j hj
      exact ⟨h1, by split <;> simp [h2]⟩
    · rw [if_neg e] at hLi
      obtain ⟨h1, h2⟩ := h.closed i oi hoi hLi j hj
      exact ⟨h1, by split <;> simp [h2]⟩
  · intro i hLi
    rw [set_getD hil] at hLi
    by_cases e : x.i = i
    · exact ⟨x, by simp, e⟩
    · rw [if_neg e] at hLi
      obtain ⟨y, hy, e⟩ := h.sub i hLi
      exact ⟨y, by simp [hy], e⟩
  · intro y hy hey
    rw [set_getD hil]
    split
    · rfl
    · rename_i hne
      replace hy := mem_snoc hy; rcases hy with hy | rfl
      · exact h.effl y hy hey
      · exact absurd rfl hne
  · intro u hu hno
    rw [put_getD _ _ _ _ hdz]
    split
    · rename_i e; rw [e, updo_eq]; exact hv
    · rename_i e
      rw [updo_ne e]
      exact (h.regs u hu fun y hy hyl => hno y (by simp [hy]) (by rw [set_getD hil, if_neg (Ne.symm (hd.ne y hy))]; exact hyl)).mono le
  · intro y hy hyl
    rw [set_getD hil] at hyl
    split at hyl
    · cases hyl
    · rename_i hne
      replace hy := mem_snoc hy; rcases hy with hy | rfl
      · obtain ⟨oz, _, _, hzt⟩ := h.cmp y hy
        obtain ⟨t1, t2, _⟩ := regs_of_tmps hzt
        exact (h.pend y hy hyl).mono (fun u hu => hts y hy hyl u (t1 u hu)) (fun u hu => hts y hy hyl u (t2 u hu)) (hds y hy) (hs y hy hyl) (fun k z _ hz hnt hn _ => fr.2 k z hz hnt hn)
      · exact absurd rfl hne
  · intro y hy z hz hyl hzl hne k hk hk'
    rw [set_getD hil] at hyl hzl
    split at hyl
    · cases hyl
    · split at hzl
      · cases hzl
      · rename_i hn1 hn2
        replace hy := mem_snoc hy; rcases hy with hy | rfl
        · replace hz := mem_snoc hz; rcases hz with hz | rfl
          · rw [mkOf_congr (hds y hy)] at hk
            rw [mkOf_congr (hds z hz)] at hk'
            exact h.inj y hy z hz hyl hzl hne k hk hk'
          · exact absurd rfl hn2
        · exact absurd rfl hn1
theorem Dr.init (sr : SR w0 g H w) (hn : a.tmps.size = n) (hmk : R n = mk) (hr : ∀ t, t < n → VR g w (R t) (a.tmps.getD t undef)) (le : Le g0 ws g w) (fr : Fr g0 H0 g H) : Dr P n ops mu w0 a.defers mk g0 ws H0 [] (Array.replicate ops.size false) g R H a w := by
  have hf : ∀ i, (Array.replicate ops.size false).getD i false = false := fun i => by
    rw [Array.getD_eq_getD_getElem?, Array.getElem?_replicate]; split <;> rfl
  refine { lsz := by simp, cmp := (by simp), rd := (by simp), dd := (by simp), kl := (by simp), uniq := (by simp), edge := (by simp), closed := fun i o _ h => ?_, sub := fun i h => ?_, effl := (by simp), sr := sr, le := le, fr := fr, tsz := hn, regs := fun t ht _ => hr t ht, pend := (by simp), inj := (by simp), dfe := rfl, mke := hmk }
  · rw [hf] at h; cases h
  · rw [hf] at h; cases h
end
end Go.Rmp
end

section
namespace Go.Rmp
section
variable {P : Program} {w0 w : World} {g : Ctx} {H H' : Heap} {R : Regs} {a : Act} {n : Nat} {ops : Array Oper}
def isEqr : Bo → Bool
  | .eqr _ _ _ _ => true
  | _ => false
theorem ne_eqr {b : Bo} (h : isEqr b = false) {neg : Bool} {c : Cls} {x y : X} : b ≠ .eqr neg c x y := by rintro rfl; cases h
theorem cLoad_ne {ty : TypeId} {x : X} {b : Bo} (h : cLoad P ty x = some b) : isEqr b = false := by
  unfold cLoad at h; (repeat' split at h) <;> cases h <;> rfl
theorem cField_ne {ty : TypeId} {x : X} {f : Nat} {ad : Bool} {b : Bo} (h : cField P ty x f ad = some b) : isEqr b = false := by
  unfold cField at h; (repeat' split at h) <;> cases h <;> rfl
theorem cIdx_ne {ty : TypeId} {x i : X} {ad : Bool} {b : Bo} (h : cIdx P ty x i ad = some b) : isEqr b = false := by
  unfold cIdx at h; (repeat' split at h) <;> first | (cases h <;> rfl) | (simp only [Option.map_eq_some_iff] at h; obtain ⟨_, _, h⟩ := h; cases h; rfl)
theorem cSlice_ne {ty : TypeId} {x : X} {lo hi mx : Option X} {b : Bo} (h : cSlice P ty x lo hi mx = some b) : isEqr b = false := by
  unfold cSlice at h; (repeat' split at h) <;> cases h <;> rfl
theorem cSlr_ne {ty : TypeId} {x : X} {lo hi mx : Option X} {b : Bo} (h : cSlr P ty x lo hi mx = some b) : isEqr b = false := by
  unfold cSlr at h
  split at h
  · simp only [Option.map_eq_some_iff] at h; obtain ⟨_, _, h⟩ := h; cases h; rfl
  · cases h
theorem cConv_ne {src dst : TypeId} {x : X} {b : Bo} (h : cConv P src dst x = some b) : isEqr b = false := by
  unfold cConv at h; (repeat' split at h) <;> cases h <;> rfl
theorem cAppend_ne {mu : Bool} {tys : List TypeId} {aq : List X} {b : Bo} (h : cAppend P mu tys aq = some b) : isEqr b = false := by
  unfold cAppend at h; (repeat' split at h) <;> cases h <;> rfl
theorem cApz_ne {tys : List TypeId} {aq : List X} {b : Bo} (h : cApz P tys aq = some b) : isEqr b = false := by
  unfold cApz at h; (repeat' split at h) <;> cases h <;> rfl
theorem cBuiltin_ne {mu : Bool} {bt : Builtin} {tys : List TypeId} {aq : List X} {b : Bo} (h : cBuiltin P mu bt tys aq = some b) : isEqr b = false := by
  unfold cBuiltin at h
  split at h
  · split at h
    · rename_i b' hz; cases h; exact cApz_ne hz
    · exact cAppend_ne h
  all_goals (repeat' split at h) <;> first | (cases h <;> rfl) | (simp only [Option.map_eq_some_iff] at h; obtain ⟨_, _, h⟩ := h; cases h; rfl)
theorem cBuild_ne {ty : TypeId} {ps : List (Nat × X)} {b : Bo} (h : cBuild P ty ps = some b) : isEqr b = false := by
  unfold cBuild at h; (repeat' split at h) <;> cases h <;> rfl
theorem cBsl_ne {mu : Bool} {ty : TypeId} {n : Nat} {ps : List (Nat × X)} {b : Bo} (h : cBsl P mu ty n ps = some b) : isEqr b = false := by
  cases mu <;> unfold cBsl at h <;> (repeat' split at h) <;> cases h <;> rfl
theorem cMks_ne {mu : Bool} {ty : TypeId} {l c : X} {b : Bo} (h : cMks P mu ty l c = some b) : isEqr b = false := by
  unfold cMks at h; (repeat' split at h) <;> cases h <;> rfl
theorem compOp_eqr {mu : Bool} {op : Op} {neg : Bool} {x y : X} (h : compOp P mu op = some (.eqr neg .slice x y)) :
    ∃ bop ty ox oy yt e, op = .binOp bop ty ox oy yt ∧ compX ox = some x ∧ compX oy = some y ∧ P.underlying ty = some (.slice e) ∧ bop = (if neg then .neq else .eql) := by
  cases op <;> simp only [compOp, Option.map_eq_some_iff, Option.bind_eq_some_iff] at h
  case binOp bop ty ox oy yt =>
    cases h1 : compX ox with
    | none => simp [h1] at h
    | some x' => cases h2 : compX oy with
      | none => simp [h1, h2] at h
      | some y' =>
        simp only [h1, h2] at h
        unfold cBin at h
        split at h
        · cases h
        · cases h
        · simp only [Option.map_eq_some_iff] at h; obtain ⟨_, _, h⟩ := h; cases h
        · split at h
          · split at h <;> cases h
          · cases h
        · rename_i d _ _ _ _ hu
          split at h
          · rename_i n' c hn hcl
            cases h
            refine ⟨bop, ty, ox, oy, yt, ?_⟩
            cases d <;> simp [cls] at hcl
            exact ⟨_, rfl, h1, h2, hu, by cases bop <;> simp [isEq] at hn <;> subst hn <;> rfl⟩
          · cases h
        · cases h
  case load => obtain ⟨_, _, h⟩ := h; exact absurd rfl (ne_eqr (cLoad_ne h))
  case fieldAddr => obtain ⟨_, _, h⟩ := h; exact absurd rfl (ne_eqr (cField_ne h))
  case field => obtain ⟨_, _, h⟩ := h; exact absurd rfl (ne_eqr (cField_ne h))
  case indexAddr => split at h; exact absurd rfl (ne_eqr (cIdx_ne h)); cases h
  case index => split at h; exact absurd rfl (ne_eqr (cIdx_ne h)); cases h
  case slice =>
    split at h
    · split at h
      · exact absurd rfl (ne_eqr (cSlr_ne h))
      · exact absurd rfl (ne_eqr (cSlice_ne h))
    · cases h
  case convert => obtain ⟨_, _, h⟩ := h; exact absurd rfl (ne_eqr (cConv_ne h))
  case build => obtain ⟨_, _, h⟩ := h; exact absurd rfl (ne_eqr (cBuild_ne h))
  case buildSlice => obtain ⟨_, _, h⟩ := h; exact absurd rfl (ne_eqr (cBsl_ne h))
  case makeSlice => split at h; exact absurd rfl (ne_eqr (cMks_ne h)); cases h
  case call c =>
    obtain ⟨callee, args, tys⟩ := c
    cases callee
    case builtin => simp only [compOp, Option.bind_eq_some_iff] at h; obtain ⟨_, _, h⟩ := h; exact absurd rfl (ne_eqr (cBuiltin_ne h))
    case value cv =>
      cases cv <;> simp only [compOp] at h <;> (try (cases h; done))
      split at h <;> cases h
    all_goals simp [compOp] at h
  case makeMap t r => cases r <;> simp [compOp] at h
  case next it str => cases str <;> simp [compOp] at h
  case range ty m => split at h; (simp only [Option.map_eq_some_iff] at h; obtain ⟨_, _, h⟩ := h; cases h); cases h
  case makeFunc f first caps =>
    cases f <;> simp only [compOp] at h
    case func f =>
      split at h
      · simp only [Option.map_eq_some_iff] at h; obtain ⟨_, _, h⟩ := h; cases h
      · cases h
    all_goals cases h
  all_goals first
    | (cases h; done)
    | (obtain ⟨_, _, h⟩ := h; cases h; done)
    | ((repeat' split at h) <;> first | (cases h; done) | (simp only [Option.map_eq_some_iff] at h; obtain ⟨_, _, h⟩ := h; cases h; done))
    | (simp only [Option.map_eq_some_iff] at h; obtain ⟨_, _, h⟩ := h; cases h)
    | skip
theorem run_slnil {ty e : TypeId} {ox oy : Operand} {ad : Option Addr} {l p : Nat} {neg : Bool} (hu : P.underlying ty = some (.slice e)) :
    (do eqGuard (if neg then .neq else .eql) ty ox oy (.slice ad l p) (.slice none 0 0); binOp (if neg then .neq else .eql) ty (.slice ad l p) (.slice none 0 0)).run P w = .ok (.bool (if neg then !ad.isNone else ad.isNone)) w := by
  have k1 : ∀ op, (eqGuard op ty ox oy (.slice ad l p) (.slice none 0 0)).run P w = .ok () w := fun op => guard_sl
  have k2 : (Op.equal ty (.slice ad l p) (.slice none 0 0)).run P w = .ok ad.isNone w := equal_of fun n => by
    rw [Op.equalIn]; simp only [Sem.run_bind, run_underlying hu, Result.andThen_ok]
    cases ad <;> simp_all
  have k3 : ∀ neg : Bool, (binOp (if neg then .neq else .eql) ty (.slice ad l p) (.slice none 0 0)).run P w = ((Op.equal ty (.slice ad l p) (.slice none 0 0)).run P w).andThen fun b w' => .ok (.bool (if neg then !b else b)) w' := fun neg => by cases neg <;> simp [binOp]
  simp only [Sem.run_bind, k1, Result.andThen_ok, k3, k2]
theorem step_nils {r : Option Nat} {mu : Bool} {o : Oper} {neg : Bool} {x y : X} (hc : compOp1 P mu o.op = some (.b (.eqr neg .slice x y))) (hr : RgOk g w R a (opTmps o.op.operands.toList))
    (hx : x.ev R = .sl .arg []) (hy : y.ev R = .sl .nil []) : ∃ b : Bool, ∀ (K : Act → World → Prop) (Q : Exit → Act → World → Prop), K (a.put o.dst (.bool b)) w → o.wpIn (Fw r) 0 P a w K Q := by
  have hnd := not_defer hc
  obtain ⟨bop, ty, ox, oy, yt, e, ho, h1, h2, hu, rfl⟩ := compOp_eqr (compOp1_b hc)
  have hrv := rv_of hr
  have v1 := hrv ox (by rw [ho]; simp [Op.operands]) x h1
  have v2 := hrv oy (by rw [ho]; simp [Op.operands]) y h2
  rw [hx] at v1
  rw [hy] at v2
  generalize h3 : a.eval ox = vx at v1
  generalize h4 : a.eval oy = vy at v2
  have e2 : vy = .slice none 0 0 := by
    cases v2 with
    | slnil => rfl
    | sl vals hk => exact hk.elim
  subst e2
  obtain ⟨ad, l, p, rfl⟩ : ∃ ad l p, vx = .slice ad l p := by cases v1 <;> exact ⟨_, _, _, rfl⟩
  refine ⟨if neg then !ad.isNone else ad.isNone, fun K Q hk => ⟨fun _ _ => trivial, ?_⟩⟩
  rw [Oper.semAt_eq _ _ _ hnd]
  have hrun : (execOp a.eval o).run P w = .ok (.value (.bool (if neg then !ad.isNone else ad.isNone))) w := by
    have := run_slnil (P := P) (w := w) (ox := ox) (oy := oy) (ad := ad) (l := l) (p := p) (neg := neg) hu
    simp only [execOp, ho, h3, h4]
    rw [Sem.run_bind, this]
    rfl
  rw [hrun]
  exact hk
end
end Go.Rmp
end

section
namespace Go.Rmp
def RegOk (g : Ctx) (w : World) (n : Nat) (R : Regs) (a : Act) : Prop := a.tmps.size = n ∧ ∀ t, t < n → VR g w (R t) (a.tmps.getD t undef)
def exOf : Exit → Option Ex
  | .normal => some .normal
  | .exit id => some (.exit id)
  | .ret => some .ret
  | _ => none
def Post (w0 : World) (n : Nat) (df : List Deferred) (mk : T) (g : Ctx) (w : World) (H : Heap) (Q : Out → Heap → Prop) : Exit → Act → World → Prop := fun e a' w' =>
  ∃ ex R' g' H', exOf e = some ex ∧ Q (.ex ex R') H' ∧ Le g w g' w' ∧ SR w0 g' H' w' ∧ RegOk g' w' n R' a' ∧ Fr g H g' H' ∧ a'.defers = df ∧ R' n = mk
def CallR (w0 : World) (g : Ctx) (w : World) (H : Heap) (Q : T → Heap → Prop) : Ending → World → Prop := fun e w' =>
  ∃ v t g' H', e = .returned v ∧ Q t H' ∧ Le g w g' w' ∧ SR w0 g' H' w' ∧ VR g' w' t v ∧ Fr g H g' H'
structure EnvOk (P : Program) (E : Env) (w0 : World) : Prop where
  mixed : P.follows .mixedOrders = true
  fn : ∀ f fn, E.fn f = some fn → ∃ an, compFn P an f = some fn
  prim : ∀ f aq H Q, E.prim f aq H Q → ∀ g w args, SR w0 g H w → VRs g w aq args → callable P f = true ∧ CallsIn (Fw none) 0 P f args.toArray w (CallR w0 g w H Q)
inductive MkOk (g : Ctx) : List T → List Deferred → Prop
  | nil : MkOk g [] []
  | cons {b r o q ts df} (h : g.φ b = some (r, o, q)) (hs : MkOk g ts df) : MkOk g (.ptr b 0 :: ts) ({ target := .collected r, args := #[] } :: df)
theorem MkOk.mono {g g' : Ctx} {w w' : World} (le : Le g w g' w') {ts : List T} {df : List Deferred} (h : MkOk g ts df) : MkOk g' ts df := by
  induction h with
  | nil => exact .nil
  | cons h _ ih => exact .cons (le.φ _ _ h) ih
def Mk (g : Ctx) (t : T) (df : List Deferred) : Prop := ∃ ts, t = .tup ts ∧ MkOk g ts df
theorem Mk.mono {g g' : Ctx} {w w' : World} (le : Le g w g' w') {t : T} {df : List Deferred} (h : Mk g t df) : Mk g' t df := let ⟨ts, e, h⟩ := h; ⟨ts, e, h.mono le⟩
def PostC (w0 : World) (n : Nat) (hr : Bool) (df : List Deferred) (mk : T) (g : Ctx) (w : World) (H : Heap) (Q : Out → Heap → Prop) : Exit → Act → World → Prop := fun e a' w' =>
  ∃ ex R' g' H', exOf e = some ex ∧ Q (.ex ex R') H' ∧ Le g w g' w' ∧ SR w0 g' H' w' ∧ RegOk g' w' n R' a' ∧ Fr g H g' H' ∧ (Mk g mk df → Mk g' (R' n) a'.defers) ∧ (hr = false → R' n = mk ∧ a'.defers = df)
def CkAll (P : Program) (g : Ctx) : Prop := ∀ n c k, g.ck n c k ↔ ∃ an, compC P n an false k = some c
theorem CkAll.mono {P : Program} {g g' : Ctx} {w w' : World} (le : Le g w g' w') (h : CkAll P g) : CkAll P g' := fun n c k => by rw [le.ck]; exact h n c k
def LoopIn (F : Fence) (n : Nat) (P : Program) (c : Code) (Q : Exit → Act → World → Prop) (a : Act) (w : World) : Prop :=
  ∀ (b : Frame) (k : List Item) (cs : List Frame), b.roundOf = F.round → F.fn b.fn → F.room (cs.length + 1 + n) →
    ∃ e a' w', Q e a' w' ∧ ArrivesIn (Machine.fenced P F) P (lone (b.atR a (.code c :: .inLoop c :: k)) cs w) b k cs e a' w'
theorem loopIn_turn {F : Fence} {n : Nat} {P : Program} {c : Code} {Q : Exit → Act → World → Prop} {a : Act} {w : World} (h : c.wpIn F n P (Exit.then (LoopIn F n P c Q) Q) a w) : LoopIn F n P c Q a w := by
  intro b k cs hro hb hr
  obtain ⟨e, a₁, w₁, hq, harr⟩ := h b (.inLoop c :: k) cs hro hb hr
  cases e with
  | normal =>
    obtain ⟨e₂, a₂, w₂, hq₂, harr₂⟩ := hq b k cs hro hb hr
    exact ⟨e₂, a₂, w₂, hq₂, .of_steps (StepsIn.trans harr (.one (fenced_calm hb hr rfl) stepR_inLoop)) harr₂⟩
  | exit id => exact ⟨_, a₁, w₁, hq, .pass (x := .inLoop c) rfl (fun _ _ => .inl (by simp)) harr⟩
  | goto l => exact ⟨_, a₁, w₁, hq, .pass (x := .inLoop c) rfl (fun _ _ => .inl (by simp)) harr⟩
  | ret => exact ⟨_, a₁, w₁, hq, .pass (x := .inLoop c) rfl (fun _ _ => .inl (by simp)) harr⟩
  | panic ch => exact ⟨_, a₁, w₁, hq, .pass (x := .inLoop c) rfl (fun _ _ => .inl (by simp)) harr⟩
  | outgrown => exact ⟨_, a₁, w₁, hq, .pass (x := .inLoop c) rfl (fun _ _ => .inl (by simp)) harr⟩
theorem loopIn_wp {F : Fence} {n : Nat} {P : Program} {c : Code} {Q : Exit → Act → World → Prop} {a : Act} {w : World} (h : LoopIn F n P c Q a w) : (Code.loop c).wpIn F n P Q a w :=
  fun b k cs hro hb hr => let ⟨e, a', w', hq, harr⟩ := h b k cs hro hb hr; ⟨e, a', w', hq, .of_steps (.one (fenced_calm hb hr rfl) stepR_loop) harr⟩
section
variable {P : Program} {w0 w ws : World} {g g0 : Ctx} {H H0 H' : Heap} {R : Regs} {a : Act} {n : Nat} {ops : Array Oper} {r : Option Nat} {mu : Bool} {i : Nat} {o : Oper} {st st' : List Rd}
theorem ts_lt {y : O} (hc : compO P n ops mu o st = some y) : ∀ t ∈ tmpsOf o y.op y.g, t < n := by
  obtain ⟨op, gd, _, _, rfl, h, _⟩ := compO_inv hc; exact h
theorem exec_no {d : Option Nat} {op : Op1} {gd : Gd} (ho : ops[i]? = some o) (hc : compO P n ops mu o st = some ⟨d, op, gd, st'⟩) (hn : a.tmps.size = n) (hr : RgOk g w R a (tmpsOf o op gd)) (hw : wants R gd = false)
    {K : Act → World → Prop} {Q : Exit → Act → World → Prop} (hk : K (a.put d undef) w) : wpOpIn (Fw r) 0 P ops Q i K a w := by
  obtain ⟨op', gd', h1, h2, h3, h4, h5⟩ := compO_inv hc
  cases h3
  unfold wpOpIn
  simp only [ho, wanted_eq h2 hn (fun t ht => h4 t (by simp [tmpsOf, ht])) (hr.sub fun t ht => by simp [tmpsOf, ht]), hw]
  exact ⟨fun _ _ => trivial, hk⟩
theorem wp_wanted {d : Option Nat} {op : Op1} {gd : Gd} (ho : ops[i]? = some o) (hc : compO P n ops mu o st = some ⟨d, op, gd, st'⟩) (hn : a.tmps.size = n) (hr : RgOk g w R a (tmpsOf o op gd)) (hw : wants R gd = true)
    {K : Act → World → Prop} {Q : Exit → Act → World → Prop} (hk : o.wpIn (Fw r) 0 P a w K Q) : wpOpIn (Fw r) 0 P ops Q i K a w := by
  obtain ⟨op', gd', h1, h2, h3, h4, h5⟩ := compO_inv hc
  cases h3
  unfold wpOpIn
  simp only [ho, wanted_eq h2 hn (fun t ht => h4 t (by simp [tmpsOf, ht])) (hr.sub fun t ht => by simp [tmpsOf, ht]), hw, if_true]
  exact hk
theorem op_regs {op : Op1} {gd : Gd} (hr : RgOk g w R a (tmpsOf o op gd)) : RgOk g w R a (opTmps o.op.operands.toList) := hr.sub fun t ht => by simp [tmpsOf, ht]
theorem exec_op {d : Option Nat} {b : Bo} {gd : Gd} {t : T} (ho : ops[i]? = some o) (hc : compO P n ops mu o st = some ⟨d, .b b, gd, st'⟩) (hn : a.tmps.size = n) (hr : RgOk g w R a (tmpsOf o (.b b) gd)) (hw : wants R gd = true)
    (h : SR w0 g H w) (he : evop R H b = some (t, H')) :
    ∃ v w' g', (∀ (K : Act → World → Prop) (Q : Exit → Act → World → Prop), K (a.put d v) w' → wpOpIn (Fw r) 0 P ops Q i K a w) ∧ Le g w g' w' ∧ SR w0 g' H' w' ∧ VR g' w' t v ∧ Fr g H g' H' := by
  obtain ⟨op', gd', h1, h2, h3, h4, h5⟩ := compO_inv hc
  cases h3
  obtain ⟨v, w', g', hs, rest⟩ := step_b (r := r) h1 h (op_regs hr) he
  exact ⟨v, w', g', fun K Q hk => wp_wanted ho hc hn hr hw (hs K Q hk), rest⟩
theorem exec_nxt {d : Option Nat} {x : X} {gd : Gd} {b bi : Nat} {es : List (T × T)} {ix : List Nat} {cur : Option Nat} (ho : ops[i]? = some o) (hc : compO P n ops mu o st = some ⟨d, .b (.nxt x), gd, st'⟩) (hn : a.tmps.size = n) (hr : RgOk g w R a (tmpsOf o (.b (.nxt x)) gd)) (hw : wants R gd = true)
    (h : SR w0 g H w) (hx : x.ev R = .ptr bi 0) (hb : H[b]? = some (.rmap es ix bi cur)) :
    ∃ t H' v w' g', NxtTo H b bi es ix t H' ∧ (∀ (K : Act → World → Prop) (Q : Exit → Act → World → Prop), K (a.put d v) w' → wpOpIn (Fw r) 0 P ops Q i K a w) ∧ Le g w g' w' ∧ SR w0 g' H' w' ∧ VR g' w' t v ∧ Fr g H g' H' := by
  obtain ⟨op', gd', h1, h2, h3, h4, h5⟩ := compO_inv hc
  cases h3
  obtain ⟨t, H', v, w', g', hnt, hs, rest⟩ := step_nxt (r := r) h1 h (op_regs hr) hx hb
  exact ⟨t, H', v, w', g', hnt, fun K Q hk => wp_wanted ho hc hn hr hw (hs K Q hk), rest⟩
theorem exec_nils {d : Option Nat} {neg : Bool} {x y : X} {gd : Gd} (ho : ops[i]? = some o) (hc : compO P n ops mu o st = some ⟨d, .b (.eqr neg .slice x y), gd, st'⟩) (hn : a.tmps.size = n) (hr : RgOk g w R a (tmpsOf o (.b (.eqr neg .slice x y)) gd)) (hw : wants R gd = true)
    (hx : x.ev R = .sl .arg []) (hy : y.ev R = .sl .nil []) : ∃ b : Bool, ∀ (K : Act → World → Prop) (Q : Exit → Act → World → Prop), K (a.put d (.bool b)) w → wpOpIn (Fw r) 0 P ops Q i K a w := by
  obtain ⟨op', gd', h1, h2, h3, h4, h5⟩ := compO_inv hc
  cases h3
  obtain ⟨b, hs⟩ := step_nils (r := r) h1 (op_regs hr) hx hy
  exact ⟨b, fun K Q hk => wp_wanted ho hc hn hr hw (hs K Q hk)⟩
theorem exec_call {d : Option Nat} {f : Nat} {aq : List X} {gd : Gd} {M : T → Heap → Prop} (ho : ops[i]? = some o) (hc : compO P n ops mu o st = some ⟨d, .call f aq, gd, st'⟩) (hn : a.tmps.size = n) (hr : RgOk g w R a (tmpsOf o (.call f aq) gd)) (hw : wants R gd = true)
    (ih : ∀ args, VRs g w (aq.map (X.ev R)) args → callable P f = true ∧ CallsIn (Fw none) 0 P f args.toArray w (CallR w0 g w H M)) {K : Act → World → Prop} {Q : Exit → Act → World → Prop}
    (hk : ∀ v w' g' H' t, M t H' → Le g w g' w' → SR w0 g' H' w' → VR g' w' t v → Fr g H g' H' → K (a.put d v) w') : wpOpIn (Fw r) 0 P ops Q i K a w := by
  obtain ⟨op', gd', h1, h2, h3, h4, h5⟩ := compO_inv hc
  cases h3
  obtain ⟨args, hv, hs⟩ := step_call (r := r) h1 (op_regs hr)
  obtain ⟨k1, k2⟩ := ih args hv
  exact wp_wanted ho hc hn hr hw (hs K Q k1 (k2.mono fun e w' ⟨v, t, g', H', he, hM, le, sr, hvr, fr⟩ => ⟨v, he, hk v w' g' H' t hM le sr hvr fr⟩))
theorem exec_callv {d : Option Nat} {x : X} {f : Nat} {cs : List T} {aq : List X} {gd : Gd} {M : T → Heap → Prop} (ho : ops[i]? = some o) (hc : compO P n ops mu o st = some ⟨d, .callv x aq, gd, st'⟩) (hn : a.tmps.size = n) (hr : RgOk g w R a (tmpsOf o (.callv x aq) gd)) (hw : wants R gd = true)
    (hx : x.ev R = .fn f cs) (ih : ∀ args, VRs g w (aq.map (X.ev R) ++ cs) args → callable P f = true ∧ CallsIn (Fw none) 0 P f args.toArray w (CallR w0 g w H M)) {K : Act → World → Prop} {Q : Exit → Act → World → Prop}
    (hk : ∀ v w' g' H' t, M t H' → Le g w g' w' → SR w0 g' H' w' → VR g' w' t v → Fr g H g' H' → K (a.put d v) w') : wpOpIn (Fw r) 0 P ops Q i K a w := by
  obtain ⟨op', gd', h1, h2, h3, h4, h5⟩ := compO_inv hc
  cases h3
  obtain ⟨args, hv, hs⟩ := step_callv (r := r) h1 (op_regs hr) hx
  obtain ⟨k1, k2⟩ := ih args hv
  exact wp_wanted ho hc hn hr hw (hs K Q k1 (k2.mono fun e w' ⟨v, t, g', H', he, hM, le, sr, hvr, fr⟩ => ⟨v, he, hk v w' g' H' t hM le sr hvr fr⟩))
theorem RegOk.put {d : Option Nat} {v : Value} {t : T} {w' : World} {g' : Ctx} (h : RegOk g w n R a) (hd : ∀ e, d = some e → e < n) (le : Le g w g' w') (hv : VR g' w' t v) : RegOk g' w' n (updo R d t) (a.put d v) := by
  refine ⟨by rw [put_size]; exact h.1, fun u hu => ?_⟩
  rw [put_getD _ _ _ _ (by rw [h.1]; exact hd)]
  split
  · rename_i e; rw [e, updo_eq]; exact hv
  · rename_i e; rw [updo_ne e]; exact (h.2 u hu).mono le
theorem RegOk.rg (h : RegOk g w n R a) {ts : List Nat} (ht : ∀ t ∈ ts, t < n) : RgOk g w R a ts := fun t hm => h.2 t (ht t hm)
end
section
variable {P : Program} {n : Nat} {ops : Array Oper} {mu : Nat → Bool} {w0 ws : World} {df : List Deferred} {mk : T} {g0 : Ctx} {H0 : Heap} {pre : List It} {r : Option Nat} {x : It} {o : Oper} {Q : Out → Heap → Prop}
def left (L : Array Bool) : Nat := L.toList.count false
theorem left_set {L : Array Bool} {i : Nat} (hi : i < L.size) (hf : L.getD i false = false) : left (L.setIfInBounds i true) + 1 = left L := by
  unfold left
  rw [Array.toList_setIfInBounds, List.count_set (by simpa using hi)]
  have hg : L.toList[i]'(by simpa using hi) = false := by
    rw [Array.getD_eq_getD_getElem?, Array.getElem?_eq_getElem hi, Option.getD_some] at hf
    simpa using hf
  have hpos : 0 < L.toList.count false := List.count_pos_iff.2 (hg ▸ List.getElem_mem _)
  rw [hg]
  have e1 : ((false == false : Bool) = true) := rfl
  have e2 : ¬ ((true == false : Bool) = true) := by decide
  rw [if_pos e1, if_neg e2]
  omega
theorem left_zero {L : Array Bool} (h : left L = 0) {i : Nat} (hi : i < L.size) : L.getD i false = true := by
  cases e : L.getD i false with
  | true => rfl
  | false => have := left_set hi e; omega
theorem not_ready {L : Array Bool} (hsz : L.size = ops.size) (hed : ∀ i o, ops[i]? = some o → ∀ j ∈ bindsE o, j < i) (h : Region.ready .any ops L = []) : ∀ i, i < ops.size → L.getD i false = true := by
  intro i
  induction i using Nat.strongRecOn with
  | _ i ih =>
    intro hi
    cases e : L.getD i false with
    | true => rfl
    | false =>
      have : i ∈ Region.ready .any ops L := by
        rw [mem_ready]
        refine ⟨?_, ops[i], Array.getElem?_eq_getElem hi, fun ed he hb => ?_⟩
        · have hi' : i < L.size := by omega
          rw [Array.getD_eq_getD_getElem?, Array.getElem?_eq_getElem hi'] at e ⊢; exact e
        · have hj : ed.on ∈ bindsE ops[i] := by simp only [bindsE, List.mem_map, List.mem_filter]; exact ⟨ed, ⟨by simpa using he, hb⟩, rfl⟩
          have := hed i _ (Array.getElem?_eq_getElem hi) _ hj
          exact ih _ this (by omega)
      rw [h] at this; cases this
theorem drawn_end {R : Regs} {H : Heap} (hall : ∀ i, i < ops.size → ∃ y ∈ pre, y.i = i) (hQ : Q (.ex .normal R) H) : ∀ (fuel : Nat) (L : Array Bool) (g : Ctx) (a : Act) (w : World), left L ≤ fuel → Dr P n ops mu w0 df mk g0 ws H0 pre L g R H a w →
    wpAnyIn (Fw r) 0 P .any ops (Post w0 n df mk g0 ws H0 Q) fuel L a w := by
  have fin : ∀ (L : Array Bool) (g : Ctx) (a : Act) (w : World), Dr P n ops mu w0 df mk g0 ws H0 pre L g R H a w → (∀ i, i < ops.size → L.getD i false = true) → Post w0 n df mk g0 ws H0 Q .normal a w := by
    intro L g a w h hl
    refine ⟨.normal, R, g, H, rfl, hQ, h.le, h.sr, ⟨h.tsz, fun t ht => h.regs t ht fun y hy hu => ?_⟩, h.fr, h.dfe, h.mke⟩
    obtain ⟨o, ho, _⟩ := h.cmp y hy
    rw [hl y.i (Array.getElem?_eq_some_iff.1 ho).1] at hu; cases hu
  have hed : ∀ (L : Array Bool) (g : Ctx) (a : Act) (w : World), Dr P n ops mu w0 df mk g0 ws H0 pre L g R H a w → ∀ i o, ops[i]? = some o → ∀ j ∈ bindsE o, j < i := by
    intro L g a w h i o ho
    obtain ⟨y, hy, rfl⟩ := hall i (Array.getElem?_eq_some_iff.1 ho).1
    exact h.edge y hy o ho
  intro fuel
  induction fuel with
  | zero =>
    intro L g a w hL h
    have hl : ∀ i, i < ops.size → L.getD i false = true := fun i hi => left_zero (by omega) (by rw [h.lsz]; exact hi)
    refine ⟨?_, fin L g a w h hl⟩
    refine List.eq_nil_iff_forall_not_mem.2 fun i hi => ?_
    obtain ⟨h1, o, h2, _⟩ := ready_pre hi
    rw [hl i (Array.getElem?_eq_some_iff.1 h2).1] at h1; cases h1
  | succ fuel ih =>
    intro L g a w hL h
    refine ⟨fun hr => fin L g a w h (not_ready h.lsz (hed L g a w h) hr), fun i hi => ?_⟩
    obtain ⟨h1, o, h2, _⟩ := ready_pre hi
    have hlt := (Array.getElem?_eq_some_iff.1 h2).1
    obtain ⟨y, hy, rfl⟩ := hall i hlt
    obtain ⟨v, w', g', hs, hd⟩ := h.late (r := r) hy hi
    have := left_set (by rw [h.lsz]; exact hlt) h1
    exact hs _ _ (ih _ _ _ _ (by omega) hd)
theorem drawn_wait {R : Regs} {H : Heap} {Tl : Regs → Heap → Prop} {Qx : Exit → Act → World → Prop} {l : List It} (hd : Hd P n ops mu pre x o) (hx : x.early = false) (hall : ∀ i, i < ops.size → ∃ y ∈ pre ++ x :: l, y.i = i)
    (hbeh : ∀ y ∈ l, (∃ o, ops[y.i]? = some o ∧ (∀ j ∈ bindsE o, j < y.i)) ∧ ∀ z ∈ pre ++ [x], z.early = true ∨ ((befs ops.toList []).getD y.i 0).testBit z.i = true)
    (hT : ∀ R' H', Tl R' H' → ∀ fuel L' g' a' w', left L' ≤ fuel → Dr P n ops mu w0 df mk g0 ws H0 (pre ++ [x]) L' g' R' H' a' w' → wpAnyIn (Fw r) 0 P .any ops Qx fuel L' a' w')
    (hX : ∀ L g a w, Dr P n ops mu w0 df mk g0 ws H0 pre L g R H a w → (∀ j ∈ bindsE o, L.getD j false = true) → ∀ K : Act → World → Prop,
      (∀ R' H' g' a' w', Tl R' H' → Dr P n ops mu w0 df mk g0 ws H0 (pre ++ [x]) (L.setIfInBounds x.i true) g' R' H' a' w' → K a' w') → wpOpIn (Fw r) 0 P ops Qx x.i K a w) :
    ∀ (fuel : Nat) (L : Array Bool) (g : Ctx) (a : Act) (w : World), left L ≤ fuel → Dr P n ops mu w0 df mk g0 ws H0 pre L g R H a w → wpAnyIn (Fw r) 0 P .any ops Qx fuel L a w := by
  have hxs : x.i < ops.size := (Array.getElem?_eq_some_iff.1 hd.ho).1
  intro fuel
  induction fuel with
  | zero =>
    intro L g a w hL h
    have h1 := h.not_listed hd
    rw [left_zero (by omega) (by rw [h.lsz]; exact hxs)] at h1; cases h1
  | succ fuel ih =>
    intro L g a w hL h
    have hnx := h.not_listed hd
    refine ⟨fun hr => ?_, fun i hi => ?_⟩
    · have hl := not_ready h.lsz (fun i o' ho' j hj => ?_) hr x.i hxs
      · rw [hl] at hnx; cases hnx
      · obtain ⟨y, hy, rfl⟩ := hall i (Array.getElem?_eq_some_iff.1 ho').1
        rcases List.mem_append.1 hy with hy | hy
        · exact h.edge y hy o' ho' j hj
        · rcases List.mem_cons.1 hy with rfl | hy
          · rw [hd.ho] at ho'; cases ho'; exact (hd.pred j hj).1
          · obtain ⟨⟨o2, h2, h3⟩, _⟩ := hbeh y hy
            rw [h2] at ho'; cases ho'; exact h3 j hj
    · obtain ⟨h1, o', h2, h3⟩ := ready_pre hi
      have hlt := (Array.getElem?_eq_some_iff.1 h2).1
      have hcnt := left_set (by rw [h.lsz]; exact hlt) h1
      obtain ⟨y, hy, rfl⟩ := hall i hlt
      rcases List.mem_append.1 hy with hy | hy
      · obtain ⟨v, w', g', hs, hdr⟩ := h.late (r := r) hy hi
        exact hs _ _ (ih _ _ _ _ (by omega) hdr)
      · rcases List.mem_cons.1 hy with rfl | hy
        · rw [hd.ho] at h2; cases h2
          exact hX L g a w h h3 _ fun R' H' g' a' w' ht hdr => hT R' H' ht fuel _ g' a' w' (by omega) hdr
        · obtain ⟨⟨o2, h4, h5⟩, h6⟩ := hbeh y hy
          rw [h2] at h4; cases h4
          rcases h6 x (by simp) with h7 | h7
          · rw [hx] at h7; cases h7
          · have := h.bit h2 (fun j hj => ⟨h5 j hj, h3 j hj⟩) h7
            rw [hnx] at this; cases this
end
end Go.Rmp
end

section
namespace Go.Rmp
def Mot (P : Program) (w0 : World) : J → Heap → (Out → Heap → Prop) → Prop
  | .code c R, H, Q => ∀ (g : Ctx) (w : World) (a : Act) (n : Nat) (an : An) (top : Bool) (code : Code) (r : Option Nat), compC P n an top code = some c → (top = true → r = none) → CkAll P g → SR w0 g H w → RegOk g w n R a →
      code.wpIn (Fw r) 0 P (PostC w0 n c.hasR a.defers (R n) g w H Q) a w ∧ ∀ body, code = .loop body → LoopIn (Fw r) 0 P body (PostC w0 n c.hasR a.defers (R n) g w H Q) a w
  | .ops l R, H, Q => (∀ (g0 : Ctx) (ws : World) (H0 : Heap) (g : Ctx) (w : World) (a : Act) (n : Nat) (ops : Array Oper) (mu : Nat → Bool) (is : List Nat) (r : Option Nat), compSeq P n ops mu is = some l → CkAll P g → SR w0 g H w → RegOk g w n R a →
        Le g0 ws g w → Fr g0 H0 g H → wpOpsIn (Fw r) 0 P ops (Post w0 n a.defers (R n) g0 ws H0 Q) is a w) ∧
      (∀ (n : Nat) (ops : Array Oper) (mu : Nat → Bool) (df : List Deferred) (mk : T) (g0 : Ctx) (ws : World) (H0 : Heap) (pre : List It) (L : Array Bool) (g : Ctx) (a : Act) (w : World) (ord : List (Nat × Bool)) (its : List It) (r : Option Nat) (fuel : Nat),
        CkAll P g → compIts P n ops mu (befs ops.toList []) pre ord = some its → its.map (·.o) = l → Dr P n ops mu w0 df mk g0 ws H0 pre L g R H a w → left L ≤ fuel → wpAnyIn (Fw r) 0 P .any ops (Post w0 n df mk g0 ws H0 Q) fuel L a w)
  | .call f aq, H, Q => ∀ (g : Ctx) (w : World) (args : List Value), CkAll P g → SR w0 g H w → VRs g w aq args → callable P f = true ∧ CallsIn (Fw none) 0 P f args.toArray w (CallR w0 g w H fun v H' => Q (.val v) H')
theorem PostC.trans {w0 w w' : World} {n : Nat} {hr hr' : Bool} {df df' : List Deferred} {mk mk' : T} {g g' : Ctx} {H H' : Heap} {Q : Out → Heap → Prop} (le : Le g w g' w') (fr : Fr g H g' H') (hm : Mk g mk df → Mk g' mk' df') (hh : hr = false → hr' = false ∧ mk' = mk ∧ df' = df)
    {e : Exit} {a : Act} {u : World} (h : PostC w0 n hr' df' mk' g' w' H' Q e a u) : PostC w0 n hr df mk g w H Q e a u := by
  obtain ⟨ex, R', g2, H2, h1, h2, h3, h4, h5, h6, h7, h8⟩ := h
  refine ⟨ex, R', g2, H2, h1, h2, le.trans h3, h4, h5, fr.trans h6, fun m => h7 (hm m), fun e => ?_⟩
  obtain ⟨k1, k2, k3⟩ := hh e
  obtain ⟨k4, k5⟩ := h8 k1
  exact ⟨k4.trans k2, k5.trans k3⟩
theorem Post.toC {w0 w : World} {n : Nat} {hr : Bool} {df : List Deferred} {mk : T} {g : Ctx} {H : Heap} {Q : Out → Heap → Prop} {e : Exit} {a : Act} {u : World} (h : Post w0 n df mk g w H Q e a u) : PostC w0 n hr df mk g w H Q e a u := by
  obtain ⟨ex, R', g2, H2, h1, h2, h3, h4, h5, h6, h7, h8⟩ := h
  exact ⟨ex, R', g2, H2, h1, h2, h3, h4, h5, h6, fun m => by rw [h7, h8]; exact m.mono h3, fun _ => ⟨h8, h7⟩⟩
section
variable {P : Program} {n : Nat} {an : An} {top : Bool} {code : Code}
theorem inv_skip (h : compC P n an top code = some .skip) : code = .skip := by
  cases code <;> (try simp only [compC] at h)
  case region id ops draw => cases draw <;> simp only [compC] at h <;> (repeat' split at h) <;> simp at h
  all_goals first | rfl | (cases h; done) | ((repeat' split at h) <;> simp at h; done) | (simp at h; done)
theorem inv_exit {id : Nat} (h : compC P n an top code = some (.exit id)) : code = .exit id := by
  cases code <;> (try simp only [compC] at h)
  case region id ops draw => cases draw <;> simp only [compC] at h <;> (repeat' split at h) <;> simp at h
  all_goals first | (cases h; rfl) | (cases h; done) | ((repeat' split at h) <;> simp at h; done) | (simp at h; done)
theorem inv_ret (h : compC P n an top code = some .ret) : code = .ret := by
  cases code <;> (try simp only [compC] at h)
  case region id ops draw => cases draw <;> simp only [compC] at h <;> (repeat' split at h) <;> simp at h
  all_goals first | rfl | (cases h; done) | ((repeat' split at h) <;> simp at h; done) | (simp at h; done)
theorem inv_seq {x y : C} (h : compC P n an top code = some (.seq x y)) : ∃ c d, code = .seq c d ∧ compC P n an top c = some x ∧ compC P n an top d = some y := by
  cases code <;> (try simp only [compC] at h)
  case region id ops draw => cases draw <;> simp only [compC] at h <;> (repeat' split at h) <;> simp at h
  case seq c d =>
    split at h
    · rename_i h1 h2; cases h; exact ⟨c, d, rfl, h1, h2⟩
    · cases h
  all_goals first | (cases h; done) | ((repeat' split at h) <;> simp at h; done) | (simp at h; done)
theorem inv_cond {c : X} {x y : C} (h : compC P n an top code = some (.cond c x y)) : ∃ o d e, code = .cond o d e ∧ compX o = some c ∧ compC P n an top d = some x ∧ compC P n an top e = some y ∧ ∀ t, o = .tmp t → t < n := by
  cases code <;> (try simp only [compC] at h)
  case region id ops draw => cases draw <;> simp only [compC] at h <;> (repeat' split at h) <;> simp at h
  case cond o d e =>
    split at h
    · rename_i h1 h2 h3
      cases o with
      | tmp t =>
        simp only [decide_eq_true_eq] at h
        split at h
        · rename_i h4; cases h; exact ⟨_, d, e, rfl, h1, h2, h3, fun t' ht => by cases ht; exact h4⟩
        · cases h
      | _ => simp at h; obtain ⟨rfl, rfl, rfl⟩ := h; exact ⟨_, d, e, rfl, h1, h2, h3, fun t ht => by cases ht⟩
    · cases h
  all_goals first | (cases h; done) | ((repeat' split at h) <;> simp at h; done) | (simp at h; done)
theorem inv_block {id : Nat} {x : C} (h : compC P n an top code = some (.block id x)) : ∃ c, code = .block id c ∧ compC P n an top c = some x := by
  cases code <;> (try simp only [compC] at h)
  case region id ops draw => cases draw <;> simp only [compC] at h <;> (repeat' split at h) <;> simp at h
  case block id' c =>
    simp only [Option.map_eq_some_iff] at h
    obtain ⟨x', h1, h2⟩ := h
    cases h2; exact ⟨c, rfl, h1⟩
  all_goals first | (cases h; done) | ((repeat' split at h) <;> simp at h; done) | (simp at h; done)
theorem inv_loop {x : C} (h : compC P n an top code = some (.loop x)) : ∃ c, code = .loop c ∧ compC P n an top c = some x := by
  cases code <;> (try simp only [compC] at h)
  case region id ops draw => cases draw <;> simp only [compC] at h <;> (repeat' split at h) <;> simp at h
  case loop c =>
    simp only [Option.map_eq_some_iff] at h
    obtain ⟨x', h1, h2⟩ := h
    cases h2; exact ⟨c, rfl, h1⟩
  all_goals first | (cases h; done) | ((repeat' split at h) <;> simp at h; done) | (simp at h; done)
theorem inv_range {m : Nat} {x : X} {ps : List Nat} {y z : C} (h : compC P n an top code = some (.rangeF m x ps y z)) : ∃ g qs c d, code = .rangeFunc g qs c d ∧ compX g = some x ∧ compC P n an false c = some y ∧ compC P n an false d = some z ∧ top = true ∧ (∀ t ∈ regsX x, t < n) ∧ qs.toList = ps ∧ (∀ p ∈ ps, p < n) ∧ m = n := by
  cases code <;> (try simp only [compC] at h)
  case region id ops draw => cases draw <;> simp only [compC] at h <;> (repeat' split at h) <;> simp at h
  case rangeFunc g qs c d =>
    split at h
    · rename_i h1 h2 h3
      split at h
      · rename_i h4
        cases h
        simp only [Bool.and_eq_true, List.all_eq_true, decide_eq_true_eq] at h4
        exact ⟨g, qs, c, d, rfl, h1, h2, h3, h4.1.1, h4.1.2, rfl, h4.2, rfl⟩
      · cases h
    · cases h
  all_goals first | (cases h; done) | ((repeat' split at h) <;> simp at h; done) | (simp at h; done)
theorem inv_ops {l : List O} (h : compC P n an top code = some (.ops l)) : ∃ id ops mu, (code = .region id ops false ∧ compSeq P n ops mu (List.range ops.size) = some l) ∨
    (code = .region id ops true ∧ ∃ ord its, compIts P n ops mu (befs ops.toList []) [] ord = some its ∧ its.map (·.o) = l) := by
  cases code <;> (try simp only [compC] at h)
  case region id ops draw =>
    cases draw <;> simp only [compC] at h
    · simp only [Option.map_eq_some_iff] at h
      obtain ⟨l', h1, h2⟩ := h
      cases h2; exact ⟨id, ops, _, .inl ⟨rfl, h1⟩⟩
    · split at h
      · rename_i ord _
        simp only [Option.map_eq_some_iff] at h
        obtain ⟨its, h1, h2⟩ := h
        cases h2; exact ⟨id, ops, _, .inr ⟨rfl, ord, its, h1, rfl⟩⟩
      · cases h
  all_goals first | (cases h; done) | ((repeat' split at h) <;> simp at h; done) | (simp at h; done)
end
theorem compSeq_cons {P : Program} {n : Nat} {ops : Array Oper} {mu : Nat → Bool} {is : List Nat} {o : O} {l : List O} (h : compSeq P n ops mu is = some (o :: l)) :
    ∃ i is' oper, is = i :: is' ∧ ops[i]? = some oper ∧ compO P n ops (mu i) oper [] = some o ∧ compSeq P n ops mu is' = some l := by
  cases is with
  | nil => simp [compSeq] at h
  | cons i is' =>
    simp only [compSeq] at h
    split at h
    · rename_i oper ho
      split at h
      · rename_i h1 h2; cases h; exact ⟨i, is', oper, rfl, ho, h1, h2⟩
      · cases h
    · cases h
theorem compSeq_nil {P : Program} {n : Nat} {ops : Array Oper} {mu : Nat → Bool} {is : List Nat} (h : compSeq P n ops mu is = some []) : is = [] := by
  cases is with
  | nil => rfl
  | cons i is' =>
    simp only [compSeq] at h
    split at h
    · split at h <;> simp at h
    · cases h
theorem its_cons {P : Program} {n : Nat} {ops : Array Oper} {mu : Nat → Bool} {pre : List It} {ord : List (Nat × Bool)} {its : List It} {o : O} {l : List O} (h : compIts P n ops mu (befs ops.toList []) pre ord = some its) (hm : its.map (·.o) = o :: l) :
    ∃ x l' ord' oper, its = x :: l' ∧ x.o = o ∧ l'.map (·.o) = l ∧ Hd P n ops mu pre x oper ∧ compIts P n ops mu (befs ops.toList []) (pre ++ [x]) ord' = some l' := by
  cases ord with
  | nil =>
    simp only [compIts] at h
    split at h
    · cases h; simp at hm
    · cases h
  | cons y ord' =>
    obtain ⟨x, l', oper, rfl, h1, h2⟩ := compIts_cons h
    simp only [List.map_cons, List.cons.injEq] at hm
    exact ⟨x, l', ord', oper, rfl, hm.1, hm.2, h1, h2⟩
section
variable {P : Program} {n : Nat} {ops : Array Oper} {mu : Nat → Bool} {w0 w ws : World} {df : List Deferred} {mk : T} {g g0 : Ctx} {H H0 H' : Heap} {pre : List It} {L : Array Bool} {R : Regs} {a : Act} {r : Option Nat} {x : It} {o : Oper}
theorem Hd.sub (hd : Hd P n ops mu pre x o) (v : T) : (∀ t ∈ regsG x.o.g, updo R x.o.d v t = R t) ∧ ∀ t ∈ regsO x.o.op, updo R x.o.d v t = R t := by
  obtain ⟨t1, t2, _⟩ := regs_of_tmps hd.ts
  exact ⟨fun t ht => updo_ne fun e => (hd.dst t e).2 (t1 t ht), fun t ht => updo_ne fun e => (hd.dst t e).2 (t2 t ht)⟩
theorem Dr.take_no (h : Dr P n ops mu w0 df mk g0 ws H0 pre L g R H a w) (hd : Hd P n ops mu pre x o) (he : x.early = true) (hw : wants R x.o.g = false) : Dr P n ops mu w0 df mk g0 ws H0 (pre ++ [x]) L g (updo R x.o.d undefT) H a w := by
  refine h.take hd he (.inl ⟨?_, fun d e => by rw [e, updo_eq]⟩) (.inl rfl) fun k hk => ?_
  · rw [wants_congr (R' := R) (hd.sub undefT).1]; exact hw
  · unfold mkOf at hk
    split at hk
    · rename_i e _; rw [e, updo_eq] at hk; cases hk
    · rename_i e _; rw [e, updo_eq] at hk; cases hk
    · cases hk
theorem Dr.take_op {b : Bo} {v : T} (h : Dr P n ops mu w0 df mk g0 ws H0 pre L g R H a w) (hd : Hd P n ops mu pre x o) (he : x.early = true) (hb : x.o.op = .b b) (hw : wants R x.o.g = true) (hv : evop R H b = some (v, H')) :
    Dr P n ops mu w0 df mk g0 ws H0 (pre ++ [x]) L g (updo R x.o.d v) H' a w := by
  obtain ⟨k1, k2⟩ := hd.kl he
  cases hdd : x.o.d with
  | none => exact absurd (by simp [klO, hb, hdd]) k1
  | some d =>
    have hkl : klO x.o = klB b := by simp [klO, hb, hdd]
    rw [hkl] at k1 k2
    have hw' : wants (updo R x.o.d v) x.o.g = true := by rw [wants_congr (R' := R) (hd.sub v).1]; exact hw
    have hev : ∀ H2, evop (updo R x.o.d v) H2 b = evop R H2 b := fun H2 => evop_congr fun t ht => (hd.sub v).2 t (by rw [hb]; exact ht)
    have hdv : updo R x.o.d v d = v := by rw [hdd, updo_eq]
    rw [← hdd]
    have hq : (klB b = .pure ∨ klB b = .read) → H' = H → Dr P n ops mu w0 df mk g0 ws H0 (pre ++ [x]) L g (updo R x.o.d v) H' a w := by
      rintro hk rfl
      refine h.take hd he (.inr ⟨hw', d, b, hdd, hb, .inl ⟨hk, by rw [hev, hdv]; exact hv⟩⟩) (.inl rfl) fun k hm => ?_
      unfold mkOf at hm
      rw [hb] at hm
      split at hm
      · rename_i h1; cases h1; simp [klB] at hk
      · rename_i h1; cases h1; simp [klB] at hk
      · cases hm
    cases hk : klB b with
    | eff => exact absurd hk k1
    | pure => exact hq (.inl hk) (evop_pure hk hv).1
    | read => exact hq (.inr hk) (evop_read hk hv).1
    | make =>
      have hln : H0.length ≤ H.length := h.fr.1
      cases b <;> simp only [klB] at hk <;> (try (cases hk; done))
      case eqr => split at hk <;> cases hk
      case alloc z =>
        simp only [evop, Option.some.injEq, Prod.mk.injEq] at hv
        obtain ⟨rfl, rfl⟩ := hv
        refine h.take hd he (.inr ⟨hw', d, _, hdd, hb, .inr (.inl ⟨H.length, z, rfl, hdv, get_tail _ _, h.sr.noφ (Nat.le_refl _), hln⟩)⟩) (.inr ⟨_, rfl, .inl ⟨_, rfl⟩⟩) fun k hm => ?_
        simp only [mkOf, hdd, hb, updo_eq, blkOf, Option.some.injEq] at hm
        omega
      case mkm =>
        simp only [evop, Option.some.injEq, Prod.mk.injEq] at hv
        obtain ⟨rfl, rfl⟩ := hv
        refine h.take hd he (.inr ⟨hw', d, _, hdd, hb, .inr (.inr ⟨H.length, rfl, hdv, get_tail _ _, h.sr.noφ (Nat.le_refl _), hln⟩)⟩) (.inr ⟨_, rfl, .inr ⟨_, rfl⟩⟩) fun k hm => ?_
        simp only [mkOf, hdd, hb, updo_eq, blkOf, Option.some.injEq] at hm
        omega
theorem Dr.ready_regs (h : Dr P n ops mu w0 df mk g0 ws H0 pre L g R H a w) (hd : Hd P n ops mu pre x o) (hp : ∀ j ∈ bindsE o, L.getD j false = true) : RgOk g w R a (tmpsOf o x.o.op x.o.g) :=
  h.look hd.ho (fun j hj => ⟨(hd.pred j hj).1, hp j hj⟩) (ts_lt hd.co) fun z hz _ d hzd ht => hd.rdz z hz d hzd (by rw [hd.ts]; exact ht)
theorem Dr.stays (h : Dr P n ops mu w0 df mk g0 ws H0 pre L g R H a w) (hd : Hd P n ops mu pre x o) (he : x.early = false) (hp : ∀ j ∈ bindsE o, L.getD j false = true) (hs : stable R H' x.o.stab) :
    ∀ y ∈ pre, L.getD y.i false = false → ∀ d b, wants R y.o.g = true → y.o.d = some d → y.o.op = .b b → klB b = .read → evop R H b = some (R d, H) → evop R H' b = some (R d, H') := by
  intro y hy hu d b hw hyd hyb hk _
  have hey : y.early = true := by cases e : y.early with | true => rfl | false => rw [h.effl y hy e] at hu; cases hu
  have hbit : ((befs ops.toList []).getD x.i 0).testBit y.i = false := by
    cases e : ((befs ops.toList []).getD x.i 0).testBit y.i with
    | false => rfl
    | true => rw [h.bit hd.ho (fun j hj => ⟨(hd.pred j hj).1, hp j hj⟩) e] at hu; cases hu
  have hm := stabOf_mem pre hy hey hyd hyb hk hbit
  rw [← hd.st he] at hm
  exact hs _ hm hw
end
end Go.Rmp
end

section
namespace Go.Rmp
theorem setps_ok {g : Ctx} {w : World} {n : Nat} : ∀ (ps : List Nat) (vs : List T) (us : List Value) (R : Regs) (tmps : Array Value), VRs g w vs us → vs.length = ps.length → tmps.size = n → (∀ t, t < n → VR g w (R t) (tmps.getD t undef)) → (∀ p ∈ ps, p < n) →
    ((ps.zip us).foldl (fun tmps (t, a) => tmps.setIfInBounds t a) tmps).size = n ∧ ∀ t, t < n → VR g w (setps R ps vs t) (((ps.zip us).foldl (fun tmps (t, a) => tmps.setIfInBounds t a) tmps).getD t undef)
  | [], vs, us, R, tmps, hv, hl, hn, hr, _ => by
    cases vs with
    | nil => exact ⟨by simpa using hn, by simpa [setps] using hr⟩
    | cons _ _ => simp at hl
  | p :: ps, [], us, R, tmps, hv, hl, hn, hr, _ => by simp at hl
  | p :: ps, v :: vs, [], R, tmps, hv, hl, hn, hr, _ => by have := hv.1; simp at this
  | p :: ps, v :: vs, u :: us, R, tmps, hv, hl, hn, hr, hp => by
    simp only [List.zip_cons_cons, List.foldl_cons, setps]
    refine setps_ok ps vs us (upd R p v) (tmps.setIfInBounds p u) hv.tail (by simpa using hl) (by simpa using hn) (fun t ht => ?_) (fun q hq => hp q (by simp [hq]))
    have hpl : p < tmps.size := by rw [hn]; exact hp p (by simp)
    by_cases e : p = t
    · subst e; simp only [upd, if_true]; rw [Array.getD_eq_getD_getElem?]; simp [hpl]; exact hv.head
    · simp only [upd]; rw [if_neg (Ne.symm e), Array.getD_eq_getD_getElem?, Array.getElem?_setIfInBounds_ne e, ← Array.getD_eq_getD_getElem?]; exact hr t ht
section
variable {P : Program} {w0 w ws : World} {g g0 : Ctx} {H H0 H' : Heap} {R : Regs} {a : Act} {n : Nat} {ops : Array Oper} {r : Option Nat} {mu : Bool} {i : Nat} {o : Oper} {st st' : List Rd}
theorem pendK_ex {e : Ex} (h : e ≠ .normal) : (∃ id, e = .exit id ∧ pendK (some e) = some (.exit id)) ∨ (e = .ret ∧ pendK (some e) = some .ret) := by
  cases e with
  | normal => exact absurd rfl h
  | exit id => exact .inl ⟨id, rfl, rfl⟩
  | ret => exact .inr ⟨rfl, rfl⟩
theorem exec_yld {d : Option Nat} {x : X} {aq : List X} {gd : Gd} {b m : Nat} {R0 : Regs} {ps : List Nat} {asg body : C} {M1 M : Out → Heap → Prop} (ho : ops[i]? = some o) (hc : compO P n ops mu o st = some ⟨d, .callv x aq, gd, st'⟩) (hn : a.tmps.size = n) (hr : RgOk g w R a (tmpsOf o (.callv x aq) gd)) (hw : wants R gd = true)
    (hx : x.ev R = .yld b) (hb : H[b]? = some (.loop .ready none m R0 ps asg body)) (hlen : aq.length = ps.length) (ck : CkAll P g) (sr : SR w0 g H w)
    (ih1 : Mot P w0 (.code asg (setps R0 ps (aq.map (X.ev R)))) H M1) (h1' : ∀ o H', M1 o H' → (∃ R1, o = .ex .normal R1) ∧ H'[b]? = some (.loop .ready none m R0 ps asg body))
    (ih2 : ∀ R1 H1, M1 (.ex .normal R1) H1 → Mot P w0 (.code body R1) (H1.set b (.loop .busy none m R0 ps asg body)) M) (h2' : ∀ o H', M o H' → H'[b]? = some (.loop .busy none m R0 ps asg body))
    {K : Act → World → Prop} {Q : Exit → Act → World → Prop}
    (hk : ∀ v w' g' H' t, ((∃ R' H2, M (.ex .normal R') H2 ∧ t = .bool true ∧ H' = H2.set b (.loop .ready none m R0 ps asg body)) ∨ (∃ e R' H2, M (.ex e R') H2 ∧ e ≠ .normal ∧ t = .bool false ∧ H' = H2.set b (.loop .done (some e) m R0 ps asg body))) →
      Le g w g' w' → SR w0 g' H' w' → VR g' w' t v → Fr g H g' H' → K (a.put d v) w') : wpOpIn (Fw r) 0 P ops Q i K a w := by
  obtain ⟨op', gd', h1, h2, h3, h4, h5⟩ := compO_inv hc
  cases h3
  refine wp_wanted ho hc hn hr hw ⟨fun _ _ => trivial, ?_⟩
  have hnd := not_defer h1
  obtain ⟨t, args, tys, rfl, hop, h6⟩ := compOp1_callv h1 (by rintro rfl; cases hx)
  have hrg := op_regs hr
  have hv := compXs_ok (ρ := a.eval) args.toList aq h6 (rv_of (hrg.sub fun t ht => by
    simp only [opTmps, List.mem_filterMap] at ht ⊢
    obtain ⟨x, hx, e⟩ := ht
    exact ⟨x, by rw [hop]; simp only [Op.operands, Call.operands]; simp at hx; simp [hx], e⟩))
  have hf := hrg t (by rw [hop]; simp only [opTmps, List.mem_filterMap]; exact ⟨.tmp t, by simp [Op.operands, Call.operands], rfl⟩)
  simp only [X.ev] at hx
  rw [hx] at hf
  generalize hv' : a.tmps.getD t undef = vf at hf
  cases hf with
  | @yld _ l o' q' hφ =>
    obtain ⟨k1, rec, k2, k3, k4, k5, k6, k7, k8, k9, k10⟩ := sr.blk b _ hb l o' q' hφ
    rw [Oper.semAt_eq _ _ _ hnd]
    have hsz : (args.toList.map a.eval).toArray.size = rec.params.size := by
      have := hv.1; simp at this
      have e2 : rec.params.size = ps.length := by rw [← k5]; simp
      simp [e2, ← hlen, this]
    have hrun : (execOp a.eval o).run P w = .ok (.round l rec.fn ((rec.params.zip (args.toList.map a.eval).toArray).foldl (fun tmps (t, a) => tmps.setIfInBounds t a) rec.tmps) rec.assign rec.body) w := by
      have hy := run_yield (P := P) (args := (args.toList.map a.eval).toArray) k2 hsz
      have e2 : (args.toList.map a.eval).toArray = args.map a.eval := by rw [← Array.toList_map]
      rw [e2] at hy ⊢
      have e : a.eval (.tmp t) = .func (.yield l) #[] #[] := hv'
      simp only [execOp, hop, resolve, e, Deferred.ofValue, invoke]
      simpa using hy
    rw [hrun, Oper.uponIn_round]
    refine ⟨fun h => by simp [Fw] at h, roundIn_of_wpIn trivial ?_⟩
    have hts : (rec.params.zip (args.toList.map a.eval).toArray).foldl (fun tmps (t, a) => tmps.setIfInBounds t a) rec.tmps = (ps.zip (args.toList.map a.eval)).foldl (fun tmps (t, a) => tmps.setIfInBounds t a) rec.tmps := by
      rw [← Array.foldl_toList, Array.toList_zip, k5]
    rw [hts]
    have hset := setps_ok ps (aq.map (X.ev R)) (args.toList.map a.eval) R0 rec.tmps hv (by simpa using hlen) k6 k7 k8
    obtain ⟨an1, hc1⟩ := (ck _ _ _).1 k9
    obtain ⟨an2, hc2⟩ := (ck _ _ _).1 k10
    refine wpIn_mono (ih1 g w { tmps := (ps.zip (args.toList.map a.eval)).foldl (fun tmps (t, a) => tmps.setIfInBounds t a) rec.tmps, defers := [] } m an1 false rec.assign (some l) hc1 (by simp) ck sr hset).1 fun e a1 w1 hp => ?_
    obtain ⟨ex, R1, g1, H1, e1, hm, le1, sr1, hr1, fr1, -, -⟩ := hp
    obtain ⟨⟨R1', hR1⟩, hb1⟩ := h1' _ _ hm
    cases hR1
    cases e <;> simp only [exOf, Option.some.injEq, reduceCtorEq] at e1
    have hφ1 := le1.φ _ _ hφ
    obtain ⟨j1, rec1, j2, j3, j4, j5, j6, j7, j8, j9, j10⟩ := sr1.blk b _ hb1 l o' q' hφ1
    refine ⟨_, run_beginRound j2 j3, ?_⟩
    obtain ⟨le2, sr2, fr2⟩ := sr1.setblk (y' := .loop .busy none m R0 ps asg body) (x' := .loop { rec1 with state := .busy }) hb1 hφ1 j1 j2 rfl rfl (fun w' le hw' r o q hq => by
      rw [hφ1] at hq; cases hq
      exact ⟨j1, _, hw', rfl, j4, j5, j6, fun t ht => (j7 t ht).mono le, j8, j9, j10⟩)
    refine wpIn_mono (ih2 _ _ hm g1 _ a1 m an2 false rec.body (some l) hc2 (by simp) (ck.mono le1) sr2 ⟨hr1.1, fun t ht => (hr1.2 t ht).mono le2⟩).1 fun e2 a2 w3 hp2 => ?_
    obtain ⟨ex2, R2, g2, H2, e3, hm2, le3, sr3, hr3, fr3, -, -⟩ := hp2
    have hb2 := h2' _ _ hm2
    have hφ2 := le3.φ _ _ hφ1
    obtain ⟨i1, rec2, i2, i3, i4, i5, i6, i7, i8, i9, i10⟩ := sr3.blk b _ hb2 l o' q' hφ2
    have fin : ∀ (jump : Option Code) (st : LSt) (pe : Option Ex) (v : Bool), pendK pe = jump → st.real = (if jump.isNone then .ready else .done) → v = jump.isNone →
        ((v = true ∧ ex2 = .normal ∧ st = .ready ∧ pe = none) ∨ (v = false ∧ ex2 ≠ .normal ∧ st = .done ∧ pe = some ex2)) →
        ∃ v' w', (Instr.endRound l jump).run P w3 = .ok v' w' ∧ K (a.put o.dst v') w' := by
      intro jump st pe v q1 q2 q3 q4
      obtain ⟨le4, sr4, fr4⟩ := sr3.setblk (y' := .loop st pe m R0 ps asg body) (x' := .loop { rec2 with state := if jump.isNone then .ready else .done, pending := jump }) hb2 hφ2 i1 i2 rfl rfl (fun w' le hw' r o q hq => by
        rw [hφ2] at hq; cases hq
        exact ⟨i1, _, hw', q2.symm, q1.symm, i5, i6, fun t ht => (i7 t ht).mono le, i8, i9, i10⟩)
      refine ⟨_, _, run_endRound jump i2, ?_⟩
      refine hk _ _ g2 (H2.set b (.loop st pe m R0 ps asg body)) (.bool v) ?_ (((le1.trans le2).trans le3).trans le4) sr4 (by rw [← q3]; exact .bool v) (((fr1.trans fr2).trans fr3).trans fr4)
      rcases q4 with ⟨rfl, rfl, rfl, rfl⟩ | ⟨rfl, hne, rfl, rfl⟩
      · exact .inl ⟨R2, H2, hm2, rfl, rfl⟩
      · exact .inr ⟨ex2, R2, H2, hm2, hne, rfl, rfl⟩
    cases e2 <;> simp only [exOf, Option.some.injEq, reduceCtorEq] at e3 <;> subst e3
    case normal => exact fin none .ready none true rfl rfl rfl (.inl ⟨rfl, rfl, rfl, rfl⟩)
    case exit id => exact fin (some (.exit id)) .done (some (.exit id)) false rfl rfl rfl (.inr ⟨rfl, by simp, rfl, rfl⟩)
    case ret => exact fin (some .ret) .done (some .ret) false rfl rfl rfl (.inr ⟨rfl, by simp, rfl, rfl⟩)
end
theorem leaves_marks {P : Program} {w0 : World} {F : Func} {n : Nat} {t0 : T} {res : List Rs} : ∀ (ts : List T) (df : List Deferred) (bs : List Nat) (g : Ctx) (H : Heap) (w : World) (R : Regs) (a : Act) (Rr : Ending → World → Prop),
    MkOk g ts df → marksL ts = some bs → bs.Nodup → (∀ b ∈ bs, H[b]? = some .dfr) → SR w0 g H w → RegOk g w n R a →
    (∀ w' v, Le g w g w' → SR w0 g (kill H bs) w' → RegOk g w' n R a → Fr g H g (kill H bs) → (results F a.tmps).run P w' = .ok v w' → VR g w' t0 v → Rr (.returned v) w') →
    resT R (kill H bs) res = some t0 → (∀ (g : Ctx) (w : World) (H : Heap), SR w0 g H w → RegOk g w n R a → resT R H res = some t0 → ∃ v, (results F a.tmps).run P w = .ok v w ∧ VR g w t0 v) →
    LeavesInM (Fw none) 0 P F a.tmps Rr df .returning w := by
  intro ts
  induction ts with
  | nil =>
    intro df bs g H w R a Rr hm hb _ _ sr hr hk hres hrun
    cases hm
    simp only [marksL, Option.some.injEq] at hb; subst hb
    obtain ⟨v, h1, h2⟩ := hrun g w H sr hr hres
    exact ⟨v, h1, hk w v (.refl _ _) sr hr (.refl _ _) h1 h2⟩
  | cons t ts ih =>
    intro df bs g H w R a Rr hm hb hnd hdfr sr hr hk hres hrun
    cases hm with
    | @cons b r o q _ df hφ hms =>
      simp only [marksL, markOf] at hb
      split at hb
      · rename_i b' bs' e1 e2
        cases e1
        cases hb
        have hdb := hdfr b (by simp)
        obtain ⟨k1, k2⟩ := sr.blk b _ hdb r o q hφ
        obtain ⟨le, sr', fr'⟩ := sr.setblk (y' := .dead) (x' := .deferred none) hdb hφ k1 k2 rfl rfl (fun _ _ _ => trivial)
        refine ⟨by simp, .inl ⟨r, _, rfl, run_takeDeferred k2, ?_⟩⟩
        simp only [List.nodup_cons] at hnd
        refine ih df bs' g (H.set b .dead) _ R a Rr hms e2 hnd.2 (fun c hc => ?_) sr' ⟨hr.1, fun t ht => (hr.2 t ht).mono le⟩ (fun w' v le2 sr2 hr2 fr2 => hk w' v (le.trans le2) sr2 hr2 (fr'.trans fr2)) hres hrun
        exact set_ne (hdfr c (by simp [hc])) (by rintro rfl; exact hnd.1 hc)
      · cases hb
end Go.Rmp
end

section
namespace Go.Rmp
section
variable {P : Program} {w0 w ws : World} {g g0 : Ctx} {H H0 H' : Heap} {R : Regs} {a : Act} {n : Nat} {ops : Array Oper} {r : Option Nat} {mu : Bool} {i : Nat} {o : Oper} {st st' : List Rd}
theorem exec_aps {d : Option Nat} {nn bytes t b len : Nat} {yy : X} {cs : List T} {gd : Gd} {v : T} (ho : ops[i]? = some o) (hc : compO P n ops mu o st = some ⟨d, .b (.app nn bytes false (.r t) yy), gd, st'⟩) (hn : a.tmps.size = n) (hr : RgOk g w R a (tmpsOf o (.b (.app nn bytes false (.r t) yy)) gd)) (hw : wants R gd = true)
    (h : SR w0 g H w) (ht : R t = .msl b 0 len nn) (hb : H[b]? = some (.cells cs)) (hlen : len * nn = cs.length) (h0 : 0 < len)
    (he : evop (upd R t (.sl (.own H.length len) (frzE cs 0 len nn))) (H.set b (.fz cs) ++ [.tok len]) (.app nn bytes false (.r t) yy) = some (v, H')) :
    ∃ u w' g', (∀ (K : Act → World → Prop) (Q : Exit → Act → World → Prop), K (a.put d u) w' → wpOpIn (Fw r) 0 P ops Q i K a w) ∧ Le g w g' w' ∧ SR w0 g' H' w' ∧ VR g' w' v u ∧ Fr g H g' H' := by
  have hm := hr t (by simp [tmpsOf, regsO, regsB, regsX])
  rw [ht] at hm
  obtain ⟨g4, le4, sr4, fr4, hvr4⟩ := h.freezeT hb hm hlen h0
  have hr' : RgOk g4 w (upd R t (.sl (.own H.length len) (frzE cs 0 len nn))) a (tmpsOf o (.b (.app nn bytes false (.r t) yy)) gd) := fun u hu => by
    by_cases e : u = t
    · subst e
      simp only [upd, if_pos rfl]
      exact hvr4 _ hm
    · simp only [upd, if_neg e]
      exact (hr u hu).mono le4
  have hw' : wants (upd R t (.sl (.own H.length len) (frzE cs 0 len nn))) gd = true := by
    cases gd with
    | none => rfl
    | some p =>
      obtain ⟨u, c⟩ := p
      by_cases e : u = t
      · subst e
        simp [wants, ht] at hw
      · simpa only [wants, upd, if_neg e] using hw
  obtain ⟨u, w', g', k1, le, sr, hv, fr⟩ := exec_op (r := r) ho hc hn hr' hw' sr4 he
  exact ⟨u, w', g', k1, le4.trans le, sr, hv, fr4.trans fr⟩
end
def resFn (tmps : Array Value) : ResultVar → Sem Value
  | .tmp t => pure (tmps.getD t undef)
  | .cell a t => do loadVar t (← asAddr (tmps.getD a undef))
theorem run_results {P : Program} {w0 : World} {g : Ctx} {w : World} {H : Heap} {R : Regs} {a : Act} {n : Nat} (sr : SR w0 g H w) : ∀ (l : List ResultVar) (res : List Rs) (ts : List T), resOf P l = some res → resL R H res = some ts → (∀ t ∈ res, rsLt n t = true) → RegOk g w n R a →
    ∃ vs : List Value, (l.mapM (resFn a.tmps)).run P w = .ok vs w ∧ VRs g w ts vs
  | [], res, ts, h, ht, _, _ => by simp [resOf] at h; subst h; simp [resL] at ht; subst ht; exact ⟨[], by simp, VRs.nil⟩
  | .tmp t :: l, res, ts, h, ht, hn, hr => by
    simp only [resOf, Option.map_eq_some_iff] at h
    obtain ⟨res', h1, rfl⟩ := h
    simp only [resL, resV] at ht
    split at ht
    · rename_i v vs hv hvs
      cases ht; cases hv
      obtain ⟨us, h2, h3⟩ := run_results (P := P) sr l res' vs h1 hvs (fun t ht => hn t (by simp [ht])) hr
      exact ⟨a.tmps.getD t undef :: us, by rw [List.mapM_cons]; simp only [Sem.run_bind, resFn, Sem.run_pure, Result.andThen_ok, h2], VRs.cons (hr.2 t (by simpa [rsLt] using hn (.t t) (by simp))) h3⟩
    · cases ht
  | .cell c t :: l, res, ts, h, ht, hn, hr => by
    simp only [resOf] at h
    split at h
    · rename_i d i hu hi
      simp only [Option.map_eq_some_iff] at h
      obtain ⟨res', h1, rfl⟩ := h
      simp only [resL] at ht
      split at ht
      · rename_i v vs hv hvs
        cases ht
        obtain ⟨us, h2, h3⟩ := run_results (P := P) sr l res' vs h1 hvs (fun t ht => hn t (by simp [ht])) hr
        simp only [resV] at hv
        split at hv
        · rename_i cs hcs
          have hc := hr.2 c (by simpa [rsLt] using hn (.cl c (if isAggD d = true then i.size else 1) (isAggD d)) (by simp))
          obtain ⟨u, w', g', hrun, hw, hvr, hg⟩ := ld_same (P := P) hu hi rfl (fun e => by rw [if_pos e]) sr hc hcs hv
          subst hw; subst hg
          obtain ⟨r, o, us0, hp, _⟩ := ldc_ok sr hc hcs
          have hrun2 : (resFn a.tmps (.cell c t)).run P w' = .ok u w' := by
            rw [← hrun, hp]
            have e : resFn a.tmps (.cell c t) = (asAddr (a.tmps.getD c undef) >>= fun x => loadVar t x) := rfl
            rw [e, hp]
            simp only [asAddr, Instr.loadAt, Instr.sureAddr, Sem.run_bind, Sem.run_pure, Result.andThen_ok]
          exact ⟨u :: us, by rw [List.mapM_cons]; simp only [Sem.run_bind, hrun2, Result.andThen_ok, h2, Sem.run_pure], VRs.cons hvr h3⟩
        · cases hv
      · cases ht
    · cases h
theorem results_ok {P : Program} {fn : Func} {w0 : World} {g : Ctx} {w : World} {H : Heap} {R : Regs} {a : Act} {n : Nat} {res : List Rs} {t : T} (sr : SR w0 g H w) (h : resOf P fn.results.toList = some res) (hn : ∀ t ∈ res, rsLt n t = true) (hr : RegOk g w n R a) (ht : resT R H res = some t) : ∃ v, (results fn a.tmps).run P w = .ok v w ∧ VR g w t v := by
  simp only [resT, Option.map_eq_some_iff] at ht
  obtain ⟨ts, ht, rfl⟩ := ht
  obtain ⟨vs, h1, h2⟩ := run_results (P := P) sr fn.results.toList res ts h ht hn hr
  have hl : ts.length = vs.length := h2.1
  have e : results fn a.tmps = (fn.results.mapM (resFn a.tmps) >>= fun vs => pure (if h : vs.size = 1 then vs[0] else .tuple vs)) := rfl
  refine ⟨if h : vs.toArray.size = 1 then vs.toArray[0] else .tuple vs.toArray, ?_, ?_⟩
  · rw [e, Array.mapM_eq_mapM_toList]
    simp only [Sem.run_bind, Sem.run_map, map_eq_pure_bind, h1, Result.andThen_ok, Sem.run_pure]
  · match ts, vs, hl, h2 with
    | [], [], _, _ => exact .tup rfl (by simp)
    | [t], [v], _, h2 => simpa [tupT] using h2.head
    | t :: t' :: ts, v :: v' :: vs, _, h2 =>
      have : ¬ (v :: v' :: vs).toArray.size = 1 := by simp
      rw [dif_neg this]
      simpa [tupT] using h2.tup
theorem compO_dn {P : Program} {n : Nat} {ops : Array Oper} {mu : Bool} {o : Oper} {st : List Rd} {y : O} (h : compO P n ops mu o st = some y) : y.d ≠ some n := by
  obtain ⟨_, _, _, _, e, _, h5⟩ := compO_inv h
  subst e
  exact fun e => Nat.lt_irrefl n (h5 n e)
theorem ckd {P : Program} {n : Nat} {ops : Array Oper} {mu : Nat → Bool} {w0 w ws w' : World} {df : List Deferred} {mk : T} {g g0 g' : Ctx} {H H0 H' : Heap} {pre pre' : List It} {L L' : Array Bool} {R R' : Regs} {a a' : Act}
    (h : Dr P n ops mu w0 df mk g0 ws H0 pre L g R H a w) (h' : Dr P n ops mu w0 df mk g0 ws H0 pre' L' g' R' H' a' w') (ck : CkAll P g) : CkAll P g' := fun n c k => by rw [h'.le.ck, ← h.le.ck]; exact ck n c k
theorem compFn_inv {P : Program} {an : An} {f : FuncId} {fn : Fn} (hfn : compFn P an f = some fn) : ∃ F code res body, P.funcs[f]? = some F ∧ F.body = some code ∧ resOf P F.results.toList = some res ∧ compC P F.ntmps an true code = some body ∧
    callable P f = true ∧ F.params.size + F.nfree ≤ F.ntmps ∧ (∀ t ∈ res, rsLt F.ntmps t = true) ∧ fn = ⟨F.ntmps, F.params.size + F.nfree, res, body⟩ := by
  unfold compFn at hfn
  cases hF : P.funcs[f]? with
  | none => simp [hF] at hfn
  | some F =>
    simp only [hF] at hfn
    split at hfn
    · rename_i code res hb hres
      split at hfn
      · rename_i c hcc
        split at hfn
        · rename_i hk
          simp only [Bool.and_eq_true, decide_eq_true_eq, List.all_eq_true] at hk
          obtain ⟨⟨hcal, hsz⟩, hlt⟩ := hk
          cases hfn
          exact ⟨F, code, res, c, rfl, hb, hres, hcc, hcal, hsz, hlt, rfl⟩
        · cases hfn
      · cases hfn
    · cases hfn
theorem enter_regs {F : Func} {g : Ctx} {w : World} {aq : List T} {args : List Value} (hv : VRs g w aq args) {k : Nat} (hn : aq.length = k) (hsz : k ≤ F.ntmps) :
    RegOk g w F.ntmps (regs0 aq) { tmps := args.toArray ++ Array.replicate (F.ntmps - args.toArray.size) undef, defers := [] } := by
  have hal : args.length = aq.length := hv.1.symm
  refine ⟨by simp [hal, hn]; omega, fun t ht => ?_⟩
  by_cases hta : t < aq.length
  · simp only [regs0]
    rw [List.getD_eq_getElem?_getD, List.getElem?_eq_getElem hta, Option.getD_some]
    rw [Array.getD_eq_getD_getElem?, Array.getElem?_append_left (by simpa [hal] using hta)]
    simp only [List.getElem?_toArray, List.getElem?_eq_getElem (hal ▸ hta : t < args.length), Option.getD_some]
    exact hv.2 t _ _ (List.getElem?_eq_getElem hta) (List.getElem?_eq_getElem _)
  · simp only [regs0]
    rw [List.getD_eq_getElem?_getD, List.getElem?_eq_none (by omega), Option.getD_none]
    rw [Array.getD_eq_getD_getElem?, Array.getElem?_append_right (by simp [hal]; omega), Array.getElem?_replicate]
    split <;> exact undef_vr
theorem PostC.weak {w0 w : World} {n : Nat} {hr hr' : Bool} {df : List Deferred} {mk : T} {g : Ctx} {H : Heap} {Q : Out → Heap → Prop} (hh : hr = false → hr' = false) {e : Exit} {a : Act} {u : World} (h : PostC w0 n hr' df mk g w H Q e a u) : PostC w0 n hr df mk g w H Q e a u :=
  h.trans (.refl _ _) (.refl _ _) id fun e => ⟨hh e, rfl, rfl⟩
theorem W.sim {P : Program} {E : Env} {w0 : World} (hE : EnvOk P E w0) {j : J} {H : Heap} {Q : Out → Heap → Prop} (h : W E j H Q) : Mot P w0 j H Q := by
  induction h with
  | @skip R H Q h =>
    intro g w a n an top code r hc ht ck sr hr
    obtain rfl := inv_skip hc
    exact ⟨wpIn_skip ⟨.normal, R, g, H, rfl, h, .refl _ _, sr, hr, .refl _ _, id, fun _ => ⟨rfl, rfl⟩⟩, by rintro _ ⟨⟩⟩
  | @exit id R H Q h =>
    intro g w a n an top code r hc ht ck sr hr
    obtain rfl := inv_exit hc
    exact ⟨wpIn_exit ⟨.exit id, R, g, H, rfl, h, .refl _ _, sr, hr, .refl _ _, fun m => m, fun _ => ⟨rfl, rfl⟩⟩, by rintro _ ⟨⟩⟩
  | @ret R H Q h =>
    intro g w a n an top code r hc ht ck sr hr
    obtain rfl := inv_ret hc
    exact ⟨wpIn_ret ⟨.ret, R, g, H, rfl, h, .refl _ _, sr, hr, .refl _ _, id, fun _ => ⟨rfl, rfl⟩⟩, by rintro _ ⟨⟩⟩
  | @reg l R H Q _ ih =>
    intro g w a n an top code r hc ht ck sr hr
    obtain ⟨id, ops, mu, ⟨rfl, h1⟩ | ⟨rfl, ord, its, h1, h2⟩⟩ := inv_ops hc
    · exact ⟨wpIn_mono (wpIn_region (ih.1 g w H g w a n ops mu _ r h1 ck sr hr (.refl _ _) (.refl _ _))) fun e a w hp => hp.toC, by rintro _ ⟨⟩⟩
    · refine ⟨wpIn_mono (wpIn_region_any (Q := Post w0 n a.defers (R n) g w H Q) hE.mixed ?_) fun e a w hp => hp.toC, by rintro _ ⟨⟩⟩
      obtain ⟨sr', le⟩ := sr.drew (w' := { w with drawn := w.drawn + 1 }) (Tr.drew w) rfl
      have hd := Dr.init (ops := ops) (mu := mu) (P := P) (mk := R n) sr' hr.1 rfl (fun t ht => (hr.2 t ht).mono le) le (.refl g H)
      refine ih.2 n ops mu a.defers (R n) g w H [] _ g a _ ord its r ops.size ck h1 h2 hd ?_
      exact Nat.le_trans (List.count_le_length) (by simp)
  | @seq x y R H Q M _ h2 h3 ih1 ih2 =>
    intro g w a n an top code r hc ht ck sr hr
    obtain ⟨c, d, rfl, k1, k2⟩ := inv_seq hc
    refine ⟨wpIn_seq (wpIn_mono (ih1 g w a n an top c r k1 ht ck sr hr).1 fun e a' w' hp => ?_), by rintro _ ⟨⟩⟩
    have hb : (C.seq x y).hasR = false → x.hasR = false ∧ y.hasR = false := by simp [C.hasR]
    obtain ⟨ex, R', g', H', e1, hm, le, sr', hr', fr, hmk, hdf⟩ := hp
    cases e <;> simp only [exOf, Option.some.injEq, reduceCtorEq] at e1 <;> subst e1
    case normal =>
      exact wpIn_mono (ih2 R' H' hm g' w' a' n an top d r k2 ht (ck.mono le) sr' hr').1 fun e a2 w2 hp => hp.trans le fr hmk fun e => ⟨(hb e).2, hdf (hb e).1⟩
    case exit id => exact ⟨_, R', g', H', rfl, h3 _ _ hm (by simp), le, sr', hr', fr, hmk, fun e => hdf (hb e).1⟩
    case ret => exact ⟨_, R', g', H', rfl, h3 _ _ hm (by simp), le, sr', hr', fr, hmk, fun e => hdf (hb e).1⟩
  | @cond x c d R H Q t hx _ ih =>
    intro g w a n an top code r hc ht ck sr hr
    obtain ⟨o, d', e', rfl, k1, k2, k3, k4⟩ := inv_cond hc
    refine ⟨wpIn_cond (t := t) ?_ ?_, by rintro _ ⟨⟩⟩
    · have hv : VR g w (.bool t) (a.eval o) := by
        cases o with
        | tmp u => simp only [compX, Option.some.injEq] at k1; subst k1; simp only [X.ev] at hx; rw [← hx]; exact hr.2 u (k4 u rfl)
        | const v =>
          simp only [compX, Option.map_eq_some_iff] at k1
          obtain ⟨u, h1, rfl⟩ := k1
          simp only [X.ev] at hx; subst hx
          exact constT_ok h1
        | «global» _ => simp [compX] at k1
        | func f => simp only [compX, Option.some.injEq] at k1; subst k1; simp [X.ev] at hx
      generalize a.eval o = v at hv
      cases hv; rfl
    · cases t
      · exact wpIn_mono (ih g w a n an top e' r k3 ht ck sr hr).1 fun e a w hp => hp.weak (by simp [C.hasR])
      · exact wpIn_mono (ih g w a n an top d' r k2 ht ck sr hr).1 fun e a w hp => hp.weak (by simp [C.hasR]; intro h _; exact h)
  | @block id x R H Q M _ h2 h3 ih =>
    intro g w a n an top code r hc ht ck sr hr
    obtain ⟨c, rfl, k1⟩ := inv_block hc
    refine ⟨wpIn_block (wpIn_mono (ih g w a n an top c r k1 ht ck sr hr).1 fun e a' w' hp => ?_), by rintro _ ⟨⟩⟩
    obtain ⟨ex, R', g', H', e1, hm, le, sr', hr', fr, hdf⟩ := hp
    cases e <;> simp only [exOf, Option.some.injEq, reduceCtorEq] at e1 <;> subst e1
    case normal => exact ⟨_, R', g', H', rfl, h3 _ _ hm (by simp), le, sr', hr', fr, hdf⟩
    case exit id' =>
      simp only [Exit.inBlock]
      split
      · rename_i e; subst e; exact ⟨_, R', g', H', rfl, h2 _ _ hm, le, sr', hr', fr, hdf⟩
      · rename_i e; exact ⟨_, R', g', H', rfl, h3 _ _ hm (fun R2 e2 => by cases e2; exact e rfl), le, sr', hr', fr, hdf⟩
    case ret => exact ⟨_, R', g', H', rfl, h3 _ _ hm (by simp), le, sr', hr', fr, hdf⟩
  | @loop x R H Q M _ h2 h3 ih1 ih2 =>
    intro g w a n an top code r hc ht ck sr hr
    obtain ⟨c, rfl, k1⟩ := inv_loop hc
    have key : LoopIn (Fw r) 0 P c (PostC w0 n x.loop.hasR a.defers (R n) g w H Q) a w := by
      refine loopIn_turn (wpIn_mono (ih1 g w a n an top c r k1 ht ck sr hr).1 fun e a' w' hp => ?_)
      obtain ⟨ex, R', g', H', e1, hm, le, sr', hr', fr, hmk, hdf⟩ := hp
      cases e <;> simp only [exOf, Option.some.injEq, reduceCtorEq] at e1 <;> subst e1
      case normal =>
        have := (ih2 R' H' hm g' w' a' n an top (.loop c) r hc ht (ck.mono le) sr' hr').2 c rfl
        intro b k cs h1 h2 h4
        obtain ⟨e, a2, w2, hq, harr⟩ := this b k cs h1 h2 h4
        exact ⟨e, a2, w2, hq.trans le fr hmk fun e => ⟨e, hdf e⟩, harr⟩
      case exit id => exact ⟨_, R', g', H', rfl, h3 _ _ hm (by simp), le, sr', hr', fr, hmk, hdf⟩
      case ret => exact ⟨_, R', g', H', rfl, h3 _ _ hm (by simp), le, sr', hr', fr, hmk, hdf⟩
    exact ⟨loopIn_wp key, fun body e => by cases e; exact key⟩
  | @rangeF m x ps asg body R H Q f cs M hx _ h2 ih =>
    intro g w a n an top code r hc ht ck sr hr
    obtain ⟨gop, qs, c, d, rfl, k1, k2, k3, k4, k5, rfl, k7, rfl⟩ := inv_range hc
    obtain rfl := ht k4
    refine ⟨wpIn_rangeFunc fun fn _ => ?_, by rintro _ ⟨⟩⟩
    have hv : VR g w (.fn f cs) (a.eval gop) := by
      cases gop with
      | tmp u => simp only [compX, Option.some.injEq] at k1; subst k1; simp only [X.ev] at hx; rw [← hx]; exact hr.2 u (k5 u (by simp [regsX]))
      | const v =>
        simp only [compX, Option.map_eq_some_iff] at k1
        obtain ⟨u, h1, rfl⟩ := k1
        simp only [X.ev] at hx; subst hx
        exact constT_ok h1
      | «global» _ => simp [compX] at k1
      | func f' => simp only [compX, Option.some.injEq] at k1; subst k1; simp only [X.ev] at hx; cases hx; exact .fn rfl (by simp)
    generalize hgv : a.eval gop = vf at hv
    cases hv with
    | @fn _ _ vs hl hcs =>
      obtain ⟨g1, le1, sr1, fr1, hφ1⟩ := sr.newblk (x := .deferred (some [])) (y := .dfr) rfl (fun g' w' _ q1 q2 q3 r o q hq => by rw [q2] at hq; cases hq; exact ⟨q1, q3⟩)
      have hsz : (w.alloc (.deferred (some []))).heap.size = w.heap.size + 1 := by simp
      obtain ⟨g2, le2, sr2, fr2, hφ2⟩ := sr1.newblk (x := .loop { state := .ready, pending := none, fn, tmps := a.tmps, params := qs, assign := c, body := d, defers := w.heap.size }) (y := .loop .ready none m R qs.toList asg body) rfl
        (fun g' w' le q1 q2 q3 r o q hq => by
          rw [q2] at hq; cases hq
          refine ⟨q1, _, q3, rfl, rfl, rfl, hr.1, fun t ht => ((hr.2 t ht).mono le1).mono le, k7, ?_, ?_⟩
          · rw [le.ck, le1.ck]; exact (ck _ _ _).2 ⟨an, k2⟩
          · rw [le.ck, le1.ck]; exact (ck _ _ _).2 ⟨an, k3⟩)
      rw [hsz] at hφ2
      have hlen : (H ++ [B.dfr]).length = H.length + 1 := by simp
      rw [hlen] at hφ2
      have happ : H ++ [B.dfr] ++ [B.loop .ready none m R qs.toList asg body] = H ++ [.dfr, .loop .ready none m R qs.toList asg body] := by simp
      rw [happ] at sr2 fr2
      have le12 := le1.trans le2
      have hargs : VRs g2 ((w.alloc (.deferred (some []))).alloc (.loop { state := .ready, pending := none, fn, tmps := a.tmps, params := qs, assign := c, body := d, defers := w.heap.size })) (.yld (H.length + 1) :: cs) (.func (.yield (w.heap.size + 1)) #[] #[] :: vs.toList) :=
        VRs.cons (.yld hφ2) ⟨by simp [hl], fun i t v ha hb => (hcs i t v ha (by simpa using hb)).mono le12⟩
      obtain ⟨hcal, hcalls⟩ := ih g2 _ _ (ck.mono le12) sr2 hargs
      refine ⟨w.heap.size + 1, [{ target := .collected w.heap.size, args := #[] }], ((w.alloc (.deferred (some []))).alloc (.loop { state := .ready, pending := none, fn, tmps := a.tmps, params := qs, assign := c, body := d, defers := w.heap.size })), { target := .fn (.func f) vs, args := #[.func (.yield (w.heap.size + 1)) #[] #[]] }, ((w.alloc (.deferred (some []))).alloc (.loop { state := .ready, pending := none, fn, tmps := a.tmps, params := qs, assign := c, body := d, defers := w.heap.size })), f, #[.func (.yield (w.heap.size + 1)) #[] #[]] ++ vs, ((w.alloc (.deferred (some []))).alloc (.loop { state := .ready, pending := none, fn, tmps := a.tmps, params := qs, assign := c, body := d, defers := w.heap.size })), run_enterLoop_outer _ _ _ _ _, ?_, fun _ _ => trivial, ?_, fun h => by simp [Fw] at h, ?_⟩
      · simp only [resolve, hgv, Deferred.ofValue]
        simp [Act.eval]
      · exact run_callFunc hcal
      · have e3 : (.func (.yield (w.heap.size + 1)) #[] #[] :: vs.toList : List Value).toArray = #[.func (.yield (w.heap.size + 1)) #[] #[]] ++ vs := by simp
        rw [e3] at hcalls
        refine hcalls.mono fun e w3 ⟨v, t, g3, H3, he, hM, le3, sr3, _, fr3⟩ => ?_
        subst he
        obtain ⟨st, pend, hst, hpn, hb3, hQ⟩ := h2 _ _ hM
        have hφ3 := le3.φ _ _ hφ2
        obtain ⟨j1, rec, j2, j3, j4, j5, j6, j7, j8, j9, j10⟩ := sr3.blk _ _ hb3 _ _ _ hφ3
        obtain ⟨le4, sr4, fr4⟩ := sr3.setblk (y' := .dead) (x' := .loop { rec with state := .exhausted }) hb3 hφ3 j1 j2 rfl rfl (fun _ _ _ => trivial)
        refine ⟨_, _, run_endLoop j2 (by rw [j3]; cases st <;> simp [LSt.real] at hst ⊢), ?_⟩
        generalize w3.putObj (w.heap.size + 1) (.loop { rec with state := .exhausted }) = W4 at le4 sr4 ⊢
        rw [j4]
        have hLe := (le12.trans le3).trans le4
        have hFr : Fr g H g3 (H3.set (H.length + 1) .dead) := by
          have := (fr1.trans fr2).trans (fr3.trans fr4)
          exact this
        have post : ∀ e, exOf e = some (pendEx pend) → PostC w0 m (C.rangeF m x qs.toList asg body).hasR a.defers (R m) g w H Q e { a with defers := [{ target := .collected w.heap.size, args := #[] }] ++ a.defers } W4 := by
          intro e he
          refine ⟨_, _, g3, _, he, hQ, hLe, sr4, ⟨hr.1, fun t ht => ?_⟩, hFr, fun hm => ?_, fun h => by simp [C.hasR] at h⟩
          · simp only [upd]; rw [if_neg (Nat.ne_of_lt ht)]; exact (hr.2 t ht).mono hLe
          · obtain ⟨ts, e1, e2⟩ := hm
            refine ⟨.ptr H.length 0 :: ts, by simp [upd, e1, pushMark], .cons (((le2.trans le3).trans le4).φ _ _ hφ1) (e2.mono hLe)⟩
        cases hp : pend with
        | none => simp only [pendK]; exact post .normal (by rw [hp]; rfl)
        | some e =>
          rcases pendK_ex (e := e) (by rintro rfl; exact hpn hp) with ⟨id, rfl, e5⟩ | ⟨rfl, e5⟩
          · simp only [e5]; exact wpIn_exit (post (.exit id) (by rw [hp]; rfl))
          · simp only [e5]; exact wpIn_ret (post .ret (by rw [hp]; rfl))
  | @nil R H Q h =>
    refine ⟨fun g0 ws H0 g w a n ops mu is r hc ck sr hr le fr => ?_, fun n ops mu df mk g0 ws H0 pre L g a w ord its r fuel ck h1 h2 hd hl => ?_⟩
    · obtain rfl := compSeq_nil hc
      exact ⟨.normal, R, g, H, rfl, h, le, sr, hr, fr, rfl, rfl⟩
    · have hall := compIts_all ord pre its h1
      cases its with
      | cons _ _ => simp at h2
      | nil => exact drawn_end (by simpa using hall) h fuel L g a w hl hd
  | @no o l R H Q hg _ ih =>
    refine ⟨fun g0 ws H0 g w a n ops mu is r hc ck sr hr le fr => ?_, fun n ops mu df mk g0 ws H0 pre L g a w ord its r fuel ck h1 h2 hd hl => ?_⟩
    · obtain ⟨i, is', oper, rfl, ho, hco, hrest⟩ := compSeq_cons hc
      rw [wpOpsIn_cons]
      refine exec_no ho hco hr.1 (hr.rg (ts_lt hco)) hg ?_
      have := ih.1 g0 ws H0 g w (a.put o.d undef) n ops mu is' r hrest ck sr (hr.put (by obtain ⟨_, _, _, _, e, _, h5⟩ := compO_inv hco; rw [e]; exact h5) (.refl _ _) undef_vr) le fr
      rwa [put_df, updo_ne (compO_dn hco)] at this
    · obtain ⟨x, l', ord', oper, rfl, rfl, h3, hh, h4⟩ := its_cons h1 h2
      cases he : x.early with
      | true => exact ih.2 n ops mu df mk g0 ws H0 _ L g a w ord' l' r fuel ck h4 h3 (hd.take_no hh he hg) hl
      | false =>
        refine drawn_wait (Tl := fun R' H' => R' = updo R x.o.d undefT ∧ H' = H) hh he (compIts_all ord pre _ h1) (compIts_beh ord' _ l' h4) ?_ ?_ fuel L g a w hl hd
        · rintro R' H' ⟨rfl, rfl⟩ fuel L' g' a' w' hL hd'
          exact ih.2 n ops mu df mk g0 ws H0 _ L' g' a' w' ord' l' r fuel (ckd hd hd' ck) h4 h3 hd' hL
        · intro L g a w hd hp K hK
          exact exec_no hh.ho hh.co hd.tsz (hd.ready_regs hh hp) hg (hK _ _ g _ w ⟨rfl, rfl⟩ (hd.both hh he hp (.refl _ _) hd.sr undef_vr (.refl _ _) fun _ _ _ _ _ _ _ _ _ e => e))
  | @op d b gd s l R H Q v H' hg hv hs _ ih =>
    refine ⟨fun g0 ws H0 g w a n ops mu is r hc ck sr hr le fr => ?_, fun n ops mu df mk g0 ws H0 pre L g a w ord its r fuel ck h1 h2 hd hl => ?_⟩
    · obtain ⟨i, is', oper, rfl, ho, hco, hrest⟩ := compSeq_cons hc
      rw [wpOpsIn_cons]
      obtain ⟨u, w', g', hstep, le', sr', hvr, fr'⟩ := exec_op (r := r) ho hco hr.1 (hr.rg (ts_lt hco)) hg sr hv
      refine hstep _ _ ?_
      have := ih.1 g0 ws H0 g' w' (a.put d u) n ops mu is' r hrest (ck.mono le') sr' (hr.put (by obtain ⟨_, _, _, _, e, _, h5⟩ := compO_inv hco; cases e; exact h5) le' hvr) (le.trans le') (fr.trans fr')
      rwa [put_df, updo_ne (compO_dn hco)] at this
    · obtain ⟨x, l', ord', oper, rfl, hxo, h3, hh, h4⟩ := its_cons h1 h2
      have hxd : x.o.d = d := by rw [hxo]
      cases he : x.early with
      | true =>
        have := hd.take_op hh he (b := b) (by rw [hxo]) (by rw [hxo]; exact hg) hv
        rw [hxd] at this
        exact ih.2 n ops mu df mk g0 ws H0 _ L g a w ord' l' r fuel ck h4 h3 this hl
      | false =>
        refine drawn_wait (Tl := fun R' H2 => R' = updo R d v ∧ H2 = H') hh he (compIts_all ord pre _ h1) (compIts_beh ord' _ l' h4) ?_ ?_ fuel L g a w hl hd
        · rintro R' H' ⟨rfl, rfl⟩ fuel L' g' a' w' hL hd'
          exact ih.2 n ops mu df mk g0 ws H0 _ L' g' a' w' ord' l' r fuel (ckd hd hd' ck) h4 h3 hd' hL
        · intro L2 g2 a2 w2 hd2 hp K hK
          have ck2 : CkAll P g2 := ckd hd hd2 ck
          have hco := hh.co
          have hrg := hd2.ready_regs hh hp
          have hst := hd2.stays hh he hp (H' := H') (by rw [hxo]; exact hs)
          rw [hxo] at hco hrg
          obtain ⟨u, w', g', hstep, le', sr', hvr, fr'⟩ := exec_op (r := r) hh.ho hco hd2.tsz hrg hg hd2.sr hv
          refine hstep _ _ (hK _ _ g' _ w' ⟨rfl, rfl⟩ ?_)
          have := hd2.both hh he hp le' sr' hvr fr' hst
          rwa [hxd] at this
  | @aps d nn bytes yy gd s l R H Q b len cs v H' t hg ht hb hlen h0 hv hs _ ih =>
    refine ⟨fun g0 ws H0 g w a n ops mu is r hc ck sr hr le fr => ?_, fun n ops mu df mk g0 ws H0 pre L g a w ord its r fuel ck h1 h2 hd hl => ?_⟩
    · obtain ⟨i, is', oper, rfl, ho, hco, hrest⟩ := compSeq_cons hc
      rw [wpOpsIn_cons]
      obtain ⟨u, w', g', hstep, le', sr', hvr, fr'⟩ := exec_aps (r := r) ho hco hr.1 (hr.rg (ts_lt hco)) hg sr ht hb hlen h0 hv
      refine hstep _ _ ?_
      have := ih.1 g0 ws H0 g' w' (a.put d u) n ops mu is' r hrest (ck.mono le') sr' (hr.put (by obtain ⟨_, _, _, _, e, _, h5⟩ := compO_inv hco; cases e; exact h5) le' hvr) (le.trans le') (fr.trans fr')
      rwa [put_df, updo_ne (compO_dn hco)] at this
    · obtain ⟨x, l', ord', oper, rfl, hxo, h3, hh, h4⟩ := its_cons h1 h2
      have hxd : x.o.d = d := by rw [hxo]
      cases he : x.early with
      | true =>
        have := (hh.kl he).1
        rw [hxo] at this
        exact absurd (by cases d <;> rfl) this
      | false =>
        refine drawn_wait (Tl := fun R' H2 => R' = updo R d v ∧ H2 = H') hh he (compIts_all ord pre _ h1) (compIts_beh ord' _ l' h4) ?_ ?_ fuel L g a w hl hd
        · rintro R' H' ⟨rfl, rfl⟩ fuel L' g' a' w' hL hd'
          exact ih.2 n ops mu df mk g0 ws H0 _ L' g' a' w' ord' l' r fuel (ckd hd hd' ck) h4 h3 hd' hL
        · intro L2 g2 a2 w2 hd2 hp K hK
          have ck2 : CkAll P g2 := ckd hd hd2 ck
          have hco := hh.co
          have hrg := hd2.ready_regs hh hp
          have hst := hd2.stays hh he hp (H' := H') (by rw [hxo]; exact hs)
          rw [hxo] at hco hrg
          obtain ⟨u, w', g', hstep, le', sr', hvr, fr'⟩ := exec_aps (r := r) hh.ho hco hd2.tsz hrg hg hd2.sr ht hb hlen h0 hv
          refine hstep _ _ (hK _ _ g' _ w' ⟨rfl, rfl⟩ ?_)
          have := hd2.both hh he hp le' sr' hvr fr' hst
          rwa [hxd] at this
  | @call d f aq gd s l R H Q M hg _ hs h2 ih1 ih2 =>
    refine ⟨fun g0 ws H0 g w a n ops mu is r hc ck sr hr le fr => ?_, fun n ops mu df mk g0 ws H0 pre L g a w ord its r fuel ck h1 h2 hd hl => ?_⟩
    · obtain ⟨i, is', oper, rfl, ho, hco, hrest⟩ := compSeq_cons hc
      rw [wpOpsIn_cons]
      refine exec_call (r := r) ho hco hr.1 (hr.rg (ts_lt hco)) hg (fun args hv => ih1 g w args ck sr hv) fun u w' g' H' t hM le' sr' hvr fr' => ?_
      have := (ih2 t H' hM).1 g0 ws H0 g' w' (a.put d u) n ops mu is' r hrest (ck.mono le') sr' (hr.put (by obtain ⟨_, _, _, _, e, _, h5⟩ := compO_inv hco; cases e; exact h5) le' hvr) (le.trans le') (fr.trans fr')
      rwa [put_df, updo_ne (compO_dn hco)] at this
    · obtain ⟨x, l', ord', oper, rfl, hxo, h3, hh, h4⟩ := its_cons h1 h2
      have hxd : x.o.d = d := by rw [hxo]
      cases he : x.early with
      | true => exact absurd (by rw [hxo]; rfl) (hh.kl he).1
      | false =>
        refine drawn_wait (Tl := fun R' H2 => ∃ v, M (.val v) H2 ∧ R' = updo R d v) hh he (compIts_all ord pre _ h1) (compIts_beh ord' _ l' h4) ?_ ?_ fuel L g a w hl hd
        · rintro R' H' ⟨v, hM, rfl⟩ fuel L' g' a' w' hL hd'
          exact (ih2 v H' hM).2 n ops mu df mk g0 ws H0 _ L' g' a' w' ord' l' r fuel (ckd hd hd' ck) h4 h3 hd' hL
        · intro L2 g2 a2 w2 hd2 hp K hK
          have ck2 : CkAll P g2 := ckd hd hd2 ck
          have hco := hh.co
          have hrg := hd2.ready_regs hh hp
          rw [hxo] at hco hrg
          refine exec_call (r := r) hh.ho hco hd2.tsz hrg hg (fun args hv => ih1 g2 w2 args ck2 hd2.sr hv) fun u w' g' H' t hM le' sr' hvr fr' => hK _ H' g' _ w' ⟨t, hM, rfl⟩ ?_
          have hst := hd2.stays hh he hp (H' := H') (by rw [hxo]; exact hs t H' hM)
          have := hd2.both hh he hp le' sr' hvr fr' hst
          rwa [hxd] at this
  | @callv d xx f cs aq gd s l R H Q M hg hf _ hs h2 ih1 ih2 =>
    refine ⟨fun g0 ws H0 g w a n ops mu is r hc ck sr hr le fr => ?_, fun n ops mu df mk g0 ws H0 pre L g a w ord its r fuel ck h1 h2 hd hl => ?_⟩
    · obtain ⟨i, is', oper, rfl, ho, hco, hrest⟩ := compSeq_cons hc
      rw [wpOpsIn_cons]
      refine exec_callv (r := r) ho hco hr.1 (hr.rg (ts_lt hco)) hg hf (fun args hv => ih1 g w args ck sr hv) fun u w' g' H' t hM le' sr' hvr fr' => ?_
      have := (ih2 t H' hM).1 g0 ws H0 g' w' (a.put d u) n ops mu is' r hrest (ck.mono le') sr' (hr.put (by obtain ⟨_, _, _, _, e, _, h5⟩ := compO_inv hco; cases e; exact h5) le' hvr) (le.trans le') (fr.trans fr')
      rwa [put_df, updo_ne (compO_dn hco)] at this
    · obtain ⟨x, l', ord', oper, rfl, hxo, h3, hh, h4⟩ := its_cons h1 h2
      have hxd : x.o.d = d := by rw [hxo]
      cases he : x.early with
      | true => exact absurd (by rw [hxo]; rfl) (hh.kl he).1
      | false =>
        refine drawn_wait (Tl := fun R' H2 => ∃ v, M (.val v) H2 ∧ R' = updo R d v) hh he (compIts_all ord pre _ h1) (compIts_beh ord' _ l' h4) ?_ ?_ fuel L g a w hl hd
        · rintro R' H' ⟨v, hM, rfl⟩ fuel L' g' a' w' hL hd'
          exact (ih2 v H' hM).2 n ops mu df mk g0 ws H0 _ L' g' a' w' ord' l' r fuel (ckd hd hd' ck) h4 h3 hd' hL
        · intro L2 g2 a2 w2 hd2 hp K hK
          have ck2 : CkAll P g2 := ckd hd hd2 ck
          have hco := hh.co
          have hrg := hd2.ready_regs hh hp
          rw [hxo] at hco hrg
          refine exec_callv (r := r) hh.ho hco hd2.tsz hrg hg hf (fun args hv => ih1 g2 w2 args ck2 hd2.sr hv) fun u w' g' H' t hM le' sr' hvr fr' => hK _ H' g' _ w' ⟨t, hM, rfl⟩ ?_
          have hst := hd2.stays hh he hp (H' := H') (by rw [hxo]; exact hs t H' hM)
          have := hd2.both hh he hp le' sr' hvr fr' hst
          rwa [hxd] at this
  | @yld d xx b aq gd s l R H Q m R0 ps asg body M1 M hg hf hb hn _ h1' _ h2' hs3 _ hs4 _ ih1 ih2 ih3 ih4 =>
    refine ⟨fun g0 ws H0 g w a n ops mu is r hc ck sr hr le fr => ?_, fun n ops mu df mk g0 ws H0 pre L g a w ord its r fuel ck h1 h2 hd hl => ?_⟩
    · obtain ⟨i, is', oper, rfl, ho, hco, hrest⟩ := compSeq_cons hc
      rw [wpOpsIn_cons]
      refine exec_yld (r := r) ho hco hr.1 (hr.rg (ts_lt hco)) hg hf hb hn ck sr ih1 h1' ih2 h2' fun u w' g' H' t hout le' sr' hvr fr' => ?_
      have hput := hr.put (d := d) (by obtain ⟨_, _, _, _, e, _, h5⟩ := compO_inv hco; cases e; exact h5) le' hvr
      rcases hout with ⟨R', H2, hM, rfl, rfl⟩ | ⟨e, R', H2, hM, hne, rfl, rfl⟩
      · have := (ih3 R' H2 hM).1 g0 ws H0 g' w' (a.put d u) n ops mu is' r hrest (ck.mono le') sr' hput (le.trans le') (fr.trans fr')
        rwa [put_df, updo_ne (compO_dn hco)] at this
      · have := (ih4 e R' H2 hM hne).1 g0 ws H0 g' w' (a.put d u) n ops mu is' r hrest (ck.mono le') sr' hput (le.trans le') (fr.trans fr')
        rwa [put_df, updo_ne (compO_dn hco)] at this
    · obtain ⟨x, l', ord', oper, rfl, hxo, h3, hh, h4⟩ := its_cons h1 h2
      have hxd : x.o.d = d := by rw [hxo]
      cases he : x.early with
      | true => exact absurd (by rw [hxo]; rfl) (hh.kl he).1
      | false =>
        refine drawn_wait (Tl := fun R' H' => (∃ R2 H2, M (.ex .normal R2) H2 ∧ R' = updo R d (.bool true) ∧ H' = H2.set b (.loop .ready none m R0 ps asg body)) ∨ (∃ e R2 H2, M (.ex e R2) H2 ∧ e ≠ .normal ∧ R' = updo R d (.bool false) ∧ H' = H2.set b (.loop .done (some e) m R0 ps asg body)))
          hh he (compIts_all ord pre _ h1) (compIts_beh ord' _ l' h4) ?_ ?_ fuel L g a w hl hd
        · rintro R' H' (⟨R2, H2, hM, rfl, rfl⟩ | ⟨e, R2, H2, hM, hne, rfl, rfl⟩) fuel L' g' a' w' hL hd'
          · exact (ih3 R2 H2 hM).2 n ops mu df mk g0 ws H0 _ L' g' a' w' ord' l' r fuel (ckd hd hd' ck) h4 h3 hd' hL
          · exact (ih4 e R2 H2 hM hne).2 n ops mu df mk g0 ws H0 _ L' g' a' w' ord' l' r fuel (ckd hd hd' ck) h4 h3 hd' hL
        · intro L2 g2 a2 w2 hd2 hp K hK
          have ck2 : CkAll P g2 := ckd hd hd2 ck
          have hco := hh.co
          have hrg := hd2.ready_regs hh hp
          rw [hxo] at hco hrg
          refine exec_yld (r := r) hh.ho hco hd2.tsz hrg hg hf hb hn ck2 hd2.sr ih1 h1' ih2 h2' fun u w' g' H' t hout le' sr' hvr fr' => ?_
          have hb2 : ∀ (hs : stable R H' s), Dr P n ops mu w0 df mk g0 ws H0 (pre ++ [x]) (L2.setIfInBounds x.i true) g' (updo R d t) H' (a2.put d u) w' := fun hs => by
            have hst := hd2.stays hh he hp (H' := H') (by rw [hxo]; exact hs)
            have := hd2.both hh he hp le' sr' hvr fr' hst
            rwa [hxd] at this
          rcases hout with ⟨R', H2, hM, rfl, rfl⟩ | ⟨e, R', H2, hM, hne, rfl, rfl⟩
          · exact hK _ _ g' _ w' (.inl ⟨R', H2, hM, rfl, rfl⟩) (hb2 (hs3 R' H2 hM))
          · exact hK _ _ g' _ w' (.inr ⟨e, R', H2, hM, hne, rfl, rfl⟩) (hb2 (hs4 e R' H2 hM hne))
  | @nils d neg c xx yy s l R H Q hs _ hx hy hc ih =>
    subst hc
    subst hs
    refine ⟨fun g0 ws H0 g w a n ops mu is r hc ck sr hr le fr => ?_, fun n ops mu df mk g0 ws H0 pre L g a w ord its r fuel ck h1 h2 hd hl => ?_⟩
    · obtain ⟨i, is', oper, rfl, ho, hco, hrest⟩ := compSeq_cons hc
      rw [wpOpsIn_cons]
      obtain ⟨b, hstep⟩ := exec_nils (r := r) ho hco hr.1 (hr.rg (ts_lt hco)) rfl hx hy
      refine hstep _ _ ?_
      have := (ih b).1 g0 ws H0 g w (a.put d (.bool b)) n ops mu is' r hrest ck sr (hr.put (by obtain ⟨_, _, _, _, e, _, h5⟩ := compO_inv hco; cases e; exact h5) (.refl _ _) (.bool b)) le fr
      rwa [put_df, updo_ne (compO_dn hco)] at this
    · obtain ⟨x, l', ord', oper, rfl, hxo, h3, hh, h4⟩ := its_cons h1 h2
      have hxd : x.o.d = d := by rw [hxo]
      cases he : x.early with
      | true =>
        have := (hh.kl he).1
        rw [hxo] at this
        exact absurd (by cases d <;> rfl) this
      | false =>
        refine drawn_wait (Tl := fun R' H2 => ∃ b : Bool, R' = updo R d (.bool b) ∧ H2 = H) hh he (compIts_all ord pre _ h1) (compIts_beh ord' _ l' h4) ?_ ?_ fuel L g a w hl hd
        · rintro R' H' ⟨b, rfl, rfl⟩ fuel L' g' a' w' hL hd'
          exact (ih b).2 n ops mu df mk g0 ws H0 _ L' g' a' w' ord' l' r fuel (ckd hd hd' ck) h4 h3 hd' hL
        · intro L2 g2 a2 w2 hd2 hp K hK
          have ck2 : CkAll P g2 := ckd hd hd2 ck
          have hco := hh.co
          have hrg := hd2.ready_regs hh hp
          rw [hxo] at hco hrg
          obtain ⟨b, hstep⟩ := exec_nils (r := r) hh.ho hco hd2.tsz hrg rfl hx hy
          refine hstep _ _ (hK _ H g2 _ w2 ⟨b, rfl, rfl⟩ ?_)
          have := hd2.both hh he hp (.refl _ _) hd2.sr (.bool b) (.refl _ _) fun _ _ _ _ _ _ _ _ _ e => e
          rwa [hxd] at this
  | @nxt d xx gd s l R H Q b bi es ix cur hg hx hb hs _ ih =>
    refine ⟨fun g0 ws H0 g w a n ops mu is r hc ck sr hr le fr => ?_, fun n ops mu df mk g0 ws H0 pre L g a w ord its r fuel ck h1 h2 hd hl => ?_⟩
    · obtain ⟨i, is', oper, rfl, ho, hco, hrest⟩ := compSeq_cons hc
      rw [wpOpsIn_cons]
      obtain ⟨t, H', u, w', g', hM, hstep, le', sr', hvr, fr'⟩ := exec_nxt (r := r) ho hco hr.1 (hr.rg (ts_lt hco)) hg sr hx hb
      refine hstep _ _ ?_
      have := (ih t H' hM).1 g0 ws H0 g' w' (a.put d u) n ops mu is' r hrest (ck.mono le') sr' (hr.put (by obtain ⟨_, _, _, _, e, _, h5⟩ := compO_inv hco; cases e; exact h5) le' hvr) (le.trans le') (fr.trans fr')
      rwa [put_df, updo_ne (compO_dn hco)] at this
    · obtain ⟨x, l', ord', oper, rfl, hxo, h3, hh, h4⟩ := its_cons h1 h2
      have hxd : x.o.d = d := by rw [hxo]
      cases he : x.early with
      | true =>
        have := (hh.kl he).1
        rw [hxo] at this
        exact absurd (by cases d <;> rfl) this
      | false =>
        refine drawn_wait (Tl := fun R' H2 => ∃ v, NxtTo H b bi es ix v H2 ∧ R' = updo R d v) hh he (compIts_all ord pre _ h1) (compIts_beh ord' _ l' h4) ?_ ?_ fuel L g a w hl hd
        · rintro R' H' ⟨v, hM, rfl⟩ fuel L' g' a' w' hL hd'
          exact (ih v H' hM).2 n ops mu df mk g0 ws H0 _ L' g' a' w' ord' l' r fuel (ckd hd hd' ck) h4 h3 hd' hL
        · intro L2 g2 a2 w2 hd2 hp K hK
          have ck2 : CkAll P g2 := ckd hd hd2 ck
          have hco := hh.co
          have hrg := hd2.ready_regs hh hp
          rw [hxo] at hco hrg
          obtain ⟨t, H', u, w', g', hM, hstep, le', sr', hvr, fr'⟩ := exec_nxt (r := r) hh.ho hco hd2.tsz hrg hg hd2.sr hx hb
          refine hstep _ _ (hK _ H' g' _ w' ⟨t, hM, rfl⟩ ?_)
          have hst := hd2.stays hh he hp (H' := H') (by rw [hxo]; exact hs t H' hM)
          have := hd2.both hh he hp le' sr' hvr fr' hst
          rwa [hxd] at this
  | @shr f aq H Q M _ h2 ih =>
    intro g w args ck sr hv
    obtain ⟨hcal, hc⟩ := ih g w args ck sr hv
    refine ⟨hcal, hc.mono fun e w3 ⟨v, t, g3, H3, he, hM, le3, sr3, hvr, fr3⟩ => ?_⟩
    obtain ⟨t', b, cs, k, ht, hin, hb, hq⟩ := h2 _ _ hM
    cases ht
    have hφ : ∃ x, g3.φ b = some x := by
      cases hvr with
      | msl h => simp only [mslIn] at hin; subst hin; exact ⟨_, h⟩
      | tup hl h2 =>
        obtain ⟨off, len, n, hm⟩ := hin
        obtain ⟨i, hi⟩ := List.mem_iff_getElem?.1 hm
        have hlt := (List.getElem?_eq_some_iff.1 hi).1
        obtain ⟨u, hu⟩ : ∃ u, (Array.mk _)[i]? = some u := ⟨_, Array.getElem?_eq_getElem (Nat.lt_of_lt_of_eq hlt hl.symm)⟩
        have := h2 i _ _ hi hu
        cases this with
        | msl h => exact ⟨_, h⟩
      | _ => exact hin.elim
    obtain ⟨sr4, fr4⟩ := sr3.shrink k hb hφ
    exact ⟨v, _, g3, _, he, hq, le3, sr4, hvr, fr3.trans fr4⟩
  | @fnr f aq H Q fn M hf hn _ h2 ih =>
    intro g w args ck sr hv
    obtain ⟨an, hfn⟩ := hE.fn f fn hf
    obtain ⟨F, code, res, body, hF, hb, hres, hcc, hcal, hsz, hlt, rfl⟩ := compFn_inv hfn
    refine ⟨hcal, callsIn_of_wp_marks hF hb trivial ?_⟩
    have hreg := enter_regs (F := F) hv hn hsz
    refine wpIn_mono (ih g w _ F.ntmps an true code none hcc (fun _ => rfl) ck sr hreg).1 fun e a' w' hpost => ?_
    obtain ⟨ex, R', g', H', e1, hm, le, sr', hr', fr, hmk, _⟩ := hpost
    obtain ⟨R2, bs, hex, hms, hnd, hdfr, v0, hv0, hq⟩ := h2 _ _ hm
    have hmk0 : Mk g (regs0 aq F.ntmps) [] := ⟨[], by simp only [regs0]; rw [List.getD_eq_getElem?_getD, List.getElem?_eq_none (by simp only at hn; omega)]; rfl, .nil⟩
    obtain ⟨ts, hts, hmo⟩ := hmk hmk0
    have hfin : R2 = R' → LeavesInM (Fw none) 0 P F a'.tmps (CallR w0 g w H fun v H' => Q (.val v) H') a'.defers .returning w' := by
      rintro rfl
      simp only at hms hq hv0
      rw [hts] at hms
      refine leaves_marks ts a'.defers bs g' H' w' R2 a' _ hmo hms hnd hdfr sr' hr' (fun w2 v le2 sr2 _ fr2 _ hvr => ⟨v, _, g', _, rfl, hq, le.trans le2, sr2, hvr, fr.trans fr2⟩) hv0 fun g w H sr hr ht => results_ok (P := P) sr hres hlt hr ht
    cases e <;> simp only [exOf, Option.some.injEq, reduceCtorEq] at e1 <;> subst e1
    case normal => rcases hex with hex | hex <;> cases hex; exact hfin rfl
    case exit id => rcases hex with hex | hex <;> cases hex
    case ret => rcases hex with hex | hex <;> cases hex; exact hfin rfl
  | @fn f aq H Q fn M hf hnr hn _ h2 ih =>
    intro g w args ck sr hv
    obtain ⟨an, hfn⟩ := hE.fn f fn hf
    obtain ⟨F, code, res, body, hF, hb, hres, hcc, hcal, hsz, hlt, rfl⟩ := compFn_inv hfn
    refine ⟨hcal, callsIn_of_wp hF hb trivial ?_⟩
    have hreg := enter_regs (F := F) hv hn hsz
    refine wpIn_mono (ih g w _ F.ntmps an true code none hcc (fun _ => rfl) ck sr hreg).1 fun e a' w' hpost => ?_
    obtain ⟨ex, R', g', H', e1, hm, le, sr', hr', fr, _, hdf⟩ := hpost
    obtain ⟨R2, hex, v0, hv0, hq⟩ := h2 _ _ hm
    have hfin : ∀ (R2 : Regs), R2 = R' → resT R2 H' res = some v0 → a'.defers = [] ∧ ∃ v, (results F a'.tmps).run P w' = .ok v w' ∧ CallR w0 g w H (fun v H' => Q (.val v) H') (.returned v) w' := by
      rintro R2 rfl hv0
      obtain ⟨v, hrun, hvr⟩ := results_ok (P := P) sr' hres hlt hr' hv0
      exact ⟨(hdf hnr).2, v, hrun, v, _, g', H', rfl, hq, le, sr', hvr, fr⟩
    cases e <;> simp only [exOf, Option.some.injEq, reduceCtorEq] at e1 <;> subst e1
    case normal => rcases hex with hex | hex <;> cases hex; exact hfin _ rfl hv0
    case exit id => rcases hex with hex | hex <;> cases hex
    case ret => rcases hex with hex | hex <;> cases hex; exact hfin _ rfl hv0
  | @revl f aq H Q b off len n i M hi _ h2 ih =>
    intro g w args ck sr hv
    have hlt := (List.getElem?_eq_some_iff.1 hi).1
    have hl := hv.1
    have hva := hv.2 i _ _ hi (List.getElem?_eq_getElem (by omega))
    have hex : ∃ c, len ≤ c ∧ VR g w (.mslc b off len n c) (args[i]'(by omega)) := by
      generalize args[i]'(by omega) = u at hva
      cases hva with
      | msl h hc hq => exact ⟨_, hc, .mslc h hc hq⟩
    obtain ⟨c, hc, hvc⟩ := hex
    have hv' : VRs g w (aq.set i (.mslc b off len n c)) args := ⟨by simp [hl], fun j t v ha hb => by
      by_cases e : j = i
      · subst e
        rw [List.getElem?_set_self hlt] at ha
        cases ha
        rw [List.getElem?_eq_getElem (by omega)] at hb
        cases hb
        exact hvc
      · rw [List.getElem?_set_ne (Ne.symm e)] at ha
        exact hv.2 j t v ha hb⟩
    obtain ⟨hcal, hcc⟩ := ih c hc g w args ck sr hv'
    refine ⟨hcal, hcc.mono fun e w3 ⟨v, t, g3, H3, he, hM, le3, sr3, hvr, fr3⟩ => ?_⟩
    exact ⟨v, _, g3, H3, he, h2 _ _ hM, le3, sr3, hvr.fgt, fr3⟩
  | @frz f aq H Q M _ h2 ih =>
    intro g w args ck sr hv
    obtain ⟨hcal, hc⟩ := ih g w args ck sr hv
    refine ⟨hcal, hc.mono fun e w3 ⟨v, t, g3, H3, he, hM, le3, sr3, hvr, fr3⟩ => ?_⟩
    obtain ⟨t', b, cs, ht, hin, hb, hq⟩ := h2 _ _ hM
    cases ht
    have hφ : ∃ x, g3.φ b = some x := by
      cases hvr with
      | msl h => simp only [mslIn] at hin; subst hin; exact ⟨_, h⟩
      | tup hl h2 =>
        obtain ⟨off, len, n, hm⟩ := hin
        obtain ⟨i, hi⟩ := List.mem_iff_getElem?.1 hm
        have hlt := (List.getElem?_eq_some_iff.1 hi).1
        obtain ⟨u, hu⟩ : ∃ u, (Array.mk _)[i]? = some u := ⟨_, Array.getElem?_eq_getElem (Nat.lt_of_lt_of_eq hlt hl.symm)⟩
        have := h2 i _ _ hi hu
        cases this with
        | msl h => exact ⟨_, h⟩
      | _ => exact hin.elim
    obtain ⟨g4, le4, sr4, fr4, hvr4⟩ := sr3.freeze hb hφ
    exact ⟨v, _, g4, _, he, hq, le3.trans le4, sr4, hvr4 _ _ hvr, fr3.trans fr4⟩
  | @frza f aq H Q b off len n cs i hi hb _ ih =>
    intro g w args ck sr hv
    have hlt := (List.getElem?_eq_some_iff.1 hi).1
    have hl := hv.1
    have hva := hv.2 i _ _ hi (List.getElem?_eq_getElem (by omega))
    have hφ : ∃ x, g.φ b = some x := by
      generalize args[i]'(by omega) = u at hva
      cases hva with
      | msl h => exact ⟨_, h⟩
    obtain ⟨g4, le4, sr4, fr4, hvr4⟩ := sr.freeze hb hφ
    have hv' : VRs g4 w (aq.map (frzV b cs)) args := ⟨by simp [hl], fun j t v ha hb' => by
      rw [List.getElem?_map] at ha
      obtain ⟨t0, h0, rfl⟩ := Option.map_eq_some_iff.1 ha
      exact hvr4 _ _ (hv.2 j t0 v h0 hb')⟩
    obtain ⟨hcal, hc⟩ := ih g4 w args (ck.mono le4) sr4 hv'
    exact ⟨hcal, hc.mono fun e w3 ⟨v, t, g3, H3, he, hM, le3, sr3, hvr, fr3⟩ => ⟨v, t, g3, H3, he, hM, le4.trans le3, sr3, hvr, fr4.trans fr3⟩⟩
  | @fza f aq H Q b cs hk hb _ ih =>
    intro g w args ck sr hv
    have hφ : ∃ x, g.φ b = some x := by
      obtain ⟨i, b', off, len, n, hi, hk⟩ := hk
      have hlt := (List.getElem?_eq_some_iff.1 hi).1
      have hl := hv.1
      have hva := hv.2 i _ _ hi (List.getElem?_eq_getElem (by omega))
      generalize args[i]'(by omega) = u at hva
      cases hva with
      | @msl _ _ _ _ r o q cap h0 =>
        rcases hk with rfl | ⟨cs', j, off', len', n', hb', hc⟩
        · exact ⟨_, h0⟩
        · have hvc : ∃ v, VR g w (.msl b off' len' n') v := by
            rcases hb' with hb' | hb'
            · obtain ⟨_, v, _, hv'⟩ := (sr.blk _ _ hb' r o q h0).2.2 j _ hc
              exact ⟨v, hv'⟩
            · obtain ⟨_, v, _, hv'⟩ := (sr.blk _ _ hb' r o q h0).2 j _ hc
              exact ⟨v, hv'⟩
          obtain ⟨v, hvc⟩ := hvc
          cases hvc with
          | msl h => exact ⟨_, h⟩
    obtain ⟨g4, le4, sr4, fr4⟩ := sr.freezeK hb hφ
    obtain ⟨hcal, hc⟩ := ih g4 w args (ck.mono le4) sr4 (hv.mono le4)
    exact ⟨hcal, hc.mono fun e w3 ⟨v, t, g3, H3, he, hM, le3, sr3, hvr, fr3⟩ => ⟨v, t, g3, H3, he, hM, le4.trans le3, sr3, hvr, fr4.trans fr3⟩⟩
  | @vw f aq aq' H Q hl hvw _ ih =>
    intro g w args ck sr hv
    exact ih g w args ck sr ⟨hl.trans hv.1, fun j t v ha hb' => by
      have hlt := (List.getElem?_eq_some_iff.1 ha).1
      exact (hvw j _ t (List.getElem?_eq_getElem (by omega)) ha).ok sr v (hv.2 j _ v (List.getElem?_eq_getElem (by omega)) hb')⟩
  | @prim f aq H Q h =>
    intro g w args ck sr hv
    exact hE.prim f aq H _ h g w args sr hv
end Go.Rmp
end
