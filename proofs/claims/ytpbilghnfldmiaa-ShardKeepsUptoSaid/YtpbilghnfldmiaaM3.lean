/- Part of a proof of a law of this seat: the machine of plain values, its simulation, and the contracts of the functions that the law reaches. Conditions: none beyond the given row. -/
import Derived.Test.YtpbilghnfldmiaaM2
import Derived.Test.YtpbilghnfldmiaaRows
import Derived.WalkKit
import Derived.ProofKit
import Derived.OpenShut
import Derived.JoinedCond
import Derived.ChangeBears
open Int renaming reduceLT → q3, reduceLE → q4, reduceBEq → q5, reduceBNe → q6, reduceEq → q7
open Nat renaming reduceAdd → q8, reduceLeDiff → q9, reduceLT → j1, reduceEqDiff → j2
set_option linter.unusedSimpArgs false
set_option linter.unusedVariables false
set_option linter.unnecessarySimpa false
set_option maxHeartbeats 4000000
section
namespace Go.Proofs.Ytpbilghnfldmiaa.Sx
open Go.Rmp Go.Proofs.Shardk Go.Proofs.Ytpbilghnfldmiaa.Ir
set_option maxRecDepth 10000
def fstep (h : Int) (c : UInt8) : Int := IntKind.u64.wrap (IntKind.u64.wrap ((BitVec.ofInt IntKind.u64.bits h ^^^ BitVec.ofInt IntKind.u64.bits (IntKind.u64.wrap c.toNat)).toNat : Nat) * 1099511628211)
def hashL (h : Int) (l : List UInt8) : Int := l.foldl fstep h
def hashT (s : ByteArray) : Int := hashL 14695981039346656037 s.data.toList
theorem u64_in (x : Int) : 0 ≤ IntKind.u64.wrap x ∧ IntKind.u64.wrap x < 18446744073709551616 := by
  unfold IntKind.wrap
  simp -implicitDefEqProofs only [IntKind.signed, IntKind.bits]
  simp
  omega
theorem hashL_snoc (h : Int) (l : List UInt8) (c : UInt8) : hashL h (l ++ [c]) = fstep (hashL h l) c := by simp [hashL]
theorem hashT_in (s : ByteArray) : 0 ≤ hashT s ∧ hashT s < 18446744073709551616 := by
  unfold hashT hashL
  generalize s.data.toList = l
  have key : ∀ (l : List UInt8) (h : Int), 0 ≤ h ∧ h < 18446744073709551616 → 0 ≤ l.foldl fstep h ∧ l.foldl fstep h < 18446744073709551616 := by
    intro l
    induction l with
    | nil => exact fun h hh => hh
    | cons c l ih => exact fun h _ => ih _ (u64_in _)
  exact key l _ (by decide)
theorem takeB {s : ByteArray} {i : Nat} {c : UInt8} (h : s.data[i]? = some c) : s.data.toList.take (i + 1) = s.data.toList.take i ++ [c] := by
  rw [List.take_add_one, Array.getElem?_toList, h]; rfl
theorem feed37 (h : Int) (s : ByteArray) (H : Heap) (hs : s.size < 9223372036854775807) : W env (.call 37 [.int .u64 h, .str s]) H (Ret (.int .u64 (hashL h s.data.toList)) H) := by
  refine W.fnI rfl rfl rfl ?_
  simp -implicitDefEqProofs only [ir37, op, ef, cl, sq, reduceIte, q3, q4, q5, q6, q7, q8, q9, j1, j2, S1]
  refine W.loopI (fun (i : Nat) R H' => H' = H ∧ R 0 = .int .u64 (hashL h (s.data.toList.take i)) ∧ R 1 = .str s ∧ (R 7 = .int .i64 s.size) ∧ R 8 = .int .i64 i ∧ i ≤ s.size) (fun i => s.size - i) 0 ⟨rfl, rfl, rfl, by first | rfl | trivial, rfl, Nat.zero_le _⟩ ?_
  rintro i R _ ⟨rfl, h0, h1, h7, h8, hi⟩
  by_cases hlt : i < s.size
  · obtain ⟨c, hc⟩ : ∃ c, s.data[i]? = some c := ⟨s.data[i], Array.getElem?_eq_getElem hlt⟩
    have ws := wrap_succ (show i < 9223372036854775807 by omega)
    simp -implicitDefEqProofs only [op, ef, cl, sq, reduceIte, q3, q4, q5, q6, q7, q8, q9, j1, j2, S1, h0, h1, h7, h8, hlt, natOf_nat, hc, ws]
    refine ⟨i + 1, by omega, ?_, rfl, by omega⟩
    rw [takeB hc, hashL_snoc]; rfl
  · have e : s.data.toList.take i = s.data.toList := List.take_of_length_le (by simp; exact Nat.le_of_not_lt hlt)
    simp -implicitDefEqProofs only [op, ef, cl, sq, reduceIte, q3, q4, q5, q6, q7, q8, q9, j1, j2, S1, h0, h1, h7, h8, hlt, e]
theorem begin38 (H : Heap) : W env (.call 38 []) H (Ret (.int .u64 14695981039346656037) H) := by
  refine W.fnI rfl rfl rfl ?_
  simp -implicitDefEqProofs only [ir38, op, ef, cl, sq, reduceIte, q3, q4, q5, q6, q7, q8, q9, j1, j2, S1]
theorem hash30 (s : ByteArray) (H : Heap) (hs : s.size < 9223372036854775807) : W env (.call 30 [.str s]) H (Ret (.int .u64 (hashT s)) H) := by
  refine W.fnI rfl rfl rfl ?_
  simp -implicitDefEqProofs only [ir30, op, ef, cl, sq, reduceIte, q3, q4, q5, q6, q7, q8, q9, j1, j2, S1]
  refine callB_of _ _ _ _ _ _ _ _ (begin38 _) ?_
  rintro u H1 ⟨hu, rfl⟩
  cases hu
  simp -implicitDefEqProofs only [op, ef, cl, sq, reduceIte, q3, q4, q5, q6, q7, q8, q9, j1, j2, S1]
  refine callB_of _ _ _ _ _ _ _ _ (feed37 _ s _ hs) ?_
  rintro u H1 ⟨hu, rfl⟩
  cases hu
  simp -implicitDefEqProofs only [op, ef, cl, sq, reduceIte, q3, q4, q5, q6, q7, q8, q9, j1, j2, S1, hashT]
def ofN (s : ByteArray) (p : Nat) : Nat := (hashT s).toNat % p
theorem ofN_lt (s : ByteArray) {p : Nat} (hp : 0 < p) : ofN s p < p := Nat.mod_lt _ hp
theorem of_val (s : ByteArray) {p : Nat} (h1 : 1 ≤ p) (h2 : p ≤ 64) : IntKind.i64.wrap ((hashT s).tmod (IntKind.u64.wrap (p : Int))) = (ofN s p : Int) := by
  obtain ⟨h3, h4⟩ := hashT_in s
  rw [wrapu64 (n := (p : Int)) (by omega)]
  have e : hashT s = ((hashT s).toNat : Int) := (Int.toNat_of_nonneg h3).symm
  have e2 : (hashT s).tmod (p : Int) = (ofN s p : Int) := by
    rw [e]; exact (Int.ofNat_tmod _ _).symm
  have := ofN_lt s (p := p) (by omega)
  rw [e2, wrap64 (by omega)]
theorem may19 (p : Int) (H : Heap) : W env (.call 19 [.int .i64 p]) H (Ret (.bool (decide (1 ≤ p) && decide (p ≤ 64))) H) := by
  refine W.fnI rfl rfl rfl ?_
  by_cases h : (1 : Int) ≤ p
  · simp -implicitDefEqProofs only [ir19, op, ef, cl, sq, reduceIte, q3, q4, q5, q6, q7, q8, q9, j1, j2, S1, h]
  · simp -implicitDefEqProofs only [ir19, op, ef, cl, sq, reduceIte, q3, q4, q5, q6, q7, q8, q9, j1, j2, S1, h, Bool.false_and]
theorem of20 (s : ByteArray) (p : Nat) (h1 : 1 ≤ p) (h2 : p ≤ 64) (H : Heap) (hs : s.size < 9223372036854775807) : W env (.call 20 [.str s, .int .i64 p]) H (Ret (.int .i64 (ofN s p : Nat)) H) := by
  refine W.fnI rfl rfl rfl ?_
  have nz : ¬ IntKind.u64.wrap (p : Int) = 0 := by rw [wrapu64 (by omega)]; omega
  simp -implicitDefEqProofs only [ir20, op, ef, cl, sq, reduceIte, q3, q4, q5, q6, q7, q8, q9, j1, j2, S1]
  refine callB_of _ _ _ _ _ _ _ _ (hash30 s _ hs) ?_
  rintro u H1 ⟨hu, rfl⟩
  cases hu
  simp -implicitDefEqProofs only [op, ef, cl, sq, reduceIte, q3, q4, q5, q6, q7, q8, q9, j1, j2, S1, nz, of_val s h1 h2]
def okP (p : Int) : Bool := decide (1 ≤ p) && decide (p ≤ 64)
theorem okP_t {p : Int} (h : okP p = true) : ∃ n : Nat, p = n ∧ 1 ≤ n ∧ n ≤ 64 := by
  simp [okP] at h
  exact ⟨p.toNat, by omega, by omega, by omega⟩
def ofV (s : ByteArray) (p : Int) : T := .tup [.int .i64 (if okP p then (ofN s p.toNat : Nat) else 0 : Int), .int .i64 (if okP p then 0 else 1)]
theorem of8 (s : ByteArray) (p : Int) (H : Heap) (hs : s.size < 9223372036854775807) : W env (.call 8 [.str s, .int .i64 p]) H (Ret (ofV s p) H) := by
  refine W.fnI rfl rfl rfl ?_
  simp -implicitDefEqProofs only [ir8, op, ef, cl, sq, reduceIte, q3, q4, q5, q6, q7, q8, q9, j1, j2, S1]
  refine callB_of _ _ _ _ _ _ _ _ (may19 p _) ?_
  rintro u H1 ⟨hu, rfl⟩
  have hu : u = .bool (okP p) := by cases hu; rfl
  subst hu
  cases h : okP p
  · simp -implicitDefEqProofs only [op, ef, cl, sq, reduceIte, q3, q4, q5, q6, q7, q8, q9, j1, j2, S1, ofV, h, Bool.false_eq_true]
  · obtain ⟨n, rfl, h1, h2⟩ := okP_t h
    simp -implicitDefEqProofs only [op, ef, cl, sq, reduceIte, q3, q4, q5, q6, q7, q8, q9, j1, j2, S1]
    refine callB_of _ _ _ _ _ _ _ _ (of20 s n h1 h2 _ hs) ?_
    rintro u H1 ⟨hu, rfl⟩
    cases hu
    simp -implicitDefEqProofs only [op, ef, cl, sq, reduceIte, q3, q4, q5, q6, q7, q8, q9, j1, j2, S1, ofV, h, Int.toNat_natCast]
end Go.Proofs.Ytpbilghnfldmiaa.Sx
end

section
namespace Go.Proofs.Ytpbilghnfldmiaa.Sx
open Go.Rmp Go.Proofs.Shardk Go.Proofs.Ytpbilghnfldmiaa.Ir
set_option maxRecDepth 10000
def cmp3 (a b : Int) : Int := if a < b then -1 else if b < a then 1 else 0
theorem nan32 (a : Int) (H : Heap) : W env (.call 32 [.int .i64 a]) H (Ret (.bool false) H) := by
  refine W.fnI rfl rfl rfl ?_
  simp -implicitDefEqProofs only [ir32, op, ef, cl, sq, reduceIte, q3, q4, q5, q6, q7, q8, q9, j1, j2, S1]
theorem cmp24 (a b : Int) (H : Heap) : W env (.call 24 [.int .i64 a, .int .i64 b]) H (Ret (.int .i64 (cmp3 a b)) H) := by
  refine W.fnI rfl rfl rfl ?_
  simp -implicitDefEqProofs only [ir24, op, ef, cl, sq, reduceIte, q3, q4, q5, q6, q7, q8, q9, j1, j2, S1]
  refine callB_of _ _ _ _ _ _ _ _ (nan32 a _) ?_
  rintro u H1 ⟨hu, rfl⟩
  cases hu
  simp -implicitDefEqProofs only [op, ef, cl, sq, reduceIte, q3, q4, q5, q6, q7, q8, q9, j1, j2, S1]
  refine callB_of _ _ _ _ _ _ _ _ (nan32 b _) ?_
  rintro u H1 ⟨hu, rfl⟩
  cases hu
  by_cases h1 : a < b
  · simp -implicitDefEqProofs only [op, ef, cl, sq, reduceIte, q3, q4, q5, q6, q7, q8, q9, j1, j2, S1, cmp3, h1]
  · by_cases h2 : b < a
    · simp -implicitDefEqProofs only [op, ef, cl, sq, reduceIte, q3, q4, q5, q6, q7, q8, q9, j1, j2, S1, cmp3, h1, h2]
    · simp -implicitDefEqProofs only [op, ef, cl, sq, reduceIte, q3, q4, q5, q6, q7, q8, q9, j1, j2, S1, cmp3, h1, h2]
def eS (s : ByteArray) : List T := [.str s]
def eP (p : ByteArray × ByteArray) : List T := [.str p.1, .str p.2]
theorem mut_get {α : Type} {n0 : Nat} {H : Heap} {t : T} {ps : List (Pt α)} (hm : Mut encPt 2 n0 H t ps) {i : Nat} {p : Pt α} (hp : ps[i]? = some p) : ∃ b, t = .msl b 0 ps.length 2 ∧ n0 ≤ b ∧ H[b]? = some (.cells (msC encPt ps)) ∧ iadT 2 i t = some (.ptr b (i * 2)) ∧ ldcB 2 (i * 2) (some (.cells (msC encPt ps))) = some (encPt p) := by
  have hi := (List.getElem?_eq_some_iff.1 hp).1
  rcases hm with ⟨rfl, _⟩ | ⟨b, rfl, hb, hbn⟩
  · simp at hp
  · exact ⟨b, rfl, hbn, hb, by rw [iad_m]; simp [hi], msC_get (n := 2) (encPt_len) hp 0 2 (by decide)⟩
theorem clo23 (p : Pt ByteArray) (q : Nat) (H : Heap) : W env (.call 23 [.agg (encPt p), .int .i64 q]) H (RetG (.int .i64 (cmp3 p.part q)) H) := by
  refine W.fnI rfl rfl rfl ?_
  simp -implicitDefEqProofs only [ir23, op, ef, cl, sq, reduceIte, q3, q4, q5, q6, q7, q8, q9, j1, j2, S1, encPt, S2]
  refine callB_of _ _ _ _ _ _ _ _ (cmp24 _ _ _) ?_
  rintro u H1 ⟨hu, rfl⟩
  cases hu
  simp -implicitDefEqProofs only [op, ef, cl, sq, reduceIte, q3, q4, q5, q6, q7, q8, q9, j1, j2, S1]
theorem clo27 (p : Pt (ByteArray × ByteArray)) (q : Nat) (H : Heap) : W env (.call 27 [.agg (encPt p), .int .i64 q]) H (RetG (.int .i64 (cmp3 p.part q)) H) := by
  refine W.fnI rfl rfl rfl ?_
  simp -implicitDefEqProofs only [ir27, op, ef, cl, sq, reduceIte, q3, q4, q5, q6, q7, q8, q9, j1, j2, S1, encPt, S2]
  refine callB_of _ _ _ _ _ _ _ _ (cmp24 _ _ _) ?_
  rintro u H1 ⟨hu, rfl⟩
  cases hu
  simp -implicitDefEqProofs only [op, ef, cl, sq, reduceIte, q3, q4, q5, q6, q7, q8, q9, j1, j2, S1]
def Rise {α : Type} (ps : List (Pt α)) : Prop := ∀ (i j : Nat) p q, i < j → ps[i]? = some p → ps[j]? = some q → p.part < q.part
theorem half (i j : Nat) (h : i + j < 9223372036854775807) : IntKind.i64.wrap ((IntKind.u64.wrap (IntKind.i64.wrap ((i : Int) + (j : Int)))).fdiv (2 ^ (min (1 : Int).toNat IntKind.u64.bits))) = (((i + j) / 2 : Nat) : Int) := by
  rw [wrap64 (n := (i : Int) + j) (by omega), wrapu64 (n := (i : Int) + j) (by omega)]
  have e : (2 : Int) ^ (min (1 : Int).toNat IntKind.u64.bits) = 2 := by decide
  rw [e, Int.fdiv_eq_ediv_of_nonneg _ (by omega), wrap64 (by omega)]
  omega
def SrchQ {α : Type} (ps : List (Pt α)) (q : Nat) (H : Heap) : Out → Heap → Prop := fun o H' => Ext H H' ∧ ∃ (i : Nat) (fd : Bool), o = .val (.tup [.int .i64 i, .bool fd]) ∧ i ≤ ps.length ∧ (∀ (j : Nat) p, j < i → ps[j]? = some p → p.part < q) ∧ (∀ (j : Nat) p, i ≤ j → ps[j]? = some p → q ≤ p.part) ∧ (fd = true ↔ ∃ p, ps[i]? = some p ∧ p.part = q)
theorem getP {α : Type} {l : List α} {i : Nat} (h : i < l.length) : ∃ x, l[i]? = some x := ⟨l[i], List.getElem?_eq_getElem h⟩
theorem srch22 (n0 : Nat) (t : T) (ps : List (Pt ByteArray)) (q : Nat) (H : Heap) (hm : Mut encPt 2 n0 H t ps) (hr : Rise ps) (hl : ps.length < 4611686018427387903) : W env (.call 22 [t, .int .i64 q, .fn 23 []]) H (SrchQ ps q H) := by
  refine W.fnI rfl rfl rfl ?_
  have hlen := hm.len
  simp -implicitDefEqProofs only [ir22, op, ef, cl, sq, reduceIte, q3, q4, q5, q6, q7, q8, q9, j1, j2, S1, hlen]
  refine W.loopE 0 (fun (s : Nat × Nat) R H' => Ext H H' ∧ R 0 = t ∧ R 1 = .int .i64 q ∧ R 2 = .fn 23 [] ∧ R 8 = .int .i64 ps.length ∧ R 9 = .int .i64 s.1 ∧ R 10 = .int .i64 s.2 ∧ s.1 ≤ s.2 ∧ s.2 ≤ ps.length ∧ (∀ (j : Nat) p, j < s.1 → ps[j]? = some p → p.part < q) ∧ (∀ (j : Nat) p, s.2 ≤ j → ps[j]? = some p → q ≤ p.part)) (fun s => s.2 - s.1) (0, ps.length)
    (fun R H' => Ext H H' ∧ ∃ i : Nat, R 0 = t ∧ R 1 = .int .i64 q ∧ R 2 = .fn 23 [] ∧ R 8 = .int .i64 ps.length ∧ R 9 = .int .i64 i ∧ i ≤ ps.length ∧ (∀ (j : Nat) p, j < i → ps[j]? = some p → p.part < q) ∧ (∀ (j : Nat) p, i ≤ j → ps[j]? = some p → q ≤ p.part)) ?_ ?_ ?_
  · exact ⟨Ext.rfl', rfl, rfl, rfl, rfl, rfl, rfl, Nat.zero_le _, Nat.le_refl _, fun j p h => by omega, fun j p h hp => by rw [List.getElem?_eq_none h] at hp; cases hp⟩
  · rintro ⟨i, j⟩ R H1 ⟨hx, h0, h1, h2, h8, h9, h10, hij, hjn, hlo, hhi⟩
    simp only at h9 h10 hij hjn hlo hhi
    by_cases hlt : i < j
    · obtain ⟨p, hp⟩ := getP (l := ps) (i := (i + j) / 2) (by omega)
      obtain ⟨b, hb1, hb2, hb3, hb4, hb5⟩ := mut_get (hm.ext hx) hp
      have hh := half i j (by omega)
      have nl : ¬ (Int.neg 1 = 0) := by decide
      simp -implicitDefEqProofs only [op, ef, cl, sq, reduceIte, q3, q4, q5, q6, q7, q8, q9, j1, j2, S1, h0, h1, h2, h9, h10, hlt, hh, natOf_nat, hb4, hb3, hb5]
      refine b_v _ _ _ _ _ _ _ ?_
      simp -implicitDefEqProofs only [op, ef, cl, sq, reduceIte, q3, q4, q5, q6, q7, q8, q9, j1, j2, S1, callvB, h0, h1, h2, List.append_nil]
      refine callB_of _ _ _ _ _ _ _ _ (clo23 p q _) ?_
      rintro u H2 ⟨hu, hx2⟩
      cases hu
      have hx2 : Ext H1 H2 := hx2
      by_cases hc : p.part < q
      · have e1 : cmp3 p.part q = -1 := by simp [cmp3]; omega
        have ws := wrap_succ (show (i + j) / 2 < 9223372036854775807 by omega)
        simp -implicitDefEqProofs only [op, ef, cl, sq, reduceIte, q3, q4, q5, q6, q7, q8, q9, j1, j2, S1, h0, h1, h2, h8, h9, h10, e1, ws]
        refine ⟨((i + j) / 2 + 1, j), by simp only; omega, hx.trans hx2, rfl, rfl, by simp only; omega, hjn, fun k x hk hxk => ?_, hhi⟩
        by_cases e : k = (i + j) / 2
        · subst e; rw [hp] at hxk; cases hxk; exact hc
        · have := hr k ((i + j) / 2) x p (by simp only at hk; omega) hxk hp; omega
      · have e1 : decide (cmp3 p.part q < 0) = false := by simp [cmp3]; split <;> omega
        simp -implicitDefEqProofs only [op, ef, cl, sq, reduceIte, q3, q4, q5, q6, q7, q8, q9, j1, j2, S1, h0, h1, h2, h8, h9, h10, e1]
        refine ⟨(i, (i + j) / 2), by simp only; omega, hx.trans hx2, rfl, rfl, by simp only; omega, by simp only; omega, hlo, fun k x hk hxk => ?_⟩
        by_cases e : k = (i + j) / 2
        · subst e; rw [hp] at hxk; cases hxk; omega
        · have := hr ((i + j) / 2) k p x (by simp only at hk; omega) hp hxk; omega
    · have hij' : i = j := by omega
      subst hij'
      simp -implicitDefEqProofs only [op, ef, cl, sq, reduceIte, q3, q4, q5, q6, q7, q8, q9, j1, j2, S1, h0, h1, h2, h8, h9, h10, hlt]
      exact ⟨hx, i, rfl, hjn, hlo, hhi⟩
  rintro R H1 ⟨hx, i, h0, h1, h2, h8, h9, hi, hlo, hhi⟩
  by_cases hin : i < ps.length
  · obtain ⟨p, hp⟩ := getP (l := ps) hin
    obtain ⟨b, hb1, hb2, hb3, hb4, hb5⟩ := mut_get (hm.ext hx) hp
    simp -implicitDefEqProofs only [op, ef, cl, sq, reduceIte, q3, q4, q5, q6, q7, q8, q9, j1, j2, S1, h0, h1, h2, h8, h9, hin, natOf_nat, hb4, hb3, hb5]
    refine b_vg _ _ _ _ _ _ _ (by simp -implicitDefEqProofs only [op, ef, cl, sq, reduceIte, q3, q4, q5, q6, q7, q8, q9, j1, j2, S1]) ?_
    simp -implicitDefEqProofs only [op, ef, cl, sq, reduceIte, q3, q4, q5, q6, q7, q8, q9, j1, j2, S1, callvB, h0, h1, h2, List.append_nil]
    refine callB_of _ _ _ _ _ _ _ _ (clo23 p q _) ?_
    rintro u H2 ⟨hu, hx2⟩
    cases hu
    have hx2 : Ext H1 H2 := hx2
    have hge := hhi i p (Nat.le_refl _) hp
    by_cases hc : p.part = q
    · have e1 : (cmp3 p.part q == 0) = true := by simp [cmp3, hc]
      simp -implicitDefEqProofs only [op, ef, cl, sq, reduceIte, q3, q4, q5, q6, q7, q8, q9, j1, j2, S1, h9, e1]
      exact ⟨hx.trans hx2, i, true, rfl, hi, hlo, hhi, by simp [hp, hc]⟩
    · have e1 : (cmp3 p.part q == 0) = false := by
        have : ¬ ((p.part : Int) < q) := by omega
        have h2 : (q : Int) < p.part := by omega
        simp [cmp3, this, h2]
      simp -implicitDefEqProofs only [op, ef, cl, sq, reduceIte, q3, q4, q5, q6, q7, q8, q9, j1, j2, S1, h9, e1]
      exact ⟨hx.trans hx2, i, false, rfl, hi, hlo, hhi, by simp [hp, hc]⟩
  · simp -implicitDefEqProofs only [op, ef, cl, sq, reduceIte, q3, q4, q5, q6, q7, q8, q9, j1, j2, S1, h0, h1, h2, h8, h9, hin]
    exact ⟨hx, i, false, rfl, hi, hlo, hhi, by simp [List.getElem?_eq_none (show ps.length ≤ i by omega)]⟩
theorem srch26 (n0 : Nat) (t : T) (ps : List (Pt (ByteArray × ByteArray))) (q : Nat) (H : Heap) (hm : Mut encPt 2 n0 H t ps) (hr : Rise ps) (hl : ps.length < 4611686018427387903) : W env (.call 26 [t, .int .i64 q, .fn 27 []]) H (SrchQ ps q H) := by
  refine W.fnI rfl rfl rfl ?_
  have hlen := hm.len
  simp -implicitDefEqProofs only [ir26, op, ef, cl, sq, reduceIte, q3, q4, q5, q6, q7, q8, q9, j1, j2, S1, hlen]
  refine W.loopE 0 (fun (s : Nat × Nat) R H' => Ext H H' ∧ R 0 = t ∧ R 1 = .int .i64 q ∧ R 2 = .fn 27 [] ∧ R 8 = .int .i64 ps.length ∧ R 9 = .int .i64 s.1 ∧ R 10 = .int .i64 s.2 ∧ s.1 ≤ s.2 ∧ s.2 ≤ ps.length ∧ (∀ (j : Nat) p, j < s.1 → ps[j]? = some p → p.part < q) ∧ (∀ (j : Nat) p, s.2 ≤ j → ps[j]? = some p → q ≤ p.part)) (fun s => s.2 - s.1) (0, ps.length)
    (fun R H' => Ext H H' ∧ ∃ i : Nat, R 0 = t ∧ R 1 = .int .i64 q ∧ R 2 = .fn 27 [] ∧ R 8 = .int .i64 ps.length ∧ R 9 = .int .i64 i ∧ i ≤ ps.length ∧ (∀ (j : Nat) p, j < i → ps[j]? = some p → p.part < q) ∧ (∀ (j : Nat) p, i ≤ j → ps[j]? = some p → q ≤ p.part)) ?_ ?_ ?_
  · exact ⟨Ext.rfl', rfl, rfl, rfl, rfl, rfl, rfl, Nat.zero_le _, Nat.le_refl _, fun j p h => by omega, fun j p h hp => by rw [List.getElem?_eq_none h] at hp; cases hp⟩
  · rintro ⟨i, j⟩ R H1 ⟨hx, h0, h1, h2, h8, h9, h10, hij, hjn, hlo, hhi⟩
    simp only at h9 h10 hij hjn hlo hhi
    by_cases hlt : i < j
    · obtain ⟨p, hp⟩ := getP (l := ps) (i := (i + j) / 2) (by omega)
      obtain ⟨b, hb1, hb2, hb3, hb4, hb5⟩ := mut_get (hm.ext hx) hp
      have hh := half i j (by omega)
      have nl : ¬ (Int.neg 1 = 0) := by decide
      simp -implicitDefEqProofs only [op, ef, cl, sq, reduceIte, q3, q4, q5, q6, q7, q8, q9, j1, j2, S1, h0, h1, h2, h9, h10, hlt, hh, natOf_nat, hb4, hb3, hb5]
      refine b_v _ _ _ _ _ _ _ ?_
      simp -implicitDefEqProofs only [op, ef, cl, sq, reduceIte, q3, q4, q5, q6, q7, q8, q9, j1, j2, S1, callvB, h0, h1, h2, List.append_nil]
      refine callB_of _ _ _ _ _ _ _ _ (clo27 p q _) ?_
      rintro u H2 ⟨hu, hx2⟩
      cases hu
      have hx2 : Ext H1 H2 := hx2
      by_cases hc : p.part < q
      · have e1 : cmp3 p.part q = -1 := by simp [cmp3]; omega
        have ws := wrap_succ (show (i + j) / 2 < 9223372036854775807 by omega)
        simp -implicitDefEqProofs only [op, ef, cl, sq, reduceIte, q3, q4, q5, q6, q7, q8, q9, j1, j2, S1, h0, h1, h2, h8, h9, h10, e1, ws]
        refine ⟨((i + j) / 2 + 1, j), by simp only; omega, hx.trans hx2, rfl, rfl, by simp only; omega, hjn, fun k x hk hxk => ?_, hhi⟩
        by_cases e : k = (i + j) / 2
        · subst e; rw [hp] at hxk; cases hxk; exact hc
        · have := hr k ((i + j) / 2) x p (by simp only at hk; omega) hxk hp; omega
      · have e1 : decide (cmp3 p.part q < 0) = false := by simp [cmp3]; split <;> omega
        simp -implicitDefEqProofs only [op, ef, cl, sq, reduceIte, q3, q4, q5, q6, q7, q8, q9, j1, j2, S1, h0, h1, h2, h8, h9, h10, e1]
        refine ⟨(i, (i + j) / 2), by simp only; omega, hx.trans hx2, rfl, rfl, by simp only; omega, by simp only; omega, hlo, fun k x hk hxk => ?_⟩
        by_cases e : k = (i + j) / 2
        · subst e; rw [hp] at hxk; cases hxk; omega
        · have := hr ((i + j) / 2) k p x (by simp only at hk; omega) hp hxk; omega
    · have hij' : i = j := by omega
      subst hij'
      simp -implicitDefEqProofs only [op, ef, cl, sq, reduceIte, q3, q4, q5, q6, q7, q8, q9, j1, j2, S1, h0, h1, h2, h8, h9, h10, hlt]
      exact ⟨hx, i, rfl, hjn, hlo, hhi⟩
  rintro R H1 ⟨hx, i, h0, h1, h2, h8, h9, hi, hlo, hhi⟩
  by_cases hin : i < ps.length
  · obtain ⟨p, hp⟩ := getP (l := ps) hin
    obtain ⟨b, hb1, hb2, hb3, hb4, hb5⟩ := mut_get (hm.ext hx) hp
    simp -implicitDefEqProofs only [op, ef, cl, sq, reduceIte, q3, q4, q5, q6, q7, q8, q9, j1, j2, S1, h0, h1, h2, h8, h9, hin, natOf_nat, hb4, hb3, hb5]
    refine b_vg _ _ _ _ _ _ _ (by simp -implicitDefEqProofs only [op, ef, cl, sq, reduceIte, q3, q4, q5, q6, q7, q8, q9, j1, j2, S1]) ?_
    simp -implicitDefEqProofs only [op, ef, cl, sq, reduceIte, q3, q4, q5, q6, q7, q8, q9, j1, j2, S1, callvB, h0, h1, h2, List.append_nil]
    refine callB_of _ _ _ _ _ _ _ _ (clo27 p q _) ?_
    rintro u H2 ⟨hu, hx2⟩
    cases hu
    have hx2 : Ext H1 H2 := hx2
    have hge := hhi i p (Nat.le_refl _) hp
    by_cases hc : p.part = q
    · have e1 : (cmp3 p.part q == 0) = true := by simp [cmp3, hc]
      simp -implicitDefEqProofs only [op, ef, cl, sq, reduceIte, q3, q4, q5, q6, q7, q8, q9, j1, j2, S1, h9, e1]
      exact ⟨hx.trans hx2, i, true, rfl, hi, hlo, hhi, by simp [hp, hc]⟩
    · have e1 : (cmp3 p.part q == 0) = false := by
        have : ¬ ((p.part : Int) < q) := by omega
        have h2 : (q : Int) < p.part := by omega
        simp [cmp3, this, h2]
      simp -implicitDefEqProofs only [op, ef, cl, sq, reduceIte, q3, q4, q5, q6, q7, q8, q9, j1, j2, S1, h9, e1]
      exact ⟨hx.trans hx2, i, false, rfl, hi, hlo, hhi, by simp [hp, hc]⟩
  · simp -implicitDefEqProofs only [op, ef, cl, sq, reduceIte, q3, q4, q5, q6, q7, q8, q9, j1, j2, S1, h0, h1, h2, h8, h9, hin]
    exact ⟨hx, i, false, rfl, hi, hlo, hhi, by simp [List.getElem?_eq_none (show ps.length ≤ i by omega)]⟩
end Go.Proofs.Ytpbilghnfldmiaa.Sx
end

section
namespace Go.Proofs.Ytpbilghnfldmiaa.Sx
open Go.Rmp Go.Proofs.Shardk Go.Proofs.Ytpbilghnfldmiaa.Ir
set_option maxRecDepth 10000
def RiseP {α : Type} (ps : List (Pt α)) : Prop := ps.Pairwise fun p q => p.part < q.part
theorem RiseP.rise {α : Type} {ps : List (Pt α)} (h : RiseP ps) : Rise ps := fun i j p q hij hp hq => by
  unfold RiseP at h
  rw [List.pairwise_iff_getElem] at h
  obtain ⟨h1, e1⟩ := List.getElem?_eq_some_iff.1 hp
  obtain ⟨h2, e2⟩ := List.getElem?_eq_some_iff.1 hq
  have := h i j h1 h2 hij
  rw [e1, e2] at this; exact this
structure Grp {α : Type} (key : α → ByteArray) (p : Nat) (ks : List α) (ps : List (Pt α)) : Prop where
  rise : RiseP ps
  item : ∀ q ∈ ps, q.part < p ∧ q.items = ks.filter (fun k => decide (ofN (key k) p = q.part)) ∧ q.items ≠ []
  all : ∀ k ∈ ks, ∃ q ∈ ps, q.part = ofN (key k) p
theorem Grp.nil {α : Type} (key : α → ByteArray) (p : Nat) : Grp key p [] [] := ⟨List.Pairwise.nil, by simp, by simp⟩
theorem roomS {n bytes : Nat} (h : n ≤ 2097152) (hb : bytes ≤ 64) : roomOk n bytes = true := by
  simp -implicitDefEqProofs only [roomOk, decide_eq_true_eq]
  have h1 : n + n / 4 + 512 ≤ 2621952 := by omega
  exact Nat.le_trans (Nat.mul_le_mul h1 hb) (by decide)
theorem take_sn {α : Type} {l : List α} {i : Nat} {v : α} (h : l[i]? = some v) : l.take (i + 1) = l.take i ++ [v] := by
  rw [List.take_add_one, h]; rfl
theorem Grp.found {α : Type} {key : α → ByteArray} {p : Nat} {ks : List α} {ps : List (Pt α)} (h : Grp key p ks ps) {i : Nat} {x : Pt α} (hx : ps[i]? = some x) {k : α} (hk : x.part = ofN (key k) p) (kk : T) :
    Grp key p (ks ++ [k]) (ps.set i ⟨x.part, kk, x.items ++ [k]⟩) := by
  have hxm : x ∈ ps := List.mem_of_getElem? hx
  obtain ⟨e1, e2⟩ := set_split hx
  have hpw : ps.Pairwise fun p q => p.part < q.part := h.rise
  rw [e1, List.pairwise_append, List.pairwise_cons] at hpw
  refine ⟨pw_set h.rise hx (fun a _ h => h) (fun a _ h => h), fun q hq => ?_, fun k' hk' => ?_⟩
  · have other : ∀ z ∈ ps, z.part ≠ x.part → z.part < p ∧ z.items = (ks ++ [k]).filter (fun k => decide (ofN (key k) p = z.part)) ∧ z.items ≠ [] := fun z hz hne => by
      obtain ⟨h1, h2, h3⟩ := h.item z hz
      refine ⟨h1, ?_, h3⟩
      have : ¬ (ofN (key k) p = z.part) := fun e => hne (by rw [hk, e])
      simp [List.filter_append, this, ← h2]
    rw [e2] at hq
    rcases List.mem_append.1 hq with hq | hq
    · exact other q (List.mem_of_mem_take hq) (by have := hpw.2.2 q hq x (by simp); omega)
    · rcases List.mem_cons.1 hq with rfl | hq
      · obtain ⟨h1, h2, h3⟩ := h.item x hxm
        refine ⟨h1, ?_, by simp⟩
        simp [List.filter_append, hk.symm, ← h2]
      · exact other q (List.mem_of_mem_drop hq) (by have := hpw.2.1.1 q hq; omega)
  · have hs : ∃ q ∈ ps, q.part = ofN (key k') p := by
      rcases List.mem_append.1 hk' with h1 | h1
      · exact h.all k' h1
      · simp at h1; subst h1; exact ⟨x, hxm, hk⟩
    obtain ⟨q, hq, he⟩ := hs
    rw [e2]
    rw [e1] at hq
    rcases List.mem_append.1 hq with hq | hq
    · exact ⟨q, List.mem_append.2 (.inl hq), he⟩
    · rcases List.mem_cons.1 hq with rfl | hq
      · exact ⟨_, List.mem_append.2 (.inr (List.mem_cons_self ..)), he⟩
      · exact ⟨q, List.mem_append.2 (.inr (List.mem_cons_of_mem _ hq)), he⟩
theorem Grp.ins {α : Type} {key : α → ByteArray} {p : Nat} {ks : List α} {ps : List (Pt α)} (h : Grp key p ks ps) {i : Nat} {k : α} {q : Nat} (hk : q = ofN (key k) p) (hq : q < p) (hlo : ∀ a ∈ ps.take i, a.part < q) (hhi : ∀ a ∈ ps.drop i, q < a.part) (kk : T) :
    Grp key p (ks ++ [k]) (ps.take i ++ ⟨q, kk, [k]⟩ :: ps.drop i) := by
  have hne : ∀ z ∈ ps, z.part ≠ q := fun z hz => by
    rw [← List.take_append_drop i ps] at hz
    rcases List.mem_append.1 hz with hz | hz
    · have := hlo z hz; omega
    · have := hhi z hz; omega
  refine ⟨pw_ins h.rise i hlo hhi, fun z hz => ?_, fun k' hk' => ?_⟩
  · have other : ∀ z ∈ ps, z.part < p ∧ z.items = (ks ++ [k]).filter (fun k => decide (ofN (key k) p = z.part)) ∧ z.items ≠ [] := fun z hz => by
      obtain ⟨h1, h2, h3⟩ := h.item z hz
      refine ⟨h1, ?_, h3⟩
      have : ¬ (ofN (key k) p = z.part) := fun e => hne z hz (by omega)
      simp [List.filter_append, this, ← h2]
    rcases List.mem_append.1 hz with hz | hz
    · exact other z (List.mem_of_mem_take hz)
    · rcases List.mem_cons.1 hz with rfl | hz
      · refine ⟨hq, ?_, by simp⟩
        have h0 : ks.filter (fun k => decide (ofN (key k) p = q)) = [] := List.filter_eq_nil_iff.2 fun a ha => by
          obtain ⟨z, hz, e⟩ := h.all a ha
          have := hne z hz
          simp; omega
        simp [List.filter_append, h0, hk.symm]
      · exact other z (List.mem_of_mem_drop hz)
  · rcases List.mem_append.1 hk' with h1 | h1
    · obtain ⟨z, hz, e⟩ := h.all k' h1
      refine ⟨z, ?_, e⟩
      rw [← List.take_append_drop i ps] at hz
      rcases List.mem_append.1 hz with hz | hz
      · exact List.mem_append.2 (.inl hz)
      · exact List.mem_append.2 (.inr (List.mem_cons_of_mem _ hz))
    · simp at h1; subst h1
      exact ⟨_, List.mem_append.2 (.inr (List.mem_cons_self ..)), hk⟩
theorem Grp.len {α : Type} {key : α → ByteArray} {p : Nat} {ks : List α} {ps : List (Pt α)} (h : Grp key p ks ps) : ps.length ≤ p := by
  have : ∀ (l : List (Pt α)) (lo : Nat), RiseP l → (∀ x ∈ l, lo ≤ x.part ∧ x.part < p) → lo ≤ p → l.length ≤ p - lo := by
    intro l
    induction l with
    | nil => intro lo _ _ _; simp
    | cons x l ih =>
      intro lo hr hb _
      have hr' := List.pairwise_cons.1 hr
      have hx := hb x (by simp)
      have := ih (x.part + 1) hr'.2 (fun y hy => ⟨hr'.1 y hy, (hb y (by simp [hy])).2⟩) (by omega)
      simp; omega
  have h1 := this ps 0 h.rise (fun x hx => ⟨Nat.zero_le _, (h.item x hx).1⟩) (Nat.zero_le _)
  omega
theorem Grp.uniq {α : Type} {key : α → ByteArray} {p : Nat} {ks : List α} {ps qs : List (Pt α)} (h : Grp key p ks ps) (h' : Grp key p ks qs) : ps.map (fun x => (x.part, x.items)) = qs.map (fun x => (x.part, x.items)) := by
  have hp : ∀ {a b : List (Pt α)}, Grp key p ks a → Grp key p ks b → ∀ x ∈ a, ∃ y ∈ b, y.part = x.part := fun {a b} ha hb x hx => by
    obtain ⟨h1, h2, h3⟩ := ha.item x hx
    cases hi : x.items with
    | nil => exact absurd hi h3
    | cons k r =>
      have hk : k ∈ x.items := by rw [hi]; simp
      rw [h2] at hk
      obtain ⟨hk1, hk2⟩ := List.mem_filter.1 hk
      obtain ⟨y, hy, e⟩ := hb.all k hk1
      exact ⟨y, hy, by simp at hk2; omega⟩
  have hparts : ps.map (·.part) = qs.map (·.part) := by
    have r1 : (ps.map (·.part)).Pairwise (· < ·) := List.pairwise_map.2 h.rise
    have r2 : (qs.map (·.part)).Pairwise (· < ·) := List.pairwise_map.2 h'.rise
    have m : ∀ z, z ∈ ps.map (·.part) ↔ z ∈ qs.map (·.part) := fun z => by
      constructor
      · intro hz
        obtain ⟨x, hx, rfl⟩ := List.mem_map.1 hz
        obtain ⟨y, hy, e⟩ := hp h h' x hx
        exact List.mem_map.2 ⟨y, hy, e⟩
      · intro hz
        obtain ⟨x, hx, rfl⟩ := List.mem_map.1 hz
        obtain ⟨y, hy, e⟩ := hp h' h x hx
        exact List.mem_map.2 ⟨y, hy, e⟩
    exact eq_of_rise r1 r2 m
  have hit : ∀ {a : List (Pt α)}, Grp key p ks a → a.map (fun x => (x.part, x.items)) = (a.map (·.part)).map (fun n => (n, ks.filter (fun k => decide (ofN (key k) p = n)))) := fun {a} ha => by
    rw [List.map_map]
    exact List.map_congr_left fun x hx => by simp [(ha.item x hx).2.1]
  rw [hit h, hit h', hparts]
where
  eq_of_rise : ∀ {a b : List Nat}, a.Pairwise (· < ·) → b.Pairwise (· < ·) → (∀ z, z ∈ a ↔ z ∈ b) → a = b := by
    intro a
    induction a with
    | nil => intro b _ _ h; cases b with | nil => rfl | cons y b => exact absurd ((h y).2 (by simp)) (by simp)
    | cons x a ih =>
      intro b ha hb h
      cases b with
      | nil => exact absurd ((h x).1 (by simp)) (by simp)
      | cons y b =>
        have ha' := List.pairwise_cons.1 ha
        have hb' := List.pairwise_cons.1 hb
        have hxy : x = y := by
          rcases List.mem_cons.1 ((h x).1 (by simp)) with e | e
          · exact e
          · rcases List.mem_cons.1 ((h y).2 (by simp)) with e' | e'
            · exact e'.symm
            · have := ha'.1 y e'; have := hb'.1 x e; omega
        subst hxy
        congr 1
        refine ih ha'.2 hb'.2 fun z => ⟨fun hz => ?_, fun hz => ?_⟩
        · rcases List.mem_cons.1 ((h z).1 (by simp [hz])) with e | e
          · have := ha'.1 z hz; omega
          · exact e
        · rcases List.mem_cons.1 ((h z).2 (by simp [hz])) with e | e
          · have := hb'.1 z hz; omega
          · exact e
end Go.Proofs.Ytpbilghnfldmiaa.Sx
end

section
namespace Go.Proofs.Ytpbilghnfldmiaa.Sx
open Go.Rmp Go.Proofs.Shardk Go.Proofs.Ytpbilghnfldmiaa.Ir
set_option maxRecDepth 10000
theorem ins25 (n0 bv i q : Nat) (t : T) (ps : List (Pt ByteArray)) (H : Heap) (hH : n0 ≤ H.length) (hm : Mut encPt 2 n0 H t ps) (hv : H[bv]? = some (.cells [.int .i64 q, .sl .nil []])) (hne : ∀ off len n, t ≠ .msl bv off len n) (hi : i ≤ ps.length) (hl : ps.length ≤ 64) :
    W env (.call 25 [t, .int .i64 i, .msl bv 0 1 2]) H (InsQ encPt 2 n0 H t (ps.take i ++ ⟨q, .sl .nil [], []⟩ :: ps.drop i)) := by
  rcases hm with ⟨rfl, rfl⟩ | ⟨b, rfl, hb, hbn⟩
  · have hi0 : i = 0 := by simpa using hi
    subst hi0
    exact ins_nil (f := 25) (bytes := 32) (fr := 34) encPt_len (by decide) ⟨0, .sl .nil [], []⟩ rfl n0 bv ⟨q, .sl .nil [], []⟩ H hH hv (roomS (by omega) (by omega))
  · exact ins_msl (f := 25) (bytes := 32) (fr := 34) encPt_len (by decide) ⟨0, .sl .nil [], []⟩ rfl n0 bv b i ⟨q, .sl .nil [], []⟩ ps H hH hv hb hbn (fun h => hne 0 ps.length 2 (by rw [h])) hi (by omega) (roomS (by omega) (by omega))
theorem ins28 (n0 bv i q : Nat) (t : T) (ps : List (Pt (ByteArray × ByteArray))) (H : Heap) (hH : n0 ≤ H.length) (hm : Mut encPt 2 n0 H t ps) (hv : H[bv]? = some (.cells [.int .i64 q, .sl .nil []])) (hne : ∀ off len n, t ≠ .msl bv off len n) (hi : i ≤ ps.length) (hl : ps.length ≤ 64) :
    W env (.call 28 [t, .int .i64 i, .msl bv 0 1 2]) H (InsQ encPt 2 n0 H t (ps.take i ++ ⟨q, .sl .nil [], []⟩ :: ps.drop i)) := by
  rcases hm with ⟨rfl, rfl⟩ | ⟨b, rfl, hb, hbn⟩
  · have hi0 : i = 0 := by simpa using hi
    subst hi0
    exact ins_nil (f := 28) (bytes := 32) (fr := 36) encPt_len (by decide) ⟨0, .sl .nil [], []⟩ rfl n0 bv ⟨q, .sl .nil [], []⟩ H hH hv (roomS (by omega) (by omega))
  · exact ins_msl (f := 28) (bytes := 32) (fr := 36) encPt_len (by decide) ⟨0, .sl .nil [], []⟩ rfl n0 bv b i ⟨q, .sl .nil [], []⟩ ps H hH hv hb hbn (fun h => hne 0 ps.length 2 (by rw [h])) hi (by omega) (roomS (by omega) (by omega))
def GrpQ {α : Type} (e : α → List T) (m : Nat) (key : α → ByteArray) (p : Nat) (ks : List α) (H : Heap) : Out → Heap → Prop := fun o H' => Ext H H' ∧ ∃ t ps, o = .val (.tup [t, .int .i64 0]) ∧ GInv e m H.length H' t ps ∧ Grp key p ks ps
theorem iadX {α : Type} {e : α → List T} {n : Nat} (hn : ∀ x, (e x).length = n) (h0 : n ≠ 0) {l : List α} {k : SK} {i : Nat} {x : α} (h : l[i]? = some x) : iadT n i (.sl k (l.map e)) = some (.iptr (e x)) := iad_map h (hn x) h0
theorem group12 (w : T) (ks : List ByteArray) (p : Nat) (h1 : 1 ≤ p) (h2 : p ≤ 64) (H : Heap) (hv : Vw eS 1 H w ks) (hl : ks.length ≤ 1048576) (hs : ∀ s ∈ ks, s.size < 9223372036854775807) : W env (.call 12 [w, .int .i64 p]) H (GrpQ eS 1 id p ks H) := by
  refine W.fnI rfl rfl rfl ?_
  simp -implicitDefEqProofs only [ir12, op, ef, cl, sq, reduceIte, q3, q4, q5, q6, q7, q8, q9, j1, j2, S1]
  refine callB_of _ _ _ _ _ _ _ _ (may19 p _) ?_
  rintro u H ⟨hu, rfl⟩
  have g1 : (1 : Int) ≤ (p : Int) := by omega
  have g2 : (p : Int) ≤ 64 := by omega
  cases hu
  have hvl := hv.len _ Ext.rfl'
  simp -implicitDefEqProofs only [op, ef, cl, sq, reduceIte, q3, q4, q5, q6, q7, q8, q9, j1, j2, S1, g1, g2, Bool.and_self, hvl]
  refine W.loopI (fun (i : Nat) R H' => At H' (fun H' => ∃ t ps, R 6 = t ∧ Ext H H' ∧ GInv eS 1 H.length H' t ps ∧ Grp id p (ks.take i) ps) ∧ R 1 = .int .i64 p ∧ R 15 = w ∧ R 16 = .int .i64 ks.length ∧ R 17 = .int .i64 i ∧ i ≤ ks.length) (fun i => ks.length - i) 0 ⟨.i ⟨_, [], rfl, Ext.rfl', GInv.nil _ _ _ _, by simpa using Grp.nil id p⟩, rfl, rfl, rfl, rfl, Nat.zero_le _⟩ ?_
  rintro i R H1 ⟨⟨t, ps, h6, hx1, hgi, hg⟩, h1', h15, h16, h17, hi⟩
  by_cases hlt : i < ks.length
  · obtain ⟨s, hsv⟩ := getP (l := ks) hlt
    have wsi := wrap_succ (show i < 9223372036854775807 by omega)
    have hm := hgi.1
    obtain ⟨a, hia, hla⟩ := hv.rd H1 i s hx1 hsv
    unfold eS at hla
    have hpl := hg.len
    simp -implicitDefEqProofs only [op, ef, cl, sq, reduceIte, q3, q4, q5, q6, q7, q8, q9, j1, j2, S1, h1', h6, h15, h16, h17, hlt, natOf_nat, hia, hla]
    refine callB_of _ _ _ _ _ _ _ _ (of20 s p h1 h2 _ (hs s (List.mem_of_getElem? hsv))) ?_
    rintro u H1 ⟨hu, rfl⟩
    cases hu
    simp -implicitDefEqProofs only [op, ef, cl, sq, reduceIte, q3, q4, q5, q6, q7, q8, q9, j1, j2, S1, h6]
    refine callB_of _ _ _ _ _ _ _ _ (srch22 H.length t ps (ofN s p) _ hm hg.rise.rise (by omega)) ?_
    rintro u H2 ⟨hx2, at', fd, hu, hat, hlo, hhi, hfd⟩
    cases hu
    have hx2 : Ext H1 H2 := hx2
    have hxH := hx1.trans hx2
    have hm2 := hm.ext hx2
    have hgi2 := hgi.ext hx2
    have hs1 : (eS s).map T.erase = eS s := rfl
    have hks := take_sn hsv
    have hitl : ∀ z ∈ ps, z.items.length ≤ i := fun z hz => by
      rw [(hg.item z hz).2.1]
      refine Nat.le_trans (List.length_filter_le ..) ?_
      simp; omega
    cases fd
    · have hnf : ∀ x, ps[at']? = some x → x.part ≠ ofN s p := fun x hx e => by
        have := hfd.2 ⟨x, hx, e⟩; cases this
      simp -implicitDefEqProofs only [op, ef, cl, sq, reduceIte, q3, q4, q5, q6, q7, q8, q9, j1, j2, S1, h1', h6, S2]
      refine callB_of _ _ _ _ _ _ _ _ (ins25 H.length H2.length at' (ofN s p) t ps _ (by have := hxH.len; simp; omega) (hm2.ext ⟨_, rfl⟩) (by simp) (fun off len n ht => ?_) hat (by omega)) ?_
      · rcases hm2 with ⟨_, rfl⟩ | ⟨b, rfl, hb, _⟩
        · cases ht
        · cases ht; exact absurd (glt hb) (Nat.lt_irrefl _)
      rintro u H3 ⟨b, hu, hb, hbn, hst, hfb⟩
      cases hu
      have hyl : (ps.take at' ++ ⟨ofN s p, .sl .nil [], []⟩ :: ps.drop at').length = ps.length + 1 := by simp; omega
      have hx : (ps.take at' ++ (⟨ofN s p, .sl .nil [], []⟩ : Pt ByteArray) :: ps.drop at')[at']? = some ⟨ofN s p, .sl .nil [], []⟩ := by
        rw [List.getElem?_append_right (by rw [List.length_take]; omega), List.length_take, Nat.min_eq_left hat, Nat.sub_self]; rfl
      have hset : ∀ y : Pt ByteArray, (ps.take at' ++ (⟨ofN s p, .sl .nil [], []⟩ : Pt ByteArray) :: ps.drop at').set at' y = ps.take at' ++ y :: ps.drop at' := fun y => by
        rw [List.set_append_right _ _ (by rw [List.length_take]; omega), List.length_take, Nat.min_eq_left hat, Nat.sub_self]; rfl
      have hti3 := (hgi2.ext ⟨_, rfl⟩).ins hst hfb at' (ofN s p)
      have hxH3 : Ext H H3 := hst.ext H (Nat.le_refl _) (hxH.app _)
      obtain ⟨bn, t', H4, hbn', ha, hb3, hld, hst4, hti4, hx4, hm4⟩ := own_step (e := eS) (m := 1) (bytes := 16) (fun _ => rfl) hti3 hb hbn hx s (roomS (by simp) (by omega)) hxH3 rfl
      subst hbn'
      have hat2 : at' < (ps.take at' ++ (⟨ofN s p, .sl .nil [], []⟩ : Pt ByteArray) :: ps.drop at').length := by omega
      have hall := all_map (enc := eS) (n := 1) (fun _ => rfl) ([] : List ByteArray)
      simp -implicitDefEqProofs only [eS, List.map_nil, List.nil_append, List.map_cons, List.length_nil, Nat.zero_add] at ha hld hst4 hall hm4 hti4 hx4
      simp -implicitDefEqProofs only [op, ef, cl, sq, reduceIte, q3, q4, q5, q6, q7, q8, q9, j1, j2, S1, h1', h6, h15, h16, h17, natOf_nat, iad_m, hat2, hb, hld, hall, ha, hb3, hst4, wsi]
      refine ⟨i + 1, by omega, .i ⟨_, _, rfl, hx4, ⟨hm4, b, fun _ _ _ _ h => by cases h; rfl, hti4⟩, ?_⟩, rfl, by omega⟩
      rw [hks, hset]
      refine hg.ins rfl (ofN_lt s (by omega)) (fun a ha => ?_) (fun a ha => ?_) _
      · obtain ⟨j, hj, e⟩ := List.getElem_of_mem ha
        rw [List.length_take] at hj
        exact hlo j a (by omega) (by rw [← e, List.getElem_take]; exact List.getElem?_eq_getElem _)
      · obtain ⟨j, hj, e⟩ := List.getElem_of_mem ha
        rw [List.length_drop] at hj
        have hja : ps[at' + j]? = some a := by rw [← e, List.getElem_drop]; exact List.getElem?_eq_getElem _
        have h1 := hhi (at' + j) a (by omega) hja
        have h2 : a.part ≠ ofN s p := fun e2 => by
          obtain ⟨x0, hx0⟩ := getP (l := ps) (i := at') (by omega)
          have h3 := hhi at' x0 (Nat.le_refl _) hx0
          rcases Nat.eq_zero_or_pos j with rfl | hj0
          · exact hnf a hja e2
          · have h4 := hg.rise.rise at' (at' + j) x0 a (by omega) hx0 hja
            omega
        exact Nat.lt_of_le_of_ne h1 (Ne.symm h2)
    · obtain ⟨x, hx, hxp⟩ := hfd.1 rfl
      obtain ⟨b, rfl, hbn, hb, hb4, hb5⟩ := mut_get hm2 hx
      obtain ⟨_, ob, ho, hti2⟩ := hgi2
      obtain rfl : b = ob := ho _ _ _ _ rfl
      obtain ⟨bn, t', H3, hbn', ha, hb3, hld, hst, hti3, hx3, hm3⟩ := own_step (e := eS) (m := 1) (bytes := 16) (fun _ => rfl) hti2 hb hbn hx s (roomS (by have := hitl x (List.mem_of_getElem? hx); omega) (by omega)) hxH rfl
      subst hbn'
      have hat2 : at' < ps.length := (List.getElem?_eq_some_iff.1 hx).1
      have hall := all_map (enc := eS) (n := 1) (fun _ => rfl) x.items
      simp -implicitDefEqProofs only [eS] at ha hst
      simp -implicitDefEqProofs only [op, ef, cl, sq, reduceIte, q3, q4, q5, q6, q7, q8, q9, j1, j2, S1, h1', h6, h15, h16, h17, natOf_nat, iad_m, hat2, hb, hld, hall, ha, hb3, hst, wsi]
      exact ⟨i + 1, by omega, .i ⟨_, _, rfl, hx3, ⟨hm3, b, fun _ _ _ _ h => by cases h; rfl, hti3⟩, by rw [hks]; exact hg.found hx hxp _⟩, rfl, by omega⟩
  · have hil : i = ks.length := by omega
    subst hil
    simp -implicitDefEqProofs only [op, ef, cl, sq, reduceIte, q3, q4, q5, q6, q7, q8, q9, j1, j2, S1, h1', h6, h15, h16, h17, hlt]
    rw [List.take_length] at hg
    exact ⟨hx1, t, ps, rfl, hgi, hg⟩
end Go.Proofs.Ytpbilghnfldmiaa.Sx
end

section
namespace Go.Proofs.Ytpbilghnfldmiaa.Sx
open Go.Rmp Go.Proofs.Shardk Go.Proofs.Ytpbilghnfldmiaa.Ir
set_option maxRecDepth 10000
theorem group15 (w : T) (ks : List (ByteArray × ByteArray)) (p : Nat) (h1 : 1 ≤ p) (h2 : p ≤ 64) (H : Heap) (hv : Vw eP 2 H w ks) (hl : ks.length ≤ 1048576) (hs : ∀ s ∈ ks, s.1.size < 9223372036854775807) : W env (.call 15 [w, .int .i64 p]) H (GrpQ eP 2 Prod.fst p ks H) := by
  refine W.fnI rfl rfl rfl ?_
  simp -implicitDefEqProofs only [ir15, op, ef, cl, sq, reduceIte, q3, q4, q5, q6, q7, q8, q9, j1, j2, S1]
  refine callB_of _ _ _ _ _ _ _ _ (may19 p _) ?_
  rintro u H ⟨hu, rfl⟩
  have g1 : (1 : Int) ≤ (p : Int) := by omega
  have g2 : (p : Int) ≤ 64 := by omega
  cases hu
  have hvl := hv.len _ Ext.rfl'
  simp -implicitDefEqProofs only [op, ef, cl, sq, reduceIte, q3, q4, q5, q6, q7, q8, q9, j1, j2, S1, g1, g2, Bool.and_self, hvl]
  refine W.loopI (fun (i : Nat) R H' => At H' (fun H' => ∃ t ps, R 6 = t ∧ Ext H H' ∧ GInv eP 2 H.length H' t ps ∧ Grp Prod.fst p (ks.take i) ps) ∧ R 1 = .int .i64 p ∧ R 15 = w ∧ R 16 = .int .i64 ks.length ∧ R 17 = .int .i64 i ∧ i ≤ ks.length) (fun i => ks.length - i) 0 ⟨.i ⟨_, [], rfl, Ext.rfl', GInv.nil _ _ _ _, by simpa using Grp.nil Prod.fst p⟩, rfl, rfl, rfl, rfl, Nat.zero_le _⟩ ?_
  rintro i R H1 ⟨⟨t, ps, h6, hx1, hgi, hg⟩, h1', h15, h16, h17, hi⟩
  by_cases hlt : i < ks.length
  · obtain ⟨s, hsv⟩ := getP (l := ks) hlt
    have wsi := wrap_succ (show i < 9223372036854775807 by omega)
    have hm := hgi.1
    obtain ⟨a, hia, hla⟩ := hv.rd H1 i s hx1 hsv
    unfold eP at hla
    have hpl := hg.len
    simp -implicitDefEqProofs only [op, ef, cl, sq, reduceIte, q3, q4, q5, q6, q7, q8, q9, j1, j2, S1, h1', h6, h15, h16, h17, hlt, natOf_nat, hia, hla, S2]
    refine callB_of _ _ _ _ _ _ _ _ (of20 s.1 p h1 h2 _ (hs s (List.mem_of_getElem? hsv))) ?_
    rintro u H1' ⟨hu, hH1⟩
    cases hu
    have hA : Ext H1 H1' := by rw [hH1]; exact ⟨_, rfl⟩
    have hb8 : H1'[H1.length]? = some (.cells [.str s.1, .str s.2]) := by rw [hH1]; exact g_tail rfl
    have htn : ∀ off len n, t ≠ .msl H1.length off len n := fun off len n ht => by
      rcases hm with ⟨_, rfl⟩ | ⟨b, rfl, hb, _⟩
      · cases ht
      · cases ht; exact absurd (glt hb) (Nat.lt_irrefl _)
    have hm := hm.ext hA
    have hgi := hgi.ext hA
    have hx1 := hx1.trans hA
    have ld8 : ldcB 2 0 (some (.cells [.str s.1, .str s.2])) = some [.str s.1, .str s.2] := rfl
    simp -implicitDefEqProofs only [op, ef, cl, sq, reduceIte, q3, q4, q5, q6, q7, q8, q9, j1, j2, S1, h6]
    refine callB_of _ _ _ _ _ _ _ _ (srch26 H.length t ps (ofN s.1 p) _ hm hg.rise.rise (by omega)) ?_
    rintro u H2 ⟨hx2, at', fd, hu, hat, hlo, hhi, hfd⟩
    cases hu
    have hx2 : Ext H1' H2 := hx2
    have hb82 := hx2.get hb8
    have hxH := hx1.trans hx2
    have hm2 := hm.ext hx2
    have hgi2 := hgi.ext hx2
    have hs1 : (eP s).map T.erase = eP s := rfl
    have hks := take_sn hsv
    have hitl : ∀ z ∈ ps, z.items.length ≤ i := fun z hz => by
      rw [(hg.item z hz).2.1]
      refine Nat.le_trans (List.length_filter_le ..) ?_
      simp; omega
    cases fd
    · have hnf : ∀ x, ps[at']? = some x → x.part ≠ ofN s.1 p := fun x hx e => by
        have := hfd.2 ⟨x, hx, e⟩; cases this
      simp -implicitDefEqProofs only [op, ef, cl, sq, reduceIte, q3, q4, q5, q6, q7, q8, q9, j1, j2, S1, h1', h6, S2]
      refine callB_of _ _ _ _ _ _ _ _ (ins28 H.length H2.length at' (ofN s.1 p) t ps _ (by have := hxH.len; simp; omega) (hm2.ext ⟨_, rfl⟩) (by simp) (fun off len n ht => ?_) hat (by omega)) ?_
      · rcases hm2 with ⟨_, rfl⟩ | ⟨b, rfl, hb, _⟩
        · cases ht
        · cases ht; exact absurd (glt hb) (Nat.lt_irrefl _)
      rintro u H3 ⟨b, hu, hb, hbn, hst, hfb⟩
      cases hu
      have hb83 := hst.get _ _ ((Ext.rfl'.app _).get hb82) htn
      have hyl : (ps.take at' ++ ⟨ofN s.1 p, .sl .nil [], []⟩ :: ps.drop at').length = ps.length + 1 := by simp; omega
      have hx : (ps.take at' ++ (⟨ofN s.1 p, .sl .nil [], []⟩ : Pt (ByteArray × ByteArray)) :: ps.drop at')[at']? = some ⟨ofN s.1 p, .sl .nil [], []⟩ := by
        rw [List.getElem?_append_right (by rw [List.length_take]; omega), List.length_take, Nat.min_eq_left hat, Nat.sub_self]; rfl
      have hset : ∀ y : Pt (ByteArray × ByteArray), (ps.take at' ++ (⟨ofN s.1 p, .sl .nil [], []⟩ : Pt (ByteArray × ByteArray)) :: ps.drop at').set at' y = ps.take at' ++ y :: ps.drop at' := fun y => by
        rw [List.set_append_right _ _ (by rw [List.length_take]; omega), List.length_take, Nat.min_eq_left hat, Nat.sub_self]; rfl
      have hti3 := (hgi2.ext ⟨_, rfl⟩).ins hst hfb at' (ofN s.1 p)
      have hxH3 : Ext H H3 := hst.ext H (Nat.le_refl _) (hxH.app _)
      obtain ⟨bn, t', H4, hbn', ha, hb3, hld, hst4, hti4, hx4, hm4⟩ := own_step (e := eP) (m := 2) (bytes := 32) (fun _ => rfl) hti3 hb hbn hx s (roomS (by simp) (by omega)) hxH3 rfl
      subst hbn'
      have hat2 : at' < (ps.take at' ++ (⟨ofN s.1 p, .sl .nil [], []⟩ : Pt (ByteArray × ByteArray)) :: ps.drop at').length := by omega
      have hall := all_map (enc := eP) (n := 2) (fun _ => rfl) ([] : List (ByteArray × ByteArray))
      simp -implicitDefEqProofs only [eP, List.map_nil, List.nil_append, List.map_cons, List.length_nil, Nat.zero_add] at ha hld hst4 hall hm4 hti4 hx4
      simp -implicitDefEqProofs only [op, ef, cl, sq, reduceIte, q3, q4, q5, q6, q7, q8, q9, j1, j2, S1, h1', h6, h15, h16, h17, natOf_nat, iad_m, hat2, hb, hb83, ld8, hld, hall, ha, hb3, hst4, wsi]
      refine ⟨i + 1, by omega, .i ⟨_, _, rfl, hx4, ⟨hm4, b, fun _ _ _ _ h => by cases h; rfl, hti4⟩, ?_⟩, rfl, by omega⟩
      rw [hks, hset]
      refine hg.ins rfl (ofN_lt s.1 (by omega)) (fun a ha => ?_) (fun a ha => ?_) _
      · obtain ⟨j, hj, e⟩ := List.getElem_of_mem ha
        rw [List.length_take] at hj
        exact hlo j a (by omega) (by rw [← e, List.getElem_take]; exact List.getElem?_eq_getElem _)
      · obtain ⟨j, hj, e⟩ := List.getElem_of_mem ha
        rw [List.length_drop] at hj
        have hja : ps[at' + j]? = some a := by rw [← e, List.getElem_drop]; exact List.getElem?_eq_getElem _
        have h1 := hhi (at' + j) a (by omega) hja
        have h2 : a.part ≠ ofN s.1 p := fun e2 => by
          obtain ⟨x0, hx0⟩ := getP (l := ps) (i := at') (by omega)
          have h3 := hhi at' x0 (Nat.le_refl _) hx0
          rcases Nat.eq_zero_or_pos j with rfl | hj0
          · exact hnf a hja e2
          · have h4 := hg.rise.rise at' (at' + j) x0 a (by omega) hx0 hja
            omega
        exact Nat.lt_of_le_of_ne h1 (Ne.symm h2)
    · obtain ⟨x, hx, hxp⟩ := hfd.1 rfl
      obtain ⟨b, rfl, hbn, hb, hb4, hb5⟩ := mut_get hm2 hx
      obtain ⟨_, ob, ho, hti2⟩ := hgi2
      obtain rfl : b = ob := ho _ _ _ _ rfl
      obtain ⟨bn, t', H3, hbn', ha, hb3, hld, hst, hti3, hx3, hm3⟩ := own_step (e := eP) (m := 2) (bytes := 32) (fun _ => rfl) hti2 hb hbn hx s (roomS (by have := hitl x (List.mem_of_getElem? hx); omega) (by omega)) hxH rfl
      subst hbn'
      have hat2 : at' < ps.length := (List.getElem?_eq_some_iff.1 hx).1
      have hall := all_map (enc := eP) (n := 2) (fun _ => rfl) x.items
      simp -implicitDefEqProofs only [eP] at ha hst
      simp -implicitDefEqProofs only [op, ef, cl, sq, reduceIte, q3, q4, q5, q6, q7, q8, q9, j1, j2, S1, h1', h6, h15, h16, h17, natOf_nat, iad_m, hat2, hb, hb82, ld8, hld, hall, ha, hb3, hst, wsi]
      exact ⟨i + 1, by omega, .i ⟨_, _, rfl, hx3, ⟨hm3, b, fun _ _ _ _ h => by cases h; rfl, hti3⟩, by rw [hks]; exact hg.found hx hxp _⟩, rfl, by omega⟩
  · have hil : i = ks.length := by omega
    subst hil
    simp -implicitDefEqProofs only [op, ef, cl, sq, reduceIte, q3, q4, q5, q6, q7, q8, q9, j1, j2, S1, h1', h6, h15, h16, h17, hlt]
    rw [List.take_length] at hg
    exact ⟨hx1, t, ps, rfl, hgi, hg⟩
end Go.Proofs.Ytpbilghnfldmiaa.Sx
end

section
namespace Go.Proofs.Ytpbilghnfldmiaa.Sx
open Go.Rmp Go.Proofs.Shardk Go.Proofs.Ytpbilghnfldmiaa.Ir
set_option maxRecDepth 10000
theorem p_all (a b : ByteArray) : hasAll [Ty1.str, .str] [.str a, .str b] = true := rfl
theorem p_eq (a b c d : ByteArray) : eqCells [.str a, .str b] [.str c, .str d] = some (decide (a = c) && decide (b = d)) := by
  simp [eqCells, eqSc, strEq_eq]
theorem p_ne {x y : ByteArray × ByteArray} (h : x ≠ y) : (decide (x.1 = y.1) && decide (x.2 = y.2)) = false := by
  cases hh : (decide (x.1 = y.1) && decide (x.2 = y.2)) with
  | false => rfl
  | true => simp at hh; exact absurd (Prod.ext hh.1 hh.2) h
theorem same13 {t t' : T} {a b : List ByteArray} {H : Heap} (va : Vw eS 1 H t a) (vb : Vw eS 1 H t' b) (hl : a.length < 9223372036854775807) : W env (.call 13 [t, t']) H (Ret (.bool (decide (a = b))) H) := by
  refine W.fnI rfl rfl rfl ?_
  have l1 := va.len H Ext.rfl'
  have l2 := vb.len H Ext.rfl'
  by_cases hab : a.length = b.length
  · simp -implicitDefEqProofs only [ir13, op, ef, cl, sq, reduceIte, q3, q4, q5, q6, q7, q8, q9, j1, j2, S1, l1, l2, hab]
    refine W.loopV [(0, _), (1, _)] (fun (i : Nat) R H' => H' = H ∧ R 5 = .int .i64 i ∧ i ≤ a.length ∧ ∀ j, j < i → a[j]? = b[j]?) (fun i => a.length - i) 0 ⟨rfl, rfl, Nat.zero_le _, fun j h => by omega⟩ ?_
    rintro i R H1 ⟨rfl, h5, hi, he⟩
    by_cases hlt : i < a.length
    · obtain ⟨x, hx⟩ := getP (l := a) hlt
      obtain ⟨y, hy⟩ := getP (l := b) (i := i) (by omega)
      have ws := wrap_succ (show i < 9223372036854775807 by omega)
      obtain ⟨p1, ix, lx⟩ := va.rd _ i x Ext.rfl' hx
      obtain ⟨p2, iy, ly⟩ := vb.rd _ i y Ext.rfl' hy
      unfold eS at lx ly
      by_cases hxy : x = y
      · subst hxy
        simp -implicitDefEqProofs only [mkR_nil, mkR_cons, op, ef, cl, sq, reduceIte, q3, q4, q5, q6, q7, q8, q9, j1, j2, S1, h5, l1, hlt, natOf_nat, ix, iy, lx, ly, p_all, p_eq, ws]
        refine ⟨i + 1, by omega, rfl, by omega, fun j hj => ?_⟩
        by_cases e : j = i
        · subst e; rw [hx, hy]
        · exact he j (by omega)
      · have hne : a ≠ b := by rintro rfl; rw [hx] at hy; cases hy; exact hxy rfl
        have hq := hxy
        simp -implicitDefEqProofs only [mkR_nil, mkR_cons, op, ef, cl, sq, reduceIte, q3, q4, q5, q6, q7, q8, q9, j1, j2, S1, h5, l1, hlt, natOf_nat, ix, iy, lx, ly, p_all, p_eq, hq, hne]
    · have : a = b := List.ext_getElem? fun j => by
        by_cases hj : j < a.length
        · exact he j (by omega)
        · rw [List.getElem?_eq_none (by omega), List.getElem?_eq_none (by omega)]
      subst this
      simp -implicitDefEqProofs only [mkR_nil, mkR_cons, op, ef, cl, sq, reduceIte, q3, q4, q5, q6, q7, q8, q9, j1, j2, S1, h5, l1, hlt]
  · have hne : a ≠ b := by rintro rfl; exact hab rfl
    simp -implicitDefEqProofs only [ir13, op, ef, cl, sq, reduceIte, q3, q4, q5, q6, q7, q8, q9, j1, j2, S1, l1, l2, hab, hne]
theorem same17 {t t' : T} {a b : List (ByteArray × ByteArray)} {H : Heap} (va : Vw eP 2 H t a) (vb : Vw eP 2 H t' b) (hl : a.length < 9223372036854775807) : W env (.call 17 [t, t']) H (Ret (.bool (decide (a = b))) H) := by
  refine W.fnI rfl rfl rfl ?_
  have l1 := va.len H Ext.rfl'
  have l2 := vb.len H Ext.rfl'
  by_cases hab : a.length = b.length
  · simp -implicitDefEqProofs only [ir17, op, ef, cl, sq, reduceIte, q3, q4, q5, q6, q7, q8, q9, j1, j2, S1, l1, l2, hab]
    refine W.loopV [(0, _), (1, _)] (fun (i : Nat) R H' => H' = H ∧ R 5 = .int .i64 i ∧ i ≤ a.length ∧ ∀ j, j < i → a[j]? = b[j]?) (fun i => a.length - i) 0 ⟨rfl, rfl, Nat.zero_le _, fun j h => by omega⟩ ?_
    rintro i R H1 ⟨rfl, h5, hi, he⟩
    by_cases hlt : i < a.length
    · obtain ⟨x, hx⟩ := getP (l := a) hlt
      obtain ⟨y, hy⟩ := getP (l := b) (i := i) (by omega)
      have ws := wrap_succ (show i < 9223372036854775807 by omega)
      obtain ⟨p1, ix, lx⟩ := va.rd _ i x Ext.rfl' hx
      obtain ⟨p2, iy, ly⟩ := vb.rd _ i y Ext.rfl' hy
      unfold eP at lx ly
      by_cases hxy : x = y
      · subst hxy
        simp -implicitDefEqProofs only [mkR_nil, mkR_cons, op, ef, cl, sq, reduceIte, q3, q4, q5, q6, q7, q8, q9, j1, j2, S1, h5, l1, hlt, natOf_nat, ix, iy, lx, ly, p_all, p_eq, ws]
        refine ⟨i + 1, by omega, rfl, by omega, fun j hj => ?_⟩
        by_cases e : j = i
        · subst e; rw [hx, hy]
        · exact he j (by omega)
      · have hne : a ≠ b := by rintro rfl; rw [hx] at hy; cases hy; exact hxy rfl
        have hq := (p_ne hxy)
        simp -implicitDefEqProofs only [mkR_nil, mkR_cons, op, ef, cl, sq, reduceIte, q3, q4, q5, q6, q7, q8, q9, j1, j2, S1, h5, l1, hlt, natOf_nat, ix, iy, lx, ly, p_all, p_eq, hq, hne]
    · have : a = b := List.ext_getElem? fun j => by
        by_cases hj : j < a.length
        · exact he j (by omega)
        · rw [List.getElem?_eq_none (by omega), List.getElem?_eq_none (by omega)]
      subst this
      simp -implicitDefEqProofs only [mkR_nil, mkR_cons, op, ef, cl, sq, reduceIte, q3, q4, q5, q6, q7, q8, q9, j1, j2, S1, h5, l1, hlt]
  · have hne : a ≠ b := by rintro rfl; exact hab rfl
    simp -implicitDefEqProofs only [ir17, op, ef, cl, sq, reduceIte, q3, q4, q5, q6, q7, q8, q9, j1, j2, S1, l1, l2, hab, hne]
end Go.Proofs.Ytpbilghnfldmiaa.Sx
end

section
namespace Go.Proofs.Ytpbilghnfldmiaa.Sx
open Go.Rmp Go.Proofs.Shardk Go.Proofs.Ytpbilghnfldmiaa.Ir
set_option maxRecDepth 10000
theorem of8n (s : ByteArray) (p : Nat) (h1 : 1 ≤ p) (h2 : p ≤ 64) (H : Heap) (hs : s.size < 9223372036854775807) : W env (.call 8 [.str s, .int .i64 p]) H (Ret (.tup [.int .i64 (ofN s p : Nat), .int .i64 0]) H) := by
  have h := of8 s p H hs
  have hk : okP p = true := by simp [okP]; omega
  simpa only [ofV, hk, if_true, Int.toNat_natCast] using h
def tB : ByteArray := ⟨#[98]⟩
def tA : ByteArray := ⟨#[97]⟩
theorem of_b64 : ofN tB 64 = 37 := by decide +kernel
theorem of_b4 : ofN tB 4 = 1 := by decide +kernel
theorem of_a4 : ofN tA 4 = 0 := by decide +kernel
theorem of_e4 : ofN ⟨#[]⟩ 4 = 1 := by decide +kernel
theorem grp0 : Grp id 4 [tB, tA, ⟨#[]⟩, tB] [⟨0, .sl .nil [], [tA]⟩, ⟨1, .sl .nil [], [tB, ⟨#[]⟩, tB]⟩] := by
  refine ⟨by simp [RiseP], ?_, ?_⟩
  · intro q hq
    simp at hq
    rcases hq with rfl | rfl
    · simp [List.filter, of_b4, of_a4, of_e4]
    · simp [List.filter, of_b4, of_a4, of_e4]
  · intro k hk
    simp -implicitDefEqProofs only [List.mem_cons, List.not_mem_nil, or_false] at hk
    rcases hk with rfl | rfl | rfl | rfl
    · simp [of_b4]
    · simp [of_a4]
    · simp [of_e4]
    · simp [of_b4]
theorem grp1 {ps : List (Pt ByteArray)} (h : Grp id 4 [tB, tA, ⟨#[]⟩, tB] ps) : ∃ k0 k1, ps = [⟨0, k0, [tA]⟩, ⟨1, k1, [tB, ⟨#[]⟩, tB]⟩] := by
  have e := h.uniq grp0
  match ps, e with
  | [a, b], e =>
    simp at e
    obtain ⟨⟨e1, e2⟩, e3, e4⟩ := e
    exact ⟨a.kt, b.kt, by rw [← e1, ← e2, ← e3, ← e4]⟩
  | [], e => simp at e
  | [_], e => simp at e
  | _ :: _ :: _ :: _, e => simp at e
theorem known10 (H : Heap) : W env (.call 10 []) H (RetG (.bool true) H) := by
  refine W.fnI rfl rfl rfl ?_
  simp -implicitDefEqProofs only [ir10, op, ef, cl, sq, reduceIte, q3, q4, q5, q6, q7, q8, q9, j1, j2, S1]
  refine callB_of _ _ _ _ _ _ _ _ (group12 _ [tB, tA, ⟨#[]⟩, tB] 4 (by decide) (by decide) _ (Vw.sl (e := eS) (m := 1) (fun _ => rfl) (by decide) _ .full [tB, tA, ⟨#[]⟩, tB]) (by decide) (fun s hs => ?_)) ?_
  · simp -implicitDefEqProofs only [List.mem_cons, List.not_mem_nil, or_false] at hs
    rcases hs with rfl | rfl | rfl | rfl <;> decide
  rintro u H1 ⟨hx1, t, ps, hu, ⟨hm, ob, _, hf⟩, hg⟩
  cases hu
  obtain ⟨k0, k1, rfl⟩ := grp1 hg
  rcases hm with ⟨h, _⟩ | ⟨b, rfl, hb, hbn⟩
  · cases h
  have v0 : Vw eS 1 H1 k0 [tA] := (Fam.lay hf (k0, [tA]) (by simp [prP])).1.vw (fun _ => rfl) (by decide)
  have v1 : Vw eS 1 H1 k1 [tB, ⟨#[]⟩, tB] := (Fam.lay hf (k1, [tB, ⟨#[]⟩, tB]) (by simp [prP])).1.vw (fun _ => rfl) (by decide)
  simp -implicitDefEqProofs only [op, ef, cl, sq, reduceIte, q3, q4, q5, q6, q7, q8, q9, j1, j2, S1]
  refine callB_of _ _ _ _ _ _ _ _ (of8n tB 64 (by decide) (by decide) _ (by decide)) ?_
  rintro u H1 ⟨hu, rfl⟩
  cases hu
  have hb : H1[b]? = some (.cells [.int .i64 0, k0, .int .i64 1, k1]) := hb
  have n0 : natOf (.int .i64 0) = some 0 := rfl
  have n1 : natOf (.int .i64 1) = some 1 := rfl
  have c37 : ((37 : Nat) : Int) = 37 := rfl
  have c2 : (([(⟨0, k0, [tA]⟩ : Pt ByteArray), ⟨1, k1, [tB, ⟨#[]⟩, tB]⟩].length : Nat) : Int) = 2 := rfl
  simp -implicitDefEqProofs only [op, ef, cl, sq, reduceIte, q3, q4, q5, q6, q7, q8, q9, j1, j2, S1, Nat.reduceMul, of_b64, c37, c2, n0, n1, iad_m, hb]
  refine callB_of _ _ _ _ _ _ _ _ (same13 v0 (Vw.sl (e := eS) (m := 1) (fun _ => rfl) (by decide) _ .full [tA]) (by decide)) ?_
  rintro u H1 ⟨hu, rfl⟩
  cases hu
  simp -implicitDefEqProofs only [op, ef, cl, sq, reduceIte, q3, q4, q5, q6, q7, q8, q9, j1, j2, S1, Nat.reduceMul, n0, n1, iad_m, hb]
  refine callB_of _ _ _ _ _ _ _ _ (same13 v1 (Vw.sl (e := eS) (m := 1) (fun _ => rfl) (by decide) _ .full [tB, ⟨#[]⟩, tB]) (by decide)) ?_
  rintro u H1 ⟨hu, rfl⟩
  cases hu
  simp -implicitDefEqProofs only [op, ef, cl, sq, reduceIte, q3, q4, q5, q6, q7, q8, q9, j1, j2, S1]
  exact ⟨rfl, hx1⟩
end Go.Proofs.Ytpbilghnfldmiaa.Sx
end

section
namespace Go.Proofs.Ytpbilghnfldmiaa.Sx
open Go.Rmp Go.Proofs.Shardk Go.Proofs.Ytpbilghnfldmiaa.Ir
set_option maxRecDepth 10000
def restI (n : Int) (most : Nat) : Nat := (n % ((most : Int) + 1)).toNat
theorem restI_le (n : Int) (most : Nat) : restI n most ≤ most := by
  unfold restI
  have h1 := Int.emod_nonneg n (show (most : Int) + 1 ≠ 0 by omega)
  have h2 := Int.emod_lt_of_pos n (show 0 < (most : Int) + 1 by omega)
  omega
theorem tmod_rest (n : Int) (most : Nat) : (if n.tmod ((most : Int) + 1) < 0 then n.tmod ((most : Int) + 1) + (most : Int) + 1 else n.tmod ((most : Int) + 1)) = (restI n most : Int) := by
  unfold restI
  have h1 := Int.emod_nonneg n (show (most : Int) + 1 ≠ 0 by omega)
  have h2 := Int.emod_lt_of_pos n (show 0 < (most : Int) + 1 by omega)
  have h3 := @Int.tmod_eq_emod n ((most : Int) + 1)
  rw [Int.toNat_of_nonneg h1]
  by_cases hc : 0 ≤ n ∨ (most : Int) + 1 ∣ n
  · simp -implicitDefEqProofs only [hc, if_true] at h3
    split <;> omega
  · simp -implicitDefEqProofs only [hc, if_false] at h3
    have h4 : (((most : Int) + 1).natAbs : Int) = (most : Int) + 1 := by omega
    split <;> omega
theorem rest11 (n : Int) (most : Nat) (hm : most < 4611686018427387903) (hn : -9223372036854775808 ≤ n ∧ n ≤ 9223372036854775807) (H : Heap) : W env (.call 11 [.int .i64 n, .int .i64 most]) H (Ret (.int .i64 (restI n most : Nat)) H) := by
  refine W.fnI rfl rfl rfl ?_
  have w1 : IntKind.i64.wrap ((most : Int) + 1) = ((most : Int) + 1) := wrap64 (by omega)
  have nz : ¬ ((most : Int) + 1) = 0 := by omega
  have hr := tmod_rest n most
  have hl := restI_le n most
  have hb : -((most : Int) + 1) < n.tmod ((most : Int) + 1) := Int.lt_tmod_of_pos n (by omega)
  have hb2 : n.tmod ((most : Int) + 1) < ((most : Int) + 1) := Int.tmod_lt_of_pos n (by omega)
  by_cases hneg : n.tmod ((most : Int) + 1) < 0
  · have w2 : IntKind.i64.wrap (n.tmod ((most : Int) + 1) + (most : Int)) = n.tmod ((most : Int) + 1) + (most : Int) := wrap64 (by omega)
    have w3 : IntKind.i64.wrap (n.tmod ((most : Int) + 1) + (most : Int) + 1) = n.tmod ((most : Int) + 1) + (most : Int) + 1 := wrap64 (by omega)
    rw [if_pos hneg] at hr
    simp -implicitDefEqProofs only [ir11, op, ef, cl, sq, reduceIte, q3, q4, q5, q6, q7, q8, q9, j1, j2, S1, w1, nz, hneg, w2, w3]
    exact hr
  · rw [if_neg hneg] at hr
    simp -implicitDefEqProofs only [ir11, op, ef, cl, sq, reduceIte, q3, q4, q5, q6, q7, q8, q9, j1, j2, S1, w1, nz, hneg]
    exact hr
end Go.Proofs.Ytpbilghnfldmiaa.Sx
end

section
namespace Go.Proofs.Ytpbilghnfldmiaa.Sx
open Go.Rmp Go.Proofs.Shardk Go.Proofs.Ytpbilghnfldmiaa.Ir
set_option maxRecDepth 10000
def markT (i : Nat) : ByteArray := ⟨#[UInt8.ofNat (IntKind.u8.wrap i).toNat, UInt8.ofNat (IntKind.u8.wrap ((i : Int).fdiv (2 ^ (min (8 : Int).toNat IntKind.i64.bits)))).toNat, 7, 7, 7]⟩
theorem mark29 (i : Nat) (hi : i < 4294967296) (H : Heap) : W env (.call 29 [.int .i64 i]) H (Ret (.str (markT i)) H) := by
  refine W.fnI rfl rfl rfl ?_
  simp -implicitDefEqProofs only [ir29, op, ef, cl, sq, reduceIte, q3, q4, q5, q6, q7, q8, q9, j1, j2, S1, bytesOf]
  rfl
end Go.Proofs.Ytpbilghnfldmiaa.Sx
end

section
namespace Go.Proofs.Ytpbilghnfldmiaa.Sx
open Go.Rmp Go.Proofs.Shardk Go.Proofs.Ytpbilghnfldmiaa.Ir
set_option maxRecDepth 10000
theorem aps_ok {α : Type} {enc : α → List T} {n : Nat} (hn : ∀ x, (enc x).length = n) (her : ∀ x, (enc x).map T.erase = enc x) {E : Env} {R : Regs} {H : Heap} {K : Regs → Heap → Prop} {l0 : List O} {d : Option Nat} {s : List Rd} {g : Gd} {bytes t bb ty : Nat} {l new : List α} {ky : SK}
    (ht : R t = .msl bb 0 l.length n) (hy : R ty = .sl ky (new.map enc)) (hb : H[bb]? = some (.cells (msC enc l))) (h0 : 0 < l.length) (hnew : new ≠ []) (hr : roomOk (l.length + new.length) bytes = true)
    (h : ∀ kw H', Ext (H.set bb (.fz (msC enc l))) H' → Apd H.length H' kw → stB R H' s ∧ wpB E l0 (updo R d (.sl kw ((l ++ new).map enc))) H' K) : stepB E R H K l0 d s (.app n bytes false (.r t) (.r ty)) g none := by
  have hne : ty ≠ t := fun e => by rw [e, ht] at hy; cases hy
  obtain ⟨kw, H', ha, hap, hst⟩ := app_ok (n0 := H.length) (H := H.set bb (.fz (msC enc l)) ++ [.tok l.length]) (k := .own H.length l.length) (bytes := bytes) (l.map enc) (new.map enc) (.inr (.inr ⟨_, _, rfl, Nat.le_refl _, g_tail (by simp)⟩)) (by simp) (by simpa using hnew) (by simpa using hr)
  refine step_aps (t := t) (y := .r ty) (v := .sl kw ((l ++ new).map enc)) (H' := H') E R H K l0 d s ht hb (msC_len hn l).symm h0 ?_ (h kw H' (hst.ext _ (by simp) ⟨_, rfl⟩) hap)
  have hmm : (new.map enc).map (·.map T.erase) = new.map enc := by rw [List.map_map]; exact List.map_congr_left fun x _ => her x
  rw [hmm, ← List.map_append] at ha
  have h1 : upd R t (.sl (.own H.length l.length) (l.map enc)) ty = R ty := by simp [upd, hne]
  have h2 : upd R t (.sl (.own H.length l.length) (l.map enc)) t = .sl (.own H.length l.length) (l.map enc) := by simp [upd]
  have h3 : elemsOf (H.set bb (.fz (msC enc l)) ++ [.tok l.length]) n (.sl ky (new.map enc)) = some (new.map enc) := by simp [elemsOf, hn]
  simp -implicitDefEqProofs only [evop, X.ev, frzE_ms hn, h1, h2, hy, h3, Bool.false_eq_true, if_false, all_map hn, if_true]
  exact ha
def mkP (i : Nat) : ByteArray × ByteArray := (markT i, ⟨#[]⟩)
def Kp (L : Nat) (H H' : Heap) : Prop := ∀ b x, L ≤ b → H[b]? = some x → H'[b]? = some x
theorem Kp.refl (L : Nat) (H : Heap) : Kp L H H := fun _ _ _ h => h
theorem Kp.set {L : Nat} {H H' : Heap} (h : Kp L H H') {b : Nat} (hb : b < L) (x : B) : Kp L H (H'.set b x) := fun c y hc hy => by rw [g_ne (show b ≠ c by omega)]; exact h c y hc hy
theorem Fam.keepF {α : Type} {e : α → List T} {m n0 ob : Nat} {H H' : Heap} {ps : List (T × List α)} (h : Fam e m n0 ob H ps) (hk : ∀ q ∈ ps, ∀ b n x, q.1 = .msl b 0 n m → H[b]? = some x → H'[b]? = some x) : Fam e m n0 ob H' ps :=
  ⟨fun q hq => ⟨Mut.keep (h.lay q hq).1 fun b n x e1 hx => hk q hq b n x e1 hx, (h.lay q hq).2⟩, h.dis⟩
theorem Fam.keepC {α : Type} {e : α → List T} {m n0 ob : Nat} {H H' : Heap} {ps : List (T × List α)} (h : Fam e m n0 ob H ps) (hk : ∀ q ∈ ps, ∀ b n cs, q.1 = .msl b 0 n m → n0 ≤ b → H[b]? = some (.cells cs) → H'[b]? = some (.cells cs)) : Fam e m n0 ob H' ps :=
  ⟨fun q hq => ⟨by
    rcases (h.lay q hq).1 with h1 | ⟨b, e1, e2, e3⟩
    · exact .inl h1
    · exact .inr ⟨b, e1, hk q hq b _ _ e1 e3 e2, e3⟩, (h.lay q hq).2⟩, h.dis⟩
theorem low_wr {α : Type} {mk : Nat → α} {n L : Nat} {A : List (T × List α)} (h : ∀ q ∈ A, ∀ b n m, q.1 = .msl b 0 n m → b < L) : ∀ q ∈ wr mk n A, ∀ b n m, q.1 = .msl b 0 n m → b < L := fun q hq b k m e1 => by
  have : q.1 ∈ (wr mk n A).map (·.1) := List.mem_map_of_mem hq
  rw [wr_fst] at this
  obtain ⟨q', hq', e2⟩ := List.mem_map.1 this
  exact h q' hq' b k m (by rw [← e1]; exact e2)
theorem set_same {α : Type} {l : List α} {i : Nat} {x : α} (h : l[i]? = some x) : l.set i x = l := by
  obtain ⟨h1, rfl⟩ := List.getElem?_eq_some_iff.1 h
  exact List.set_getElem_self h1
def lst (A : List (T × List ByteArray)) (k : Nat) : List ByteArray := List.replicate (((A[k]?).map (·.2.length)).getD 0 + 30) (markT k)
def laL (A : List (T × List ByteArray)) (i : Nat) : List (List T) := (List.range i).map fun k => [T.sl .arg ((lst A k).map eS)]
structure Half {α : Type} (mk : Nat → α) (enc : α → List T) (m : Nat) (A : List (T × List α)) (i : Nat) (H : Heap) : Prop where
  fz : ∀ k q b n, A[k]? = some q → k < i → q.1 = .msl b 0 n m → H[b]? = some (.fz (msC enc (List.replicate q.2.length (mk k))))
  cl : ∀ k q b n, A[k]? = some q → i ≤ k → q.1 = .msl b 0 n m → H[b]? = some (.cells (msC enc (List.replicate q.2.length (mk k))))
theorem half0 {α : Type} {mk : Nat → α} {enc : α → List T} {m n0 ob : Nat} {H : Heap} {A : List (T × List α)} (h : Fam enc m n0 ob H (wr mk A.length A)) : Half mk enc m A 0 H :=
  ⟨fun _ _ _ _ _ h => absurd h (Nat.not_lt_zero _), fun k q b n hq _ e => by
    have hk : k < A.length := (List.getElem?_eq_some_iff.1 hq).1
    have hw := wr_get mk A.length hq
    rw [if_pos hk] at hw
    obtain ⟨h1, _⟩ := h.lay _ (List.mem_of_getElem? hw)
    rcases h1 with ⟨_, h2⟩ | ⟨b', h2, h3, _⟩
    · simp only at h2; rw [e] at h2; cases h2
    · simp only at h2 h3; rw [e] at h2; cases h2; exact h3⟩
def lstP (X : List (T × List (ByteArray × ByteArray))) (k : Nat) : List (ByteArray × ByteArray) := List.replicate (((X[k]?).map (·.2.length)).getD 0 + 30) (mkP k)
def lxL (X : List (T × List (ByteArray × ByteArray))) (i : Nat) : List (List T) := (List.range i).map fun k => [T.sl .arg ((lstP X k).map eP)]
theorem marked18 {n0 ob n1 ob' L : Nat} {A : List (T × List ByteArray)} {X : List (T × List (ByteArray × ByteArray))} (kA kX : SK) {H : Heap} (hA : Fam eS 1 n0 ob H A) (hX : Fam eP 2 n1 ob' H X) (hLA : ∀ q ∈ A, ∀ b n m, q.1 = .msl b 0 n m → b < L) (hLX : L ≤ n1)
    (hA0 : ∀ q ∈ A, q.2 ≠ [] ∧ q.2.length ≤ 1048576) (hX0 : ∀ q ∈ X, q.2 ≠ [] ∧ q.2.length ≤ 1048576) (hAl : A.length ≤ 128) (hXl : X.length ≤ 128) :
    W env (.call 18 [.sl kA (A.map fun q => [q.1]), .sl kX (X.map fun q => [q.1])]) H (fun o _ => o = .val (.bool true)) := by
  refine W.fnI rfl rfl rfl ?_
  simp -implicitDefEqProofs only [ir18, op, ef, cl, sq, reduceIte, q3, q4, q5, q6, q7, q8, q9, j1, j2, S1]
  refine W.loopV [(0, _), (1, _), (4, _), (5, _), (6, _)] (fun (i : Nat) R H' => R 7 = .int .i64 i ∧ i ≤ A.length ∧ Fam eS 1 n0 ob H' (wr markT i A) ∧ Kp L H H') (fun i => A.length - i) 0 ⟨rfl, Nat.zero_le _, by rw [wr_zero]; exact hA, Kp.refl L H⟩ ?_
  rintro i R H1 ⟨g7, hi, hf, hk⟩
  by_cases hlt : i < A.length
  · obtain ⟨⟨t, l⟩, hx⟩ := getP hlt
    have wsi := wrap_succ (show i < 9223372036854775807 by omega)
    obtain ⟨hl0, hll⟩ := hA0 _ (List.mem_of_getElem? hx)
    have hll : l.length ≤ 1048576 := hll
    obtain ⟨y0, hy0⟩ := getP (l := l) (i := 0) (List.length_pos_iff.2 hl0)
    obtain ⟨b, rfl, _, hbn, hbo⟩ := hA.at hx hy0
    have hbL := hLA _ (List.mem_of_getElem? hx) _ _ _ rfl
    have ia := iadX (e := fun q : T × List ByteArray => [q.1]) (n := 1) (fun _ => rfl) (by decide) (k := kA) hx
    simp -implicitDefEqProofs only [mkR_nil, mkR_cons, op, ef, cl, sq, reduceIte, q3, q4, q5, q6, q7, q8, q9, j1, j2, S1, List.length_map, g7, hlt]
    refine W.loopV (hv := ⟨rfl, rfl, rfl, rfl, rfl, g7, trivial⟩) [(0, _), (1, _), (4, _), (5, _), (6, _), (7, _)] (fun (j : Nat) R H' => R 8 = .int .i64 j ∧ j ≤ l.length ∧ Fam eS 1 n0 ob H' ((wr markT i A).set i (.msl b 0 l.length 1, lft (markT i) j l)) ∧ Kp L H H') (fun j => l.length - j) 0 ⟨rfl, Nat.zero_le _, ?_, hk⟩ ?_
    · rw [lft_zero, set_same (by rw [wr_get markT i hx, if_neg (Nat.lt_irrefl i)])]; exact hf
    rintro j R H2 ⟨g8, hj, hf2, hk2⟩
    by_cases hltj : j < l.length
    · have wsj := wrap_succ (show j < 9223372036854775807 by omega)
      simp -implicitDefEqProofs only [mkR_nil, mkR_cons, op, ef, cl, sq, reduceIte, q3, q4, q5, q6, q7, q8, q9, j1, j2, S1, List.length_map, g8, natOf_nat, ia, hltj]
      refine callB_of _ _ _ _ _ _ _ _ (mark29 i (by omega) _) ?_
      rintro u H3 ⟨hu, rfl⟩
      cases hu
      have hlen := lft_len (markT i) hj
      have hxi : ((wr markT i A).set i (.msl b 0 l.length 1, lft (markT i) j l))[i]? = some (.msl b 0 l.length 1, lft (markT i) j l) := List.getElem?_set_self (by rw [wr_len]; exact hlt)
      obtain ⟨yj, hyj⟩ := getP (l := lft (markT i) j l) (i := j) (by omega)
      obtain ⟨b', e1, hb2, _, _⟩ := hf2.at hxi hyj
      obtain ⟨rfl, _⟩ := T.msl.inj e1
      have hst := msC_set (enc := eS) (n := 1) (fun _ => rfl) hyj (y := markT i) H3 b [.str (markT i)] 0 (by simp) rfl
      rw [Nat.add_zero, lft_set (markT i) hltj] at hst
      simp -implicitDefEqProofs only [mkR_nil, mkR_cons, op, ef, cl, sq, reduceIte, q3, q4, q5, q6, q7, q8, q9, j1, j2, S1, g8, natOf_nat, iad_m, hltj, hb2, hst, wsj, ia]
      refine ⟨j + 1, by omega, rfl, hltj, ?_, hk2.set hbL _⟩
      have := Fam.put (l' := lft (markT i) (j + 1) l) hf2 (by rw [hxi, hlen]) (by rw [lft_len _ hltj, hlen]) hb2 hbn
      rw [List.set_set, hlen] at this
      exact this
    · have hjl : j = l.length := by omega
      subst hjl
      simp -implicitDefEqProofs only [mkR_nil, mkR_cons, op, ef, cl, sq, reduceIte, q3, q4, q5, q6, q7, q8, q9, j1, j2, S1, List.length_map, g8, natOf_nat, ia, hltj, wsi]
      exact ⟨i + 1, by omega, rfl, hlt, by rw [wr_succ markT hx, ← lft_all]; exact hf2, hk2⟩
  · have hil : i = A.length := by omega
    subst hil
    simp -implicitDefEqProofs only [mkR_nil, mkR_cons, op, ef, cl, sq, reduceIte, q3, q4, q5, q6, q7, q8, q9, j1, j2, S1, List.length_map, g7, hlt]
    have hXk : Fam eP 2 n1 ob' H1 X := hX.keep fun c x _ hc hx => hk c x (by omega) hx
    clear hlt g7 hi
    refine W.loopV [(0, _), (1, _), (4, _), (5, _), (6, _)] (fun (i : Nat) R H' => R 9 = .int .i64 i ∧ i ≤ X.length ∧ Fam eP 2 n1 ob' H' (wr mkP i X) ∧ Fam eS 1 n0 ob H' (wr markT A.length A)) (fun i => X.length - i) 0 ⟨rfl, Nat.zero_le _, by rw [wr_zero]; exact hXk, hf⟩ ?_
    rintro i R H1 ⟨g7, hi, hf, hfA⟩
    by_cases hlt : i < X.length
    · obtain ⟨⟨t, l⟩, hx⟩ := getP hlt
      have wsi := wrap_succ (show i < 9223372036854775807 by omega)
      obtain ⟨hl0, hll⟩ := hX0 _ (List.mem_of_getElem? hx)
      have hll : l.length ≤ 1048576 := hll
      obtain ⟨y0, hy0⟩ := getP (l := l) (i := 0) (List.length_pos_iff.2 hl0)
      obtain ⟨b, rfl, _, hbn, hbo⟩ := hX.at hx hy0
      have ia := iadX (e := fun q : T × List (ByteArray × ByteArray) => [q.1]) (n := 1) (fun _ => rfl) (by decide) (k := kX) hx
      simp -implicitDefEqProofs only [mkR_nil, mkR_cons, op, ef, cl, sq, reduceIte, q3, q4, q5, q6, q7, q8, q9, j1, j2, S1, List.length_map, g7, hlt]
      refine W.loopV (hv := ⟨rfl, rfl, rfl, rfl, rfl, g7, trivial⟩) [(0, _), (1, _), (4, _), (5, _), (6, _), (9, _)] (fun (j : Nat) R H' => R 10 = .int .i64 j ∧ j ≤ l.length ∧ Fam eP 2 n1 ob' H' ((wr mkP i X).set i (.msl b 0 l.length 2, lft (mkP i) j l)) ∧ Fam eS 1 n0 ob H' (wr markT A.length A)) (fun j => l.length - j) 0 ⟨rfl, Nat.zero_le _, ?_, hfA⟩ ?_
      · rw [lft_zero, set_same (by rw [wr_get mkP i hx, if_neg (Nat.lt_irrefl i)])]; exact hf
      rintro j R H2 ⟨g8, hj, hf2, hfA2⟩
      by_cases hltj : j < l.length
      · have wsj := wrap_succ (show j < 9223372036854775807 by omega)
        simp -implicitDefEqProofs only [mkR_nil, mkR_cons, op, ef, cl, sq, reduceIte, q3, q4, q5, q6, q7, q8, q9, j1, j2, S1, List.length_map, g8, natOf_nat, ia, hltj]
        refine callB_of _ _ _ _ _ _ _ _ (mark29 i (by omega) _) ?_
        rintro u H3 ⟨hu, rfl⟩
        cases hu
        have hlen := lft_len (mkP i) hj
        have hxi : ((wr mkP i X).set i (.msl b 0 l.length 2, lft (mkP i) j l))[i]? = some (.msl b 0 l.length 2, lft (mkP i) j l) := List.getElem?_set_self (by rw [wr_len]; exact hlt)
        obtain ⟨yj, hyj⟩ := getP (l := lft (mkP i) j l) (i := j) (by omega)
        obtain ⟨b', e1, hb2, _, _⟩ := hf2.at hxi hyj
        obtain ⟨rfl, _⟩ := T.msl.inj e1
        have hst := msC_set (enc := eP) (n := 2) (fun _ => rfl) hyj (y := mkP i) H3 b [.str (markT i), .str ⟨#[]⟩] 0 (by simp) rfl
        rw [Nat.add_zero, lft_set (mkP i) hltj] at hst
        simp -implicitDefEqProofs only [mkR_nil, mkR_cons, op, ef, cl, sq, reduceIte, q3, q4, q5, q6, q7, q8, q9, j1, j2, S1, g8, natOf_nat, iad_m, hltj, hb2, hst, wsj, ia]
        refine ⟨j + 1, by omega, rfl, hltj, ?_, ?_⟩
        · have := Fam.put (l' := lft (mkP i) (j + 1) l) hf2 (by rw [hxi, hlen]) (by rw [lft_len _ hltj, hlen]) hb2 hbn
          rw [List.set_set, hlen] at this
          exact this
        · exact Fam.keepF hfA2 fun q hq c n x e2 hx2 => by rw [g_ne (show b ≠ c from fun h => by have := low_wr hLA q hq c n 1 e2; omega)]; exact hx2
      · have hjl : j = l.length := by omega
        subst hjl
        simp -implicitDefEqProofs only [mkR_nil, mkR_cons, op, ef, cl, sq, reduceIte, q3, q4, q5, q6, q7, q8, q9, j1, j2, S1, List.length_map, g8, natOf_nat, ia, hltj, wsi]
        exact ⟨i + 1, by omega, rfl, hlt, by rw [wr_succ mkP hx, ← lft_all]; exact hf2, hfA2⟩
    · have hil : i = X.length := by omega
      subst hil
      simp -implicitDefEqProofs only [mkR_nil, mkR_cons, op, ef, cl, sq, reduceIte, q3, q4, q5, q6, q7, q8, q9, j1, j2, S1, List.length_map, g7, hlt]
      clear hlt g7 hi
      obtain ⟨H0, hH0⟩ : ∃ H0, H0 = H1 := ⟨_, rfl⟩
      refine W.loopV [(0, _), (1, _), (4, _), (6, _)] (fun (i : Nat) R H' => At H' (fun H' => ∃ k5, R 5 = .sl k5 (laL A i) ∧ Apd H0.length H' k5 ∧ Half markT eS 1 A i H' ∧ Fam eP 2 n1 ob' H' (wr mkP X.length X) ∧ H0.length ≤ H'.length) ∧ R 11 = .int .i64 i ∧ i ≤ A.length) (fun i => A.length - i) 0 ⟨.i ⟨.nil, rfl, apd_nil _ _, half0 hfA, hf, by rw [hH0]; exact Nat.le_refl _⟩, rfl, Nat.zero_le _⟩ ?_
      rintro i R H2 ⟨⟨k5, g5, hap5, hh, hfX, hn2⟩, g11, hi⟩
      by_cases hlt : i < A.length
      · obtain ⟨⟨t, l⟩, hx⟩ := getP hlt
        have wsi := wrap_succ (show i < 9223372036854775807 by omega)
        obtain ⟨hl0, hll⟩ := hA0 _ (List.mem_of_getElem? hx)
        have hll : l.length ≤ 1048576 := hll
        obtain ⟨y0, hy0⟩ := getP (l := l) (i := 0) (List.length_pos_iff.2 hl0)
        obtain ⟨b, rfl, _, hbn, hbo⟩ := hA.at hx hy0
        have hbL := hLA _ (List.mem_of_getElem? hx) _ _ _ rfl
        have ia := iadX (e := fun q : T × List ByteArray => [q.1]) (n := 1) (fun _ => rfl) (by decide) (k := kA) hx
        simp -implicitDefEqProofs only [mkR_nil, mkR_cons, op, ef, cl, sq, reduceIte, q3, q4, q5, q6, q7, q8, q9, j1, j2, S1, List.length_map, g11, hlt, natOf_nat, ia]
        obtain ⟨Wl, hW⟩ : ∃ Wl, Wl = List.replicate l.length (markT i) := ⟨_, rfl⟩
        have hWl : Wl.length = l.length := by rw [hW, List.length_replicate]
        have hcb : H2[b]? = some (.cells (msC eS Wl)) := by rw [hW]; exact hh.cl i _ b l.length hx (Nat.le_refl _) rfl
        obtain ⟨Hb, hHb⟩ : ∃ Hb, Hb = H2.set b (.fz (msC eS Wl)) := ⟨_, rfl⟩
        refine W.loopV (hv := ⟨rfl, rfl, rfl, g5, rfl, g11, trivial⟩) [(0, _), (1, _), (4, _), (5, _), (6, _), (11, _)] (fun (j : Nat) R H' => At H' (fun H' => (j = 0 ∧ R 12 = .msl b 0 l.length 1 ∧ H' = H2) ∨ ∃ kw, R 12 = .sl kw ((Wl ++ List.replicate j (markT i)).map eS) ∧ Ext Hb H' ∧ Apd Hb.length H' kw) ∧ R 13 = .int .i64 j ∧ j ≤ 30) (fun j => 30 - j) 0 ⟨.i (.inl ⟨rfl, rfl, rfl⟩), rfl, Nat.zero_le _⟩ ?_
        rintro j R H3 ⟨h3, g13, hj⟩
        by_cases hlj : j < 30
        · have wsj := wrap_succ (show j < 9223372036854775807 by omega)
          have hlj' : ((j : Nat) : Int) < 30 := by omega
          have hrep : List.replicate (j + 1) (markT i) = List.replicate j (markT i) ++ [markT i] := List.replicate_succ'
          rcases h3 with ⟨rfl, g12, rfl⟩ | ⟨kw, g12, hxe, hap⟩
          · simp -implicitDefEqProofs only [mkR_nil, mkR_cons, op, ef, cl, sq, reduceIte, q3, q4, q5, q6, q7, q8, q9, j1, j2, S1, g12, g13]
            refine callB_of _ _ _ _ _ _ _ _ (mark29 i (by omega) _) ?_
            rintro u H4 ⟨hu, rfl⟩
            cases hu
            simp -implicitDefEqProofs only [mkR_nil, mkR_cons, op, ef, cl, sq, reduceIte, q3, q4, q5, q6, q7, q8, q9, j1, j2, S1, g12, g13]
            refine aps_ok (enc := eS) (n := 1) (fun _ => rfl) (fun _ => rfl) (l := Wl) (new := [markT i]) (ky := .full) (bb := b) (by simp -implicitDefEqProofs only [op, ef, cl, sq, reduceIte, q3, q4, q5, q6, q7, q8, q9, j1, j2, S1, hWl]) (by simp -implicitDefEqProofs only [op, ef, cl, sq, reduceIte, q3, q4, q5, q6, q7, q8, q9, j1, j2, S1, eS]) hcb (by rw [hWl]; exact List.length_pos_iff.2 hl0) (by simp) (roomS (by simp; omega) (by omega)) fun kw H' hx' hap => ?_
            simp -implicitDefEqProofs only [mkR_nil, mkR_cons, op, ef, cl, sq, reduceIte, q3, q4, q5, q6, q7, q8, q9, j1, j2, S1, g13]
            exact ⟨1, by omega, .i (.inr ⟨kw, rfl, by rw [hHb]; exact hx', by rw [hHb]; simpa using hap⟩), rfl, by omega⟩
          · simp -implicitDefEqProofs only [mkR_nil, mkR_cons, op, ef, cl, sq, reduceIte, q3, q4, q5, q6, q7, q8, q9, j1, j2, S1, g12, g13, hlj']
            refine callB_of _ _ _ _ _ _ _ _ (mark29 i (by omega) _) ?_
            rintro u H4 ⟨hu, rfl⟩
            cases hu
            have hall := all_map (enc := eS) (n := 1) (fun _ => rfl) (Wl ++ List.replicate j (markT i))
            obtain ⟨k', H', ha, hap', hst'⟩ := app_ok (bytes := 16) ((Wl ++ List.replicate j (markT i)).map eS) [[T.str (markT i)]] hap hxe.len (by simp) (roomS (by simp; omega) (by omega))
            simp -implicitDefEqProofs only [op, ef, cl, sq, reduceIte, q3, q4, q5, q6, q7, q8, q9, j1, j2, S1] at ha
            simp -implicitDefEqProofs only [mkR_nil, mkR_cons, op, ef, cl, sq, reduceIte, q3, q4, q5, q6, q7, q8, q9, j1, j2, S1, g12, g13, hlj', hall, ha, wsj]
            refine ⟨j + 1, by omega, .i (.inr ⟨k', ?_, hst'.ext Hb (Nat.le_refl _) hxe, hap'⟩), rfl, by omega⟩
            rw [hrep]
            simp -implicitDefEqProofs only [op, ef, cl, sq, reduceIte, q3, q4, q5, q6, q7, q8, q9, j1, j2, S1, ← List.append_assoc, List.map_append, eS]
        · have hj30 : j = 30 := by omega
          subst hj30
          rcases h3 with ⟨e, _⟩ | ⟨kw, g12, hxe, hap⟩
          · cases e
          have hbt : ∀ (c : Nat) (x : B), c ≠ b → H2[c]? = some x → H3[c]? = some x := fun c x hc hx' => hxe.get (by rw [hHb, g_ne (Ne.symm hc)]; exact hx')
          have hap5' : Apd H0.length H3 k5 := by
            rcases hap5 with h | h | ⟨t5, e5, h, h1, h2⟩
            · exact .inl h
            · exact .inr (.inl h)
            · exact .inr (.inr ⟨t5, e5, h, h1, hbt t5 _ (fun hb => by rw [hb, hcb] at h2; cases h2) h2⟩)
          have hZ : (Wl ++ List.replicate 30 (markT i)) = lst A i := by
            rw [hW, lst, hx, List.replicate_append_replicate]; rfl
          rw [hZ] at g12
          obtain ⟨k', H', ha, hap', hst'⟩ := app_ok (bytes := 24) (laL A i) [[T.sl .arg ((lst A i).map eS)]] hap5' (by have := hxe.len; rw [hHb, List.length_set] at this; omega) (by simp) (roomS (by simp [laL]; omega) (by omega))
          have hall5 : (laL A i).all (fun c => c.length == 1) = true := by rw [List.all_eq_true]; intro c hc; obtain ⟨_, _, rfl⟩ := List.mem_map.1 hc; rfl
          simp -implicitDefEqProofs only [op, ef, cl, sq, reduceIte, q3, q4, q5, q6, q7, q8, q9, j1, j2, S1] at ha
          simp -implicitDefEqProofs only [mkR_nil, mkR_cons, op, ef, cl, sq, reduceIte, q3, q4, q5, q6, q7, q8, q9, j1, j2, S1, g12, g13, hall5, ha, wsi]
          have hb3 : H3[b]? = some (.fz (msC eS Wl)) := hxe.get (by rw [hHb]; exact g_eq (glt hcb))
          have hfin : ∀ (c : Nat) (x : B), c ≠ b → (∀ e, x ≠ .tok e) → H2[c]? = some x → H'[c]? = some x := fun c x hc hx' h2 => hst'.cells hap5' (hbt c x hc h2) hx'
          refine ⟨i + 1, by omega, .i ⟨k', ?_, hap', ⟨fun k q c n hq hk e1 => ?_, fun k q c n hq hk e1 => ?_⟩, ?_, Nat.le_trans (by have := hxe.len; rw [hHb, List.length_set] at this; omega) hst'.len⟩, rfl, hlt⟩
          · simp -implicitDefEqProofs only [laL, List.range_succ, List.map_append, List.map_cons, List.map_nil]
          · by_cases hki : k = i
            · subst hki
              rw [hx] at hq; cases hq
              obtain ⟨rfl, _⟩ := T.msl.inj e1
              rw [← hW]
              exact hst'.cells hap5' hb3 (fun e h => by cases h)
            · exact hfin c _ (fun hcb' => hA.apart hq hx hki e1 rfl hcb') (fun e h => by cases h) (hh.fz k q c n hq (by omega) e1)
          · exact hfin c _ (fun hcb' => hA.apart hq hx (by omega) e1 rfl hcb') (fun e h => by cases h) (hh.cl k q c n hq (by omega) e1)
          · exact Fam.keepC hfX fun q hq c n cs e1 hc hx2 => hfin c _ (by omega) (fun e h => by cases h) hx2
      · have hil : i = A.length := by omega
        subst hil
        simp -implicitDefEqProofs only [mkR_nil, mkR_cons, op, ef, cl, sq, reduceIte, q3, q4, q5, q6, q7, q8, q9, j1, j2, S1, List.length_map, g11, hlt]
        clear hlt g11 hi hap5
        obtain ⟨G0, hG0⟩ : ∃ G0, G0 = H2 := ⟨_, rfl⟩
        refine W.loopV (hv := ⟨rfl, rfl, rfl, g5, trivial⟩) [(0, _), (1, _), (4, _), (5, _)] (fun (i : Nat) R H' => At H' (fun H' => ∃ k6, R 6 = .sl k6 (lxL X i) ∧ Apd G0.length H' k6 ∧ Half mkP eP 2 X i H' ∧ Half markT eS 1 A A.length H' ∧ G0.length ≤ H'.length) ∧ R 14 = .int .i64 i ∧ i ≤ X.length) (fun i => X.length - i) 0 ⟨.i ⟨.nil, rfl, apd_nil _ _, half0 hfX, hh, by rw [hG0]; exact Nat.le_refl _⟩, rfl, Nat.zero_le _⟩ ?_
        rintro i R H4 ⟨⟨k6, g6, hap6, hhX, hhA, hn2⟩, g11, hi⟩
        by_cases hlt : i < X.length
        · obtain ⟨⟨t, l⟩, hx⟩ := getP hlt
          have wsi := wrap_succ (show i < 9223372036854775807 by omega)
          obtain ⟨hl0, hll⟩ := hX0 _ (List.mem_of_getElem? hx)
          have hll : l.length ≤ 1048576 := hll
          obtain ⟨y0, hy0⟩ := getP (l := l) (i := 0) (List.length_pos_iff.2 hl0)
          obtain ⟨b, rfl, _, hbn, hbo⟩ := hX.at hx hy0
          have ia := iadX (e := fun q : T × List (ByteArray × ByteArray) => [q.1]) (n := 1) (fun _ => rfl) (by decide) (k := kX) hx
          simp -implicitDefEqProofs only [mkR_nil, mkR_cons, op, ef, cl, sq, reduceIte, q3, q4, q5, q6, q7, q8, q9, j1, j2, S1, List.length_map, g11, hlt, natOf_nat, ia]
          obtain ⟨Wl, hW⟩ : ∃ Wl, Wl = List.replicate l.length (mkP i) := ⟨_, rfl⟩
          have hWl : Wl.length = l.length := by rw [hW, List.length_replicate]
          have hcb : H4[b]? = some (.cells (msC eP Wl)) := by rw [hW]; exact hhX.cl i _ b l.length hx (Nat.le_refl _) rfl
          obtain ⟨Hb, hHb⟩ : ∃ Hb, Hb = H4.set b (.fz (msC eP Wl)) := ⟨_, rfl⟩
          refine W.loopV (hv := ⟨rfl, rfl, rfl, rfl, g6, g11, trivial⟩) [(0, _), (1, _), (4, _), (5, _), (6, _), (14, _)] (fun (j : Nat) R H' => At H' (fun H' => (j = 0 ∧ R 15 = .msl b 0 l.length 2 ∧ H' = H4) ∨ ∃ kw, R 15 = .sl kw ((Wl ++ List.replicate j (mkP i)).map eP) ∧ Ext Hb H' ∧ Apd Hb.length H' kw) ∧ R 16 = .int .i64 j ∧ j ≤ 30) (fun j => 30 - j) 0 ⟨.i (.inl ⟨rfl, rfl, rfl⟩), rfl, Nat.zero_le _⟩ ?_
          rintro j R H3 ⟨h3, g13, hj⟩
          by_cases hlj : j < 30
          · have wsj := wrap_succ (show j < 9223372036854775807 by omega)
            have hlj' : ((j : Nat) : Int) < 30 := by omega
            have hrep : List.replicate (j + 1) (mkP i) = List.replicate j (mkP i) ++ [mkP i] := List.replicate_succ'
            rcases h3 with ⟨rfl, g12, rfl⟩ | ⟨kw, g12, hxe, hap⟩
            · simp -implicitDefEqProofs only [mkR_nil, mkR_cons, op, ef, cl, sq, reduceIte, q3, q4, q5, q6, q7, q8, q9, j1, j2, S1, g12, g13]
              refine callB_of _ _ _ _ _ _ _ _ (mark29 i (by omega) _) ?_
              rintro u H5 ⟨hu, rfl⟩
              cases hu
              simp -implicitDefEqProofs only [mkR_nil, mkR_cons, op, ef, cl, sq, reduceIte, q3, q4, q5, q6, q7, q8, q9, j1, j2, S1, g12, g13]
              refine aps_ok (enc := eP) (n := 2) (fun _ => rfl) (fun _ => rfl) (l := Wl) (new := [mkP i]) (ky := .full) (bb := b) (by simp -implicitDefEqProofs only [op, ef, cl, sq, reduceIte, q3, q4, q5, q6, q7, q8, q9, j1, j2, S1, hWl]) (by simp -implicitDefEqProofs only [op, ef, cl, sq, reduceIte, q3, q4, q5, q6, q7, q8, q9, j1, j2, S1, eP, mkP]) hcb (by rw [hWl]; exact List.length_pos_iff.2 hl0) (by simp) (roomS (by simp; omega) (by omega)) fun kw H' hx' hap => ?_
              simp -implicitDefEqProofs only [mkR_nil, mkR_cons, op, ef, cl, sq, reduceIte, q3, q4, q5, q6, q7, q8, q9, j1, j2, S1, g13]
              exact ⟨1, by omega, .i (.inr ⟨kw, rfl, by rw [hHb]; exact hx', by rw [hHb]; simpa using hap⟩), rfl, by omega⟩
            · simp -implicitDefEqProofs only [mkR_nil, mkR_cons, op, ef, cl, sq, reduceIte, q3, q4, q5, q6, q7, q8, q9, j1, j2, S1, g12, g13, hlj']
              refine callB_of _ _ _ _ _ _ _ _ (mark29 i (by omega) _) ?_
              rintro u H5 ⟨hu, rfl⟩
              cases hu
              have hall := all_map (enc := eP) (n := 2) (fun _ => rfl) (Wl ++ List.replicate j (mkP i))
              obtain ⟨k', H', ha, hap', hst'⟩ := app_ok (bytes := 32) ((Wl ++ List.replicate j (mkP i)).map eP) [[T.str (markT i), T.str ⟨#[]⟩]] hap hxe.len (by simp) (roomS (by simp; omega) (by omega))
              simp -implicitDefEqProofs only [op, ef, cl, sq, reduceIte, q3, q4, q5, q6, q7, q8, q9, j1, j2, S1] at ha
              simp -implicitDefEqProofs only [mkR_nil, mkR_cons, op, ef, cl, sq, reduceIte, q3, q4, q5, q6, q7, q8, q9, j1, j2, S1, g12, g13, hlj', hall, ha, wsj]
              refine ⟨j + 1, by omega, .i (.inr ⟨k', ?_, hst'.ext Hb (Nat.le_refl _) hxe, hap'⟩), rfl, by omega⟩
              rw [hrep]
              simp -implicitDefEqProofs only [op, ef, cl, sq, reduceIte, q3, q4, q5, q6, q7, q8, q9, j1, j2, S1, ← List.append_assoc, List.map_append, eP, mkP]
          · have hj30 : j = 30 := by omega
            subst hj30
            rcases h3 with ⟨e, _⟩ | ⟨kw, g12, hxe, hap⟩
            · cases e
            have hbt : ∀ (c : Nat) (x : B), c ≠ b → H4[c]? = some x → H3[c]? = some x := fun c x hc hx' => hxe.get (by rw [hHb, g_ne (Ne.symm hc)]; exact hx')
            have hap6' : Apd G0.length H3 k6 := by
              rcases hap6 with h | h | ⟨t5, e5, h, h1, h2⟩
              · exact .inl h
              · exact .inr (.inl h)
              · exact .inr (.inr ⟨t5, e5, h, h1, hbt t5 _ (fun hb => by rw [hb, hcb] at h2; cases h2) h2⟩)
            have hZ : (Wl ++ List.replicate 30 (mkP i)) = lstP X i := by
              rw [hW, lstP, hx, List.replicate_append_replicate]; rfl
            rw [hZ] at g12
            obtain ⟨k', H', ha, hap', hst'⟩ := app_ok (bytes := 24) (lxL X i) [[T.sl .arg ((lstP X i).map eP)]] hap6' (by have := hxe.len; rw [hHb, List.length_set] at this; omega) (by simp) (roomS (by simp [lxL]; omega) (by omega))
            have hall6 : (lxL X i).all (fun c => c.length == 1) = true := by rw [List.all_eq_true]; intro c hc; obtain ⟨_, _, rfl⟩ := List.mem_map.1 hc; rfl
            simp -implicitDefEqProofs only [op, ef, cl, sq, reduceIte, q3, q4, q5, q6, q7, q8, q9, j1, j2, S1] at ha
            simp -implicitDefEqProofs only [mkR_nil, mkR_cons, op, ef, cl, sq, reduceIte, q3, q4, q5, q6, q7, q8, q9, j1, j2, S1, g12, g13, hall6, ha, wsi]
            have hb3 : H3[b]? = some (.fz (msC eP Wl)) := hxe.get (by rw [hHb]; exact g_eq (glt hcb))
            have hfin : ∀ (c : Nat) (x : B), c ≠ b → (∀ e, x ≠ .tok e) → H4[c]? = some x → H'[c]? = some x := fun c x hc hx' h2 => hst'.cells hap6' (hbt c x hc h2) hx'
            refine ⟨i + 1, by omega, .i ⟨k', ?_, hap', ⟨fun k q c n hq hk e1 => ?_, fun k q c n hq hk e1 => ?_⟩, ?_, Nat.le_trans (by have := hxe.len; rw [hHb, List.length_set] at this; omega) hst'.len⟩, rfl, hlt⟩
            · simp -implicitDefEqProofs only [lxL, List.range_succ, List.map_append, List.map_cons, List.map_nil]
            · by_cases hki : k = i
              · subst hki
                rw [hx] at hq; cases hq
                obtain ⟨rfl, _⟩ := T.msl.inj e1
                rw [← hW]
                exact hst'.cells hap6' hb3 (fun e h => by cases h)
              · exact hfin c _ (fun hcb' => hX.apart hq hx hki e1 rfl hcb') (fun e h => by cases h) (hhX.fz k q c n hq (by omega) e1)
            · exact hfin c _ (fun hcb' => hX.apart hq hx (by omega) e1 rfl hcb') (fun e h => by cases h) (hhX.cl k q c n hq (by omega) e1)
            · exact ⟨fun k q c n hq hk e1 => hfin c _ (by have := hLA q (List.mem_of_getElem? hq) _ _ _ e1; omega) (fun e h => by cases h) (hhA.fz k q c n hq hk e1), fun k q c n hq hk e1 => by have := (List.getElem?_eq_some_iff.1 hq).1; omega⟩
        · have hil : i = X.length := by omega
          subst hil
          simp -implicitDefEqProofs only [mkR_nil, mkR_cons, op, ef, cl, sq, reduceIte, q3, q4, q5, q6, q7, q8, q9, j1, j2, S1, List.length_map, g11, hlt]
          clear hlt g11 hi hap6
          have hlaL : (laL A A.length).length = A.length := by simp [laL]
          have hlxL : (lxL X X.length).length = X.length := by simp [lxL]
          refine W.loopV (hv := ⟨rfl, rfl, rfl, g6, trivial⟩) [(0, _), (1, _), (5, _), (6, _)] (fun (i : Nat) R H' => H' = H4 ∧ R 17 = .int .i64 i ∧ i ≤ A.length) (fun i => A.length - i) 0 ⟨rfl, rfl, Nat.zero_le _⟩ ?_
          rintro i R H5 ⟨rfl, g17, hi⟩
          by_cases hlt : i < A.length
          · obtain ⟨⟨t, l⟩, hx⟩ := getP hlt
            have wsi := wrap_succ (show i < 9223372036854775807 by omega)
            obtain ⟨hl0, hll⟩ := hA0 _ (List.mem_of_getElem? hx)
            have hll : l.length ≤ 1048576 := hll
            obtain ⟨y0, hy0⟩ := getP (l := l) (i := 0) (List.length_pos_iff.2 hl0)
            obtain ⟨b, rfl, _, hbn, hbo⟩ := hA.at hx hy0
            have ia := iadX (e := fun q : T × List ByteArray => [q.1]) (n := 1) (fun _ => rfl) (by decide) (k := kA) hx
            have hla : (laL A A.length)[i]? = some [T.sl .arg ((lst A i).map eS)] := by simp [laL, hlt]
            have il : iadT 1 i (.sl k5 (laL A A.length)) = some (.iptr [T.sl .arg ((lst A i).map eS)]) := by simp [iadT, hla]
            have hle : (lst A i).length = l.length + 30 := by simp [lst, hx]
            have hfzb := hhA.fz i _ b l.length hx hlt rfl
            simp -implicitDefEqProofs only [mkR_nil, mkR_cons, op, ef, cl, sq, reduceIte, q3, q4, q5, q6, q7, q8, q9, j1, j2, S1, hlaL, g17, hlt]
            refine W.loopV (hv := ⟨rfl, rfl, rfl, rfl, g17, trivial⟩) [(0, _), (1, _), (5, _), (6, _), (17, _)] (fun (j : Nat) R H' => H' = H5 ∧ R 18 = .int .i64 j ∧ j ≤ (lst A i).length) (fun j => (lst A i).length - j) 0 ⟨rfl, rfl, Nat.zero_le _⟩ ?_
            rintro j R H6 ⟨rfl, g18, hj⟩
            by_cases hlj : j < (lst A i).length
            · have wsj := wrap_succ (show j < 9223372036854775807 by omega)
              have hlv : (lst A i)[j]? = some (markT i) := by
                rw [List.getElem?_eq_getElem hlj]; simp [lst]
              have ij := iadX (e := eS) (n := 1) (fun _ => rfl) (by decide) (k := .arg) hlv
              have hse : strEq (markT i) (markT i) = true := by rw [strEq_eq]; simp
              simp -implicitDefEqProofs only [mkR_nil, mkR_cons, op, ef, cl, sq, reduceIte, q3, q4, q5, q6, q7, q8, q9, j1, j2, S1, List.length_map, g18, natOf_nat, il, hlj, ij, eS]
              refine callB_of _ _ _ _ _ _ _ _ (mark29 i (by omega) _) ?_
              rintro u H7 ⟨hu, rfl⟩
              cases hu
              by_cases hjl : j < l.length
              · obtain ⟨yj, hyj⟩ := getP (l := List.replicate l.length (markT i)) (i := j) (by simpa using hjl)
                have hyv : yj = markT i := by
                  have := List.mem_of_getElem? hyj
                  exact (List.mem_replicate.1 this).2
                subst hyv
                have hg := msC_get (enc := eS) (n := 1) (fun _ => rfl) hyj 0 1 (by decide)
                rw [Nat.add_zero] at hg
                have hg : ldcB 1 (j * 1) (some (.fz (msC eS (List.replicate l.length (markT i))))) = some [.str (markT i)] := hg
                simp -implicitDefEqProofs only [mkR_nil, mkR_cons, op, ef, cl, sq, reduceIte, q3, q4, q5, q6, q7, q8, q9, j1, j2, S1, List.length_map, g18, natOf_nat, il, hlj, ij, eS, hse, ia, iad_m, hjl, hfzb, hg]
                refine callB_of _ _ _ _ _ _ _ _ (mark29 i (by omega) _) ?_
                rintro u H8 ⟨hu, rfl⟩
                cases hu
                simp -implicitDefEqProofs only [mkR_nil, mkR_cons, op, ef, cl, sq, reduceIte, q3, q4, q5, q6, q7, q8, q9, j1, j2, S1, List.length_map, g18, natOf_nat, il, hlj, ij, eS, hse, ia, iad_m, hjl, hfzb, hg, wsj]
                exact ⟨j + 1, by omega, rfl, by omega⟩
              · simp -implicitDefEqProofs only [mkR_nil, mkR_cons, op, ef, cl, sq, reduceIte, q3, q4, q5, q6, q7, q8, q9, j1, j2, S1, List.length_map, g18, natOf_nat, il, hlj, ij, eS, hse, ia, iad_m, hjl, wsj]
                exact ⟨j + 1, by omega, rfl, by omega⟩
            · have hjl : j = (lst A i).length := by omega
              simp -implicitDefEqProofs only [mkR_nil, mkR_cons, op, ef, cl, sq, reduceIte, q3, q4, q5, q6, q7, q8, q9, j1, j2, S1, List.length_map, g18, natOf_nat, il, hlj, wsi]
              exact ⟨i + 1, by omega, rfl, hlt⟩
          · have hil : i = A.length := by omega
            subst hil
            simp -implicitDefEqProofs only [mkR_nil, mkR_cons, op, ef, cl, sq, reduceIte, q3, q4, q5, q6, q7, q8, q9, j1, j2, S1, hlaL, g17, hlt]
            clear hlt g17 hi
            refine W.loopV (hv := ⟨rfl, rfl, rfl, rfl, trivial⟩) [(0, _), (1, _), (5, _), (6, _)] (fun (i : Nat) R H' => H' = H5 ∧ R 19 = .int .i64 i ∧ i ≤ X.length) (fun i => X.length - i) 0 ⟨rfl, rfl, Nat.zero_le _⟩ ?_
            rintro i R H5' ⟨rfl, g17, hi⟩
            by_cases hlt : i < X.length
            · obtain ⟨⟨t, l⟩, hx⟩ := getP hlt
              have wsi := wrap_succ (show i < 9223372036854775807 by omega)
              obtain ⟨hl0, hll⟩ := hX0 _ (List.mem_of_getElem? hx)
              have hll : l.length ≤ 1048576 := hll
              obtain ⟨y0, hy0⟩ := getP (l := l) (i := 0) (List.length_pos_iff.2 hl0)
              obtain ⟨b, rfl, _, hbn, hbo⟩ := hX.at hx hy0
              have ia := iadX (e := fun q : T × List (ByteArray × ByteArray) => [q.1]) (n := 1) (fun _ => rfl) (by decide) (k := kX) hx
              have hla : (lxL X X.length)[i]? = some [T.sl .arg ((lstP X i).map eP)] := by simp [lxL, hlt]
              have il : iadT 1 i (.sl k6 (lxL X X.length)) = some (.iptr [T.sl .arg ((lstP X i).map eP)]) := by simp [iadT, hla]
              have hle : (lstP X i).length = l.length + 30 := by simp [lstP, hx]
              have hfzb := hhX.fz i _ b l.length hx hlt rfl
              simp -implicitDefEqProofs only [mkR_nil, mkR_cons, op, ef, cl, sq, reduceIte, q3, q4, q5, q6, q7, q8, q9, j1, j2, S1, hlxL, g17, hlt]
              refine W.loopV (hv := ⟨rfl, rfl, rfl, rfl, g17, trivial⟩) [(0, _), (1, _), (5, _), (6, _), (19, _)] (fun (j : Nat) R H' => H' = H5' ∧ R 20 = .int .i64 j ∧ j ≤ (lstP X i).length) (fun j => (lstP X i).length - j) 0 ⟨rfl, rfl, Nat.zero_le _⟩ ?_
              rintro j R H6 ⟨rfl, g18, hj⟩
              by_cases hlj : j < (lstP X i).length
              · have wsj := wrap_succ (show j < 9223372036854775807 by omega)
                have hlv : (lstP X i)[j]? = some (mkP i) := by
                  rw [List.getElem?_eq_getElem hlj]; simp [lstP]
                have ij := iadX (e := eP) (n := 2) (fun _ => rfl) (by decide) (k := .arg) hlv
                have hse : strEq (markT i) (markT i) = true := by rw [strEq_eq]; simp
                simp -implicitDefEqProofs only [mkR_nil, mkR_cons, op, ef, cl, sq, reduceIte, q3, q4, q5, q6, q7, q8, q9, j1, j2, S1, List.length_map, g18, natOf_nat, il, hlj, ij, eP, mkP]
                refine callB_of _ _ _ _ _ _ _ _ (mark29 i (by omega) _) ?_
                rintro u H7 ⟨hu, rfl⟩
                cases hu
                by_cases hjl : j < l.length
                · obtain ⟨yj, hyj⟩ := getP (l := List.replicate l.length (mkP i)) (i := j) (by simpa using hjl)
                  have hyv : yj = mkP i := by
                    have := List.mem_of_getElem? hyj
                    exact (List.mem_replicate.1 this).2
                  subst hyv
                  have hg := msC_get (enc := eP) (n := 2) (fun _ => rfl) hyj 0 1 (by decide)
                  rw [Nat.add_zero] at hg
                  have hg : ldcB 1 (j * 2 + 0) (some (.fz (msC eP (List.replicate l.length (markT i, (⟨#[]⟩ : ByteArray)))))) = some [.str (markT i)] := hg
                  simp -implicitDefEqProofs only [mkR_nil, mkR_cons, op, ef, cl, sq, reduceIte, q3, q4, q5, q6, q7, q8, q9, j1, j2, S1, List.length_map, g18, natOf_nat, il, hlj, ij, eP, mkP, hse, ia, iad_m, hjl, hfzb, hg]
                  refine callB_of _ _ _ _ _ _ _ _ (mark29 i (by omega) _) ?_
                  rintro u H8 ⟨hu, rfl⟩
                  cases hu
                  simp -implicitDefEqProofs only [mkR_nil, mkR_cons, op, ef, cl, sq, reduceIte, q3, q4, q5, q6, q7, q8, q9, j1, j2, S1, List.length_map, g18, natOf_nat, il, hlj, ij, eP, mkP, hse, ia, iad_m, hjl, hfzb, hg, wsj]
                  exact ⟨j + 1, by omega, rfl, by omega⟩
                · simp -implicitDefEqProofs only [mkR_nil, mkR_cons, op, ef, cl, sq, reduceIte, q3, q4, q5, q6, q7, q8, q9, j1, j2, S1, List.length_map, g18, natOf_nat, il, hlj, ij, eP, mkP, hse, ia, iad_m, hjl, wsj]
                  exact ⟨j + 1, by omega, rfl, by omega⟩
              · have hjl : j = (lstP X i).length := by omega
                simp -implicitDefEqProofs only [mkR_nil, mkR_cons, op, ef, cl, sq, reduceIte, q3, q4, q5, q6, q7, q8, q9, j1, j2, S1, List.length_map, g18, natOf_nat, il, hlj, wsi]
                exact ⟨i + 1, by omega, rfl, hlt⟩
            · have hil : i = X.length := by omega
              subst hil
              simp -implicitDefEqProofs only [mkR_nil, mkR_cons, op, ef, cl, sq, reduceIte, q3, q4, q5, q6, q7, q8, q9, j1, j2, S1, hlxL, g17, hlt]
end Go.Proofs.Ytpbilghnfldmiaa.Sx
end

section
namespace Go.Proofs.Ytpbilghnfldmiaa.Sx
open Go.Rmp Go.Proofs.Shardk Go.Proofs.Ytpbilghnfldmiaa.Ir
set_option maxRecDepth 10000
set_option maxHeartbeats 0
set_option pp.deepTerms true
set_option pp.maxSteps 200000
theorem room2 {α : Type} {e : α → List T} {m bytes : Nat} (he : ∀ x, (e x).length = m) (H : Heap) (l new : List α) (hnew : new ≠ []) (hr : roomOk (l.length + new.length) bytes = true) (hr0 : roomOk l.length bytes = true) :
    ∃ t1 H1 b H2, appM H m bytes (.sl .nil []) (l.map e) = some (t1, H1) ∧ appM H1 m bytes (fgt t1) (new.map e) = some (.msl b 0 (l.length + new.length) m, H2) ∧ H2[b]? = some (.cells (msC e (l ++ new))) ∧ Ext H H2 ∧ H.length ≤ b := by
  obtain ⟨t1, H1, h1, hm1, hx1⟩ : ∃ t1 H1, appM H m bytes (.sl .nil []) (l.map e) = some (t1, H1) ∧ Mut e m H.length H1 t1 l ∧ Ext H H1 := by
    cases hl : l with
    | nil => exact ⟨.sl .nil [], H, rfl, mut_nil _ _ _ _, Ext.rfl'⟩
    | cons a l' =>
      rw [← hl]
      obtain ⟨t1, H1, ha, hm, hst⟩ := appM_ok (n0 := H.length) (bytes := bytes) he l (mut_nil e m H.length H) (Nat.le_refl _) (by rw [hl]; simp) (by simpa using hr0)
      exact ⟨t1, H1, ha, hm, hst.ext H (Nat.le_refl _) Ext.rfl'⟩
  have hf : fgt t1 = t1 := by rcases hm1 with ⟨_, rfl⟩ | ⟨b, rfl, _⟩ <;> rfl
  obtain ⟨t2, H2, h2, hm2, hst2⟩ := appM_ok (bytes := bytes) he new hm1 hx1.len hnew hr
  rcases hm2 with ⟨h, _⟩ | ⟨b, e1, hb, hbn⟩
  · simp at h; exact absurd h.2 hnew
  · refine ⟨t1, H1, b, H2, h1, by rw [hf, h2, e1, List.length_append], hb, hst2.ext H (Nat.le_refl _) hx1, hbn⟩
theorem sl1 (n b m : Nat) (H : Heap) : (if 0 ≤ n ∧ n ≤ n + 2 then some (if 0 = n then T.msl b 0 0 m else T.msl b (0 * m) (n - 0) m, H) else none) = some (T.msl b 0 n m, H) := by
  rw [if_pos ⟨Nat.zero_le _, by omega⟩]
  by_cases h : 0 = n
  · subst h; rfl
  · rw [if_neg h, Nat.zero_mul, Nat.sub_zero]
theorem vw_room {α : Type} {e : α → List T} {m : Nat} (he : ∀ x, (e x).length = m) (h0 : m ≠ 0) {H : Heap} {b : Nat} {l new : List α} (hb : H[b]? = some (.cells (msC e (l ++ new)))) : Vw e m H (.msl b 0 l.length m) l := by
  have := Vw.msl he h0 hb l.length (by simp)
  rwa [List.take_left] at this
def tSpare : ByteArray := ⟨#[115, 112, 97, 114, 101]⟩
def tRoom : ByteArray := ⟨#[114, 111, 111, 109]⟩
theorem GInv.low {α : Type} {e : α → List T} {m n0 : Nat} {H : Heap} {t : T} {ps : List (Pt α)} (h : GInv e m n0 H t ps) {b : Nat} (hb : b < n0) (x : B) : GInv e m n0 (H.set b x) t ps := by
  obtain ⟨h1, ob, h2, h3⟩ := h
  refine ⟨?_, ob, h2, h3.keep fun c y _ hc hy => by rw [g_ne (show b ≠ c by omega)]; exact hy⟩
  rcases h1 with h1 | ⟨c, e1, e2, e3⟩
  · exact .inl h1
  · exact .inr ⟨c, e1, by rw [g_ne (show b ≠ c by omega)]; exact e2, e3⟩
theorem kt_at {α : Type} {n0 : Nat} {H : Heap} {t : T} {ps : List (Pt α)} (hm : Mut encPt 2 n0 H t ps) {i : Nat} {x : Pt α} (hx : ps[i]? = some x) :
    ∃ c, iadT 2 i t = some (.ptr c (i * 2)) ∧ H[c]? = some (.cells (msC encPt ps)) ∧ ldcB 1 (i * 2 + 1) (some (.cells (msC encPt ps))) = some [x.kt] := by
  obtain ⟨b, _, _, hb, hi, _⟩ := mut_get hm hx
  exact ⟨b, hi, hb, by rw [msC_get (n := 2) encPt_len hx 1 1 (by decide)]; rfl⟩
theorem GInv.vw {α : Type} {e : α → List T} {m n0 : Nat} {H : Heap} {t : T} {ps : List (Pt α)} (h : GInv e m n0 H t ps) (he : ∀ x, (e x).length = m) (h0 : m ≠ 0) {x : Pt α} (hx : x ∈ ps) : Vw e m H x.kt x.items := by
  obtain ⟨_, ob, _, hf⟩ := h
  exact (Fam.lay hf (prP x) (List.mem_map_of_mem hx)).1.vw he h0
theorem same_items {α : Type} {ps qs : List (Pt α)} (h : ps.map (fun x => (x.part, x.items)) = qs.map (fun x => (x.part, x.items))) {i : Nat} {p : Pt α} (hp : ps[i]? = some p) : ∃ q, qs[i]? = some q ∧ q.items = p.items := by
  have h1 := congrArg (fun l => l[i]?) h
  simp -implicitDefEqProofs only [List.getElem?_map, hp, Option.map_some] at h1
  cases hq : qs[i]? with
  | none => rw [hq] at h1; cases h1
  | some q => rw [hq] at h1; simp at h1; exact ⟨q, rfl, h1.2.symm⟩
theorem GInv.blk {α : Type} {e : α → List T} {m n0 : Nat} {H : Heap} {t : T} {ps : List (Pt α)} (h : GInv e m n0 H t ps) {x : Pt α} (hx : x ∈ ps) (h0 : x.items ≠ []) : ∃ b, x.kt = .msl b 0 x.items.length m := by
  obtain ⟨_, ob, _, hf⟩ := h
  rcases (Fam.lay hf (prP x) (List.mem_map_of_mem hx)).1 with ⟨h1, _⟩ | ⟨b, h1, _⟩
  · exact absurd h1 h0
  · exact ⟨b, h1⟩
theorem GInv.fam {α : Type} {e : α → List T} {m n0 : Nat} {H : Heap} {t : T} {ps : List (Pt α)} (h : GInv e m n0 H t ps) (h0 : 0 < H.length) : ∃ ob, ob < H.length ∧ Fam e m n0 ob H (ps.map prP) := by
  obtain ⟨h1, ob, h2, h3⟩ := h
  rcases h1 with ⟨h1, h4⟩ | ⟨b, e1, e2, _⟩
  · exact ⟨0, h0, by rw [h1]; exact Fam.nil ..⟩
  · exact ⟨ob, by rw [← h2 _ _ _ _ e1]; exact glt e2, h3⟩
theorem inter_mem {β : Type} {a b : List β} (h : a.length = b.length) {q : β} (hq : q ∈ inter a b) : q ∈ a ∨ q ∈ b := by
  have := (inter_perm h).mem_iff.2 hq
  exact List.mem_append.1 this
theorem keeps7 (k k' : SK) (ks : List ByteArray) (xs : List (ByteArray × ByteArray)) (p : Int) (hp : -9223372036854775808 ≤ p ∧ p ≤ 9223372036854775807) (hl : ks.length ≤ 1048576) (hs : ∀ s ∈ ks, s.size < 9223372036854775807) (hl' : xs.length ≤ 1048576) (hs' : ∀ s ∈ xs, s.1.size < 9223372036854775807) :
    W env (.call 7 [.sl k (ks.map eS), .sl k' (xs.map eP), .int .i64 p]) [] (fun o _ => o = .val (.bool true)) := by
  refine W.fnI rfl rfl rfl ?_
  simp -implicitDefEqProofs only [ir7, op, ef, cl, sq, reduceIte, q3, q4, q5, q6, q7, q8, q9, j1, j2, S1]
  refine callB_of _ _ _ _ _ _ _ _ (rest11 p 63 (by decide) hp _) ?_
  rintro u H0 ⟨hu, rfl⟩
  cases hu
  have hq := restI_le p 63
  have wq : IntKind.i64.wrap (1 + ((restI p 63 : Nat) : Int)) = ((1 + restI p 63 : Nat) : Int) := by rw [IntWalk.i64_in _ (by omega)]; omega
  obtain ⟨q, hqe⟩ : ∃ q, q = 1 + restI p 63 := ⟨_, rfl⟩
  rw [← hqe] at wq
  obtain ⟨t1, H1, b1, H2, a1, a2, hb1, hx2, _⟩ := room2 (e := eS) (m := 1) (bytes := 16) (fun _ => rfl) [] ks [tSpare, tRoom] (by simp) (roomS (by simp; omega) (by omega)) (roomS (by omega) (by omega))
  obtain ⟨t3, H3, b2, H4, a3, a4, hb2, hx4, hb2n⟩ := room2 (e := eP) (m := 2) (bytes := 32) (fun _ => rfl) H2 xs [(tSpare, ⟨#[]⟩), (tRoom, ⟨#[]⟩)] (by simp) (roomS (by simp; omega) (by omega)) (roomS (by omega) (by omega))
  have hall := all_map (enc := eS) (n := 1) (fun _ => rfl) ks
  have hallP := all_map (enc := eP) (n := 2) (fun _ => rfl) xs
  simp -implicitDefEqProofs only [List.map_cons, List.map_nil, eS, eP, tSpare, tRoom] at a2 a4
  have fn : fgt (.sl .nil []) = .sl .nil [] := rfl
  have q1 : 1 ≤ q := by omega
  have q2 : q ≤ 64 := by omega
  have sS := fun b H => sl1 ks.length b 1 H
  have sP := fun b H => sl1 xs.length b 2 H
  simp -implicitDefEqProofs only [op, ef, cl, sq, reduceIte, q3, q4, q5, q6, q7, q8, q9, j1, j2, S1, wq, hall, hallP, fn, a1, a2, a3, a4, sS]
  have vS : Vw eS 1 H4 (.msl b1 0 ks.length 1) ks := vw_room (e := eS) (m := 1) (l := ks) (fun _ => rfl) (by decide) (hx4.get hb1)
  have vP : Vw eP 2 H4 (.msl b2 0 xs.length 2) xs := vw_room (e := eP) (m := 2) (l := xs) (fun _ => rfl) (by decide) hb2
  refine callB_of _ _ _ _ _ _ _ _ (group12 _ ks q q1 q2 _ vS hl hs) ?_
  rintro u H5 ⟨hx5, ta, pa, hu, ga, gra⟩
  cases hu
  simp -implicitDefEqProofs only [op, ef, cl, sq, reduceIte, q3, q4, q5, q6, q7, q8, q9, j1, j2, S1, sS]
  refine callB_of _ _ _ _ _ _ _ _ (group12 _ ks q q1 q2 _ (vS.ext hx5) hl hs) ?_
  rintro u H6 ⟨hx6, tb, pb, hu, gb, grb⟩
  cases hu
  simp -implicitDefEqProofs only [op, ef, cl, sq, reduceIte, q3, q4, q5, q6, q7, q8, q9, j1, j2, S1, sP]
  refine callB_of _ _ _ _ _ _ _ _ (group15 _ xs q q1 q2 _ ((vP.ext hx5).ext hx6) hl' hs') ?_
  rintro u H7 ⟨hx7, tx, px, hu, gx, grx⟩
  cases hu
  simp -implicitDefEqProofs only [op, ef, cl, sq, reduceIte, q3, q4, q5, q6, q7, q8, q9, j1, j2, S1, sP]
  refine callB_of _ _ _ _ _ _ _ _ (group15 _ xs q q1 q2 _ (((vP.ext hx5).ext hx6).ext hx7) hl' hs') ?_
  rintro u H8 ⟨hx8, ty, py, hu, gy, gry⟩
  cases hu
  simp -implicitDefEqProofs only [op, ef, cl, sq, reduceIte, q3, q4, q5, q6, q7, q8, q9, j1, j2, S1]
  refine callB_of _ _ _ _ _ _ _ _ (known10 _) ?_
  rintro u H9 ⟨hu, hx9⟩
  cases hu
  have hx9 : Ext H8 H9 := hx9
  have hx49 : Ext H4 H9 := hx5.trans (hx6.trans (hx7.trans (hx8.trans hx9)))
  simp -implicitDefEqProofs only [op, ef, cl, sq, reduceIte, q3, q4, q5, q6, q7, q8, q9, j1, j2, S1, sS, sP]
  refine callB_of _ _ _ _ _ _ _ _ (same13 (vS.ext hx49) (Vw.sl (e := eS) (m := 1) (fun _ => rfl) (by decide) _ k ks) (by omega)) ?_
  rintro u H10 ⟨hu, rfl⟩
  have hu : u = .bool true := by cases hu; simp
  subst hu
  simp -implicitDefEqProofs only [op, ef, cl, sq, reduceIte, q3, q4, q5, q6, q7, q8, q9, j1, j2, S1, sS, sP]
  refine callB_of _ _ _ _ _ _ _ _ (same17 (vP.ext hx49) (Vw.sl (e := eP) (m := 2) (fun _ => rfl) (by decide) _ k' xs) (by omega)) ?_
  rintro u H11 ⟨hu, rfl⟩
  have hu : u = .bool true := by cases hu; simp
  subst hu
  have h59 := hx6.trans (hx7.trans (hx8.trans hx9))
  have gaF := ga.ext h59
  have gbF := gb.ext (hx7.trans (hx8.trans hx9))
  have gxF := gx.ext (hx8.trans hx9)
  have gyF := gy.ext hx9
  have lA := gaF.1.len
  have lB := gbF.1.len
  have lX := gxF.1.len
  have lY := gyF.1.len
  have uAB := gra.uniq grb
  have uXY := grx.uniq gry
  have nAB : pa.length = pb.length := by simpa using congrArg List.length uAB
  have nXY : px.length = py.length := by simpa using congrArg List.length uXY
  have hbS := hx49.get (hx4.get hb1)
  have hbP := hx49.get hb2
  have iS : ks.length < ks.length + 2 := by omega
  have iP : xs.length < xs.length + 2 := by omega
  have iP1 : xs.length + 1 < xs.length + 2 := by omega
  have wP := wrap_succ (show xs.length < 9223372036854775807 by omega)
  have ldS := msC_get (enc := eS) (n := 1) (xs := ks ++ [tSpare, tRoom]) (i := ks.length) (x := tSpare) (fun _ => rfl) (by simp) 0 1 (by decide)
  have ldP0 := msC_get (enc := eP) (n := 2) (xs := xs ++ [(tSpare, ⟨#[]⟩), (tRoom, ⟨#[]⟩)]) (i := xs.length) (x := (tSpare, ⟨#[]⟩)) (fun _ => rfl) (by simp) 0 1 (by decide)
  have ldP1 := msC_get (enc := eP) (n := 2) (xs := xs ++ [(tSpare, ⟨#[]⟩), (tRoom, ⟨#[]⟩)]) (i := xs.length + 1) (x := (tRoom, ⟨#[]⟩)) (fun _ => rfl) (by rw [List.getElem?_append_right (by omega)]; simp) 0 1 (by decide)
  simp -implicitDefEqProofs only [tSpare, tRoom, eS, eP, List.drop_zero, List.take_succ_cons, List.take_zero] at ldS ldP0 ldP1 hbS hbP
  rw [Nat.add_zero] at ldS
  simp -implicitDefEqProofs only [op, ef, cl, sq, reduceIte, q3, q4, q5, q6, q7, q8, q9, j1, j2, S1, sS, sP, natOf_nat, iad_m, iS, iP, iP1, wP, hbS, hbP, ldS, ldP0, ldP1, lA, lB, lX, lY, nAB, nXY]
  obtain ⟨rS, hrS⟩ : ∃ rS, rS = ks ++ [tSpare, tRoom] := ⟨_, rfl⟩
  have hrSl : rS.length = ks.length + 2 := by rw [hrS]; simp
  obtain ⟨Hf, hHf⟩ : ∃ Hf, Hf = H11 := ⟨_, rfl⟩
  have hbS' : Hf[b1]? = some (.cells (msC eS rS)) := by rw [hHf, hrS]; exact hbS
  refine W.loopV [(0, _), (1, _), (2, _), (6, _), (7, _), (8, _), (9, _), (11, _), (13, _), (15, _)] (fun (i : Nat) R H' => R 17 = .int .i64 i ∧ i ≤ ks.length ∧ ∃ r : List ByteArray, r.length = ks.length + 2 ∧ H' = Hf.set b1 (.cells (msC eS r))) (fun i => ks.length - i) 0 ⟨rfl, Nat.zero_le _, rS, hrSl, by rw [set_same hbS', hHf]⟩ ?_
  rintro i R H12 ⟨g17, hi, r, hr, rfl⟩
  have lb1 : b1 < Hf.length := glt hbS'
  by_cases hlt : i < ks.length
  · have wsi := wrap_succ (show i < 9223372036854775807 by omega)
    have hi2 : i < ks.length + 2 := by omega
    obtain ⟨y, hy⟩ := getP (l := r) (i := i) (by omega)
    have hst := fun Hx => msC_set (enc := eS) (n := 1) (fun _ => rfl) hy (y := (⟨#[63]⟩ : ByteArray)) Hx b1 [.str ⟨#[63]⟩] 0 (by simp) rfl
    simp -implicitDefEqProofs only [Nat.add_zero] at hst
    have hg : (Hf.set b1 (.cells (msC eS r)))[b1]? = some (.cells (msC eS r)) := g_eq lb1
    simp -implicitDefEqProofs only [mkR_nil, mkR_cons, op, ef, cl, sq, reduceIte, q3, q4, q5, q6, q7, q8, q9, j1, j2, S1, List.length_map, g17, hlt, natOf_nat, iad_m, hi2, hg, hst, wsi, List.set_set]
    exact ⟨i + 1, by omega, rfl, hlt, _, by rw [List.length_set]; exact hr, rfl⟩
  have hil : i = ks.length := by omega
  subst hil
  simp -implicitDefEqProofs only [mkR_nil, mkR_cons, op, ef, cl, sq, reduceIte, q3, q4, q5, q6, q7, q8, q9, j1, j2, S1, List.length_map, g17, hlt]
  clear hlt g17 hi
  obtain ⟨Hg, hHg⟩ : ∃ Hg, Hg = Hf.set b1 (.cells (msC eS r)) := ⟨_, rfl⟩
  have hne12 : b1 ≠ b2 := by have := glt hb1; omega
  obtain ⟨rP, hrP⟩ : ∃ rP, rP = xs ++ [(tSpare, (⟨#[]⟩ : ByteArray)), (tRoom, ⟨#[]⟩)] := ⟨_, rfl⟩
  have hrPl : rP.length = xs.length + 2 := by rw [hrP]; simp
  have hbP' : Hg[b2]? = some (.cells (msC eP rP)) := by rw [hHg, g_ne hne12, hHf, hrP]; exact hbP
  rw [← hHg]
  refine W.loopV [(0, _), (1, _), (2, _), (6, _), (8, _), (9, _), (11, _), (13, _), (15, _)] (fun (i : Nat) R H' => R 18 = .int .i64 i ∧ i ≤ xs.length ∧ ∃ r : List (ByteArray × ByteArray), r.length = xs.length + 2 ∧ H' = Hg.set b2 (.cells (msC eP r))) (fun i => xs.length - i) 0 ⟨rfl, Nat.zero_le _, rP, hrPl, by rw [set_same hbP']⟩ ?_
  rintro i R H13 ⟨g17, hi, r2, hr2, rfl⟩
  have lb2 : b2 < Hg.length := glt hbP'
  by_cases hlt : i < xs.length
  · have wsi := wrap_succ (show i < 9223372036854775807 by omega)
    have hi2 : i < xs.length + 2 := by omega
    obtain ⟨y, hy⟩ := getP (l := r2) (i := i) (by omega)
    have hst := fun Hx => msC_set (enc := eP) (n := 2) (fun _ => rfl) hy (y := ((⟨#[63]⟩, ⟨#[]⟩) : ByteArray × ByteArray)) Hx b2 [.str ⟨#[63]⟩, .str ⟨#[]⟩] 0 (by simp) rfl
    simp -implicitDefEqProofs only [Nat.add_zero] at hst
    have hg : (Hg.set b2 (.cells (msC eP r2)))[b2]? = some (.cells (msC eP r2)) := g_eq lb2
    simp -implicitDefEqProofs only [mkR_nil, mkR_cons, op, ef, cl, sq, reduceIte, q3, q4, q5, q6, q7, q8, q9, j1, j2, S1, List.length_map, g17, hlt, natOf_nat, iad_m, hi2, hg, hst, wsi, List.set_set]
    exact ⟨i + 1, by omega, rfl, hlt, _, by rw [List.length_set]; exact hr2, rfl⟩
  have hil : i = xs.length := by omega
  subst hil
  simp -implicitDefEqProofs only [mkR_nil, mkR_cons, op, ef, cl, sq, reduceIte, q3, q4, q5, q6, q7, q8, q9, j1, j2, S1, List.length_map, g17, hlt]
  clear hlt g17 hi
  refine callB_of _ _ _ _ _ _ _ _ (group12 _ ks q q1 q2 _ (Vw.sl (e := eS) (m := 1) (fun _ => rfl) (by decide) _ k ks) hl hs) ?_
  rintro u H14 ⟨hx14, tc, pc, hu, gc, grc⟩
  cases hu
  simp -implicitDefEqProofs only [op, ef, cl, sq, reduceIte, q3, q4, q5, q6, q7, q8, q9, j1, j2, S1]
  refine callB_of _ _ _ _ _ _ _ _ (group15 _ xs q q1 q2 _ (Vw.sl (e := eP) (m := 2) (fun _ => rfl) (by decide) _ k' xs) hl' hs') ?_
  rintro u H15 ⟨hx15, tz, pz, hu, gz, grz⟩
  cases hu
  have lb14 : b1 < H4.length := glt (hx4.get hb1)
  have lb24 : b2 < H4.length := glt hb2
  have h45 := hx5.len
  have h56 := hx6.len
  have h67 := hx7.len
  have hxE := hx14.trans hx15
  obtain ⟨Hq, hHq⟩ : ∃ Hq, Hq = H15 := ⟨_, rfl⟩
  have ga15 : GInv eS 1 H4.length H15 ta pa := GInv.ext (by rw [hHg, hHf]; exact GInv.low (GInv.low gaF lb14 _) lb24 _) hxE
  have gb15 : GInv eS 1 H5.length H15 tb pb := GInv.ext (by rw [hHg, hHf]; exact GInv.low (GInv.low gbF (by omega) _) (by omega) _) hxE
  have gx15 : GInv eP 2 H6.length H15 tx px := GInv.ext (by rw [hHg, hHf]; exact GInv.low (GInv.low gxF (by omega) _) (by omega) _) hxE
  have gy15 : GInv eP 2 H7.length H15 ty py := GInv.ext (by rw [hHg, hHf]; exact GInv.low (GInv.low gyF (by omega) _) (by omega) _) hxE
  have gc15 := gc.ext hx15
  have lC := gc15.1.len
  have lZ := gz.1.len
  have lA := ga15.1.len
  have lX := gx15.1.len
  have uAC := gra.uniq grc
  have uBC := grb.uniq grc
  have uXZ := grx.uniq grz
  have uYZ := gry.uniq grz
  have nAC : pc.length = pa.length := by simpa using (congrArg List.length uAC).symm
  have nXZ : pz.length = px.length := by simpa using (congrArg List.length uXZ).symm
  have hpl : pa.length ≤ 64 := Nat.le_trans gra.len q2
  have hxl : px.length ≤ 64 := Nat.le_trans grx.len q2
  simp -implicitDefEqProofs only [op, ef, cl, sq, reduceIte, q3, q4, q5, q6, q7, q8, q9, j1, j2, S1, lC, lZ, lA, lX, nAC, nXZ]
  refine W.loopV [(0, _), (1, _), (2, _), (9, _), (11, _), (13, _), (15, _), (19, _), (21, _)] (fun (i : Nat) R H' => H' = H15 ∧ R 23 = .int .i64 i ∧ i ≤ pa.length) (fun i => pa.length - i) 0 ⟨rfl, rfl, Nat.zero_le _⟩ ?_
  rintro i R H16 ⟨rfl, g23, hi⟩
  by_cases hlt : i < pa.length
  · have wsi := wrap_succ (show i < 9223372036854775807 by omega)
    obtain ⟨xa, hxa⟩ := getP (l := pa) hlt
    obtain ⟨xb, hxb⟩ := getP (l := pb) (i := i) (by omega)
    obtain ⟨xc, hxc, hca⟩ := same_items uAC hxa
    obtain ⟨xc', hxc', hcb⟩ := same_items uBC hxb
    rw [hxc] at hxc'; cases hxc'
    obtain ⟨ca, ia, ha1, la⟩ := kt_at ga15.1 hxa
    obtain ⟨cb, ib, hb3, lb⟩ := kt_at gb15.1 hxb
    obtain ⟨cc, ic, hc1, lc⟩ := kt_at gc15.1 hxc
    have va := GInv.vw (e := eS) (m := 1) ga15 (fun _ => rfl) (by decide) (List.mem_of_getElem? hxa)
    have vb := GInv.vw (e := eS) (m := 1) gb15 (fun _ => rfl) (by decide) (List.mem_of_getElem? hxb)
    have vc := GInv.vw (e := eS) (m := 1) gc15 (fun _ => rfl) (by decide) (List.mem_of_getElem? hxc)
    have hlen : ∀ x ∈ pc, x.items.length ≤ ks.length := fun x hx => by rw [(grc.item x hx).2.1]; exact List.length_filter_le ..
    have hcl := hlen xc (List.mem_of_getElem? hxc)
    simp -implicitDefEqProofs only [mkR_nil, mkR_cons, op, ef, cl, sq, reduceIte, q3, q4, q5, q6, q7, q8, q9, j1, j2, S1, lA, g23, hlt, natOf_nat, ia, ib, ic, ha1, hb3, hc1, la, lb, lc]
    refine callB_of _ _ _ _ _ _ _ _ (same13 va vc (by rw [← hca]; omega)) ?_
    rintro u H17 ⟨hu, rfl⟩
    have hu : u = .bool true := by cases hu; simp [hca]
    subst hu
    simp -implicitDefEqProofs only [mkR_nil, mkR_cons, op, ef, cl, sq, reduceIte, q3, q4, q5, q6, q7, q8, q9, j1, j2, S1, lA, g23, hlt, natOf_nat, ia, ib, ic, ha1, hb3, hc1, la, lb, lc]
    refine callB_of _ _ _ _ _ _ _ _ (same13 vb vc (by rw [← hcb]; omega)) ?_
    rintro u H18 ⟨hu, rfl⟩
    have hu : u = .bool true := by cases hu; simp [hcb]
    subst hu
    simp -implicitDefEqProofs only [mkR_nil, mkR_cons, op, ef, cl, sq, reduceIte, q3, q4, q5, q6, q7, q8, q9, j1, j2, S1, g23, wsi]
    exact ⟨i + 1, by omega, rfl, hlt⟩
  have hil : i = pa.length := by omega
  subst hil
  simp -implicitDefEqProofs only [mkR_nil, mkR_cons, op, ef, cl, sq, reduceIte, q3, q4, q5, q6, q7, q8, q9, j1, j2, S1, lA, g23, hlt]
  clear hlt g23 hi
  refine W.loopV [(0, _), (1, _), (2, _), (9, _), (11, _), (13, _), (15, _), (19, _), (21, _)] (fun (i : Nat) R H' => H' = H16 ∧ R 24 = .int .i64 i ∧ i ≤ px.length) (fun i => px.length - i) 0 ⟨rfl, rfl, Nat.zero_le _⟩ ?_
  rintro i R H16p ⟨rfl, g23, hi⟩
  by_cases hlt : i < px.length
  · have wsi := wrap_succ (show i < 9223372036854775807 by omega)
    obtain ⟨xa, hxa⟩ := getP (l := px) hlt
    obtain ⟨xb, hxb⟩ := getP (l := py) (i := i) (by omega)
    obtain ⟨xc, hxc, hca⟩ := same_items uXZ hxa
    obtain ⟨xc', hxc', hcb⟩ := same_items uYZ hxb
    rw [hxc] at hxc'; cases hxc'
    obtain ⟨ca, ia, ha1, la⟩ := kt_at gx15.1 hxa
    obtain ⟨cb, ib, hb3, lb⟩ := kt_at gy15.1 hxb
    obtain ⟨cc, ic, hc1, lc⟩ := kt_at gz.1 hxc
    have va := GInv.vw (e := eP) (m := 2) gx15 (fun _ => rfl) (by decide) (List.mem_of_getElem? hxa)
    have vb := GInv.vw (e := eP) (m := 2) gy15 (fun _ => rfl) (by decide) (List.mem_of_getElem? hxb)
    have vc := GInv.vw (e := eP) (m := 2) gz (fun _ => rfl) (by decide) (List.mem_of_getElem? hxc)
    have hlen : ∀ x ∈ pz, x.items.length ≤ xs.length := fun x hx => by rw [(grz.item x hx).2.1]; exact List.length_filter_le ..
    have hcl := hlen xc (List.mem_of_getElem? hxc)
    simp -implicitDefEqProofs only [mkR_nil, mkR_cons, op, ef, cl, sq, reduceIte, q3, q4, q5, q6, q7, q8, q9, j1, j2, S1, lX, g23, hlt, natOf_nat, ia, ib, ic, ha1, hb3, hc1, la, lb, lc]
    refine callB_of _ _ _ _ _ _ _ _ (same17 va vc (by rw [← hca]; omega)) ?_
    rintro u H17 ⟨hu, rfl⟩
    have hu : u = .bool true := by cases hu; simp [hca]
    subst hu
    simp -implicitDefEqProofs only [mkR_nil, mkR_cons, op, ef, cl, sq, reduceIte, q3, q4, q5, q6, q7, q8, q9, j1, j2, S1, lX, g23, hlt, natOf_nat, ia, ib, ic, ha1, hb3, hc1, la, lb, lc]
    refine callB_of _ _ _ _ _ _ _ _ (same17 vb vc (by rw [← hcb]; omega)) ?_
    rintro u H18 ⟨hu, rfl⟩
    have hu : u = .bool true := by cases hu; simp [hcb]
    subst hu
    simp -implicitDefEqProofs only [mkR_nil, mkR_cons, op, ef, cl, sq, reduceIte, q3, q4, q5, q6, q7, q8, q9, j1, j2, S1, g23, wsi]
    exact ⟨i + 1, by omega, rfl, hlt⟩
  have hil : i = px.length := by omega
  subst hil
  simp -implicitDefEqProofs only [mkR_nil, mkR_cons, op, ef, cl, sq, reduceIte, q3, q4, q5, q6, q7, q8, q9, j1, j2, S1, lX, g23, hlt]
  clear hlt g23 hi
  refine W.loopV [(0, _), (1, _), (2, _), (9, _), (11, _), (13, _), (15, _), (26, _)] (fun (i : Nat) R H' => At H' (fun H' => ∃ k5, R 25 = .sl k5 ((inter (pa.take i) (pb.take i)).map fun x => [x.kt]) ∧ Apd Hq.length H' k5 ∧ Ext Hq H') ∧ R 27 = .int .i64 i ∧ i ≤ pa.length) (fun i => pa.length - i) 0 ⟨.i ⟨.nil, by simp -implicitDefEqProofs only [List.take_zero, inter, List.map_nil]; rfl, apd_nil _ _, by rw [hHq]; exact Ext.rfl'⟩, rfl, Nat.zero_le _⟩ ?_
  rintro i R H20 ⟨⟨k5, g25, hap, hxq⟩, g27, hi⟩
  have hxe := hxq
  rw [hHq] at hxe
  by_cases hlt : i < pa.length
  · have wsi := wrap_succ (show i < 9223372036854775807 by omega)
    obtain ⟨xa, hxa⟩ := getP (l := pa) hlt
    obtain ⟨xb, hxb⟩ := getP (l := pb) (i := i) (by omega)
    obtain ⟨ca, ia, ha1, la⟩ := kt_at (ga15.ext hxe).1 hxa
    obtain ⟨cb, ib, hb3, lb⟩ := kt_at (gb15.ext hxe).1 hxb
    obtain ⟨ba, ea⟩ := GInv.blk ga15 (List.mem_of_getElem? hxa) (gra.item xa (List.mem_of_getElem? hxa)).2.2
    obtain ⟨bb, eb⟩ := GInv.blk gb15 (List.mem_of_getElem? hxb) (grb.item xb (List.mem_of_getElem? hxb)).2.2
    have lA20 := (ga15.ext hxe).1.len
    rw [ea] at la
    rw [eb] at lb
    have hall5 : ((inter (pa.take i) (pb.take i)).map fun x => [x.kt]).all (fun x => x.length == 1) = true := by rw [List.all_eq_true]; intro c hc; obtain ⟨_, _, rfl⟩ := List.mem_map.1 hc; rfl
    have hil : (inter (pa.take i) (pb.take i)).length ≤ 128 := by rw [inter_len (by simp; omega)]; simp; omega
    obtain ⟨k', H', ha, hap', hst'⟩ := app_ok (bytes := 24) ((inter (pa.take i) (pb.take i)).map fun x => [x.kt]) [[(T.msl ba 0 xa.items.length 1).erase], [(T.msl bb 0 xb.items.length 1).erase]] hap hxq.len (by simp) (roomS (by simp; omega) (by omega))
    have her : ∀ b n m, (T.msl b 0 n m).erase = T.msl b 0 n m := fun _ _ _ => rfl
    simp -implicitDefEqProofs only [List.map_cons, List.map_nil, her] at ha
    simp -implicitDefEqProofs only [mkR_nil, mkR_cons, op, ef, cl, sq, reduceIte, q3, q4, q5, q6, q7, q8, q9, j1, j2, S1, lA20, g25, g27, hlt, natOf_nat, ia, ib, ha1, hb3, la, lb, her, hall5, ha, wsi]
    refine ⟨i + 1, by omega, .i ⟨k', ?_, hap', hst'.ext _ (Nat.le_refl _) hxq⟩, rfl, hlt⟩
    rw [inter_take hxa hxb, List.map_append, List.map_cons, List.map_cons, List.map_nil, ea, eb]
  have hil : i = pa.length := by omega
  subst hil
  have lA20 := (ga15.ext hxe).1.len
  simp -implicitDefEqProofs only [mkR_nil, mkR_cons, op, ef, cl, sq, reduceIte, q3, q4, q5, q6, q7, q8, q9, j1, j2, S1, lA20, g27, hlt]
  clear hlt g27 hi
  have hxe0 := hxe
  obtain ⟨Hq2, hHq2⟩ : ∃ Hq2, Hq2 = H20 := ⟨_, rfl⟩
  refine W.loopV (hv := ⟨rfl, rfl, rfl, rfl, rfl, rfl, rfl, g25, trivial⟩) [(0, _), (1, _), (2, _), (9, _), (11, _), (13, _), (15, _), (25, _)] (fun (i : Nat) R H' => At H' (fun H' => ∃ k6, R 26 = .sl k6 ((inter (px.take i) (py.take i)).map fun x => [x.kt]) ∧ Apd Hq2.length H' k6 ∧ Ext Hq2 H') ∧ R 28 = .int .i64 i ∧ i ≤ px.length) (fun i => px.length - i) 0 ⟨.i ⟨.nil, by simp -implicitDefEqProofs only [List.take_zero, inter, List.map_nil]; rfl, apd_nil _ _, by rw [hHq2]; exact Ext.rfl'⟩, rfl, Nat.zero_le _⟩ ?_
  rintro i R H21 ⟨⟨k6, g26, hap, hxq⟩, g27, hi⟩
  have hxe := hxq
  rw [hHq2] at hxe
  have hxe := hxe0.trans hxe
  by_cases hlt : i < px.length
  · have wsi := wrap_succ (show i < 9223372036854775807 by omega)
    obtain ⟨xa, hxa⟩ := getP (l := px) hlt
    obtain ⟨xb, hxb⟩ := getP (l := py) (i := i) (by omega)
    obtain ⟨ca, ia, ha1, la⟩ := kt_at (gx15.ext hxe).1 hxa
    obtain ⟨cb, ib, hb3, lb⟩ := kt_at (gy15.ext hxe).1 hxb
    obtain ⟨ba, ea⟩ := GInv.blk gx15 (List.mem_of_getElem? hxa) (grx.item xa (List.mem_of_getElem? hxa)).2.2
    obtain ⟨bb, eb⟩ := GInv.blk gy15 (List.mem_of_getElem? hxb) (gry.item xb (List.mem_of_getElem? hxb)).2.2
    have lX20 := (gx15.ext hxe).1.len
    rw [ea] at la
    rw [eb] at lb
    have hall5 : ((inter (px.take i) (py.take i)).map fun x => [x.kt]).all (fun x => x.length == 1) = true := by rw [List.all_eq_true]; intro c hc; obtain ⟨_, _, rfl⟩ := List.mem_map.1 hc; rfl
    have hil : (inter (px.take i) (py.take i)).length ≤ 128 := by rw [inter_len (by simp; omega)]; simp; omega
    obtain ⟨k', H', ha, hap', hst'⟩ := app_ok (bytes := 24) ((inter (px.take i) (py.take i)).map fun x => [x.kt]) [[(T.msl ba 0 xa.items.length 2).erase], [(T.msl bb 0 xb.items.length 2).erase]] hap hxq.len (by simp) (roomS (by simp; omega) (by omega))
    have her : ∀ b n m, (T.msl b 0 n m).erase = T.msl b 0 n m := fun _ _ _ => rfl
    simp -implicitDefEqProofs only [List.map_cons, List.map_nil, her] at ha
    simp -implicitDefEqProofs only [mkR_nil, mkR_cons, op, ef, cl, sq, reduceIte, q3, q4, q5, q6, q7, q8, q9, j1, j2, S1, lX20, g26, g27, hlt, natOf_nat, ia, ib, ha1, hb3, la, lb, her, hall5, ha, wsi]
    refine ⟨i + 1, by omega, .i ⟨k', ?_, hap', hst'.ext _ (Nat.le_refl _) hxq⟩, rfl, hlt⟩
    rw [inter_take hxa hxb, List.map_append, List.map_cons, List.map_cons, List.map_nil, ea, eb]
  have hil : i = px.length := by omega
  subst hil
  have lX20 := (gx15.ext hxe).1.len
  simp -implicitDefEqProofs only [mkR_nil, mkR_cons, op, ef, cl, sq, reduceIte, q3, q4, q5, q6, q7, q8, q9, j1, j2, S1, lX20, g26, g27, hlt]
  have hK : ∀ b x, H4.length ≤ b → H6[b]? = some x → H21[b]? = some x := fun b x hb hx => by
    have h1 := (hx7.trans (hx8.trans hx9)).get hx
    rw [← hHf] at h1
    have h2 : Hg[b]? = some x := by rw [hHg, g_ne (show b1 ≠ b by omega)]; exact h1
    exact hxe.get (hxE.get (by rw [g_ne (show b2 ≠ b by omega)]; exact h2))
  have hK8 : ∀ b x, H4.length ≤ b → H8[b]? = some x → H21[b]? = some x := fun b x hb hx => by
    have h1 := hx9.get hx
    rw [← hHf] at h1
    have h2 : Hg[b]? = some x := by rw [hHg, g_ne (show b1 ≠ b by omega)]; exact h1
    exact hxe.get (hxE.get (by rw [g_ne (show b2 ≠ b by omega)]; exact h2))
  obtain ⟨oa, hoa, fa⟩ := GInv.fam ga (by omega)
  obtain ⟨o1, _, fb⟩ := GInv.fam gb (by omega)
  obtain ⟨ox, hox, fx⟩ := GInv.fam gx (by omega)
  obtain ⟨o2, _, fy⟩ := GInv.fam gy (by have := hx8.len; omega)
  have nA' : (pa.map prP).length = (pb.map prP).length := by simpa using nAB
  have nX' : (px.map prP).length = (py.map prP).length := by simpa using nXY
  have f6 := Fam.both fa fb hx6 (Nat.le_refl _) hoa h45
  have f8 := Fam.both fx fy hx8 (Nat.le_refl _) hox h67
  have fA := (f6.keep (H' := H21) fun b x _ hb hx => hK b x hb hx).perm (inter_perm nA')
  have fX := (f8.keep (H' := H21) fun b x _ hb hx => hK8 b x (by omega) hx).perm (inter_perm nX')
  have eA : (inter (pa.take pa.length) (pb.take pa.length)).map (fun x => [x.kt]) = (inter (pa.map prP) (pb.map prP)).map (fun q => [q.1]) := by
    rw [List.take_length, show pb.take pa.length = pb by rw [nAB, List.take_length], ← inter_map, List.map_map]; rfl
  have eX : (inter (px.take px.length) (py.take px.length)).map (fun x => [x.kt]) = (inter (px.map prP) (py.map prP)).map (fun q => [q.1]) := by
    rw [List.take_length, show py.take px.length = py by rw [nXY, List.take_length], ← inter_map, List.map_map]; rfl
  rw [eA, eX]
  have it : ∀ {α : Type} {key : α → ByteArray} {ks : List α} {ps : List (Pt α)}, Grp key q ks ps → ks.length ≤ 1048576 → ∀ z ∈ ps.map prP, z.2 ≠ [] ∧ z.2.length ≤ 1048576 := fun hg hl z hz => by
    obtain ⟨x, hx, rfl⟩ := List.mem_map.1 hz
    obtain ⟨_, h2, h3⟩ := hg.item x hx
    refine ⟨h3, ?_⟩
    simp -implicitDefEqProofs only [prP]
    rw [h2]
    exact Nat.le_trans (List.length_filter_le ..) hl
  refine callB_of _ _ _ _ _ _ _ _ (marked18 k5 k6 fA fX (L := H6.length) (fun z hz b n m hb => ?_) (Nat.le_refl _) (fun z hz => ?_) (fun z hz => ?_) ?_ ?_) ?_
  · exact f6.lt ((inter_perm nA').mem_iff.2 hz) hb
  · rcases inter_mem nA' hz with hz | hz
    · exact it gra hl z hz
    · exact it grb hl z hz
  · rcases inter_mem nX' hz with hz | hz
    · exact it grx hl' z hz
    · exact it gry hl' z hz
  · rw [inter_len nA']; simp; omega
  · rw [inter_len nX']; simp; omega
  rintro u H22 hu
  cases hu
  simp -implicitDefEqProofs only [op, ef, cl, sq, reduceIte, q3, q4, q5, q6, q7, q8, q9, j1, j2, S1]
end Go.Proofs.Ytpbilghnfldmiaa.Sx
end

section
namespace Go.Proofs.Ytpbilghnfldmiaa
open Go.ChangeShapes Go.WideShapes Go.ChangeAt Go.RowKit
namespace Law
theorem own : ownKnob Try.prog.godebug = none := by kernel_rfl
theorem kids : Kids Try.prog (· < Try.prog.types.size) := kids_rows (by kernel_rfl) (by kernel_rfl)
noncomputable def hzB : Bool := (List.range Try.prog.types.size).all fun t => match Try.prog.underlying t with
  | some (.slice e) => decide (0 < Try.prog.cellsOf e)
  | _ => true
theorem hzB_ok : hzB = true := by kernel_rfl
theorem hz : ∀ t e, t < Try.prog.types.size → Try.prog.underlying t = some (.slice e) → 0 < Try.prog.cellsOf e := fun t e ht h => by
  have := (List.all_eq_true.1 hzB_ok) t (List.mem_range.2 ht)
  rw [h] at this
  simpa using this
mutual
theorem bulk_eq {H : Type} : ∀ d : DataW H, Go.Rmp.bulkW d = Rows.uptoBulk d
  | .lit l => by cases l <;> simp [Go.Rmp.bulkW, Rows.uptoBulk]
  | .nil => by simp [Go.Rmp.bulkW, Rows.uptoBulk]
  | .ptr d => by simp [Go.Rmp.bulkW, Rows.uptoBulk, bulk_eq d]
  | .slice elems spare => by simp [Go.Rmp.bulkW, Rows.uptoBulk, bulks_eq elems, bulks_eq spare]
  | .agg parts => by simp [Go.Rmp.bulkW, Rows.uptoBulk, bulks_eq parts]
  | .iface _ d => by simp [Go.Rmp.bulkW, Rows.uptoBulk, bulk_eq d]
  | .map entries => by simp [Go.Rmp.bulkW, Rows.uptoBulk, bulkE_eq entries]
  | .held _ => by simp [Go.Rmp.bulkW, Rows.uptoBulk]
theorem bulks_eq {H : Type} : ∀ l : List (DataW H), Go.Rmp.bulkAllW l = Rows.uptoBulkAll l
  | [] => by simp [Go.Rmp.bulkAllW, Rows.uptoBulkAll]
  | d :: r => by simp [Go.Rmp.bulkAllW, Rows.uptoBulkAll, bulk_eq d, bulks_eq r]
theorem bulkE_eq {H : Type} : ∀ l : List (Lit × DataW H), Go.Rmp.bulkEntriesW l = Rows.uptoBulkEntries l
  | [] => by simp [Go.Rmp.bulkEntriesW, Rows.uptoBulkEntries]
  | x :: r => by simp [Go.Rmp.bulkEntriesW, Rows.uptoBulkEntries, bulkEn_eq x, bulkE_eq r]
theorem bulkEn_eq {H : Type} : ∀ x : Lit × DataW H, Go.Rmp.bulkEntryW x = Rows.uptoBulkEntry x
  | (l, d) => by cases l <;> simp [Go.Rmp.bulkEntryW, Rows.uptoBulkEntry, bulk_eq d]
end
theorem bulk_ok {H : Type} {ds : List (DataW H)} (h : Rows.uptoSmall H ds = true) : Go.Rmp.bulkAllW ds ≤ 1048576 := by
  rw [bulks_eq]; simpa [Rows.uptoSmall] using h
theorem hasS {B : Nat} {t : Go.Rmp.T} (h : Go.Rmp.HasSh B .str t) : ∃ s, t = .str s ∧ s.size ≤ B := by
  cases h with | str h hB => exact ⟨_, rfl, hB⟩
theorem hasI {B : Nat} {t : Go.Rmp.T} (h : Go.Rmp.HasSh B (.int .i64) t) : ∃ n : Int, t = .int .i64 n ∧ -9223372036854775808 ≤ n ∧ n ≤ 9223372036854775807 := by
  cases h with | int h =>
    rename_i n
    exact ⟨n, rfl, by simpa [Lit.wf, IntKind.min, IntKind.max, IntKind.signed, IntKind.bits] using h⟩
end Law
namespace Sx
open Go.Rmp
theorem map_of {α : Type} {P : α → Prop} (enc : α → List T) (es : List (List T)) (h : ∀ c ∈ es, ∃ x, c = enc x ∧ P x) : ∃ l : List α, es = l.map enc ∧ ∀ x ∈ l, P x := by
  induction es with
  | nil => exact ⟨[], rfl, by simp⟩
  | cons c es ih =>
    obtain ⟨l, rfl, hl⟩ := ih (fun c hc => h c (List.mem_cons_of_mem _ hc))
    obtain ⟨x, rfl, hx⟩ := h _ List.mem_cons_self
    exact ⟨x :: l, rfl, fun y hy => by rcases List.mem_cons.1 hy with rfl | hy; exact hx; exact hl y hy⟩
theorem hasSs {B : Nat} {t : T} (h : HasSh B (.sl [.str]) t) : ∃ (k : SK) (l : List ByteArray), t = .sl k (l.map eS) ∧ l.length ≤ B ∧ ∀ s ∈ l, s.size ≤ B := by
  cases h with
  | nil => exact ⟨.nil, [], rfl, Nat.zero_le _, by simp⟩
  | sl hl hB h0 h =>
    rename_i es
    obtain ⟨l, rfl, hP⟩ := map_of (P := fun s => s.size ≤ B) eS es fun c hc => by
      have hc1 := h0 c hc
      match c, hc1 with
      | [a], _ => obtain ⟨s, rfl, hs⟩ := Law.hasS (h _ hc 0 .str a rfl rfl); exact ⟨s, rfl, hs⟩
    exact ⟨.arg, l, rfl, by simpa using hB, hP⟩
theorem hasPs {B : Nat} {t : T} (h : HasSh B (.sl [.str, .str]) t) : ∃ (k : SK) (l : List (ByteArray × ByteArray)), t = .sl k (l.map eP) ∧ l.length ≤ B ∧ ∀ s ∈ l, s.1.size ≤ B := by
  cases h with
  | nil => exact ⟨.nil, [], rfl, Nat.zero_le _, by simp⟩
  | sl hl hB h0 h =>
    rename_i es
    obtain ⟨l, rfl, hP⟩ := map_of (P := fun s : ByteArray × ByteArray => s.1.size ≤ B) eP es fun c hc => by
      have hc1 := h0 c hc
      match c, hc1 with
      | [a, b], _ =>
        obtain ⟨s, rfl, hs⟩ := Law.hasS (h _ hc 0 .str a rfl rfl)
        obtain ⟨s', rfl, _⟩ := Law.hasS (h _ hc 1 .str b rfl rfl)
        exact ⟨(s, s'), rfl, hs⟩
    exact ⟨.arg, l, rfl, by simpa using hB, hP⟩
end Sx
namespace Law
theorem shardKeeps_w (as' : List Go.Rmp.T) (hs : Go.Rmp.HasShs 1048576 [Go.Rmp.Sh.sl [.str], .sl [.str, .str], .int .i64] as') : Go.Rmp.W Ir.env (.call 7 as') [] (fun o _ => o = .val (.bool true)) := by
  cases hs with | cons h1 hs =>
  cases hs with | cons h2 hs =>
  cases hs with | cons h3 hs =>
  cases hs
  obtain ⟨k, l, rfl, n1, n2⟩ := Sx.hasSs h1
  obtain ⟨k', l', rfl, n3, n4⟩ := Sx.hasPs h2
  obtain ⟨p, rfl, hp⟩ := hasI h3
  exact Sx.keeps7 k k' l l' p hp n1 (fun s hs => by have := n2 s hs; omega) n3 (fun s hs => by have := n4 s hs; omega)
theorem shardKeeps_fn (H : Type) : ∀ ds : List (DataW H), ds.length = Try.f7.params.toList.length → Rows.shardKeepsSpec.fn H ds = { results := [.lit (.bool true)], args := ds } := by
  have hn : Try.f7.params.toList.length = 3 := by kernel_rfl
  rw [hn]
  intro ds hds
  cases ds with | nil => simp at hds | cons d0 ds =>
  cases ds with | nil => simp at hds | cons d1 ds =>
  cases ds with | nil => simp at hds | cons d2 ds =>
  cases ds with | cons => simp at hds | nil =>
  rfl
set_option maxRecDepth 100000 in
theorem shardKeeps_lifted (os : Os) (started : os.Started) (H : Type) (enc : TypeId × Value → H) (F : Stop.Interp) :
    ReturnsInHanded {} Try.checked os 7 .any ((Rows.OpenSpec.upto Rows.shardKeepsSpec).pre6 enc Try.prog Try.f7 Rows.shardKeepsUptoRow.domain false) (((Rows.OpenSpec.upto Rows.shardKeepsSpec).at F).post enc Try.prog Try.f7 false true false false) := by
  refine returnsInHanded_of_cond (C := Try.checked) (s := Rows.OpenSpec.upto Rows.shardKeepsSpec) (k := Rows.uptoSmall) rfl own started (by kernel_rfl) Try.func7
    (OpenSpec.witness (enc := enc) (C := Try.checked) (s := Rows.OpenSpec.upto Rows.shardKeepsSpec) (k := Rows.uptoSmall) rfl false ⟨#[], #[.slice .none 0 0, .slice .none 0 0, .int .i64 0], []⟩ 8 (by kernel_rfl) (by kernel_rfl) (by kernel_rfl)
      (x := ([.nil, .nil, .lit (.int .i64 0)], [], [])) (by kernel_rfl) rfl (by kernel_rfl)) ?_
  intro W base args ds gs before hval hW _ hk _
  exact Go.Rmp.law_contract (s := Rows.shardKeepsSpec) (shs := [Go.Rmp.Sh.sl [.str], .sl [.str, .str], .int .i64]) (B := 1048576) (tb := Try.f7.resultTypes[0]!) Ir.envOk kids hz (by kernel_rfl) (by intro t ht; exact of_decide_eq_true ((List.all_eq_true.1 (show Try.f7.params.toList.all (fun t => decide (t < Try.prog.types.size)) = true by kernel_rfl)) t ht)) (by kernel_rfl) (by kernel_rfl) rfl (shardKeeps_fn H) shardKeeps_w base args ds gs before hval hW (bulk_ok hk)
theorem shardKeeps_over : Rows.shardKeepsUptoRow.holds Try.pinned (Rows.OpenSpec.upto Rows.shardKeepsSpec) :=
  OpenClaim.holds_of_cond 7 Try.f7 rfl rfl rfl rfl rfl rfl rfl ⟨rfl, rfl, rfl, rfl, rfl⟩ rfl rfl rfl rfl rfl (by kernel_rfl) Try.func7 (by kernel_rfl)
    (of_decide_eq_true (by kernel_rfl)) (by unfold Func.isWrapper; first | (rw [if_pos (by decide +kernel)]; kernel_rfl) | (rw [if_neg (by decide +kernel)]; exact ⟨rfl, rfl⟩))
    (fun os started H enc _ F => shardKeeps_lifted os started H enc F)
theorem shardKeeps_proved : Rows.ShardKeepsUptoSaid := shardKeeps_over
end Law
end Go.Proofs.Ytpbilghnfldmiaa
end
