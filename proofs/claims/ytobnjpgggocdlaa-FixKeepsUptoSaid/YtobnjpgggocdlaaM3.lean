/- Part of a proof of a law of this seat: the machine of plain values, its simulation, and the contracts of the functions that the law reaches. Conditions: none beyond the given row. -/
import Derived.Test.YtobnjpgggocdlaaM2
import Derived.Test.YtobnjpgggocdlaaRows
import Derived.WalkKit
import Derived.ProofKit
import Derived.OpenShut
import Derived.JoinedCond
import Derived.ChangeBears
open Int renaming reduceLT → q3, reduceLE → q4, reduceBEq → q5, reduceBNe → q7, reduceEq → q8
open Nat renaming reduceAdd → q9, reduceLeDiff → j1, reduceLT → j2, reduceEqDiff → j3
set_option linter.unusedSimpArgs false
set_option linter.unusedVariables false
set_option linter.unnecessarySimpa false
set_option maxHeartbeats 4000000
section
namespace Go.Proofs.Ytobnjpgggocdlaa.Fx
open Go.Rmp Go.Proofs.Ytobnjpgggocdlaa.Ir
set_option maxRecDepth 10000
def encS (l : List ByteArray) : List (List T) := l.map fun s => [T.str s]
theorem encS_len (l : List ByteArray) : (encS l).length = l.length := by simp [encS]
theorem iadS {l : List ByteArray} {k : SK} {i : Nat} {x : ByteArray} (h : l[i]? = some x) : iadT 1 i (.sl k (encS l)) = some (.iptr [.str x]) := iad_map h rfl (by decide)
theorem getS {l : List ByteArray} {i : Nat} (h : i < l.length) : ∃ x, l[i]? = some x := ⟨l[i], List.getElem?_eq_getElem h⟩
theorem nan46 (s : ByteArray) (H : Heap) : W env (.call 46 [.str s]) H (Ret (.bool false) H) := by
  refine W.fnI rfl rfl rfl ?_
  simp -implicitDefEqProofs only [ir46, b_nil, b_b, b_g, b_c, b_cg, step_s, grd_t, grd_f, grdc_t, grdc_f, c_skip, c_ops, norm_ap, Int.reduceLT, c_seq, c_cond, c_block, c_exit, c_ret, c_loop, c_range, cont_ap, cond_t, cond_f, then_n, then_r, then_e, blk_n, blk_r, blk_e, Bool.false_eq_true, want_t, want_f, isT_b, isF_b, isT_u, isF_u, ldc_tail, retg_val, retg_same, List.length_cons, List.length_nil, Nat.reduceAdd, Nat.reduceLeDiff, Nat.reduceLT, List.drop_succ_cons, List.drop_zero, List.take_succ_cons, List.take_zero, T.cells?, fadT, Nat.zero_add, op, ef, cl, sq, evop, ev_r, ev_c, stB, updo_s, updo_n, upd_ap, regs0_0, regs0_1, regs0_2, regs0_3, regs0_4, reduceIte, Nat.reduceEqDiff, true_and, and_true, Option.map_some, Option.bind_some, binT, unT, lenT, natOf_nat, ldc1, val1, valA, endQ, resT, resL, resV, tupT, dlt, dle, deq, dne, List.map_cons, List.map_nil, decide_true, decide_false, strEq_eq, not_le, Bool.not_true, Bool.not_false, beq_self_eq_true, bne_self_eq_false, List.getElem?_cons_zero, List.getElem?_cons_succ, List.getElem?_nil, List.length_map, ret_val, T.bool.injEq, T.int.injEq, T.str.injEq, T.tup.injEq]
theorem nan47 (s : ByteArray) (H : Heap) : W env (.call 47 [.str s]) H (Ret (.bool false) H) := by
  refine W.fnI rfl rfl rfl ?_
  simp -implicitDefEqProofs only [ir47, b_nil, b_b, b_g, b_c, b_cg, step_s, grd_t, grd_f, grdc_t, grdc_f, c_skip, c_ops, norm_ap, Int.reduceLT, c_seq, c_cond, c_block, c_exit, c_ret, c_loop, c_range, cont_ap, cond_t, cond_f, then_n, then_r, then_e, blk_n, blk_r, blk_e, Bool.false_eq_true, want_t, want_f, isT_b, isF_b, isT_u, isF_u, ldc_tail, retg_val, retg_same, List.length_cons, List.length_nil, Nat.reduceAdd, Nat.reduceLeDiff, Nat.reduceLT, List.drop_succ_cons, List.drop_zero, List.take_succ_cons, List.take_zero, T.cells?, fadT, Nat.zero_add, op, ef, cl, sq, evop, ev_r, ev_c, stB, updo_s, updo_n, upd_ap, regs0_0, regs0_1, regs0_2, regs0_3, regs0_4, reduceIte, Nat.reduceEqDiff, true_and, and_true, Option.map_some, Option.bind_some, binT, unT, lenT, natOf_nat, ldc1, val1, valA, endQ, resT, resL, resV, tupT, dlt, dle, deq, dne, List.map_cons, List.map_nil, decide_true, decide_false, strEq_eq, not_le, Bool.not_true, Bool.not_false, beq_self_eq_true, bne_self_eq_false, List.getElem?_cons_zero, List.getElem?_cons_succ, List.getElem?_nil, List.length_map, ret_val, T.bool.injEq, T.int.injEq, T.str.injEq, T.tup.injEq]
theorem less45 (a b : ByteArray) (H : Heap) : W env (.call 45 [.str a, .str b]) H (Ret (.bool (strLt a b)) H) := by
  refine W.fnI rfl rfl rfl ?_
  simp -implicitDefEqProofs only [ir45, b_nil, b_b, b_g, b_c, b_cg, step_s, grd_t, grd_f, grdc_t, grdc_f, c_skip, c_ops, norm_ap, Int.reduceLT, c_seq, c_cond, c_block, c_exit, c_ret, c_loop, c_range, cont_ap, cond_t, cond_f, then_n, then_r, then_e, blk_n, blk_r, blk_e, Bool.false_eq_true, want_t, want_f, isT_b, isF_b, isT_u, isF_u, ldc_tail, retg_val, retg_same, List.length_cons, List.length_nil, Nat.reduceAdd, Nat.reduceLeDiff, Nat.reduceLT, List.drop_succ_cons, List.drop_zero, List.take_succ_cons, List.take_zero, T.cells?, fadT, Nat.zero_add, op, ef, cl, sq, evop, ev_r, ev_c, stB, updo_s, updo_n, upd_ap, regs0_0, regs0_1, regs0_2, regs0_3, regs0_4, reduceIte, Nat.reduceEqDiff, true_and, and_true, Option.map_some, Option.bind_some, binT, unT, lenT, natOf_nat, ldc1, val1, valA, endQ, resT, resL, resV, tupT, dlt, dle, deq, dne, List.map_cons, List.map_nil, decide_true, decide_false, strEq_eq, not_le, Bool.not_true, Bool.not_false, beq_self_eq_true, bne_self_eq_false, List.getElem?_cons_zero, List.getElem?_cons_succ, List.getElem?_nil, List.length_map, ret_val, T.bool.injEq, T.int.injEq, T.str.injEq, T.tup.injEq]
  refine callB_of _ _ _ _ _ _ _ _ (nan47 a H) ?_
  rintro v H' ⟨h1, rfl⟩
  cases h1
  simp -implicitDefEqProofs only [b_nil, b_b, b_g, b_c, b_cg, step_s, grd_t, grd_f, grdc_t, grdc_f, c_skip, c_ops, norm_ap, Int.reduceLT, c_seq, c_cond, c_block, c_exit, c_ret, c_loop, c_range, cont_ap, cond_t, cond_f, then_n, then_r, then_e, blk_n, blk_r, blk_e, Bool.false_eq_true, want_t, want_f, isT_b, isF_b, isT_u, isF_u, ldc_tail, retg_val, retg_same, List.length_cons, List.length_nil, Nat.reduceAdd, Nat.reduceLeDiff, Nat.reduceLT, List.drop_succ_cons, List.drop_zero, List.take_succ_cons, List.take_zero, T.cells?, fadT, Nat.zero_add, op, ef, cl, sq, evop, ev_r, ev_c, stB, updo_s, updo_n, upd_ap, regs0_0, regs0_1, regs0_2, regs0_3, regs0_4, reduceIte, Nat.reduceEqDiff, true_and, and_true, Option.map_some, Option.bind_some, binT, unT, lenT, natOf_nat, ldc1, val1, valA, endQ, resT, resL, resV, tupT, dlt, dle, deq, dne, List.map_cons, List.map_nil, decide_true, decide_false, strEq_eq, not_le, Bool.not_true, Bool.not_false, beq_self_eq_true, bne_self_eq_false, List.getElem?_cons_zero, List.getElem?_cons_succ, List.getElem?_nil, List.length_map, ret_val, T.bool.injEq, T.int.injEq, T.str.injEq, T.tup.injEq]
theorem eq29 (k k' : SK) (a b : List ByteArray) (H : Heap) (hl : a.length < 9223372036854775807) : W env (.call 29 [.sl k (encS a), .sl k' (encS b)]) H (Ret (.bool (decide (a = b))) H) := by
  refine W.fnI rfl rfl rfl ?_
  simp -implicitDefEqProofs only [ir29, b_nil, b_b, b_g, b_c, b_cg, step_s, grd_t, grd_f, grdc_t, grdc_f, c_skip, c_ops, norm_ap, Int.reduceLT, c_seq, c_cond, c_block, c_exit, c_ret, c_loop, c_range, cont_ap, cond_t, cond_f, then_n, then_r, then_e, blk_n, blk_r, blk_e, Bool.false_eq_true, want_t, want_f, isT_b, isF_b, isT_u, isF_u, ldc_tail, retg_val, retg_same, List.length_cons, List.length_nil, Nat.reduceAdd, Nat.reduceLeDiff, Nat.reduceLT, List.drop_succ_cons, List.drop_zero, List.take_succ_cons, List.take_zero, T.cells?, fadT, Nat.zero_add, op, ef, cl, sq, evop, ev_r, ev_c, stB, updo_s, updo_n, upd_ap, regs0_0, regs0_1, regs0_2, regs0_3, regs0_4, reduceIte, Nat.reduceEqDiff, true_and, and_true, Option.map_some, Option.bind_some, binT, unT, lenT, natOf_nat, ldc1, val1, valA, endQ, resT, resL, resV, tupT, dlt, dle, deq, dne, List.map_cons, List.map_nil, decide_true, decide_false, strEq_eq, not_le, Bool.not_true, Bool.not_false, beq_self_eq_true, bne_self_eq_false, List.getElem?_cons_zero, List.getElem?_cons_succ, List.getElem?_nil, List.length_map, ret_val, T.bool.injEq, T.int.injEq, T.str.injEq, T.tup.injEq, encS_len]
  by_cases hab : a.length = b.length
  · simp -implicitDefEqProofs only [hab, b_nil, b_b, b_g, b_c, b_cg, step_s, grd_t, grd_f, grdc_t, grdc_f, c_skip, c_ops, norm_ap, Int.reduceLT, c_seq, c_cond, c_block, c_exit, c_ret, c_loop, c_range, cont_ap, cond_t, cond_f, then_n, then_r, then_e, blk_n, blk_r, blk_e, Bool.false_eq_true, want_t, want_f, isT_b, isF_b, isT_u, isF_u, ldc_tail, retg_val, retg_same, List.length_cons, List.length_nil, Nat.reduceAdd, Nat.reduceLeDiff, Nat.reduceLT, List.drop_succ_cons, List.drop_zero, List.take_succ_cons, List.take_zero, T.cells?, fadT, Nat.zero_add, op, ef, cl, sq, evop, ev_r, ev_c, stB, updo_s, updo_n, upd_ap, regs0_0, regs0_1, regs0_2, regs0_3, regs0_4, reduceIte, Nat.reduceEqDiff, true_and, and_true, Option.map_some, Option.bind_some, binT, unT, lenT, natOf_nat, ldc1, val1, valA, endQ, resT, resL, resV, tupT, dlt, dle, deq, dne, List.map_cons, List.map_nil, decide_true, decide_false, strEq_eq, not_le, Bool.not_true, Bool.not_false, beq_self_eq_true, bne_self_eq_false, List.getElem?_cons_zero, List.getElem?_cons_succ, List.getElem?_nil, List.length_map, ret_val, T.bool.injEq, T.int.injEq, T.str.injEq, T.tup.injEq, encS_len]
    refine W.loopI (fun (i : Nat) R H' => H' = H ∧ R 0 = .sl k (encS a) ∧ R 1 = .sl k' (encS b) ∧ R 12 = .int .i64 b.length ∧ R 13 = .int .i64 i ∧ i ≤ a.length ∧ ∀ j, j < i → a[j]? = b[j]?) (fun i => a.length - i) 0 ⟨rfl, rfl, rfl, by simp -implicitDefEqProofs only [b_nil, b_b, b_g, b_c, b_cg, step_s, grd_t, grd_f, grdc_t, grdc_f, c_skip, c_ops, norm_ap, Int.reduceLT, c_seq, c_cond, c_block, c_exit, c_ret, c_loop, c_range, cont_ap, cond_t, cond_f, then_n, then_r, then_e, blk_n, blk_r, blk_e, Bool.false_eq_true, want_t, want_f, isT_b, isF_b, isT_u, isF_u, ldc_tail, retg_val, retg_same, List.length_cons, List.length_nil, Nat.reduceAdd, Nat.reduceLeDiff, Nat.reduceLT, List.drop_succ_cons, List.drop_zero, List.take_succ_cons, List.take_zero, T.cells?, fadT, Nat.zero_add, op, ef, cl, sq, evop, ev_r, ev_c, stB, updo_s, updo_n, upd_ap, regs0_0, regs0_1, regs0_2, regs0_3, regs0_4, reduceIte, Nat.reduceEqDiff, true_and, and_true, Option.map_some, Option.bind_some, binT, unT, lenT, natOf_nat, ldc1, val1, valA, endQ, resT, resL, resV, tupT, dlt, dle, deq, dne, List.map_cons, List.map_nil, decide_true, decide_false, strEq_eq, not_le, Bool.not_true, Bool.not_false, beq_self_eq_true, bne_self_eq_false, List.getElem?_cons_zero, List.getElem?_cons_succ, List.getElem?_nil, List.length_map, ret_val, T.bool.injEq, T.int.injEq, T.str.injEq, T.tup.injEq, encS_len, hab], rfl, Nat.zero_le _, fun j h => by omega⟩ ?_
    rintro i R _ ⟨rfl, h0, h1, h12, h5, hi, he⟩
    by_cases hlt : i < b.length
    · obtain ⟨x, hx⟩ := getS (l := a) (i := i) (by omega)
      obtain ⟨y, hy⟩ := getS (l := b) (i := i) (by omega)
      have ws := wrap_succ (show i < 9223372036854775807 by omega)
      by_cases hxy : x = y
      · subst hxy
        simp -implicitDefEqProofs only [b_nil, b_b, b_g, b_c, b_cg, step_s, grd_t, grd_f, grdc_t, grdc_f, c_skip, c_ops, norm_ap, Int.reduceLT, c_seq, c_cond, c_block, c_exit, c_ret, c_loop, c_range, cont_ap, cond_t, cond_f, then_n, then_r, then_e, blk_n, blk_r, blk_e, Bool.false_eq_true, want_t, want_f, isT_b, isF_b, isT_u, isF_u, ldc_tail, retg_val, retg_same, List.length_cons, List.length_nil, Nat.reduceAdd, Nat.reduceLeDiff, Nat.reduceLT, List.drop_succ_cons, List.drop_zero, List.take_succ_cons, List.take_zero, T.cells?, fadT, Nat.zero_add, op, ef, cl, sq, evop, ev_r, ev_c, stB, updo_s, updo_n, upd_ap, regs0_0, regs0_1, regs0_2, regs0_3, regs0_4, reduceIte, Nat.reduceEqDiff, true_and, and_true, Option.map_some, Option.bind_some, binT, unT, lenT, natOf_nat, ldc1, val1, valA, endQ, resT, resL, resV, tupT, dlt, dle, deq, dne, List.map_cons, List.map_nil, decide_true, decide_false, strEq_eq, not_le, Bool.not_true, Bool.not_false, beq_self_eq_true, bne_self_eq_false, List.getElem?_cons_zero, List.getElem?_cons_succ, List.getElem?_nil, List.length_map, ret_val, T.bool.injEq, T.int.injEq, T.str.injEq, T.tup.injEq, h0, h1, h12, h5, encS_len, hlt, iadS hx, iadS hy, ws]
        refine ⟨i + 1, by omega, rfl, by omega, fun j hj => ?_⟩
        by_cases e : j = i
        · subst e; rw [hx, hy]
        · exact he j (by omega)
      · have : a ≠ b := by rintro rfl; rw [hx] at hy; cases hy; exact hxy rfl
        simp -implicitDefEqProofs only [b_nil, b_b, b_g, b_c, b_cg, step_s, grd_t, grd_f, grdc_t, grdc_f, c_skip, c_ops, norm_ap, Int.reduceLT, c_seq, c_cond, c_block, c_exit, c_ret, c_loop, c_range, cont_ap, cond_t, cond_f, then_n, then_r, then_e, blk_n, blk_r, blk_e, Bool.false_eq_true, want_t, want_f, isT_b, isF_b, isT_u, isF_u, ldc_tail, retg_val, retg_same, List.length_cons, List.length_nil, Nat.reduceAdd, Nat.reduceLeDiff, Nat.reduceLT, List.drop_succ_cons, List.drop_zero, List.take_succ_cons, List.take_zero, T.cells?, fadT, Nat.zero_add, op, ef, cl, sq, evop, ev_r, ev_c, stB, updo_s, updo_n, upd_ap, regs0_0, regs0_1, regs0_2, regs0_3, regs0_4, reduceIte, Nat.reduceEqDiff, true_and, and_true, Option.map_some, Option.bind_some, binT, unT, lenT, natOf_nat, ldc1, val1, valA, endQ, resT, resL, resV, tupT, dlt, dle, deq, dne, List.map_cons, List.map_nil, decide_true, decide_false, strEq_eq, not_le, Bool.not_true, Bool.not_false, beq_self_eq_true, bne_self_eq_false, List.getElem?_cons_zero, List.getElem?_cons_succ, List.getElem?_nil, List.length_map, ret_val, T.bool.injEq, T.int.injEq, T.str.injEq, T.tup.injEq, h0, h1, h12, h5, encS_len, hlt, iadS hx, iadS hy, ws, hxy, this]
    · have : a = b := List.ext_getElem? fun j => by
        by_cases hj : j < a.length
        · exact he j (by omega)
        · rw [List.getElem?_eq_none (by omega), List.getElem?_eq_none (by omega)]
      subst this
      simp -implicitDefEqProofs only [b_nil, b_b, b_g, b_c, b_cg, step_s, grd_t, grd_f, grdc_t, grdc_f, c_skip, c_ops, norm_ap, Int.reduceLT, c_seq, c_cond, c_block, c_exit, c_ret, c_loop, c_range, cont_ap, cond_t, cond_f, then_n, then_r, then_e, blk_n, blk_r, blk_e, Bool.false_eq_true, want_t, want_f, isT_b, isF_b, isT_u, isF_u, ldc_tail, retg_val, retg_same, List.length_cons, List.length_nil, Nat.reduceAdd, Nat.reduceLeDiff, Nat.reduceLT, List.drop_succ_cons, List.drop_zero, List.take_succ_cons, List.take_zero, T.cells?, fadT, Nat.zero_add, op, ef, cl, sq, evop, ev_r, ev_c, stB, updo_s, updo_n, upd_ap, regs0_0, regs0_1, regs0_2, regs0_3, regs0_4, reduceIte, Nat.reduceEqDiff, true_and, and_true, Option.map_some, Option.bind_some, binT, unT, lenT, natOf_nat, ldc1, val1, valA, endQ, resT, resL, resV, tupT, dlt, dle, deq, dne, List.map_cons, List.map_nil, decide_true, decide_false, strEq_eq, not_le, Bool.not_true, Bool.not_false, beq_self_eq_true, bne_self_eq_false, List.getElem?_cons_zero, List.getElem?_cons_succ, List.getElem?_nil, List.length_map, ret_val, T.bool.injEq, T.int.injEq, T.str.injEq, T.tup.injEq, h0, h1, h12, h5, encS_len, hlt]
  · have : a ≠ b := by rintro rfl; exact hab rfl
    simp -implicitDefEqProofs only [hab, this, b_nil, b_b, b_g, b_c, b_cg, step_s, grd_t, grd_f, grdc_t, grdc_f, c_skip, c_ops, norm_ap, Int.reduceLT, c_seq, c_cond, c_block, c_exit, c_ret, c_loop, c_range, cont_ap, cond_t, cond_f, then_n, then_r, then_e, blk_n, blk_r, blk_e, Bool.false_eq_true, want_t, want_f, isT_b, isF_b, isT_u, isF_u, ldc_tail, retg_val, retg_same, List.length_cons, List.length_nil, Nat.reduceAdd, Nat.reduceLeDiff, Nat.reduceLT, List.drop_succ_cons, List.drop_zero, List.take_succ_cons, List.take_zero, T.cells?, fadT, Nat.zero_add, op, ef, cl, sq, evop, ev_r, ev_c, stB, updo_s, updo_n, upd_ap, regs0_0, regs0_1, regs0_2, regs0_3, regs0_4, reduceIte, Nat.reduceEqDiff, true_and, and_true, Option.map_some, Option.bind_some, binT, unT, lenT, natOf_nat, ldc1, val1, valA, endQ, resT, resL, resV, tupT, dlt, dle, deq, dne, List.map_cons, List.map_nil, decide_true, decide_false, strEq_eq, not_le, Bool.not_true, Bool.not_false, beq_self_eq_true, bne_self_eq_false, List.getElem?_cons_zero, List.getElem?_cons_succ, List.getElem?_nil, List.length_map, ret_val, T.bool.injEq, T.int.injEq, T.str.injEq, T.tup.injEq]
def memB (l : List ByteArray) (x : ByteArray) : Bool := l.any fun y => decide (y = x)
theorem memB_iff {l : List ByteArray} {x : ByteArray} : memB l x = true ↔ x ∈ l := by simp [memB]
theorem memB_no {l : List ByteArray} {x : ByteArray} : memB l x = false ↔ x ∉ l := by rw [← memB_iff]; simp
theorem has23 (k : SK) (l : List ByteArray) (x : ByteArray) (H : Heap) (hl : l.length < 9223372036854775807) : W env (.call 23 [.sl k (encS l), .str x]) H (Ret (.bool (memB l x)) H) := by
  refine W.fnI rfl rfl rfl ?_
  simp -implicitDefEqProofs only [ir23, b_nil, b_b, b_g, b_c, b_cg, step_s, grd_t, grd_f, grdc_t, grdc_f, c_skip, c_ops, norm_ap, Int.reduceLT, c_seq, c_cond, c_block, c_exit, c_ret, c_loop, c_range, cont_ap, cond_t, cond_f, then_n, then_r, then_e, blk_n, blk_r, blk_e, Bool.false_eq_true, want_t, want_f, isT_b, isF_b, isT_u, isF_u, ldc_tail, retg_val, retg_same, List.length_cons, List.length_nil, Nat.reduceAdd, Nat.reduceLeDiff, Nat.reduceLT, List.drop_succ_cons, List.drop_zero, List.take_succ_cons, List.take_zero, T.cells?, fadT, Nat.zero_add, op, ef, cl, sq, evop, ev_r, ev_c, stB, updo_s, updo_n, upd_ap, regs0_0, regs0_1, regs0_2, regs0_3, regs0_4, reduceIte, Nat.reduceEqDiff, true_and, and_true, Option.map_some, Option.bind_some, binT, unT, lenT, natOf_nat, ldc1, val1, valA, endQ, resT, resL, resV, tupT, dlt, dle, deq, dne, List.map_cons, List.map_nil, decide_true, decide_false, strEq_eq, not_le, Bool.not_true, Bool.not_false, beq_self_eq_true, bne_self_eq_false, List.getElem?_cons_zero, List.getElem?_cons_succ, List.getElem?_nil, List.length_map, ret_val, T.bool.injEq, T.int.injEq, T.str.injEq, T.tup.injEq]
  refine W.loopI (fun (i : Nat) R H' => H' = H ∧ R 0 = .sl k (encS l) ∧ R 1 = .str x ∧ R 5 = .int .i64 i ∧ i ≤ l.length ∧ ∀ j y, j < i → l[j]? = some y → y ≠ x) (fun i => l.length - i) 0 ⟨rfl, rfl, rfl, rfl, Nat.zero_le _, fun j y h => by omega⟩ ?_
  rintro i R _ ⟨rfl, h0, h1, h5, hi, he⟩
  by_cases hlt : i < l.length
  · obtain ⟨y, hy⟩ := getS hlt
    have ws := wrap_succ (show i < 9223372036854775807 by omega)
    by_cases hxy : y = x
    · have : x ∈ l := hxy ▸ List.mem_of_getElem? hy
      simp -implicitDefEqProofs only [b_nil, b_b, b_g, b_c, b_cg, step_s, grd_t, grd_f, grdc_t, grdc_f, c_skip, c_ops, norm_ap, Int.reduceLT, c_seq, c_cond, c_block, c_exit, c_ret, c_loop, c_range, cont_ap, cond_t, cond_f, then_n, then_r, then_e, blk_n, blk_r, blk_e, Bool.false_eq_true, want_t, want_f, isT_b, isF_b, isT_u, isF_u, ldc_tail, retg_val, retg_same, List.length_cons, List.length_nil, Nat.reduceAdd, Nat.reduceLeDiff, Nat.reduceLT, List.drop_succ_cons, List.drop_zero, List.take_succ_cons, List.take_zero, T.cells?, fadT, Nat.zero_add, op, ef, cl, sq, evop, ev_r, ev_c, stB, updo_s, updo_n, upd_ap, regs0_0, regs0_1, regs0_2, regs0_3, regs0_4, reduceIte, Nat.reduceEqDiff, true_and, and_true, Option.map_some, Option.bind_some, binT, unT, lenT, natOf_nat, ldc1, val1, valA, endQ, resT, resL, resV, tupT, dlt, dle, deq, dne, List.map_cons, List.map_nil, decide_true, decide_false, strEq_eq, not_le, Bool.not_true, Bool.not_false, beq_self_eq_true, bne_self_eq_false, List.getElem?_cons_zero, List.getElem?_cons_succ, List.getElem?_nil, List.length_map, ret_val, T.bool.injEq, T.int.injEq, T.str.injEq, T.tup.injEq, h0, h1, h5, encS_len, hlt, iadS hy, ws, hxy, memB_iff.2 this]
    · simp -implicitDefEqProofs only [b_nil, b_b, b_g, b_c, b_cg, step_s, grd_t, grd_f, grdc_t, grdc_f, c_skip, c_ops, norm_ap, Int.reduceLT, c_seq, c_cond, c_block, c_exit, c_ret, c_loop, c_range, cont_ap, cond_t, cond_f, then_n, then_r, then_e, blk_n, blk_r, blk_e, Bool.false_eq_true, want_t, want_f, isT_b, isF_b, isT_u, isF_u, ldc_tail, retg_val, retg_same, List.length_cons, List.length_nil, Nat.reduceAdd, Nat.reduceLeDiff, Nat.reduceLT, List.drop_succ_cons, List.drop_zero, List.take_succ_cons, List.take_zero, T.cells?, fadT, Nat.zero_add, op, ef, cl, sq, evop, ev_r, ev_c, stB, updo_s, updo_n, upd_ap, regs0_0, regs0_1, regs0_2, regs0_3, regs0_4, reduceIte, Nat.reduceEqDiff, true_and, and_true, Option.map_some, Option.bind_some, binT, unT, lenT, natOf_nat, ldc1, val1, valA, endQ, resT, resL, resV, tupT, dlt, dle, deq, dne, List.map_cons, List.map_nil, decide_true, decide_false, strEq_eq, not_le, Bool.not_true, Bool.not_false, beq_self_eq_true, bne_self_eq_false, List.getElem?_cons_zero, List.getElem?_cons_succ, List.getElem?_nil, List.length_map, ret_val, T.bool.injEq, T.int.injEq, T.str.injEq, T.tup.injEq, h0, h1, h5, encS_len, hlt, iadS hy, ws, hxy]
      refine ⟨i + 1, by omega, rfl, by omega, fun j z hj hz => ?_⟩
      by_cases e : j = i
      · subst e; rw [hy] at hz; cases hz; exact hxy
      · exact he j z (by omega) hz
  · have : x ∉ l := fun hm => by
      obtain ⟨j, hj, e⟩ := List.getElem_of_mem hm
      exact he j x (by omega) (by rw [List.getElem?_eq_getElem hj, e]) rfl
    simp -implicitDefEqProofs only [b_nil, b_b, b_g, b_c, b_cg, step_s, grd_t, grd_f, grdc_t, grdc_f, c_skip, c_ops, norm_ap, Int.reduceLT, c_seq, c_cond, c_block, c_exit, c_ret, c_loop, c_range, cont_ap, cond_t, cond_f, then_n, then_r, then_e, blk_n, blk_r, blk_e, Bool.false_eq_true, want_t, want_f, isT_b, isF_b, isT_u, isF_u, ldc_tail, retg_val, retg_same, List.length_cons, List.length_nil, Nat.reduceAdd, Nat.reduceLeDiff, Nat.reduceLT, List.drop_succ_cons, List.drop_zero, List.take_succ_cons, List.take_zero, T.cells?, fadT, Nat.zero_add, op, ef, cl, sq, evop, ev_r, ev_c, stB, updo_s, updo_n, upd_ap, regs0_0, regs0_1, regs0_2, regs0_3, regs0_4, reduceIte, Nat.reduceEqDiff, true_and, and_true, Option.map_some, Option.bind_some, binT, unT, lenT, natOf_nat, ldc1, val1, valA, endQ, resT, resL, resV, tupT, dlt, dle, deq, dne, List.map_cons, List.map_nil, decide_true, decide_false, strEq_eq, not_le, Bool.not_true, Bool.not_false, beq_self_eq_true, bne_self_eq_false, List.getElem?_cons_zero, List.getElem?_cons_succ, List.getElem?_nil, List.length_map, ret_val, T.bool.injEq, T.int.injEq, T.str.injEq, T.tup.injEq, h0, h1, h5, encS_len, hlt, memB_no.2 this]
def rises : List ByteArray → Bool
  | a :: b :: l => strLt a b && rises (b :: l)
  | _ => true
theorem rises_iff : ∀ (l : List ByteArray), rises l = true ↔ ∀ (i : Nat) (a b : ByteArray), l[i]? = some a → l[i+1]? = some b → strLt a b = true
  | [] => by simp [rises]
  | [a] => by simp [rises]
  | a :: b :: l => by
    simp only [rises, Bool.and_eq_true, rises_iff (b :: l)]
    constructor
    · rintro ⟨h1, h2⟩ i x y hx hy
      cases i with
      | zero => simp at hx hy; subst hx; subst hy; exact h1
      | succ i => exact h2 i x y (by simpa using hx) (by simpa using hy)
    · intro h
      exact ⟨h 0 a b rfl rfl, fun i x y hx hy => h (i + 1) x y (by simpa using hx) (by simpa using hy)⟩
theorem le_not (a b : ByteArray) : (strLt b a || decide (b = a)) = !strLt a b := by rw [← not_le a b, strEq_eq]; simp
theorem rising39 (k : SK) (l : List ByteArray) (H : Heap) (hl : l.length < 9223372036854775807) : W env (.call 39 [.sl k (encS l)]) H (Ret (.bool (rises l && decide (l.length ≤ 1024))) H) := by
  refine W.fnI rfl rfl rfl ?_
  simp -implicitDefEqProofs only [ir39, b_nil, b_b, b_g, b_c, b_cg, step_s, grd_t, grd_f, grdc_t, grdc_f, c_skip, c_ops, norm_ap, Int.reduceLT, c_seq, c_cond, c_block, c_exit, c_ret, c_loop, c_range, cont_ap, cond_t, cond_f, then_n, then_r, then_e, blk_n, blk_r, blk_e, Bool.false_eq_true, want_t, want_f, isT_b, isF_b, isT_u, isF_u, ldc_tail, retg_val, retg_same, List.length_cons, List.length_nil, Nat.reduceAdd, Nat.reduceLeDiff, Nat.reduceLT, List.drop_succ_cons, List.drop_zero, List.take_succ_cons, List.take_zero, T.cells?, fadT, Nat.zero_add, op, ef, cl, sq, evop, ev_r, ev_c, stB, updo_s, updo_n, upd_ap, regs0_0, regs0_1, regs0_2, regs0_3, regs0_4, reduceIte, Nat.reduceEqDiff, true_and, and_true, Option.map_some, Option.bind_some, binT, unT, lenT, natOf_nat, ldc1, val1, valA, endQ, resT, resL, resV, tupT, dlt, dle, deq, dne, List.map_cons, List.map_nil, decide_true, decide_false, strEq_eq, not_le, Bool.not_true, Bool.not_false, beq_self_eq_true, bne_self_eq_false, List.getElem?_cons_zero, List.getElem?_cons_succ, List.getElem?_nil, List.length_map, ret_val, T.bool.injEq, T.int.injEq, T.str.injEq, T.tup.injEq]
  refine W.loopI (fun (i : Nat) R H' => H' = H ∧ R 0 = .sl k (encS l) ∧ R 3 = .int .i64 i ∧ 1 ≤ i ∧ (i = 1 ∨ i ≤ l.length) ∧ ∀ j a b, j + 1 < i → l[j]? = some a → l[j+1]? = some b → strLt a b = true) (fun i => l.length - i) 1 ⟨rfl, rfl, rfl, Nat.le_refl _, .inl rfl, fun j a b hj => by omega⟩ ?_
  rintro i R _ ⟨rfl, h0, h3, h1, h4, h5⟩
  by_cases hi : i < l.length
  · obtain ⟨b, hb⟩ := getS hi
    obtain ⟨a, ha⟩ := getS (l := l) (i := i - 1) (by omega)
    have ws := wrap_succ (show i < 9223372036854775807 by omega)
    have wp := wrap_pred (show i < 9223372036854775807 by omega) h1
    cases hc : strLt a b
    · have : rises l = false := by
        cases hr : rises l with
        | false => rfl
        | true =>
          have := (rises_iff l).1 hr (i - 1) a b ha (by rw [show i - 1 + 1 = i by omega]; exact hb)
          rw [hc] at this; cases this
      simp -implicitDefEqProofs only [b_nil, b_b, b_g, b_c, b_cg, step_s, grd_t, grd_f, grdc_t, grdc_f, c_skip, c_ops, norm_ap, Int.reduceLT, c_seq, c_cond, c_block, c_exit, c_ret, c_loop, c_range, cont_ap, cond_t, cond_f, then_n, then_r, then_e, blk_n, blk_r, blk_e, Bool.false_eq_true, want_t, want_f, isT_b, isF_b, isT_u, isF_u, ldc_tail, retg_val, retg_same, List.length_cons, List.length_nil, Nat.reduceAdd, Nat.reduceLeDiff, Nat.reduceLT, List.drop_succ_cons, List.drop_zero, List.take_succ_cons, List.take_zero, T.cells?, fadT, Nat.zero_add, op, ef, cl, sq, evop, ev_r, ev_c, stB, updo_s, updo_n, upd_ap, regs0_0, regs0_1, regs0_2, regs0_3, regs0_4, reduceIte, Nat.reduceEqDiff, true_and, and_true, Option.map_some, Option.bind_some, binT, unT, lenT, natOf_nat, ldc1, val1, valA, endQ, resT, resL, resV, tupT, dlt, dle, deq, dne, List.map_cons, List.map_nil, decide_true, decide_false, strEq_eq, not_le, Bool.not_true, Bool.not_false, beq_self_eq_true, bne_self_eq_false, List.getElem?_cons_zero, List.getElem?_cons_succ, List.getElem?_nil, List.length_map, ret_val, T.bool.injEq, T.int.injEq, T.str.injEq, T.tup.injEq, h0, h3, encS_len, hi, iadS ha, iadS hb, ws, wp, le_not, hc, this, Bool.false_and]
    · simp -implicitDefEqProofs only [b_nil, b_b, b_g, b_c, b_cg, step_s, grd_t, grd_f, grdc_t, grdc_f, c_skip, c_ops, norm_ap, Int.reduceLT, c_seq, c_cond, c_block, c_exit, c_ret, c_loop, c_range, cont_ap, cond_t, cond_f, then_n, then_r, then_e, blk_n, blk_r, blk_e, Bool.false_eq_true, want_t, want_f, isT_b, isF_b, isT_u, isF_u, ldc_tail, retg_val, retg_same, List.length_cons, List.length_nil, Nat.reduceAdd, Nat.reduceLeDiff, Nat.reduceLT, List.drop_succ_cons, List.drop_zero, List.take_succ_cons, List.take_zero, T.cells?, fadT, Nat.zero_add, op, ef, cl, sq, evop, ev_r, ev_c, stB, updo_s, updo_n, upd_ap, regs0_0, regs0_1, regs0_2, regs0_3, regs0_4, reduceIte, Nat.reduceEqDiff, true_and, and_true, Option.map_some, Option.bind_some, binT, unT, lenT, natOf_nat, ldc1, val1, valA, endQ, resT, resL, resV, tupT, dlt, dle, deq, dne, List.map_cons, List.map_nil, decide_true, decide_false, strEq_eq, not_le, Bool.not_true, Bool.not_false, beq_self_eq_true, bne_self_eq_false, List.getElem?_cons_zero, List.getElem?_cons_succ, List.getElem?_nil, List.length_map, ret_val, T.bool.injEq, T.int.injEq, T.str.injEq, T.tup.injEq, h0, h3, encS_len, hi, iadS ha, iadS hb, ws, wp, le_not, hc]
      refine ⟨i + 1, by omega, rfl, by omega, .inr (by omega), fun j a' b' hj ha' hb' => ?_⟩
      by_cases hj' : j + 1 < i
      · exact h5 j a' b' hj' ha' hb'
      · obtain rfl : j = i - 1 := by omega
        rw [show i - 1 + 1 = i by omega, hb] at hb'
        rw [ha] at ha'; cases ha'; cases hb'; exact hc
  · have hr : rises l = true := (rises_iff l).2 fun j a b ha hb => h5 j a b (by
      have := (List.getElem?_eq_some_iff.1 hb).1; omega) ha hb
    simp -implicitDefEqProofs only [b_nil, b_b, b_g, b_c, b_cg, step_s, grd_t, grd_f, grdc_t, grdc_f, c_skip, c_ops, norm_ap, Int.reduceLT, c_seq, c_cond, c_block, c_exit, c_ret, c_loop, c_range, cont_ap, cond_t, cond_f, then_n, then_r, then_e, blk_n, blk_r, blk_e, Bool.false_eq_true, want_t, want_f, isT_b, isF_b, isT_u, isF_u, ldc_tail, retg_val, retg_same, List.length_cons, List.length_nil, Nat.reduceAdd, Nat.reduceLeDiff, Nat.reduceLT, List.drop_succ_cons, List.drop_zero, List.take_succ_cons, List.take_zero, T.cells?, fadT, Nat.zero_add, op, ef, cl, sq, evop, ev_r, ev_c, stB, updo_s, updo_n, upd_ap, regs0_0, regs0_1, regs0_2, regs0_3, regs0_4, reduceIte, Nat.reduceEqDiff, true_and, and_true, Option.map_some, Option.bind_some, binT, unT, lenT, natOf_nat, ldc1, val1, valA, endQ, resT, resL, resV, tupT, dlt, dle, deq, dne, List.map_cons, List.map_nil, decide_true, decide_false, strEq_eq, not_le, Bool.not_true, Bool.not_false, beq_self_eq_true, bne_self_eq_false, List.getElem?_cons_zero, List.getElem?_cons_succ, List.getElem?_nil, List.length_map, ret_val, T.bool.injEq, T.int.injEq, T.str.injEq, T.tup.injEq, h0, h3, encS_len, hi, hr, Bool.true_and]
    try (simp; omega)
end Go.Proofs.Ytobnjpgggocdlaa.Fx
end

section
namespace Go.Proofs.Ytobnjpgggocdlaa.Fx
open Go.Rmp Go.Proofs.Ytobnjpgggocdlaa.Ir
set_option maxRecDepth 10000
theorem rises_lt {l : List ByteArray} (h : rises l = true) : ∀ (q p : Nat) (a b : ByteArray), p < q → l[p]? = some a → l[q]? = some b → strLt a b = true
  | 0, p, _, _, hpq, _, _ => by omega
  | q + 1, p, a, b, hpq, ha, hb => by
    obtain ⟨c, hc⟩ := getS (l := l) (i := q) (by have := (List.getElem?_eq_some_iff.1 hb).1; omega)
    have h1 := (rises_iff l).1 h q c b hc hb
    by_cases e : p = q
    · subst e; rw [ha] at hc; cases hc; exact h1
    · exact lt_trans' (rises_lt h q p a c (by omega) ha hc) h1
theorem half (i j : Nat) (h : i + j < 9223372036854775807) : IntKind.i64.wrap ((IntKind.u64.wrap (IntKind.i64.wrap ((i : Int) + (j : Int)))).fdiv (2 ^ (min (1 : Int).toNat IntKind.u64.bits))) = (((i + j) / 2 : Nat) : Int) := by
  rw [wrap64 (n := (i : Int) + j) (by omega), wrapu64 (n := (i : Int) + j) (by omega)]
  have e : (2 : Int) ^ (min (1 : Int).toNat IntKind.u64.bits) = 2 := by decide
  rw [e, Int.fdiv_eq_ediv_of_nonneg _ (by omega), wrap64 (by omega)]
  omega
theorem bs44 (k : SK) (l : List ByteArray) (x : ByteArray) (H : Heap) (hl : l.length < 4611686018427387903) (hr : rises l = true) :
    W env (.call 44 [.sl k (encS l), .str x]) H (fun o H' => ∃ i : Nat, o = .val (.tup [.int .i64 i, .bool (memB l x)]) ∧ H' = H) := by
  refine W.fnI rfl rfl rfl ?_
  simp -implicitDefEqProofs only [ir44, b_nil, b_b, b_g, b_c, b_cg, step_s, grd_t, grd_f, grdc_t, grdc_f, c_skip, c_ops, norm_ap, Int.reduceLT, c_seq, c_cond, c_block, c_exit, c_ret, c_loop, c_range, cont_ap, cond_t, cond_f, then_n, then_r, then_e, blk_n, blk_r, blk_e, Bool.false_eq_true, want_t, want_f, isT_b, isF_b, isT_u, isF_u, ldc_tail, retg_val, retg_same, List.length_cons, List.length_nil, Nat.reduceAdd, Nat.reduceLeDiff, Nat.reduceLT, List.drop_succ_cons, List.drop_zero, List.take_succ_cons, List.take_zero, T.cells?, fadT, Nat.zero_add, op, ef, cl, sq, evop, ev_r, ev_c, stB, updo_s, updo_n, upd_ap, regs0_0, regs0_1, regs0_2, regs0_3, regs0_4, reduceIte, Nat.reduceEqDiff, true_and, and_true, Option.map_some, Option.bind_some, binT, unT, lenT, natOf_nat, ldc1, val1, valA, endQ, resT, resL, resV, tupT, dlt, dle, deq, dne, List.map_cons, List.map_nil, decide_true, decide_false, strEq_eq, not_le, Bool.not_true, Bool.not_false, beq_self_eq_true, bne_self_eq_false, List.getElem?_cons_zero, List.getElem?_cons_succ, List.getElem?_nil, List.length_map, ret_val, T.bool.injEq, T.int.injEq, T.str.injEq, T.tup.injEq, encS_len]
  refine W.loopI (fun (s : Nat × Nat) R H' => H' = H ∧ R 0 = .sl k (encS l) ∧ R 1 = .str x ∧ R 6 = .int .i64 l.length ∧ R 7 = .int .i64 s.1 ∧ R 8 = .int .i64 s.2 ∧ s.1 ≤ s.2 ∧ s.2 ≤ l.length ∧ (∀ p a, p < s.1 → l[p]? = some a → strLt a x = true) ∧ ∀ p a, s.2 ≤ p → l[p]? = some a → strLt a x = false)
    (fun s => s.2 - s.1) (0, l.length) ⟨rfl, rfl, rfl, rfl, rfl, rfl, Nat.zero_le _, Nat.le_refl _, fun p a h => by omega, fun p a h ha => by rw [List.getElem?_eq_none h] at ha; cases ha⟩ ?_
  rintro ⟨i, j⟩ R _ ⟨rfl, h0, h1, h6, h7, h8, hij, hjn, hlo, hhi⟩
  simp -implicitDefEqProofs only [b_nil, b_b, b_g, b_c, b_cg, step_s, grd_t, grd_f, grdc_t, grdc_f, c_skip, c_ops, norm_ap, Int.reduceLT, c_seq, c_cond, c_block, c_exit, c_ret, c_loop, c_range, cont_ap, cond_t, cond_f, then_n, then_r, then_e, blk_n, blk_r, blk_e, Bool.false_eq_true, want_t, want_f, isT_b, isF_b, isT_u, isF_u, ldc_tail, retg_val, retg_same, List.length_cons, List.length_nil, Nat.reduceAdd, Nat.reduceLeDiff, Nat.reduceLT, List.drop_succ_cons, List.drop_zero, List.take_succ_cons, List.take_zero, T.cells?, fadT, Nat.zero_add, op, ef, cl, sq, evop, ev_r, ev_c, stB, updo_s, updo_n, upd_ap, regs0_0, regs0_1, regs0_2, regs0_3, regs0_4, reduceIte, Nat.reduceEqDiff, true_and, and_true, Option.map_some, Option.bind_some, binT, unT, lenT, natOf_nat, ldc1, val1, valA, endQ, resT, resL, resV, tupT, dlt, dle, deq, dne, List.map_cons, List.map_nil, decide_true, decide_false, strEq_eq, not_le, Bool.not_true, Bool.not_false, beq_self_eq_true, bne_self_eq_false, List.getElem?_cons_zero, List.getElem?_cons_succ, List.getElem?_nil, List.length_map, ret_val, T.bool.injEq, T.int.injEq, T.str.injEq, T.tup.injEq, h0, h1, h6, h7, h8, encS_len]
  by_cases hlt : i < j
  · obtain ⟨y, hy⟩ := getS (l := l) (i := (i + j) / 2) (by omega)
    simp -implicitDefEqProofs only [hlt, b_nil, b_b, b_g, b_c, b_cg, step_s, grd_t, grd_f, grdc_t, grdc_f, c_skip, c_ops, norm_ap, Int.reduceLT, c_seq, c_cond, c_block, c_exit, c_ret, c_loop, c_range, cont_ap, cond_t, cond_f, then_n, then_r, then_e, blk_n, blk_r, blk_e, Bool.false_eq_true, want_t, want_f, isT_b, isF_b, isT_u, isF_u, ldc_tail, retg_val, retg_same, List.length_cons, List.length_nil, Nat.reduceAdd, Nat.reduceLeDiff, Nat.reduceLT, List.drop_succ_cons, List.drop_zero, List.take_succ_cons, List.take_zero, T.cells?, fadT, Nat.zero_add, op, ef, cl, sq, evop, ev_r, ev_c, stB, updo_s, updo_n, upd_ap, regs0_0, regs0_1, regs0_2, regs0_3, regs0_4, reduceIte, Nat.reduceEqDiff, true_and, and_true, Option.map_some, Option.bind_some, binT, unT, lenT, natOf_nat, ldc1, val1, valA, endQ, resT, resL, resV, tupT, dlt, dle, deq, dne, List.map_cons, List.map_nil, decide_true, decide_false, strEq_eq, not_le, Bool.not_true, Bool.not_false, beq_self_eq_true, bne_self_eq_false, List.getElem?_cons_zero, List.getElem?_cons_succ, List.getElem?_nil, List.length_map, ret_val, T.bool.injEq, T.int.injEq, T.str.injEq, T.tup.injEq, h0, h1, h6, h7, h8, half i j (by omega), iadS hy]
    refine callB_of _ _ _ _ _ _ _ _ (less45 y x _) ?_
    rintro v H' ⟨hv, rfl⟩
    cases hv
    simp -implicitDefEqProofs only [b_nil, b_b, b_g, b_c, b_cg, step_s, grd_t, grd_f, grdc_t, grdc_f, c_skip, c_ops, norm_ap, Int.reduceLT, c_seq, c_cond, c_block, c_exit, c_ret, c_loop, c_range, cont_ap, cond_t, cond_f, then_n, then_r, then_e, blk_n, blk_r, blk_e, Bool.false_eq_true, want_t, want_f, isT_b, isF_b, isT_u, isF_u, ldc_tail, retg_val, retg_same, List.length_cons, List.length_nil, Nat.reduceAdd, Nat.reduceLeDiff, Nat.reduceLT, List.drop_succ_cons, List.drop_zero, List.take_succ_cons, List.take_zero, T.cells?, fadT, Nat.zero_add, op, ef, cl, sq, evop, ev_r, ev_c, stB, updo_s, updo_n, upd_ap, regs0_0, regs0_1, regs0_2, regs0_3, regs0_4, reduceIte, Nat.reduceEqDiff, true_and, and_true, Option.map_some, Option.bind_some, binT, unT, lenT, natOf_nat, ldc1, val1, valA, endQ, resT, resL, resV, tupT, dlt, dle, deq, dne, List.map_cons, List.map_nil, decide_true, decide_false, strEq_eq, not_le, Bool.not_true, Bool.not_false, beq_self_eq_true, bne_self_eq_false, List.getElem?_cons_zero, List.getElem?_cons_succ, List.getElem?_nil, List.length_map, ret_val, T.bool.injEq, T.int.injEq, T.str.injEq, T.tup.injEq, h0, h1, h6, h7, h8]
    cases hc : strLt y x
    · simp -implicitDefEqProofs only [b_nil, b_b, b_g, b_c, b_cg, step_s, grd_t, grd_f, grdc_t, grdc_f, c_skip, c_ops, norm_ap, Int.reduceLT, c_seq, c_cond, c_block, c_exit, c_ret, c_loop, c_range, cont_ap, cond_t, cond_f, then_n, then_r, then_e, blk_n, blk_r, blk_e, Bool.false_eq_true, want_t, want_f, isT_b, isF_b, isT_u, isF_u, ldc_tail, retg_val, retg_same, List.length_cons, List.length_nil, Nat.reduceAdd, Nat.reduceLeDiff, Nat.reduceLT, List.drop_succ_cons, List.drop_zero, List.take_succ_cons, List.take_zero, T.cells?, fadT, Nat.zero_add, op, ef, cl, sq, evop, ev_r, ev_c, stB, updo_s, updo_n, upd_ap, regs0_0, regs0_1, regs0_2, regs0_3, regs0_4, reduceIte, Nat.reduceEqDiff, true_and, and_true, Option.map_some, Option.bind_some, binT, unT, lenT, natOf_nat, ldc1, val1, valA, endQ, resT, resL, resV, tupT, dlt, dle, deq, dne, List.map_cons, List.map_nil, decide_true, decide_false, strEq_eq, not_le, Bool.not_true, Bool.not_false, beq_self_eq_true, bne_self_eq_false, List.getElem?_cons_zero, List.getElem?_cons_succ, List.getElem?_nil, List.length_map, ret_val, T.bool.injEq, T.int.injEq, T.str.injEq, T.tup.injEq, h0, h1, h6, h7, h8]
      refine ⟨(i, (i + j) / 2), by omega, rfl, rfl, by omega, by omega, hlo, fun p a hp ha => ?_⟩
      by_cases e : p = (i + j) / 2
      · subst e; rw [hy] at ha; cases ha; exact hc
      · cases hh : strLt a x with
        | false => rfl
        | true => rw [lt_trans' (rises_lt hr p ((i + j) / 2) y a (by omega) hy ha) hh] at hc; cases hc
    · simp -implicitDefEqProofs only [b_nil, b_b, b_g, b_c, b_cg, step_s, grd_t, grd_f, grdc_t, grdc_f, c_skip, c_ops, norm_ap, Int.reduceLT, c_seq, c_cond, c_block, c_exit, c_ret, c_loop, c_range, cont_ap, cond_t, cond_f, then_n, then_r, then_e, blk_n, blk_r, blk_e, Bool.false_eq_true, want_t, want_f, isT_b, isF_b, isT_u, isF_u, ldc_tail, retg_val, retg_same, List.length_cons, List.length_nil, Nat.reduceAdd, Nat.reduceLeDiff, Nat.reduceLT, List.drop_succ_cons, List.drop_zero, List.take_succ_cons, List.take_zero, T.cells?, fadT, Nat.zero_add, op, ef, cl, sq, evop, ev_r, ev_c, stB, updo_s, updo_n, upd_ap, regs0_0, regs0_1, regs0_2, regs0_3, regs0_4, reduceIte, Nat.reduceEqDiff, true_and, and_true, Option.map_some, Option.bind_some, binT, unT, lenT, natOf_nat, ldc1, val1, valA, endQ, resT, resL, resV, tupT, dlt, dle, deq, dne, List.map_cons, List.map_nil, decide_true, decide_false, strEq_eq, not_le, Bool.not_true, Bool.not_false, beq_self_eq_true, bne_self_eq_false, List.getElem?_cons_zero, List.getElem?_cons_succ, List.getElem?_nil, List.length_map, ret_val, T.bool.injEq, T.int.injEq, T.str.injEq, T.tup.injEq, h0, h1, h6, h7, h8, wrap_succ (show (i + j) / 2 < 9223372036854775807 by omega)]
      refine ⟨((i + j) / 2 + 1, j), by omega, rfl, rfl, by omega, by omega, fun p a hp ha => ?_, hhi⟩
      by_cases e : p = (i + j) / 2
      · subst e; rw [hy] at ha; cases ha; exact hc
      · exact lt_trans' (rises_lt hr ((i + j) / 2) p a y (by omega) ha hy) hc
  · have hij' : i = j := by simp only at hij; omega
    subst hij'
    by_cases hin : i < l.length
    · obtain ⟨y, hy⟩ := getS hin
      by_cases hyx : y = x
      · have : memB l x = true := memB_iff.2 (hyx ▸ List.mem_of_getElem? hy)
        simp -implicitDefEqProofs only [b_nil, b_b, b_g, b_c, b_cg, step_s, grd_t, grd_f, grdc_t, grdc_f, c_skip, c_ops, norm_ap, Int.reduceLT, c_seq, c_cond, c_block, c_exit, c_ret, c_loop, c_range, cont_ap, cond_t, cond_f, then_n, then_r, then_e, blk_n, blk_r, blk_e, Bool.false_eq_true, want_t, want_f, isT_b, isF_b, isT_u, isF_u, ldc_tail, retg_val, retg_same, List.length_cons, List.length_nil, Nat.reduceAdd, Nat.reduceLeDiff, Nat.reduceLT, List.drop_succ_cons, List.drop_zero, List.take_succ_cons, List.take_zero, T.cells?, fadT, Nat.zero_add, op, ef, cl, sq, evop, ev_r, ev_c, stB, updo_s, updo_n, upd_ap, regs0_0, regs0_1, regs0_2, regs0_3, regs0_4, reduceIte, Nat.reduceEqDiff, true_and, and_true, Option.map_some, Option.bind_some, binT, unT, lenT, natOf_nat, ldc1, val1, valA, endQ, resT, resL, resV, tupT, dlt, dle, deq, dne, List.map_cons, List.map_nil, decide_true, decide_false, strEq_eq, not_le, Bool.not_true, Bool.not_false, beq_self_eq_true, bne_self_eq_false, List.getElem?_cons_zero, List.getElem?_cons_succ, List.getElem?_nil, List.length_map, ret_val, T.bool.injEq, T.int.injEq, T.str.injEq, T.tup.injEq, h0, h1, h6, h7, h8, encS_len, hlt, hin, iadS hy, hyx, this]
        exact ⟨i, rfl⟩
      · have : memB l x = false := memB_no.2 fun hm => by
          obtain ⟨p, hp, e⟩ := List.getElem_of_mem hm
          have hpx : l[p]? = some x := by rw [List.getElem?_eq_getElem hp, e]
          rcases Nat.lt_trichotomy p i with h | h | h
          · have := hlo p x h hpx; rw [lt_irr] at this; cases this
          · subst h; rw [hy] at hpx; cases hpx; exact hyx rfl
          · have a1 := hhi i y (Nat.le_refl _) hy
            rw [rises_lt hr p i y x h hy hpx] at a1; cases a1
        simp -implicitDefEqProofs only [b_nil, b_b, b_g, b_c, b_cg, step_s, grd_t, grd_f, grdc_t, grdc_f, c_skip, c_ops, norm_ap, Int.reduceLT, c_seq, c_cond, c_block, c_exit, c_ret, c_loop, c_range, cont_ap, cond_t, cond_f, then_n, then_r, then_e, blk_n, blk_r, blk_e, Bool.false_eq_true, want_t, want_f, isT_b, isF_b, isT_u, isF_u, ldc_tail, retg_val, retg_same, List.length_cons, List.length_nil, Nat.reduceAdd, Nat.reduceLeDiff, Nat.reduceLT, List.drop_succ_cons, List.drop_zero, List.take_succ_cons, List.take_zero, T.cells?, fadT, Nat.zero_add, op, ef, cl, sq, evop, ev_r, ev_c, stB, updo_s, updo_n, upd_ap, regs0_0, regs0_1, regs0_2, regs0_3, regs0_4, reduceIte, Nat.reduceEqDiff, true_and, and_true, Option.map_some, Option.bind_some, binT, unT, lenT, natOf_nat, ldc1, val1, valA, endQ, resT, resL, resV, tupT, dlt, dle, deq, dne, List.map_cons, List.map_nil, decide_true, decide_false, strEq_eq, not_le, Bool.not_true, Bool.not_false, beq_self_eq_true, bne_self_eq_false, List.getElem?_cons_zero, List.getElem?_cons_succ, List.getElem?_nil, List.length_map, ret_val, T.bool.injEq, T.int.injEq, T.str.injEq, T.tup.injEq, h0, h1, h6, h7, h8, encS_len, hlt, hin, iadS hy, hyx]
        refine callB_of _ _ _ _ _ _ _ _ (nan46 y _) ?_
        rintro v H' ⟨hv, rfl⟩
        cases hv
        simp -implicitDefEqProofs only [b_nil, b_b, b_g, b_c, b_cg, step_s, grd_t, grd_f, grdc_t, grdc_f, c_skip, c_ops, norm_ap, Int.reduceLT, c_seq, c_cond, c_block, c_exit, c_ret, c_loop, c_range, cont_ap, cond_t, cond_f, then_n, then_r, then_e, blk_n, blk_r, blk_e, Bool.false_eq_true, want_t, want_f, isT_b, isF_b, isT_u, isF_u, ldc_tail, retg_val, retg_same, List.length_cons, List.length_nil, Nat.reduceAdd, Nat.reduceLeDiff, Nat.reduceLT, List.drop_succ_cons, List.drop_zero, List.take_succ_cons, List.take_zero, T.cells?, fadT, Nat.zero_add, op, ef, cl, sq, evop, ev_r, ev_c, stB, updo_s, updo_n, upd_ap, regs0_0, regs0_1, regs0_2, regs0_3, regs0_4, reduceIte, Nat.reduceEqDiff, true_and, and_true, Option.map_some, Option.bind_some, binT, unT, lenT, natOf_nat, ldc1, val1, valA, endQ, resT, resL, resV, tupT, dlt, dle, deq, dne, List.map_cons, List.map_nil, decide_true, decide_false, strEq_eq, not_le, Bool.not_true, Bool.not_false, beq_self_eq_true, bne_self_eq_false, List.getElem?_cons_zero, List.getElem?_cons_succ, List.getElem?_nil, List.length_map, ret_val, T.bool.injEq, T.int.injEq, T.str.injEq, T.tup.injEq, this]
        exact ⟨i, rfl⟩
    · have : memB l x = false := memB_no.2 fun hm => by
        obtain ⟨p, hp, e⟩ := List.getElem_of_mem hm
        have := hlo p x (by simp only; omega) (by rw [List.getElem?_eq_getElem hp, e]); rw [lt_irr] at this; cases this
      simp -implicitDefEqProofs only [b_nil, b_b, b_g, b_c, b_cg, step_s, grd_t, grd_f, grdc_t, grdc_f, c_skip, c_ops, norm_ap, Int.reduceLT, c_seq, c_cond, c_block, c_exit, c_ret, c_loop, c_range, cont_ap, cond_t, cond_f, then_n, then_r, then_e, blk_n, blk_r, blk_e, Bool.false_eq_true, want_t, want_f, isT_b, isF_b, isT_u, isF_u, ldc_tail, retg_val, retg_same, List.length_cons, List.length_nil, Nat.reduceAdd, Nat.reduceLeDiff, Nat.reduceLT, List.drop_succ_cons, List.drop_zero, List.take_succ_cons, List.take_zero, T.cells?, fadT, Nat.zero_add, op, ef, cl, sq, evop, ev_r, ev_c, stB, updo_s, updo_n, upd_ap, regs0_0, regs0_1, regs0_2, regs0_3, regs0_4, reduceIte, Nat.reduceEqDiff, true_and, and_true, Option.map_some, Option.bind_some, binT, unT, lenT, natOf_nat, ldc1, val1, valA, endQ, resT, resL, resV, tupT, dlt, dle, deq, dne, List.map_cons, List.map_nil, decide_true, decide_false, strEq_eq, not_le, Bool.not_true, Bool.not_false, beq_self_eq_true, bne_self_eq_false, List.getElem?_cons_zero, List.getElem?_cons_succ, List.getElem?_nil, List.length_map, ret_val, T.bool.injEq, T.int.injEq, T.str.injEq, T.tup.injEq, h0, h1, h6, h7, h8, encS_len, hlt, hin, this]
      exact ⟨i, rfl⟩
theorem has40 (k : SK) (l : List ByteArray) (x : ByteArray) (H : Heap) (hl : l.length < 4611686018427387903) (hr : rises l = true) : W env (.call 40 [.sl k (encS l), .str x]) H (Ret (.bool (memB l x)) H) := by
  refine W.fnI rfl rfl rfl ?_
  simp -implicitDefEqProofs only [ir40, b_nil, b_b, b_g, b_c, b_cg, step_s, grd_t, grd_f, grdc_t, grdc_f, c_skip, c_ops, norm_ap, Int.reduceLT, c_seq, c_cond, c_block, c_exit, c_ret, c_loop, c_range, cont_ap, cond_t, cond_f, then_n, then_r, then_e, blk_n, blk_r, blk_e, Bool.false_eq_true, want_t, want_f, isT_b, isF_b, isT_u, isF_u, ldc_tail, retg_val, retg_same, List.length_cons, List.length_nil, Nat.reduceAdd, Nat.reduceLeDiff, Nat.reduceLT, List.drop_succ_cons, List.drop_zero, List.take_succ_cons, List.take_zero, T.cells?, fadT, Nat.zero_add, op, ef, cl, sq, evop, ev_r, ev_c, stB, updo_s, updo_n, upd_ap, regs0_0, regs0_1, regs0_2, regs0_3, regs0_4, reduceIte, Nat.reduceEqDiff, true_and, and_true, Option.map_some, Option.bind_some, binT, unT, lenT, natOf_nat, ldc1, val1, valA, endQ, resT, resL, resV, tupT, dlt, dle, deq, dne, List.map_cons, List.map_nil, decide_true, decide_false, strEq_eq, not_le, Bool.not_true, Bool.not_false, beq_self_eq_true, bne_self_eq_false, List.getElem?_cons_zero, List.getElem?_cons_succ, List.getElem?_nil, List.length_map, ret_val, T.bool.injEq, T.int.injEq, T.str.injEq, T.tup.injEq]
  refine callB_of _ _ _ _ _ _ _ _ (bs44 k l x H hl hr) ?_
  rintro v H' ⟨i, hv, rfl⟩
  cases hv
  simp -implicitDefEqProofs only [b_nil, b_b, b_g, b_c, b_cg, step_s, grd_t, grd_f, grdc_t, grdc_f, c_skip, c_ops, norm_ap, Int.reduceLT, c_seq, c_cond, c_block, c_exit, c_ret, c_loop, c_range, cont_ap, cond_t, cond_f, then_n, then_r, then_e, blk_n, blk_r, blk_e, Bool.false_eq_true, want_t, want_f, isT_b, isF_b, isT_u, isF_u, ldc_tail, retg_val, retg_same, List.length_cons, List.length_nil, Nat.reduceAdd, Nat.reduceLeDiff, Nat.reduceLT, List.drop_succ_cons, List.drop_zero, List.take_succ_cons, List.take_zero, T.cells?, fadT, Nat.zero_add, op, ef, cl, sq, evop, ev_r, ev_c, stB, updo_s, updo_n, upd_ap, regs0_0, regs0_1, regs0_2, regs0_3, regs0_4, reduceIte, Nat.reduceEqDiff, true_and, and_true, Option.map_some, Option.bind_some, binT, unT, lenT, natOf_nat, ldc1, val1, valA, endQ, resT, resL, resV, tupT, dlt, dle, deq, dne, List.map_cons, List.map_nil, decide_true, decide_false, strEq_eq, not_le, Bool.not_true, Bool.not_false, beq_self_eq_true, bne_self_eq_false, List.getElem?_cons_zero, List.getElem?_cons_succ, List.getElem?_nil, List.length_map, ret_val, T.bool.injEq, T.int.injEq, T.str.injEq, T.tup.injEq]
end Go.Proofs.Ytobnjpgggocdlaa.Fx
end

section
namespace Go.Proofs.Ytobnjpgggocdlaa.Fx
open Go.Rmp Go.Proofs.Ytobnjpgggocdlaa.Ir
set_option maxRecDepth 10000
structure Ver where
  key : ByteArray
  id : Nat
  val : ByteArray
  kk : SK
  keys : List ByteArray
def encV (v : Ver) : List T := [.str v.key, .int .u64 v.id, .str v.val, .sl v.kk (encS v.keys)]
def may (v : Ver) : Bool := if v.id = 0 then decide (v.val = ⟨#[]⟩) && decide (v.keys.length = 0) else decide (65536 ≤ v.id) && ((rises v.keys && decide (v.keys.length ≤ 1024)) && memB v.keys v.key)
theorem dge (a b : Nat) : decide ((a : Int) ≥ (b : Int)) = decide (b ≤ a) := by simp
theorem may28 (v : Ver) (H : Heap) (hl : v.keys.length < 4611686018427387903) : W env (.call 28 [.agg (encV v)]) H (RetG (.bool (may v)) H) := by
  refine W.fnI rfl rfl rfl ?_
  have d0 : ((v.id : Int) == 0) = decide (v.id = 0) := by have := deq v.id 0; simpa using this
  have d1 : (((v.keys.length : Nat) : Int) == 0) = decide (v.keys.length = 0) := by have := deq v.keys.length 0; simpa using this
  have d2 : decide ((v.id : Int) ≥ 65536) = decide (65536 ≤ v.id) := by have := dge v.id 65536; simpa using this
  by_cases hid : v.id = 0
  · have e0 : ((v.id : Int) == 0) = true := by rw [d0]; simp [hid]
    have hm : may v = (decide (v.val = ⟨#[]⟩) && decide (v.keys.length = 0)) := by simp [may, hid]
    rw [hm]
    by_cases hv : v.val = ⟨#[]⟩
    · simp -implicitDefEqProofs only [ir28, b_nil, b_b, b_g, b_c, b_cg, step_s, grd_t, grd_f, grdc_t, grdc_f, c_skip, c_ops, norm_ap, Int.reduceLT, c_seq, c_cond, c_block, c_exit, c_ret, c_loop, c_range, cont_ap, cond_t, cond_f, then_n, then_r, then_e, blk_n, blk_r, blk_e, Bool.false_eq_true, want_t, want_f, isT_b, isF_b, isT_u, isF_u, ldc_tail, retg_val, retg_same, List.length_cons, List.length_nil, Nat.reduceAdd, Nat.reduceLeDiff, Nat.reduceLT, List.drop_succ_cons, List.drop_zero, List.take_succ_cons, List.take_zero, T.cells?, fadT, Nat.zero_add, op, ef, cl, sq, evop, ev_r, ev_c, stB, updo_s, updo_n, upd_ap, regs0_0, regs0_1, regs0_2, regs0_3, regs0_4, reduceIte, Nat.reduceEqDiff, true_and, and_true, Option.map_some, Option.bind_some, binT, unT, lenT, natOf_nat, ldc1, val1, valA, endQ, resT, resL, resV, tupT, dlt, dle, deq, dne, List.map_cons, List.map_nil, decide_true, decide_false, strEq_eq, not_le, Bool.not_true, Bool.not_false, beq_self_eq_true, bne_self_eq_false, List.getElem?_cons_zero, List.getElem?_cons_succ, List.getElem?_nil, List.length_map, ret_val, T.bool.injEq, T.int.injEq, T.str.injEq, T.tup.injEq, encV, encS_len, e0, d1, hv, Bool.true_and]
    · simp -implicitDefEqProofs only [ir28, b_nil, b_b, b_g, b_c, b_cg, step_s, grd_t, grd_f, grdc_t, grdc_f, c_skip, c_ops, norm_ap, Int.reduceLT, c_seq, c_cond, c_block, c_exit, c_ret, c_loop, c_range, cont_ap, cond_t, cond_f, then_n, then_r, then_e, blk_n, blk_r, blk_e, Bool.false_eq_true, want_t, want_f, isT_b, isF_b, isT_u, isF_u, ldc_tail, retg_val, retg_same, List.length_cons, List.length_nil, Nat.reduceAdd, Nat.reduceLeDiff, Nat.reduceLT, List.drop_succ_cons, List.drop_zero, List.take_succ_cons, List.take_zero, T.cells?, fadT, Nat.zero_add, op, ef, cl, sq, evop, ev_r, ev_c, stB, updo_s, updo_n, upd_ap, regs0_0, regs0_1, regs0_2, regs0_3, regs0_4, reduceIte, Nat.reduceEqDiff, true_and, and_true, Option.map_some, Option.bind_some, binT, unT, lenT, natOf_nat, ldc1, val1, valA, endQ, resT, resL, resV, tupT, dlt, dle, deq, dne, List.map_cons, List.map_nil, decide_true, decide_false, strEq_eq, not_le, Bool.not_true, Bool.not_false, beq_self_eq_true, bne_self_eq_false, List.getElem?_cons_zero, List.getElem?_cons_succ, List.getElem?_nil, List.length_map, ret_val, T.bool.injEq, T.int.injEq, T.str.injEq, T.tup.injEq, encV, encS_len, e0, d1, hv, Bool.false_and]
  · have e0 : ((v.id : Int) == 0) = false := by rw [d0]; simp [hid]
    have hm : may v = (decide (65536 ≤ v.id) && ((rises v.keys && decide (v.keys.length ≤ 1024)) && memB v.keys v.key)) := by simp [may, hid]
    rw [hm]
    by_cases hi : 65536 ≤ v.id
    · simp -implicitDefEqProofs only [ir28, b_nil, b_b, b_g, b_c, b_cg, step_s, grd_t, grd_f, grdc_t, grdc_f, c_skip, c_ops, norm_ap, Int.reduceLT, c_seq, c_cond, c_block, c_exit, c_ret, c_loop, c_range, cont_ap, cond_t, cond_f, then_n, then_r, then_e, blk_n, blk_r, blk_e, Bool.false_eq_true, want_t, want_f, isT_b, isF_b, isT_u, isF_u, ldc_tail, retg_val, retg_same, List.length_cons, List.length_nil, Nat.reduceAdd, Nat.reduceLeDiff, Nat.reduceLT, List.drop_succ_cons, List.drop_zero, List.take_succ_cons, List.take_zero, T.cells?, fadT, Nat.zero_add, op, ef, cl, sq, evop, ev_r, ev_c, stB, updo_s, updo_n, upd_ap, regs0_0, regs0_1, regs0_2, regs0_3, regs0_4, reduceIte, Nat.reduceEqDiff, true_and, and_true, Option.map_some, Option.bind_some, binT, unT, lenT, natOf_nat, ldc1, val1, valA, endQ, resT, resL, resV, tupT, dlt, dle, deq, dne, List.map_cons, List.map_nil, decide_true, decide_false, strEq_eq, not_le, Bool.not_true, Bool.not_false, beq_self_eq_true, bne_self_eq_false, List.getElem?_cons_zero, List.getElem?_cons_succ, List.getElem?_nil, List.length_map, ret_val, T.bool.injEq, T.int.injEq, T.str.injEq, T.tup.injEq, encV, encS_len, e0, d1, d2, hi, Bool.true_and]
      refine callB_of _ _ _ _ _ _ _ _ (rising39 v.kk v.keys _ (by omega)) ?_
      rintro u H' ⟨hu, rfl⟩
      cases hu
      cases hr : (rises v.keys && decide (v.keys.length ≤ 1024))
      · simp -implicitDefEqProofs only [b_nil, b_b, b_g, b_c, b_cg, step_s, grd_t, grd_f, grdc_t, grdc_f, c_skip, c_ops, norm_ap, Int.reduceLT, c_seq, c_cond, c_block, c_exit, c_ret, c_loop, c_range, cont_ap, cond_t, cond_f, then_n, then_r, then_e, blk_n, blk_r, blk_e, Bool.false_eq_true, want_t, want_f, isT_b, isF_b, isT_u, isF_u, ldc_tail, retg_val, retg_same, List.length_cons, List.length_nil, Nat.reduceAdd, Nat.reduceLeDiff, Nat.reduceLT, List.drop_succ_cons, List.drop_zero, List.take_succ_cons, List.take_zero, T.cells?, fadT, Nat.zero_add, op, ef, cl, sq, evop, ev_r, ev_c, stB, updo_s, updo_n, upd_ap, regs0_0, regs0_1, regs0_2, regs0_3, regs0_4, reduceIte, Nat.reduceEqDiff, true_and, and_true, Option.map_some, Option.bind_some, binT, unT, lenT, natOf_nat, ldc1, val1, valA, endQ, resT, resL, resV, tupT, dlt, dle, deq, dne, List.map_cons, List.map_nil, decide_true, decide_false, strEq_eq, not_le, Bool.not_true, Bool.not_false, beq_self_eq_true, bne_self_eq_false, List.getElem?_cons_zero, List.getElem?_cons_succ, List.getElem?_nil, List.length_map, ret_val, T.bool.injEq, T.int.injEq, T.str.injEq, T.tup.injEq, Bool.false_and]
      · simp -implicitDefEqProofs only [b_nil, b_b, b_g, b_c, b_cg, step_s, grd_t, grd_f, grdc_t, grdc_f, c_skip, c_ops, norm_ap, Int.reduceLT, c_seq, c_cond, c_block, c_exit, c_ret, c_loop, c_range, cont_ap, cond_t, cond_f, then_n, then_r, then_e, blk_n, blk_r, blk_e, Bool.false_eq_true, want_t, want_f, isT_b, isF_b, isT_u, isF_u, ldc_tail, retg_val, retg_same, List.length_cons, List.length_nil, Nat.reduceAdd, Nat.reduceLeDiff, Nat.reduceLT, List.drop_succ_cons, List.drop_zero, List.take_succ_cons, List.take_zero, T.cells?, fadT, Nat.zero_add, op, ef, cl, sq, evop, ev_r, ev_c, stB, updo_s, updo_n, upd_ap, regs0_0, regs0_1, regs0_2, regs0_3, regs0_4, reduceIte, Nat.reduceEqDiff, true_and, and_true, Option.map_some, Option.bind_some, binT, unT, lenT, natOf_nat, ldc1, val1, valA, endQ, resT, resL, resV, tupT, dlt, dle, deq, dne, List.map_cons, List.map_nil, decide_true, decide_false, strEq_eq, not_le, Bool.not_true, Bool.not_false, beq_self_eq_true, bne_self_eq_false, List.getElem?_cons_zero, List.getElem?_cons_succ, List.getElem?_nil, List.length_map, ret_val, T.bool.injEq, T.int.injEq, T.str.injEq, T.tup.injEq, Bool.true_and]
        refine callB_of _ _ _ _ _ _ _ _ (has40 v.kk v.keys v.key _ hl (by simp at hr; exact hr.1)) ?_
        rintro u H' ⟨hu, rfl⟩
        cases hu
        simp -implicitDefEqProofs only [b_nil, b_b, b_g, b_c, b_cg, step_s, grd_t, grd_f, grdc_t, grdc_f, c_skip, c_ops, norm_ap, Int.reduceLT, c_seq, c_cond, c_block, c_exit, c_ret, c_loop, c_range, cont_ap, cond_t, cond_f, then_n, then_r, then_e, blk_n, blk_r, blk_e, Bool.false_eq_true, want_t, want_f, isT_b, isF_b, isT_u, isF_u, ldc_tail, retg_val, retg_same, List.length_cons, List.length_nil, Nat.reduceAdd, Nat.reduceLeDiff, Nat.reduceLT, List.drop_succ_cons, List.drop_zero, List.take_succ_cons, List.take_zero, T.cells?, fadT, Nat.zero_add, op, ef, cl, sq, evop, ev_r, ev_c, stB, updo_s, updo_n, upd_ap, regs0_0, regs0_1, regs0_2, regs0_3, regs0_4, reduceIte, Nat.reduceEqDiff, true_and, and_true, Option.map_some, Option.bind_some, binT, unT, lenT, natOf_nat, ldc1, val1, valA, endQ, resT, resL, resV, tupT, dlt, dle, deq, dne, List.map_cons, List.map_nil, decide_true, decide_false, strEq_eq, not_le, Bool.not_true, Bool.not_false, beq_self_eq_true, bne_self_eq_false, List.getElem?_cons_zero, List.getElem?_cons_succ, List.getElem?_nil, List.length_map, ret_val, T.bool.injEq, T.int.injEq, T.str.injEq, T.tup.injEq]
    · simp -implicitDefEqProofs only [ir28, b_nil, b_b, b_g, b_c, b_cg, step_s, grd_t, grd_f, grdc_t, grdc_f, c_skip, c_ops, norm_ap, Int.reduceLT, c_seq, c_cond, c_block, c_exit, c_ret, c_loop, c_range, cont_ap, cond_t, cond_f, then_n, then_r, then_e, blk_n, blk_r, blk_e, Bool.false_eq_true, want_t, want_f, isT_b, isF_b, isT_u, isF_u, ldc_tail, retg_val, retg_same, List.length_cons, List.length_nil, Nat.reduceAdd, Nat.reduceLeDiff, Nat.reduceLT, List.drop_succ_cons, List.drop_zero, List.take_succ_cons, List.take_zero, T.cells?, fadT, Nat.zero_add, op, ef, cl, sq, evop, ev_r, ev_c, stB, updo_s, updo_n, upd_ap, regs0_0, regs0_1, regs0_2, regs0_3, regs0_4, reduceIte, Nat.reduceEqDiff, true_and, and_true, Option.map_some, Option.bind_some, binT, unT, lenT, natOf_nat, ldc1, val1, valA, endQ, resT, resL, resV, tupT, dlt, dle, deq, dne, List.map_cons, List.map_nil, decide_true, decide_false, strEq_eq, not_le, Bool.not_true, Bool.not_false, beq_self_eq_true, bne_self_eq_false, List.getElem?_cons_zero, List.getElem?_cons_succ, List.getElem?_nil, List.length_map, ret_val, T.bool.injEq, T.int.injEq, T.str.injEq, T.tup.injEq, encV, encS_len, e0, d1, d2, hi, Bool.false_and]
def one (v : Ver) : Bool := if v.id = 0 then decide (v.val = ⟨#[]⟩) && decide (v.keys.length = 0) else decide (65536 ≤ v.id) && (decide (v.keys.length ≤ 1024) && (rises v.keys && memB v.keys v.key))
end Go.Proofs.Ytobnjpgggocdlaa.Fx
end

section
namespace Go.Proofs.Ytobnjpgggocdlaa.Fx
open Go.Rmp Go.Proofs.Ytobnjpgggocdlaa.Ir
set_option maxRecDepth 10000
def encVs (l : List Ver) : List (List T) := l.map encV
theorem encVs_len (l : List Ver) : (encVs l).length = l.length := by simp [encVs]
theorem iadV {l : List Ver} {k : SK} {i : Nat} {v : Ver} (h : l[i]? = some v) : iadT 4 i (.sl k (encVs l)) = some (.iptr (encV v)) := iad_map h rfl (by decide)
theorem getV {l : List Ver} {i : Nat} (h : i < l.length) : ∃ x, l[i]? = some x := ⟨l[i], List.getElem?_eq_getElem h⟩
theorem ldV (H : Heap) (v : Ver) : ldc H 4 (.iptr (encV v)) = some (encV v) := rfl
theorem fadV0 (v : Ver) : (fadT 0 (.iptr (encV v))) = some (.iptr [.str v.key, .int .u64 v.id, .str v.val, .sl v.kk (encS v.keys)]) := rfl
theorem fadV1 (v : Ver) : (fadT 1 (.iptr (encV v))) = some (.iptr [.int .u64 v.id, .str v.val, .sl v.kk (encS v.keys)]) := rfl
theorem fadV3 (v : Ver) : (fadT 3 (.iptr (encV v))) = some (.iptr [.sl v.kk (encS v.keys)]) := rfl
def Small (l : List Ver) : Prop := l.length < 4611686018427387903 ∧ ∀ v ∈ l, v.keys.length < 4611686018427387903
def ok2 (u v : Ver) : Bool := !decide (u.key = v.key) && (!decide (u.id = v.id) || decide (u.keys = v.keys))
def Good (l : List Ver) (i : Nat) : Prop := ∀ v, l[i]? = some v → may v = true ∧ ∀ k u, k < i → l[k]? = some u → ok2 u v = true
def Formed (l : List Ver) : Prop := 1 ≤ l.length ∧ l.length ≤ 1024 ∧ ∀ i, i < l.length → Good l i
open Classical in
noncomputable def formed (l : List Ver) : Bool := decide (Formed l)
theorem formed_t {l : List Ver} (h : Formed l) : formed l = true := by simp [formed, h]
theorem formed_f {l : List Ver} (h : ¬ Formed l) : formed l = false := by simp [formed, h]
end Go.Proofs.Ytobnjpgggocdlaa.Fx
end

section
namespace Go.Proofs.Ytobnjpgggocdlaa.Fx
open Go.Rmp Go.Proofs.Ytobnjpgggocdlaa.Ir
set_option maxRecDepth 10000
def KsOk (l : List Ver) (i : Nat) (ks : List (ByteArray × T)) : Prop := ∀ k, (k ∈ (l.take i).map Ver.key → mlook ks k = some (T.int .i64 1)) ∧ (k ∉ (l.take i).map Ver.key → mlook ks k = Option.none)
def WsOk (l : List Ver) (i : Nat) (ws : List (Nat × T)) : Prop := ∀ id, match mlook ws id with
  | .none => id ∉ (l.take i).map Ver.id
  | some t => ∃ p v, p < i ∧ l[p]? = some v ∧ v.id = id ∧ t = .int .i64 (p : Int)
theorem take_snoc {l : List Ver} {i : Nat} {v : Ver} (h : l[i]? = some v) : l.take (i + 1) = l.take i ++ [v] := by
  rw [List.take_add_one, h]; rfl
theorem mem_take {l : List Ver} {i : Nat} {v : Ver} (h : v ∈ l.take i) : ∃ j, j < i ∧ l[j]? = some v := by
  obtain ⟨j, hj, e⟩ := List.getElem_of_mem h
  simp at hj e
  exact ⟨j, by omega, by rw [List.getElem?_eq_getElem (by omega), e]⟩
theorem take_mem {l : List Ver} {i j : Nat} {v : Ver} (hj : j < i) (h : l[j]? = some v) : v ∈ l.take i := by
  rw [List.mem_iff_getElem?]; exact ⟨j, by rw [List.getElem?_take, if_pos hj, h]⟩
end Go.Proofs.Ytobnjpgggocdlaa.Fx
end

section
namespace Go.Proofs.Ytobnjpgggocdlaa.Fx
open Go.Rmp Go.Proofs.Ytobnjpgggocdlaa.Ir
set_option maxRecDepth 10000
def gr (l : List Ver) (key : ByteArray) : Nat := l.foldl (fun m v => if memB v.keys key then max m v.id else m) 0
def grs (l : List Ver) : List Nat := l.map fun u => gr l u.key
theorem gr_snoc (l : List Ver) (v : Ver) (key : ByteArray) : gr (l ++ [v]) key = if memB v.keys key then max (gr l key) v.id else gr l key := by simp [gr]
theorem gr_app (l m : List Ver) (key : ByteArray) : gr l key ≤ gr (l ++ m) key := by
  induction m generalizing l with
  | nil => simp
  | cons v m ih =>
    have := ih (l ++ [v])
    rw [gr_snoc] at this
    rw [List.append_assoc] at this
    simp only [List.cons_append, List.nil_append] at this
    split at this <;> omega
theorem gr_ge {l : List Ver} {v : Ver} {key : ByteArray} (hv : v ∈ l) (hk : memB v.keys key = true) : v.id ≤ gr l key := by
  obtain ⟨a, b, rfl⟩ := List.append_of_mem hv
  have h1 := gr_snoc a v key
  have h2 := gr_app (a ++ [v]) b key
  rw [List.append_assoc] at h2
  simp only [List.cons_append, List.nil_append] at h2
  rw [hk] at h1
  simp at h1
  omega
theorem gr_is' (l : List Ver) (key : ByteArray) : ∀ m0, (l.foldl (fun m v => if memB v.keys key then max m v.id else m) m0 = m0) ∨ ∃ v ∈ l, memB v.keys key = true ∧ v.id = l.foldl (fun m v => if memB v.keys key then max m v.id else m) m0 := by
  induction l with
  | nil => exact fun m0 => .inl rfl
  | cons v l ih =>
    intro m0
    simp only [List.foldl_cons]
    rcases ih (if memB v.keys key then max m0 v.id else m0) with h | ⟨u, hu, h1, h2⟩
    · by_cases hk : memB v.keys key = true
      · rw [h]; simp only [hk, if_true]
        by_cases h' : v.id ≤ m0
        · left; omega
        · exact .inr ⟨v, by simp, hk, by omega⟩
      · rw [h]; simp only [hk, if_false, Bool.false_eq_true]; simp
    · exact .inr ⟨u, by simp [hu], h1, h2⟩
theorem gr_is (l : List Ver) (key : ByteArray) : gr l key = 0 ∨ ∃ v ∈ l, memB v.keys key = true ∧ v.id = gr l key := gr_is' l key 0
def Places {β : Type} [DecidableEq β] (f : Ver → β) (l : List Ver) (i : Nat) (es : List (β × T)) : Prop := ∀ k, match mlook es k with
  | .none => k ∉ (l.take i).map f
  | some t => ∃ p v, p < i ∧ l[p]? = some v ∧ f v = k ∧ t = .int .i64 (p : Int)
theorem places_nil {β : Type} [DecidableEq β] (f : Ver → β) (l : List Ver) : Places f l 0 [] := fun k => by simp [mlook_nil]
theorem places_put {β : Type} [DecidableEq β] {f : Ver → β} {l : List Ver} {i : Nat} {es : List (β × T)} {v : Ver} (h : Places f l i es) (hv : l[i]? = some v) : Places f l (i + 1) (mput es (f v) (.int .i64 (i : Int))) := fun k => by
  rw [mlook_put, take_snoc hv]
  by_cases e : k = f v
  · subst e; simp only [if_true]; exact ⟨i, v, by omega, hv, rfl, rfl⟩
  · have := h k
    simp only [e, if_false]
    cases hl' : mlook es k with
    | none => rw [hl'] at this; simp [e]; simpa using this
    | some t => rw [hl'] at this; obtain ⟨p, u, hp, hu, he⟩ := this; exact ⟨p, u, by omega, hu, he⟩
def cnt (l : List Ver) (i id : Nat) : Nat := ((l.take i).filter fun v => decide (v.id = id)).length
def SeenOk (l : List Ver) (i : Nat) (es : List (Nat × T)) : Prop := ∀ id, (cnt l i id = 0 → mlook es id = Option.none) ∧ (cnt l i id ≠ 0 → mlook es id = some (T.int .i64 (cnt l i id : Int)))
theorem cnt_le (l : List Ver) (i id : Nat) : cnt l i id ≤ l.length := by
  unfold cnt; refine Nat.le_trans (List.length_filter_le _ _) ?_; simp; omega
theorem cnt_succ {l : List Ver} {i : Nat} {v : Ver} (hv : l[i]? = some v) (id : Nat) : cnt l (i + 1) id = cnt l i id + if v.id = id then 1 else 0 := by
  unfold cnt; rw [take_snoc hv, List.filter_append, List.length_append]
  by_cases e : v.id = id <;> simp [List.filter_cons, e]
theorem cnt_mem {l : List Ver} {i id : Nat} (h : cnt l i id ≠ 0) : ∃ p v, p < i ∧ l[p]? = some v ∧ v.id = id := by
  unfold cnt at h
  obtain ⟨x, hx⟩ := List.exists_mem_of_length_pos (Nat.pos_of_ne_zero h)
  rw [List.mem_filter] at hx
  obtain ⟨j, hj, e⟩ := mem_take hx.1
  exact ⟨j, x, hj, e, by simpa using hx.2⟩
def OutOk (l : List Ver) (i : Nat) (outs : List Nat) : Prop := outs.length = l.length ∧ ∀ (p : Nat) (u : Ver), l[p]? = some u → outs[p]? = some (gr (l.take i) u.key)
def InOk (l : List Ver) (i : Nat) (v : Ver) (j : Nat) (outs : List Nat) : Prop := outs.length = l.length ∧ ∀ (p : Nat) (u : Ver), l[p]? = some u → outs[p]? = some (if memB (v.keys.take j) u.key then max (gr (l.take i) u.key) v.id else gr (l.take i) u.key)
theorem mxN (a b : Nat) : (if ((b : Nat) : Int) > ((a : Nat) : Int) then ((b : Nat) : Int) else ((a : Nat) : Int)) = ((max a b : Nat) : Int) := by
  split <;> omega
theorem out0 (l : List Ver) : OutOk l 0 (List.replicate l.length 0) := ⟨by simp, fun p u hu => by
  have := (List.getElem?_eq_some_iff.1 hu).1
  simp [gr, this]⟩
theorem in0 {l : List Ver} {i : Nat} {outs : List Nat} (h : OutOk l i outs) (v : Ver) : InOk l i v 0 outs := ⟨h.1, fun p u hu => by rw [h.2 p u hu]; simp [memB]⟩
theorem in_end {l : List Ver} {i : Nat} {v : Ver} {outs : List Nat} (hv : l[i]? = some v) {j : Nat} (hj : v.keys.length ≤ j) (h : InOk l i v j outs) : OutOk l (i + 1) outs := ⟨h.1, fun p u hu => by
  rw [h.2 p u hu, take_snoc hv, gr_snoc, List.take_of_length_le hj]⟩
theorem out_dup {l : List Ver} {i : Nat} {v : Ver} {outs : List Nat} (hv : l[i]? = some v) (hf : Formed l) (hd : cnt l i v.id ≠ 0) (h : OutOk l i outs) : OutOk l (i + 1) outs := ⟨h.1, fun p u hu => by
  rw [h.2 p u hu, take_snoc hv, gr_snoc]
  obtain ⟨q, x, hq, hx, he⟩ := cnt_mem hd
  have hi := (List.getElem?_eq_some_iff.1 hv).1
  have := (hf.2.2 i hi v hv).2 q x hq hx
  simp only [ok2, he, decide_true, Bool.not_true, Bool.false_or, Bool.and_eq_true, decide_eq_true_eq] at this
  by_cases hk : memB v.keys u.key = true
  · have := gr_ge (key := u.key) (take_mem hq hx) (by rw [this.2]; exact hk)
    simp only [hk, if_true]; congr 1; omega
  · simp only [hk, if_false, Bool.false_eq_true]⟩
theorem getU {l : List Nat} {i : Nat} (h : i < l.length) : ∃ x, l[i]? = some x := ⟨l[i], List.getElem?_eq_getElem h⟩
theorem memB_snoc (l : List ByteArray) (a k : ByteArray) : memB (l ++ [a]) k = (memB l k || decide (a = k)) := by simp [memB]
theorem takeS {l : List ByteArray} {i : Nat} {v : ByteArray} (h : l[i]? = some v) : l.take (i + 1) = l.take i ++ [v] := by
  rw [List.take_add_one, h]; rfl
theorem in_skip {l : List Ver} {i j : Nat} {v : Ver} {kk : ByteArray} {outs : List Nat} (hk : v.keys[j]? = some kk) (hn : ∀ (p : Nat) u, l[p]? = some u → u.key ≠ kk) (h : InOk l i v j outs) : InOk l i v (j + 1) outs := ⟨h.1, fun p u hu => by
  have : decide (kk = u.key) = false := by simpa using fun e => hn p u hu e.symm
  rw [h.2 p u hu, takeS hk, memB_snoc, this, Bool.or_false]⟩
theorem in_step {l : List Ver} {i j p x : Nat} {v u : Ver} {outs : List Nat} (hk : v.keys[j]? = some u.key) (hu : l[p]? = some u) (hn : ∀ (q : Nat) w, l[q]? = some w → w.key = u.key → q = p) (hx : outs[p]? = some x) (h : InOk l i v j outs) : InOk l i v (j + 1) (outs.set p (max x v.id)) := ⟨by simp [h.1], fun q w hw => by
  rw [takeS hk, memB_snoc]
  by_cases e : q = p
  · subst e
    rw [hu] at hw; cases hw
    have := h.2 q u hu
    rw [hx] at this
    have hq := (List.getElem?_eq_some_iff.1 hx).1
    rw [List.getElem?_set_self hq]
    simp only [decide_true, Bool.or_true, if_true, Option.some.injEq] at this ⊢
    rw [this]; split <;> omega
  · have : decide (u.key = w.key) = false := by simpa using fun e' => e (hn q w hw e'.symm)
    rw [List.getElem?_set_ne (Ne.symm e), h.2 q w hw, this, Bool.or_false]⟩
theorem key_one {l : List Ver} (hf : Formed l) {p q : Nat} {u w : Ver} (hu : l[p]? = some u) (hw : l[q]? = some w) (e : w.key = u.key) : q = p := by
  have h1 := (List.getElem?_eq_some_iff.1 hu).1
  have h2 := (List.getElem?_eq_some_iff.1 hw).1
  rcases Nat.lt_trichotomy q p with h | h | h
  · have := (hf.2.2 p h1 u hu).2 q w h hw; simp [ok2, e] at this
  · exact h
  · have := (hf.2.2 q h2 w hw).2 p u h hu; simp [ok2, e] at this
theorem place_get {β : Type} [DecidableEq β] {f : Ver → β} {l : List Ver} {i : Nat} {es : List (β × T)} (h : Places f l i es) {k : β} {t : T} (ht : mlook es k = some t) : ∃ p v, p < i ∧ l[p]? = some v ∧ f v = k ∧ t = .int .i64 (p : Int) := by
  have := h k; rw [ht] at this; exact this
theorem place_no {β : Type} [DecidableEq β] {f : Ver → β} {l : List Ver} {es : List (β × T)} (h : Places f l l.length es) {k : β} (ht : mlook es k = Option.none) : ∀ (p : Nat) v, l[p]? = some v → f v ≠ k := by
  intro p v hv e
  have := h k; rw [ht] at this; simp at this
  exact this v (List.mem_of_getElem? hv) e
end Go.Proofs.Ytobnjpgggocdlaa.Fx
end

section
namespace Go.Proofs.Ytobnjpgggocdlaa.Fx
open Go.Rmp Go.Proofs.Ytobnjpgggocdlaa.Ir
set_option maxRecDepth 10000
set_option maxHeartbeats 0
structure Vw (H : Heap) (t : T) (l : List Ver) (ad : Nat → T) : Prop where
  len : ∀ H', Ext H H' → lenT H' .sl t = some l.length
  iad : ∀ i v, l[i]? = some v → iadT 4 i t = some (ad i)
  ld : ∀ i v H', Ext H H' → l[i]? = some v → ldc H' 4 (ad i) = some (encV v)
  f0 : ∀ i v H', Ext H H' → l[i]? = some v → ∃ a, fadT 0 (ad i) = some a ∧ ldc H' 1 a = some [.str v.key]
  f1 : ∀ i v H', Ext H H' → l[i]? = some v → ∃ a, fadT 1 (ad i) = some a ∧ ldc H' 1 a = some [.int .u64 v.id]
  f2 : ∀ i v H', Ext H H' → l[i]? = some v → ∃ a, fadT 2 (ad i) = some a ∧ ldc H' 1 a = some [.str v.val]
  f3 : ∀ i v H', Ext H H' → l[i]? = some v → ∃ a, fadT 3 (ad i) = some a ∧ ldc H' 1 a = some [.sl v.kk (encS v.keys)]
theorem vw_msl {H : Heap} {b : Nat} {l : List Ver} (hb : H[b]? = some (.cells (msC encV l))) : Vw H (.msl b 0 l.length 4) l (fun i => .ptr b (i * 4)) where
  len H' _ := rfl
  iad i v hv := by
    have := (List.getElem?_eq_some_iff.1 hv).1
    rw [iad_m]; simp [this]
  ld i v H' hx hv := by
    rw [ldc_ptr, hx.get hb]
    exact msC_get (n := 4) (fun _ => rfl) hv 0 4 (by decide)
  f0 i v H' hx hv := ⟨.ptr b (i * 4 + 0), rfl, by
    rw [ldc_ptr, hx.get hb]
    exact msC_get (n := 4) (fun _ => rfl) hv 0 1 (by decide)⟩
  f1 i v H' hx hv := ⟨.ptr b (i * 4 + 1), rfl, by
    rw [ldc_ptr, hx.get hb]
    exact msC_get (n := 4) (fun _ => rfl) hv 1 1 (by decide)⟩
  f2 i v H' hx hv := ⟨.ptr b (i * 4 + 2), rfl, by
    rw [ldc_ptr, hx.get hb]
    exact msC_get (n := 4) (fun _ => rfl) hv 2 1 (by decide)⟩
  f3 i v H' hx hv := ⟨.ptr b (i * 4 + 3), rfl, by
    rw [ldc_ptr, hx.get hb]
    exact msC_get (n := 4) (fun _ => rfl) hv 3 1 (by decide)⟩
theorem formed12v (t : T) (ad : Nat → T) (l : List Ver) (H : Heap) (vw : Vw H t l ad) (hs : Small l) : W env (.call 12 [t]) H (RetG (.bool (formed l)) H) := by
  refine W.fnI rfl rfl rfl ?_
  have hl0 := vw.len H Ext.rfl'
  simp only [ir12, seval, S1, hl0]
  by_cases hn1 : l.length < 1
  · have : formed l = false := formed_f fun h => by have := h.1; omega
    simp only [seval, S1, hn1, this]
  by_cases hn2 : 1024 < l.length
  · have : formed l = false := formed_f fun h => by have := h.2.1; omega
    simp only [seval, S1, hl0, hn1, hn2, this]
  have hl1 := vw.len _ ((Ext.rfl'.app [B.map []]).app [B.map []])
  simp only [seval, S1, hl0, hl1, hn1, hn2]
  refine W.loopI (fun (i : Nat) R H' => (∃ ks ws, Ext H H' ∧ H'[H.length]? = some (.map (encK T.str ks)) ∧ H'[H.length + 1]? = some (.map (encK kU ws)) ∧ KsOk l i ks ∧ WsOk l i ws) ∧ R 0 = t ∧ R 3 = .map H.length ∧ R 4 = .map (H.length + 1) ∧ R 19 = t ∧ R 20 = .int .i64 l.length ∧ R 21 = .int .i64 i ∧ i ≤ l.length ∧ ∀ j, j < i → Good l j) (fun i => l.length - i) 0 ?_ ?_
  · refine ⟨⟨[], [], (Ext.rfl'.app _).app _, by simp [encK], by simp [encK], ?_, ?_⟩, rfl, rfl, ?_, rfl, ?_, rfl, Nat.zero_le _, fun j h => by omega⟩
    · intro k; simp [mlook_nil]
    · intro k; simp [mlook_nil]
    · simp only [seval, S1]; simp
    · simp only [seval, S1, hl0, hl1]
  · rintro i R H1 ⟨⟨ks, ws, hx, hb3, hb4, hks, hws⟩, h0, h3, h4, h19, h20, h21, hi, hg⟩
    have l3 := glt hb3
    have l4 := glt hb4
    by_cases hlt : i < l.length
    · obtain ⟨v, hv⟩ := getV hlt
      have hia := vw.iad i v hv
      have hld := fun H' h => vw.ld i v H' h hv
      have hld1 := hld _ hx
      have wsi := wrap_succ (show i < 9223372036854775807 by omega)
      have n34 : H.length ≠ H.length + 1 := by omega
      have n1 : H1.length ≠ H.length := by omega
      have n2 : H1.length ≠ H.length + 1 := by omega
      have n3 : H1.length ≠ H.length := by omega
      have hvs := hs.2 v (List.mem_of_getElem? hv)
      have bad : ¬ Good l i → formed l = false := fun hb => formed_f fun h => hb (h.2.2 i hlt)
      by_cases hsk : v.key ∈ (l.take i).map Ver.key
      · have hno : formed l = false := bad fun hgi => by
          obtain ⟨u, hu, hku⟩ := List.mem_map.1 hsk
          obtain ⟨j, hj, hju⟩ := mem_take hu
          have := (hgi v hv).2 j u hj hju
          simp [ok2, hku] at this
        have w1 : IntKind.i64.wrap 2 = 2 := by decide
        simp only [seval, S1, S2, h0, h3, h4, h19, h20, h21, hlt, hia, hld1, encV, l3, l4, hb3, hb4, n34, (hks v.key).1 hsk, w1]
        refine callB_of _ _ _ _ _ _ _ _ (may28 v _ hvs) ?_
        rintro u H2 ⟨hu, hx2⟩
        cases hu
        have hx2 : Ext _ H2 := hx2
        have hxx : Ext H H2 := ((hx.set (Nat.le_refl _) _).app _).trans hx2
        cases hm : may v
        · simp only [seval, S1, hno, retg_ext hxx]
        · have g3 : H2[H.length]? = some (.map (encK T.str (mput ks v.key (.int .i64 2)))) := hx2.get (by simp only [S2, l3])
          have gc : H2[H1.length]? = some (.cells (encV v)) := hx2.get (by simp [encV])
          simp only [seval, S1, hno, retg_ext hxx, g3, gc, encV, h3, mlook_put]
      · have w1 : IntKind.i64.wrap 1 = 1 := by decide
        simp only [seval, S1, S2, h0, h3, h4, h19, h20, h21, hlt, hia, hld1, encV, l3, l4, hb3, hb4, n34, (hks v.key).2 hsk, w1]
        refine callB_of _ _ _ _ _ _ _ _ (may28 v _ hvs) ?_
        rintro u H2 ⟨hu, hx2⟩
        cases hu
        have hx2 : Ext _ H2 := hx2
        have hxx : Ext H H2 := ((hx.set (Nat.le_refl _) _).app _).trans hx2
        cases hm : may v
        · have hno : formed l = false := bad fun hgi => by
            have := (hgi v hv).1; rw [hm] at this; cases this
          simp only [seval, S1, hno, retg_ext hxx]
        · have g3 : H2[H.length]? = some (.map (encK T.str (mput ks v.key (.int .i64 1)))) := hx2.get (by simp only [S2, l3])
          have g4 : H2[H.length + 1]? = some (.map (encK kU ws)) := hx2.get (by simp only [S2, l3, l4, hb4, ne_eq, n34, not_false_eq_true])
          have gc : H2[H1.length]? = some (.cells (encV v)) := hx2.get (by simp [encV])
          have m4 := glt g4
          have hks' : KsOk l (i + 1) (mput ks v.key (.int .i64 1)) := fun k => by
            rw [mlook_put, take_snoc hv]
            by_cases e : k = v.key
            · simp [e]
            · have := hks k
              simp only [e, if_false, List.map_append, List.map_cons, List.map_nil, List.mem_append, List.mem_singleton, or_false]
              exact this
          have hkk : ∀ j u, j < i → l[j]? = some u → u.key ≠ v.key := fun j u hj hu e => hsk (e ▸ List.mem_map_of_mem (take_mem hj hu))
          have hw := hws v.id
          cases hl : mlook ws v.id with
          | none =>
            rw [hl] at hw
            simp only [seval, S1, S2, g3, g4, gc, encV, h0, h3, h4, h19, h20, h21, mlook_put, hl, m4, wsi]
            refine ⟨i + 1, by omega, ⟨_, _, hxx.set (by omega) _, by rw [g_ne (by omega)]; exact g3, rfl, hks', ?_⟩, rfl, by omega, ?_⟩
            · intro id
              rw [mlook_put, take_snoc hv]
              by_cases e : id = v.id
              · subst e; simp only [if_true]; exact ⟨i, v, by omega, hv, rfl, rfl⟩
              · have := hws id
                simp only [e, if_false]
                cases hl' : mlook ws id with
                | none => rw [hl'] at this; simp [e]; simpa using this
                | some t => rw [hl'] at this; obtain ⟨p, u, hp, hu, he⟩ := this; exact ⟨p, u, by omega, hu, he⟩
            · intro j hj
              by_cases e : j = i
              · subst e; intro v' hv'; rw [hv] at hv'; cases hv'
                refine ⟨hm, fun q u hq hu => ?_⟩
                have a1 : u.id ≠ v.id := fun e => hw (e ▸ List.mem_map_of_mem (take_mem hq hu))
                simp [ok2, hkk q u hq hu, a1]
              · exact hg j (by omega)
          | some t =>
            rw [hl] at hw
            obtain ⟨p, u, hp, hu, he, rfl⟩ := hw
            have hiu := vw.iad p u hu
            obtain ⟨a3, hf3, hl3⟩ := vw.f3 p u H2 hxx hu
            simp only [seval, S1, S2, g3, g4, gc, encV, h0, h3, h4, h19, h20, h21, mlook_put, hl, m4, wsi, hiu, hf3, hl3]
            refine callB_of _ _ _ _ _ _ _ _ (eq29 u.kk v.kk u.keys v.keys _ (by have := hs.2 u (List.mem_of_getElem? hu); omega)) ?_
            rintro w H4 ⟨hw, rfl⟩
            cases hw
            by_cases hks2 : u.keys = v.keys
            · simp only [seval, S1, S2, g3, g4, gc, encV, h0, h3, h4, h19, h20, h21, hks2, wsi]
              refine ⟨i + 1, by omega, ⟨_, _, hxx, rfl, rfl, hks', ?_⟩, rfl, by omega, ?_⟩
              · intro id
                have := hws id
                cases hl' : mlook ws id with
                | none => rw [hl'] at this; rw [take_snoc hv]; simp; simp at this; refine ⟨this, ?_⟩; rintro rfl; rw [hl] at hl'; cases hl'
                | some t => rw [hl'] at this; obtain ⟨p, u, hp, hu, he⟩ := this; exact ⟨p, u, by omega, hu, he⟩
              · intro j hj
                by_cases e : j = i
                · subst e; intro v' hv'; rw [hv] at hv'; cases hv'
                  refine ⟨hm, fun q x hq hx => ?_⟩
                  by_cases a1 : x.id = v.id
                  · have a2 : x.keys = u.keys := by
                      by_cases e2 : q = p
                      · subst e2; rw [hu] at hx; cases hx; rfl
                      · rcases Nat.lt_or_gt_of_ne e2 with h | h
                        · have := (hg p hp u hu).2 q x h hx
                          simp [ok2, he, a1] at this; exact this.2
                        · have := (hg q hq x hx).2 p u h hu
                          simp [ok2, he, a1] at this; exact this.2.symm
                    simp [ok2, hkk q x hq hx, a1, a2, hks2]
                  · simp [ok2, hkk q x hq hx, a1]
                · exact hg j (by omega)
            · have hno : formed l = false := bad fun hgi => by
                have := (hgi v hv).2 p u hp hu
                simp [ok2, he, hks2] at this
              simp only [seval, S1, hno, hks2, retg_ext hxx]
    · have : formed l = true := formed_t ⟨by omega, by omega, fun p hp => hg p (by omega)⟩
      simp only [seval, S1, h0, h3, h4, h19, h20, h21, hlt, this, retg_ext hx]
theorem Vw.ext {H H' : Heap} {t : T} {l : List Ver} {ad : Nat → T} (h : Vw H t l ad) (hx : Ext H H') : Vw H' t l ad :=
  ⟨fun H'' h2 => h.len H'' (hx.trans h2), h.iad, fun i v H'' h2 hv => h.ld i v H'' (hx.trans h2) hv, fun i v H'' h2 hv => h.f0 i v H'' (hx.trans h2) hv, fun i v H'' h2 hv => h.f1 i v H'' (hx.trans h2) hv, fun i v H'' h2 hv => h.f2 i v H'' (hx.trans h2) hv, fun i v H'' h2 hv => h.f3 i v H'' (hx.trans h2) hv⟩
theorem vw_sl (k : SK) (l : List Ver) (H : Heap) : Vw H (.sl k (encVs l)) l (fun i => match l[i]? with | some v => .iptr (encV v) | none => .nilp) where
  len H' _ := by simp [lenT, encVs_len]
  iad i v hv := by rw [hv]; exact iadV hv
  ld i v H' _ hv := by rw [hv]; exact ldV H' v
  f0 i v H' _ hv := ⟨_, by rw [hv]; exact fadV0 v, by simp [ldc]⟩
  f1 i v H' _ hv := ⟨_, by rw [hv]; exact fadV1 v, by simp [ldc]⟩
  f2 i v H' _ hv := ⟨.iptr [.str v.val, .sl v.kk (encS v.keys)], by rw [hv]; rfl, by simp [ldc]⟩
  f3 i v H' _ hv := ⟨.iptr [.sl v.kk (encS v.keys)], by rw [hv]; exact fadV3 v, by simp [ldc]⟩
theorem greatest25v (t : T) (ad : Nat → T) (l : List Ver) (H : Heap) (vw : Vw H t l ad) (hs : Small l) (hf : Formed l) : W env (.call 25 [t]) H (fun o H' => Ext H H' ∧ ∃ b, o = .val (.msl b 0 l.length 1) ∧ H'[b]? = some (.cells (msC eU (grs l))) ∧ H.length ≤ b) := by
  refine W.fnI rfl rfl rfl ?_
  have hln := hf.2.1
  have vl := vw.len _ (Ext.rfl'.app [B.map []])
  simp only [ir25, seval, S1, vl]
  refine W.loopI (fun (i : Nat) R H' => At H' (fun H' => ∃ es, Ext H H' ∧ H'[H.length]? = some (.map (encK T.str es)) ∧ Places Ver.key l i es) ∧ R 0 = t ∧ R 3 = .map H.length ∧ R 15 = t ∧ R 16 = .int .i64 l.length ∧ R 17 = .int .i64 i ∧ i ≤ l.length) (fun i => l.length - i) 0 ?_ ?_
  · exact ⟨.i ⟨[], Ext.rfl'.app _, by simp [encK], places_nil _ _⟩, rfl, rfl, rfl, rfl, rfl, Nat.zero_le _⟩
  rintro i R H1 ⟨⟨es, hx, hb3, hat⟩, h0, h3, h15, h16, h17, hi⟩
  have l3 := glt hb3
  by_cases hlt : i < l.length
  · obtain ⟨v, hv⟩ := getV hlt
    have wsi := wrap_succ (show i < 9223372036854775807 by omega)
    have hia := vw.iad i v hv
    have hld1 := vw.ld i v H1 hx hv
    simp only [seval, S1, S2, h0, h3, h15, h16, h17, hlt, natOf_nat, hia, hld1, encV, l3, hb3, wsi]
    exact ⟨i + 1, by omega, .i ⟨_, (hx.set (Nat.le_refl _) _).app _, by simp only [S2, l3], places_put hat hv⟩, rfl, by omega⟩
  have hil : i = l.length := by omega
  subst hil
  have w8 : l.length * 8 ≤ 281474976710656 := by omega
  have w9 : l.length ≤ 9223372036854775807 := by omega
  have vl1 := vw.len _ hx
  have vl2 := vw.len _ ((hx.app [B.cells (List.replicate l.length [T.int .u64 0]).flatten]).app [B.map []])
  simp only [seval, S1, S2, h0, h3, h15, h16, h17, hlt, hb3, natOf_nat, Nat.le_refl, w8, w9, vl1, vl2]
  refine W.loopI (fun (i : Nat) R H' => At H' (fun H' => ∃ ss outs, Ext H H' ∧ H'[H.length]? = some (.map (encK T.str es)) ∧ H'[H1.length]? = some (.cells (msC eU outs)) ∧ H'[H1.length + 1]? = some (.map (encK kU ss)) ∧ SeenOk l i ss ∧ OutOk l i outs) ∧ R 3 = .map H.length ∧ R 6 = .msl H1.length 0 l.length 1 ∧ R 7 = .map (H1.length + 1) ∧ R 31 = t ∧ R 32 = .int .i64 l.length ∧ R 33 = .int .i64 i ∧ i ≤ l.length) (fun i => l.length - i) 0 ?_ ?_
  · refine ⟨.i ⟨[], List.replicate l.length 0, (hx.app _).app _, ?_, ?_, ?_, ?_, out0 l⟩, ?_, ?_, ?_, ?_, ?_, ?_, Nat.zero_le _⟩
    · simp only [S2, l3, hb3]
    · rw [List.append_assoc, List.cons_append, g_tail rfl, ← msC_rep]; rfl
    · rw [g_tail (by simp)]; rfl
    · intro id; simp [cnt, mlook_nil]
    all_goals (simp only [seval, S1, h0, h3])
    all_goals simp
  rintro i R H2 ⟨⟨ss, outs, hx2, hc3, hc6, hc7, hseen, hout⟩, g3, g6, g7, g31, g32, g33, hi2⟩
  have m3 := glt hc3
  have m6 := glt hc6
  have m7 := glt hc7
  have n36 : H.length ≠ H1.length := by omega
  have n37 : H.length ≠ H1.length + 1 := by omega
  have n67 : H1.length ≠ H1.length + 1 := by omega
  have n73 : H1.length + 1 ≠ H.length := by omega
  have n76 : H1.length + 1 ≠ H1.length := by omega
  have n27 : H2.length ≠ H1.length + 1 := by omega
  by_cases hlt : i < l.length
  · obtain ⟨v, hv⟩ := getV hlt
    have hvs := hs.2 v (List.mem_of_getElem? hv)
    have hia := vw.iad i v hv
    have hld := vw.ld i v H2 hx2 hv
    have wsi := wrap_succ (show i < 9223372036854775807 by omega)
    have hcl := cnt_le l i v.id
    have hseen' : SeenOk l (i + 1) (mput ss v.id (.int .i64 ((cnt l i v.id + 1 : Nat) : Int))) := fun id => by
      rw [mlook_put, cnt_succ hv]
      by_cases e : id = v.id
      · subst e; simp
      · have e' : ¬ v.id = id := fun h => e h.symm
        simp only [e, e', if_false, Nat.add_zero]; exact hseen id
    by_cases hd : cnt l i v.id = 0
    · have w1 : IntKind.i64.wrap 1 = ((0 + 1 : Nat) : Int) := by decide
      rw [hd] at hseen'
      have hkk : ∀ x, x ∈ v.keys → True := fun _ _ => trivial
      simp only [seval, S1, S2, g3, g6, g7, g31, g32, g33, hlt, natOf_nat, hia, hld, encV, m3, m6, m7, hc3, hc6, hc7, (hseen v.id).1 hd, w1, mlook_put, n27, n76, n67, encS_len]
      refine W.loopI (fun (j : Nat) R H' => At H' (fun H' => ∃ outs, Ext H H' ∧ H'[H.length]? = some (.map (encK T.str es)) ∧ H'[H1.length]? = some (.cells (msC eU outs)) ∧ H'[H1.length + 1]? = some (.map (encK kU (mput ss v.id (.int .i64 ((0 + 1 : Nat) : Int))))) ∧ H'[H2.length]? = some (.cells (encV v)) ∧ InOk l i v j outs) ∧ R 3 = .map H.length ∧ R 6 = .msl H1.length 0 l.length 1 ∧ R 7 = .map (H1.length + 1) ∧ R 9 = .ptr H2.length 0 ∧ R 31 = t ∧ R 32 = .int .i64 l.length ∧ R 33 = .int .i64 i ∧ R 48 = .sl v.kk (encS v.keys) ∧ R 49 = .int .i64 v.keys.length ∧ R 50 = .int .i64 j ∧ j ≤ v.keys.length) (fun j => v.keys.length - j) 0 ?_ ?_
      · refine ⟨.i ⟨outs, (hx2.set (by omega) _).app _, ?_, ?_, ?_, ?_, in0 hout v⟩, ?_, ?_, ?_, ?_, ?_, ?_, ?_, ?_, ?_, ?_, Nat.zero_le _⟩
        · simp only [S2, m3, n73, hc3, ne_eq, not_false_eq_true]
        · simp only [S2, m6, n76, hc6, ne_eq, not_false_eq_true]
        · simp only [S2, m7]; rfl
        · rw [g_tail (by simp)]; rfl
        all_goals (simp only [seval, S1, g3, g6, g7, g31, g32, g33, encS_len])
      rintro j R H3 ⟨⟨outs, hx3, d3, d6, d7, d9, hin⟩, e3, e6, e7, e9, e31, e32, e33, e48, e49, e50, hj⟩
      by_cases hjlt : j < v.keys.length
      · obtain ⟨kk, hk⟩ := getS hjlt
        have wsj := wrap_succ (show j < 9223372036854775807 by omega)
        have q6 := glt d6
        have b36 : ¬ H.length ≥ H1.length + 1 := by omega
        cases ha : mlook es kk with
        | none =>
          simp only [seval, S1, S2, e3, e6, e7, e9, e31, e32, e33, e48, e49, e50, hjlt, iadS hk, d3, ha, wsj]
          exact ⟨j + 1, by omega, .i ⟨outs, hx3, d3, d6, d7, d9, in_skip hk (place_no hat ha) hin⟩, rfl, by omega⟩
        | some t =>
          obtain ⟨p, u, hp, hu, rfl, rfl⟩ := place_get hat ha
          obtain ⟨x, hxp⟩ := getU (l := outs) (i := p) (by rw [hin.1]; exact hp)
          have dd : H.length ≠ H1.length := n36
          have n29 : H1.length ≠ H2.length := by omega
          simp only [seval, S1, S2, e3, e6, e7, e9, e31, e32, e33, e48, e49, e50, hjlt, iadS hk, d3, d6, d9, encV, ha, wsj, natOf_nat, iad_m, hp, msU_get hxp, msU_set hxp, mxN]
          exact ⟨j + 1, by omega, .i ⟨_, hx3.set (by omega) _, by rw [g_ne (by omega)]; exact d3, g_eq q6, by rw [g_ne (by omega)]; exact d7, by rw [g_ne (by omega)]; exact d9, in_step hk hu (fun q w hw e => key_one hf hu hw e) hxp hin⟩, rfl, by omega⟩
      · simp only [seval, S1, S2, e3, e6, e7, e9, e31, e32, e33, e48, e49, e50, hjlt, wsi]
        exact ⟨i + 1, by omega, .i ⟨_, outs, hx3, d3, d6, d7, hseen', in_end hv (by omega) hin⟩, rfl, by omega⟩
    · have w1 : IntKind.i64.wrap ((cnt l i v.id : Int) + 1) = ((cnt l i v.id + 1 : Nat) : Int) := wrap_succ (by omega)
      have gt1 : 1 < cnt l i v.id + 1 := by omega
      simp only [seval, S1, S2, g3, g6, g7, g31, g32, g33, hlt, natOf_nat, hia, hld, encV, m3, m6, m7, hc3, hc6, hc7, (hseen v.id).2 hd, w1, mlook_put, n27, n76, n67, encS_len, gt1, wsi]
      exact ⟨i + 1, by omega, .i ⟨_, outs, (hx2.set (by omega) _).app _, by simp only [S2, m3, n73, hc3, ne_eq, not_false_eq_true], by simp only [S2, m6, n76, hc6, ne_eq, not_false_eq_true], by simp only [S2, m7], hseen', out_dup hv hf hd hout⟩, rfl, by omega⟩
  · have hil : i = l.length := by omega
    subst hil
    have he : outs = grs l := List.ext_getElem? fun p => by
      by_cases hp : p < l.length
      · obtain ⟨u, hu⟩ := getV hp
        rw [hout.2 p u hu, List.take_length]; simp [grs, hu]
      · rw [List.getElem?_eq_none (by rw [hout.1]; omega), List.getElem?_eq_none (by simp [grs]; omega)]
    subst he
    simp only [seval, S1, S2, g3, g6, g7, g31, g32, g33, hlt]
    exact ⟨hx2, H1.length, rfl, hc6, hx.len⟩
end Go.Proofs.Ytobnjpgggocdlaa.Fx
end

section
namespace Go.Proofs.Ytobnjpgggocdlaa.Fx
open Go.Rmp Go.Proofs.Ytobnjpgggocdlaa.Ir
set_option maxRecDepth 10000
def encW (w : ByteArray × Nat) : List T := [.str w.1, .int .u64 w.2]
def wants' (l m : List Ver) : List (ByteArray × Nat) := (m.filter fun u => decide (u.id < gr l u.key)).map fun u => (u.key, gr l u.key)
def wants (l : List Ver) : List (ByteArray × Nat) := wants' l l
theorem wants_snoc (l m : List Ver) (u : Ver) : wants' l (m ++ [u]) = if u.id < gr l u.key then wants' l m ++ [(u.key, gr l u.key)] else wants' l m := by
  unfold wants'; rw [List.filter_append, List.map_append]
  by_cases h : u.id < gr l u.key <;> simp [List.filter_cons, h]
theorem wants_le (l m : List Ver) : (wants' l m).length ≤ m.length := by simp [wants']; exact List.length_filter_le _ _
open Classical in
noncomputable def needs (l : List Ver) : List (ByteArray × Nat) := if Formed l then wants l else []
open Classical in
noncomputable def needsE (l : List Ver) : Nat := if Formed l then 0 else 1
def NeedsM (l : List Ver) (H : Heap) : Out → Heap → Prop := fun o H' => Ext H H' ∧ ∃ t, o = .val (.tup [t, .int .i64 (needsE l)]) ∧ Mut encW 2 H.length H' t (needs l)
theorem getG {l : List Nat} {i : Nat} {l' : List Ver} {u : Ver} (h : l = grs l') (hu : l'[i]? = some u) : l[i]? = some (gr l' u.key) := by subst h; simp [grs, hu]
theorem needs9m (t : T) (ad : Nat → T) (l : List Ver) (H : Heap) (vw : Vw H t l ad) (hs : Small l) : W env (.call 9 [t]) H (NeedsM l H) := by
  refine W.fnI rfl rfl rfl ?_
  simp only [ir9, seval, S1]
  refine callB_of _ _ _ _ _ _ _ _ (formed12v t ad l _ vw hs) ?_
  rintro u H1 ⟨hu, hx1⟩
  cases hu
  have hx1 : Ext H H1 := hx1
  by_cases hf : ¬ Formed l
  · simp only [seval, S1, formed_f hf]
    refine ⟨hx1, .sl .nil [], by simp [needsE, hf], ?_⟩
    simp only [needs, hf, if_false]
    exact mut_nil _ _ _ _
  have hf := Classical.not_not.1 hf
  have hln := hf.2.1
  simp only [seval, S1, formed_t hf]
  refine callB_of _ _ _ _ _ _ _ _ (greatest25v t ad l _ (vw.ext hx1) hs hf) ?_
  rintro u H2 ⟨hx2, b, hu, hb, hbH⟩
  cases hu
  simp only [seval, S1]
  refine W.loopI (fun (i : Nat) R H' => At H' (fun H' => ∃ tw, R 4 = tw ∧ Mut encW 2 H2.length H' tw (wants' l (l.take i)) ∧ Ext H2 H') ∧ R 0 = t ∧ R 11 = .msl b 0 l.length 1 ∧ R 12 = .int .i64 l.length ∧ R 13 = .int .i64 i ∧ i ≤ l.length) (fun i => l.length - i) 0 ⟨.i ⟨.sl .nil [], rfl, mut_nil _ _ _ _, Ext.rfl'⟩, rfl, rfl, rfl, rfl, Nat.zero_le _⟩ ?_
  rintro i R H3 ⟨⟨tw, h4, hmu, hx3⟩, h0, h11, h12, h13, hi⟩
  have hx03 : Ext H H3 := (hx1.trans hx2).trans hx3
  have hb3 := hx3.get hb
  by_cases hlt : i < l.length
  · obtain ⟨v, hv⟩ := getV hlt
    have wsi := wrap_succ (show i < 9223372036854775807 by omega)
    have hg := getG rfl hv
    have hia := vw.iad i v hv
    obtain ⟨a0, fa0, la0⟩ := vw.f0 i v H3 hx03 hv
    obtain ⟨a1, fa1, la1⟩ := vw.f1 i v H3 hx03 hv
    have hsn := wants_snoc l (l.take i) v
    by_cases hlg : v.id < gr l v.key
    · have hwl : (wants' l (l.take i)).length ≤ 1024 := Nat.le_trans (wants_le l (l.take i)) (by simp; omega)
      obtain ⟨t', H', ha, hm', hst⟩ := appM_ok (enc := encW) (n := 2) (bytes := 24) (fun _ => rfl) [(v.key, gr l v.key)] hmu hx3.len (by simp) (roomT (by simp only [List.length_cons, List.length_nil]; omega))
      have hfg : fgt tw = tw := by rcases hmu with ⟨_, rfl⟩ | ⟨_, rfl, _⟩ <;> rfl
      simp only [List.map_cons, List.map_nil, encW] at ha
      simp only [seval, S1, h0, h4, h11, h12, h13, hlt, natOf_nat, iad_m, hb3, msU_get hg, hia, fa0, la0, fa1, la1, hlg, hfg, ha, wsi]
      refine ⟨i + 1, by omega, .i ⟨t', rfl, ?_, ?_⟩, by omega⟩
      · rw [take_snoc hv, hsn, if_pos hlg]; exact hm'
      · exact hst.ext H2 (Nat.le_refl _) hx3
    · simp only [seval, S1, h0, h4, h11, h12, h13, hlt, natOf_nat, iad_m, hb3, msU_get hg, hia, fa0, la0, fa1, la1, hlg, wsi]
      refine ⟨i + 1, by omega, .i ⟨tw, rfl, ?_, hx3⟩, by omega⟩
      rw [take_snoc hv, hsn, if_neg hlg]; exact hmu
  · have hil : i = l.length := by omega
    subst hil
    simp only [seval, S1, h0, h4, h11, h12, h13, hlt]
    refine ⟨hx03, tw, by simp [needsE, hf], ?_⟩
    rw [List.take_length] at hmu
    simp only [needs, hf, if_true]
    rcases hmu with hm | ⟨c, e1, e2, e3⟩
    · exact .inl hm
    · exact .inr ⟨c, e1, e2, by have := (hx1.trans hx2).len; omega⟩
noncomputable def cutB (l : List Ver) : Bool := formed l && decide (wants l = [])
theorem cut14 (t : T) (ad : Nat → T) (l : List Ver) (H : Heap) (vw : Vw H t l ad) (hs : Small l) : W env (.call 14 [t]) H (RetG (.bool (cutB l)) H) := by
  refine W.fnI rfl rfl rfl ?_
  simp only [ir14, seval, S1]
  refine callB_of _ _ _ _ _ _ _ _ (needs9m t ad l _ vw hs) ?_
  rintro u H1 ⟨hx1, tw, hu, hmu⟩
  cases hu
  have hl := hmu.len
  by_cases hf : Formed l
  · by_cases hw : (wants l) = []
    · have hn : (needs l).length = 0 := by simp [needs, hf, hw]
      have hE : needsE l = 0 := by simp [needsE, hf]
      simp only [seval, S1, hl, hn, hE, cutB, formed_t hf, hw, retg_ext hx1]
      try simp
    · have hn : ¬ (needs l).length = 0 := by simp [needs, hf, hw]
      have hE : needsE l = 0 := by simp [needsE, hf]
      simp only [seval, S1, hl, hn, hE, cutB, formed_t hf, hw, retg_ext hx1]
      try simp [hw]
  · have hE : needsE l = 1 := by simp [needsE, hf]
    simp only [seval, S1, hl, hE, cutB, formed_f hf, retg_ext hx1, Bool.false_and]
    try simp
end Go.Proofs.Ytobnjpgggocdlaa.Fx
end

section
namespace Go.Proofs.Ytobnjpgggocdlaa.Fx
open Go.Rmp Go.Proofs.Ytobnjpgggocdlaa.Ir
set_option maxRecDepth 10000
abbrev rdy (n : Nat) (R0 : Regs) (ps : List Nat) (asg body : C) : B := .loop .ready Option.none n R0 ps asg body
abbrev bsy (n : Nat) (R0 : Regs) (ps : List Nat) (asg body : C) : B := .loop .busy Option.none n R0 ps asg body
theorem back43 {n : Nat} {R0 : Regs} {ps : List Nat} {asg body : C} (k : SK) (got : List Ver) (c b : Nat) (H : Heap) (I : Nat → Heap → Prop) (hps : ps.length = 2) (hl : got.length < 4611686018427387903) (h0 : I got.length H) (hb : H[b]? = some (rdy n R0 ps asg body))
    (hkeep : ∀ i H', I i H' → H'[c]? = some (.cells [.sl k (encVs got)]))
    (hstep : ∀ i v H', got[i]? = some v → I (i + 1) H' → H'[b]? = some (rdy n R0 ps asg body) → wpC env asg (setps R0 ps [.int .i64 (i : Int), .agg (encV v)]) H' (fun o H1 => ∃ R1, o = .ex .normal R1 ∧ H1[b]? = some (rdy n R0 ps asg body) ∧
      wpC env body R1 (H1.set b (bsy n R0 ps asg body)) (fun o H2 => ∃ R2, o = .ex .normal R2 ∧ H2[b]? = some (bsy n R0 ps asg body) ∧ I i (H2.set b (rdy n R0 ps asg body))))) :
    W env (.call 43 [.yld b, .ptr c 0]) H (fun _ H' => I 0 H' ∧ H'[b]? = some (rdy n R0 ps asg body)) := by
  refine W.fnI rfl rfl rfl ?_
  have hc := hkeep _ _ h0
  have w0 : IntKind.i64.wrap ((got.length : Int) - 1) = (got.length : Int) - 1 := wrap64 (by omega)
  simp only [ir43, seval, S1, hc, encVs_len, w0]
  refine W.loopI (fun (x : Nat) R H' => At H' (fun H' => I x H' ∧ H'[b]? = some (rdy n R0 ps asg body)) ∧ R 0 = .yld b ∧ R 1 = .ptr c 0 ∧ R 3 = .int .i64 ((x : Int) - 1) ∧ x ≤ got.length) (fun x => x) got.length ⟨.i ⟨h0, hb⟩, rfl, rfl, rfl, Nat.le_refl _⟩ ?_
  rintro x R H1 ⟨⟨hI, hb1⟩, g0, g1, g3, hx⟩
  cases x with
  | zero =>
    have e : (((0 : Nat) : Int) - 1) = -1 := by decide
    have e2 : decide ((0 : Int) ≤ -1) = false := by decide
    rw [e] at g3
    simp only [seval, S1, g3, e2]
    exact ⟨hI, hb1⟩
  | succ i =>
    obtain ⟨v, hv⟩ := getV (l := got) (i := i) (by omega)
    have e : (((i + 1 : Nat) : Int) - 1) = (i : Int) := by omega
    have e2 : decide ((0 : Int) ≤ (i : Int)) = true := by simp
    have w1 : IntKind.i64.wrap ((i : Int) - 1) = (i : Int) - 1 := wrap64 (by omega)
    rw [e] at g3
    have hc1 := hkeep _ _ hI
    simp only [seval, S1, g0, g1, g3, e2, hc1, iadV hv, encV]
    refine b_yld (b := b) (n := n) (R0 := R0) (ps := ps) (asg := asg) (body := body) ?_ hb1 (by rw [hps]; rfl) ?_
    · simp only [seval, S1]
    simp only [seval, S1]
    refine wpC_mono _ _ _ (fun o H2 => ?_) (hstep i v H1 hv hI hb1)
    rintro ⟨R1, rfl, hr, hw⟩
    refine ⟨R1, rfl, hr, wpC_mono _ _ _ (fun o H3 => ?_) hw⟩
    rintro ⟨R2, rfl, hr2, hI2⟩
    have hb3 := glt hr2
    refine ⟨R2, rfl, hr2, ?_⟩
    simp only [seval, S1, g0, g1, g3, w1]
    exact ⟨i, by omega, .i ⟨hI2, by simp [hb3]⟩, rfl, by omega⟩
def KOk (k : SK) (l : List ByteArray) : Prop := k = .nil → l = []
theorem allS (l : List ByteArray) : (encS l).all (fun c => c.length == 1) = true := all_map (n := 1) (fun _ => rfl) l
abbrev eS (s : ByteArray) : List T := [.str s]
def MuE (H : Heap) (n0 : Nat) (t : T) (l : List ByteArray) : Prop := (l = [] ∧ (t = .sl .nil [] ∨ t = .sl .full [])) ∨ (l ≠ [] ∧ ∃ b, t = .msl b 0 l.length 1 ∧ H[b]? = some (.cells (msC eS l)) ∧ n0 ≤ b)
theorem MuE.ext {H H' : Heap} {n0 : Nat} {t : T} {l : List ByteArray} (h : MuE H n0 t l) (hx : Ext H H') : MuE H' n0 t l := by
  rcases h with h | ⟨h0, b, h1, h2, h3⟩
  · exact .inl h
  · exact .inr ⟨h0, b, h1, hx.get h2, h3⟩
theorem app_full (H : Heap) {l : List ByteArray} (hne : l ≠ []) (hl : l.length < 1099511627776) : appM H 1 16 (.sl .full []) (encS l) = some (.msl H.length 0 l.length 1, H ++ [.cells (msC eS l)]) := by
  have hr : roomOk (0 + l.length) 16 = true := roomT (by omega)
  cases l with
  | nil => exact absurd rfl hne
  | cons a l =>
    have e1 : (encS (a :: l)).length = (a :: l).length := encS_len _
    have e2 : (encS (a :: l)).flatten = msC eS (a :: l) := by simp [encS, msC, List.flatMap]
    unfold appM
    simp only [encS, List.map_cons] at e1 e2 ⊢
    rw [if_pos ⟨by simpa [e1] using hr, trivial⟩, e1, e2]
theorem clone33m (k : SK) (l : List ByteArray) (H : Heap) (hk : KOk k l) (hl : l.length < 1099511627776) : W env (.call 33 [.sl k (encS l)]) H (fun o H' => Ext H H' ∧ ∃ t, o = .val t ∧ MuE H' H.length t l) := by
  refine W.fnI rfl rfl rfl ?_
  have fg : fgt (.sl .full []) = .sl .full [] := rfl
  have ap0 : appM H 1 16 (.sl .full []) [] = some (.sl .full [], H) := rfl
  have big : ∀ a m, l = a :: m → appM H 1 16 (.sl .full []) ([.str a] :: m.map fun s => [T.str s]) = some (.msl H.length 0 (a :: m).length 1, H ++ [.cells (msC eS (a :: m))]) := fun a m e => by subst e; exact app_full H (by simp) hl
  have post : ∀ a m, l = a :: m → MuE (H ++ [B.cells (msC eS (a :: m))]) H.length (.msl H.length 0 (a :: m).length 1) (a :: m) := fun a m e => .inr ⟨by simp, H.length, rfl, g_tail rfl, Nat.le_refl _⟩
  cases k with
  | nil =>
    have := hk rfl; subst this
    simp only [ir33, seval, S1, encS, eqRef, nilOf]
    exact ⟨Ext.rfl', .sl .nil [], rfl, .inl ⟨rfl, .inl rfl⟩⟩
  | arg =>
    cases l with
    | nil =>
      simp only [ir33, seval, S1, encS, eqRef, nilOf, Option.map_none]
      refine fun t => ?_
      cases t
      · simp only [seval, S1, fg, ap0]
        exact ⟨Ext.rfl', _, rfl, .inl ⟨rfl, .inr rfl⟩⟩
      · simp only [seval, S1]
        exact ⟨Ext.rfl', _, rfl, .inl ⟨rfl, .inl rfl⟩⟩
    | cons a l =>
      have h1 := allS (a :: l)
      have hb := big a l rfl
      simp only [encS, List.map_cons] at h1
      simp only [ir33, seval, S1, encS, eqRef, nilOf, fg, hb, h1]
      exact ⟨⟨_, rfl⟩, _, rfl, post a l rfl⟩
  | full =>
    cases l with
    | nil =>
      simp only [ir33, seval, S1, encS, eqRef, nilOf, fg, ap0]
      exact ⟨Ext.rfl', _, rfl, .inl ⟨rfl, .inr rfl⟩⟩
    | cons a l =>
      have h1 := allS (a :: l)
      have hb := big a l rfl
      simp only [encS, List.map_cons] at h1
      simp only [ir33, seval, S1, encS, eqRef, nilOf, fg, hb, h1]
      exact ⟨⟨_, rfl⟩, _, rfl, post a l rfl⟩
  | own t e =>
    cases l with
    | nil =>
      simp only [ir33, seval, S1, encS, eqRef, nilOf, fg, ap0]
      exact ⟨Ext.rfl', _, rfl, .inl ⟨rfl, .inr rfl⟩⟩
    | cons a l =>
      have h1 := allS (a :: l)
      have hb := big a l rfl
      simp only [encS, List.map_cons] at h1
      simp only [ir33, seval, S1, encS, eqRef, nilOf, fg, hb, h1]
      exact ⟨⟨_, rfl⟩, _, rfl, post a l rfl⟩
end Go.Proofs.Ytobnjpgggocdlaa.Fx
end

section
namespace Go.Proofs.Ytobnjpgggocdlaa.Fx
open Go.Rmp Go.Proofs.Ytobnjpgggocdlaa.Ir
set_option maxRecDepth 10000
def setK (v : Ver) (k : SK) : Ver := { v with kk := k }
def kW (w : ByteArray × Nat) : T := .agg [.str w.1, .int .u64 w.2]
theorem kWok : KeyOk (.st [.str, .int]) kW := ⟨fun _ => rfl, fun a b => by
  simp only [kW, keyEq, eqCells, eqSc, strEq_eq, if_true, deq, Option.some.injEq]
  rw [Bool.eq_iff_iff]; simp [Prod.ext_iff]⟩
theorem lkpB_W (z : T) (ok : Bool) (H : Heap) (es : List ((ByteArray × Nat) × T)) (s : ByteArray) (n : Nat) : lkpB (.st [.str, .int]) z ok H (some (.map (encK kW es))) (.agg [.str s, .int .u64 n]) = some (lkpT (mlook es (s, n)) z ok, H) := lkpB_K kWok z ok H es (s, n)
theorem upmB_W (H : Heap) (b : Nat) (es : List ((ByteArray × Nat) × T)) (s : ByteArray) (n : Nat) (v : T) : upmB (.st [.str, .int]) H b (some (.map (encK kW es))) (.agg [.str s, .int .u64 n]) v = some (undefT, H.set b (.map (encK kW (mput es (s, n) v)))) := upmB_K kWok H b es (s, n) v
def wOf (v : Ver) : ByteArray × Nat := (v.key, v.id)
def Fetched (got : List Ver) (i : Nat) (es : List ((ByteArray × Nat) × T)) : Prop := ∀ w, match mlook es w with
  | .none => ∀ (p : Nat) v, i ≤ p → got[p]? = some v → wOf v ≠ w
  | some t => ∃ p v, i ≤ p ∧ got[p]? = some v ∧ wOf v = w ∧ t = .int .i64 (p : Int) ∧ ∀ (q : Nat) u, i ≤ q → q < p → got[q]? = some u → wOf u ≠ w
theorem fetched_end (got : List Ver) : Fetched got got.length [] := fun w => by
  simp only [mlook_nil]
  intro p v hp hv
  rw [List.getElem?_eq_none hp] at hv; cases hv
theorem fetched_put {got : List Ver} {i : Nat} {es : List ((ByteArray × Nat) × T)} {v : Ver} (hv : got[i]? = some v) (h : Fetched got (i + 1) es) : Fetched got i (mput es (v.key, v.id) (.int .i64 (i : Int))) := fun w => by
  rw [mlook_put]
  by_cases e : w = (v.key, v.id)
  · subst e; simp only [if_true]
    exact ⟨i, v, Nat.le_refl _, hv, rfl, rfl, fun q u h1 h2 => by omega⟩
  · simp only [e, if_false]
    have := h w
    have hne : wOf v ≠ w := fun h => e h.symm
    cases hl : mlook es w with
    | none =>
      rw [hl] at this
      intro p u hp hu
      by_cases hpi : p = i
      · subst hpi; rw [hv] at hu; cases hu; exact hne
      · exact this p u (by omega) hu
    | some t =>
      rw [hl] at this
      obtain ⟨p, u, h1, h2, h3, h4, h5⟩ := this
      refine ⟨p, u, by omega, h2, h3, h4, fun q x hq hqp hx => ?_⟩
      by_cases hpi : q = i
      · subst hpi; rw [hv] at hx; cases hx; exact hne
      · exact h5 q x (by omega) hqp hx
def gotOf (got : List Ver) (k : ByteArray) (n : Nat) : Option Ver := got.find? fun v => decide (v.key = k) && decide (v.id = n)
theorem fetched_no {got : List Ver} {es : List ((ByteArray × Nat) × T)} (h : Fetched got 0 es) {k : ByteArray} {n : Nat} (hl : mlook es (k, n) = Option.none) : gotOf got k n = Option.none := by
  have := h (k, n); rw [hl] at this
  unfold gotOf; rw [List.find?_eq_none]
  intro v hv
  obtain ⟨p, hp, e⟩ := List.getElem_of_mem hv
  have := this p v (Nat.zero_le _) (by rw [List.getElem?_eq_getElem hp, e])
  simp only [wOf, ne_eq, Prod.mk.injEq] at this
  simpa using this
theorem fetched_yes {got : List Ver} {es : List ((ByteArray × Nat) × T)} (h : Fetched got 0 es) {k : ByteArray} {n : Nat} {t : T} (hl : mlook es (k, n) = some t) : ∃ (p : Nat) (v : Ver), got[p]? = some v ∧ t = .int .i64 (p : Int) ∧ gotOf got k n = some v := by
  have := h (k, n); rw [hl] at this
  obtain ⟨p, v, _, h2, h3, h4, h5⟩ := this
  refine ⟨p, v, h2, h4, ?_⟩
  unfold gotOf; rw [List.find?_eq_some_iff_getElem]
  have hp := (List.getElem?_eq_some_iff.1 h2).1
  simp only [wOf, Prod.mk.injEq] at h3
  refine ⟨by simp [h3], p, hp, (List.getElem?_eq_some_iff.1 h2).2, fun j hj => ?_⟩
  have := h5 j got[j] (Nat.zero_le _) hj (List.getElem?_eq_getElem _)
  simp only [wOf, ne_eq, Prod.mk.injEq] at this
  simp only [Bool.not_eq_true', Bool.and_eq_false_iff, decide_eq_false_iff_not]
  exact Classical.not_and_iff_not_or_not.1 this
def mendOne (l got : List Ver) (u : Ver) : Option Ver := if u.id < gr l u.key then gotOf got u.key (gr l u.key) else some u
def mendO (l got : List Ver) (u : Ver) : Option Ver := (mendOne l got u).map (setK · .arg)
def mends (f : Ver → Option Ver) : List Ver → Option (List Ver)
  | [] => some []
  | u :: m => match f u, mends f m with
    | some a, some b => some (a :: b)
    | _, _ => .none
theorem mends_snoc (f : Ver → Option Ver) {m : List Ver} {u v : Ver} {out : List Ver} (h : mends f m = some out) (hv : f u = some v) : mends f (m ++ [u]) = some (out ++ [v]) := by
  induction m generalizing out with
  | nil => simp only [mends, Option.some.injEq] at h; subst h; simp [mends, hv]
  | cons x m ih =>
    simp only [mends, List.cons_append] at h ⊢
    cases h1 : f x with
    | none => rw [h1] at h; simp at h
    | some a =>
      cases h2 : mends f m with
      | none => rw [h1, h2] at h; simp at h
      | some b => rw [h1, h2] at h; simp only [Option.some.injEq] at h; subst h; rw [ih h2]; rfl
theorem mends_no (f : Ver → Option Ver) {m : List Ver} {u : Ver} (hu : u ∈ m) (hv : f u = .none) : mends f m = .none := by
  induction m with
  | nil => cases hu
  | cons x m ih =>
    simp only [mends]
    rcases List.mem_cons.1 hu with rfl | h
    · rw [hv]
    · rw [ih h]; cases f x <;> rfl
theorem mends_len (f : Ver → Option Ver) : ∀ {m out : List Ver}, mends f m = some out → out.length = m.length
  | [], out, h => by simp only [mends, Option.some.injEq] at h; subst h; rfl
  | x :: m, out, h => by
    simp only [mends] at h
    cases h1 : f x with
    | none => rw [h1] at h; simp at h
    | some a =>
      cases h2 : mends f m with
      | none => rw [h1, h2] at h; simp at h
      | some b => rw [h1, h2] at h; simp only [Option.some.injEq] at h; subst h; simp [mends_len f h2]
open Classical in
noncomputable def mendL (l got : List Ver) : List Ver := if Formed l then (mends (mendO l got) l).getD [] else []
open Classical in
noncomputable def mendE (l got : List Ver) : Nat := if Formed l then if (mends (mendO l got) l).isSome then 0 else 110 else 1
def NilOk (l : List Ver) : Prop := ∀ v ∈ l, KOk v.kk v.keys ∧ v.keys.length < 1099511627776
theorem allV (l : List Ver) : (encVs l).all (fun c => c.length == 4) = true := all_map (n := 4) (fun _ => rfl) l
theorem back32 (k : SK) (got : List Ver) (H : Heap) : W env (.call 32 [.sl k (encVs got)]) H (fun o H' => H' = H ++ [.cells [.sl k (encVs got)]] ∧ o = .val (.fn 43 [.ptr H.length 0])) := by
  refine W.fnI rfl rfl rfl ?_
  simp only [ir32, seval, S1, capsT]
end Go.Proofs.Ytobnjpgggocdlaa.Fx
end

section
namespace Go.Proofs.Ytobnjpgggocdlaa.Fx
open Go.Rmp Go.Proofs.Ytobnjpgggocdlaa.Ir
set_option maxRecDepth 10000
def encVT (q : T × Ver) : List T := [.str q.2.key, .int .u64 q.2.id, .str q.2.val, q.1]
theorem encVT_len (q : T × Ver) : (encVT q).length = 4 := rfl
def Dis (p q : T) : Prop := ∀ b n m b' n' m', p = .msl b 0 n m → q = .msl b' 0 n' m' → b ≠ b'
def tbk : T → Option Nat
  | .msl b _ _ _ => some b
  | _ => none
structure MV (H : Heap) (n0 : Nat) (t : T) (ql : List (T × Ver)) : Prop where
  row : Mut encVT 4 n0 H t ql
  fam : ∀ q ∈ ql, MuE H n0 q.1 q.2.keys ∧ ∀ b, tbk q.1 = some b → tbk t ≠ some b
  dis : ql.Pairwise fun p q => Dis p.1 q.1
theorem MV.nil (H : Heap) (n0 : Nat) : MV H n0 (.sl .nil []) [] := ⟨mut_nil _ _ _ _, by simp, .nil⟩
theorem MuE.lt {H : Heap} {n0 : Nat} {t : T} {l : List ByteArray} (h : MuE H n0 t l) {b : Nat} (hb : tbk t = some b) : b < H.length ∧ n0 ≤ b := by
  rcases h with ⟨_, rfl | rfl⟩ | ⟨_, b', rfl, h2, h3⟩
  · cases hb
  · cases hb
  · cases hb; exact ⟨glt h2, h3⟩
theorem MuE.keep {H H' : Heap} {n0 n1 : Nat} {t : T} {l : List ByteArray} (h : MuE H n0 t l) (hk : ∀ b x, tbk t = some b → H[b]? = some x → H'[b]? = some x) (hn : n1 ≤ n0) : MuE H' n1 t l := by
  rcases h with h | ⟨h0, b, rfl, h2, h3⟩
  · exact .inl h
  · exact .inr ⟨h0, b, rfl, hk b _ rfl h2, by omega⟩
theorem MV.keep {H H' : Heap} {n0 : Nat} {t : T} {ql : List (T × Ver)} (h : MV H n0 t ql) (hk : ∀ b x, n0 ≤ b → H[b]? = some x → H'[b]? = some x) : MV H' n0 t ql := by
  refine ⟨?_, fun q hq => ⟨(h.fam q hq).1.keep (fun b x hb hx => hk b x ((h.fam q hq).1.lt hb).2 hx) (Nat.le_refl _), (h.fam q hq).2⟩, h.dis⟩
  rcases h.row with h | ⟨b, h1, h2, h3⟩
  · exact .inl h
  · exact .inr ⟨b, h1, hk b _ h3 h2, h3⟩
theorem MV.ext {H H' : Heap} {n0 : Nat} {t : T} {ql : List (T × Ver)} (h : MV H n0 t ql) (hx : Ext H H') : MV H' n0 t ql := h.keep fun _ _ _ hy => hx.get hy
theorem MV.snoc {H5 H6 : Heap} {n0 : Nat} {tw : T} {ql : List (T × Ver)} (h : MV H5 n0 tw ql) (hn0 : n0 ≤ H5.length) {x : B} (hx6 : Ext (H5 ++ [x]) H6) {t' : T} {v : Ver} (hm : MuE H6 (H5.length + 1) t' v.keys) (y z : B) (hl : ql.length ≤ 1024) :
    ∃ t2 H', appM (H6.set H5.length y ++ [z]) 4 64 (fgt tw) [encVT (t', v)] = some (t2, H') ∧ MV H' n0 t2 (ql ++ [(t', v)]) ∧ ∀ H0 : Heap, H0.length ≤ n0 → Ext H0 H5 → Ext H0 H' := by
  have l6 : H5.length + 1 ≤ H6.length := by have := hx6.len; simpa using this
  have keep : ∀ b w, b < H5.length → H5[b]? = some w → (H6.set H5.length y ++ [z])[b]? = some w := fun b w hb hw => by
    rw [g_app (by rw [List.length_set]; omega), g_ne (by omega)]
    exact hx6.get (by rw [g_app hb]; exact hw)
  have rowlt : ∀ b, tbk tw = some b → b < H5.length := fun b hb => by
    rcases h.row with ⟨_, rfl⟩ | ⟨b', rfl, h2, _⟩
    · cases hb
    · cases hb; exact glt h2
  have row7 : Mut encVT 4 n0 (H6.set H5.length y ++ [z]) tw ql := by
    rcases h.row with h | ⟨b, h1, h2, h3⟩
    · exact .inl h
    · exact .inr ⟨b, h1, keep b _ (glt h2) h2, h3⟩
  have fg : fgt tw = tw := by rcases h.row with ⟨_, rfl⟩ | ⟨b', rfl, h2, _⟩ <;> rfl
  obtain ⟨t2, H', ha, hm2, hst⟩ := appM_ok (enc := encVT) (n := 4) (bytes := 64) encVT_len [(t', v)] row7 (by simp; omega) (by simp) (roomT (by simp only [List.length_cons, List.length_nil]; omega))
  have ha' : appM (H6.set H5.length y ++ [z]) 4 64 tw [encVT (t', v)] = some (t2, H') := ha
  have fr : ∀ b, tbk t2 = some b → (H6.set H5.length y ++ [z]).length ≤ b := fun b hb => by
    rcases hm2 with ⟨h0, _⟩ | ⟨b', rfl, h2, _⟩
    · simp at h0
    · cases hb; exact appM_fr ha' (by simp)
  have l7 : (H6.set H5.length y ++ [z]).length = H6.length + 1 := by simp
  have keep2 : ∀ b w, tbk tw ≠ some b → (H6.set H5.length y ++ [z])[b]? = some w → H'[b]? = some w := fun b w hb hw => hst.get b w hw fun off len n e => hb (by rw [e]; rfl)
  have hm' : ∀ b w, tbk t' = some b → H6[b]? = some w → H'[b]? = some w := fun b w hb hw => by
    have hb' := hm.lt hb
    refine keep2 b w (fun e => ?_) ?_
    · have := rowlt b e; omega
    · rw [g_app (by rw [List.length_set]; omega), g_ne (by omega)]; exact hw
  refine ⟨t2, H', by rw [fg]; exact ha', ⟨hm2, fun q hq => ?_, ?_⟩, fun H0 h0 hx => ?_⟩
  · rcases List.mem_append.1 hq with hq | hq
    · obtain ⟨f1, f2⟩ := h.fam q hq
      refine ⟨f1.keep (fun b w hb hw => keep2 b w (f2 b hb) (keep b w (f1.lt hb).1 hw)) (Nat.le_refl _), fun b hb e => ?_⟩
      have := fr b e
      have := (f1.lt hb).1
      omega
    · rw [List.mem_singleton] at hq; subst hq
      refine ⟨hm.keep hm' (by omega), fun b hb e => ?_⟩
      have := fr b e
      have := (hm.lt hb).1
      omega
  · rw [List.pairwise_append]
    refine ⟨h.dis, List.pairwise_singleton _ _, fun p hp q hq b n m b' n' m' e1 e2 e => ?_⟩
    rw [List.mem_singleton] at hq; subst hq
    have h1 := ((h.fam p hp).1.lt (b := b) (by rw [e1]; rfl)).1
    have h2 := (hm.lt (b := b') (by simp only at e2; rw [e2]; rfl)).2
    omega
  · refine hst.ext H0 h0 (Ext.app (Ext.set ((hx.app _).trans hx6) (by omega) _) _)
end Go.Proofs.Ytobnjpgggocdlaa.Fx
end

section
namespace Go.Proofs.Ytobnjpgggocdlaa.Fx
open Go.Rmp Go.Proofs.Ytobnjpgggocdlaa.Ir
set_option maxRecDepth 10000
set_option maxHeartbeats 0
def MendM (l got : List Ver) (H : Heap) : Out → Heap → Prop := fun o H' => Ext H H' ∧ ∃ t ql, o = .val (.tup [t, .int .i64 (mendE l got)]) ∧ MV H' H.length t ql ∧ mendL l got = ql.map (·.2)
theorem el1 (K : Heap) (n : Nat) (hn : n = K.length) (a b c d : T) : elemsOf (K ++ [.cells [a, b, c, d]]) 4 (.msl n 0 1 4) = some [[a, b, c, d]] := by
  subst hn
  simp [elemsOf]
theorem mend16m (k kg : SK) (l got : List Ver) (H : Heap) (hs : Small l) (hn : NilOk l) (hng : NilOk got) (hgl : got.length < 4611686018427387903) : W env (.call 16 [.sl k (encVs l), .sl kg (encVs got)]) H (MendM l got H) := by
  refine W.fnrI rfl rfl ?_
  simp only [ir16, seval, S1]
  refine callB_of _ _ _ _ _ _ _ _ (formed12v _ _ l _ (vw_sl k l _) hs) ?_
  rintro u H1 ⟨hu, hx1⟩
  cases hu
  have hx1 : Ext H H1 := hx1
  by_cases hf : ¬ Formed l
  · simp only [seval, S1, formed_f hf]
    refine endR_0 rfl ?_
    simp only [seval, S1]
    exact ⟨hx1, .sl .nil [], [], by simp [mendE, hf], MV.nil _ _, by simp [mendL, hf]⟩
  have hf := Classical.not_not.1 hf
  have hln := hf.2.1
  have q0 : (H1 ++ [B.map []]).length = H1.length + 1 := by simp
  have q1 : H1.length < H1.length + 1 := by omega
  simp only [seval, S1, S2, formed_t hf, q0]
  refine callB_of _ _ _ _ _ _ _ _ (back32 kg got _) ?_
  rintro u H2 ⟨rfl, hu⟩
  cases hu
  simp only [seval, S1]
  have q2 : (H1 ++ [B.map []] ++ [B.cells [T.map H1.length]]).length = H1.length + 2 := by simp
  rw [q2]
  generalize hH2 : H1 ++ [B.map []] ++ [B.cells [T.map H1.length]] ++ [B.cells [T.sl kg (encVs got)]] = H2
  generalize hR : upd _ 20 _ = R0
  refine W.rangeI (f := 43) (cs := [.ptr (H1.length + 2) 0]) (by rw [← hR]; simp only [seval, S1]) ?_
  have a1 : H2.length = H1.length + 3 := by rw [← hH2]; simp
  have a2 : H2[H1.length]? = some (.map (encK kW [])) := by rw [← hH2]; simp [encK]
  have a3 : H2[H1.length + 1]? = some (.cells [.map H1.length]) := by rw [← hH2]; simp
  have a4 : H2[H1.length + 2]? = some (.cells [.sl kg (encVs got)]) := by rw [← hH2]; simp
  have a5 : Ext H H2 := by rw [← hH2]; exact ((hx1.app _).app _).app _
  have r0 : R0 0 = .sl k (encVs l) := by rw [← hR]; simp only [seval, S1]
  have r1 : R0 1 = .sl kg (encVs got) := by rw [← hR]; simp only [seval, S1]
  have r6 : R0 6 = .ptr (H1.length + 1) 0 := by rw [← hR]; simp only [seval, S1]
  have r71 : R0 71 = .tup [] := by rw [← hR]; rfl
  rw [r71, push0, a1]
  have hl1 := hx1.len
  have e1 : H1.length + 3 + 1 = H1.length + 4 := rfl
  rw [e1]
  generalize hnn : H1.length = f at *
  have n01 : ¬ f = f + 1 := by omega
  have n02 : ¬ f = f + 2 := by omega
  have n03 : ¬ f = f + 3 := by omega
  have n04 : ¬ f + 4 = f := by omega
  have n14 : ¬ f + 4 = f + 1 := by omega
  have n24 : ¬ f + 4 = f + 2 := by omega
  have n34 : ¬ f + 4 = f + 3 := by omega
  have n40 : ¬ f = f + 4 := by omega
  have hbl : ∀ x y : B, (H2 ++ [y, x])[f + 4]? = some x := fun x y => by
    rw [List.getElem?_append_right (by omega), a1]
    have : f + 4 - (f + 3) = 1 := by omega
    rw [this]; rfl
  refine W.use (back43 (hb := hbl _ _) kg got (f + 2) (f + 4) _ (fun i H' => At H' fun H' => Ext H H' ∧ H'[f + 1]? = some (.cells [.map f]) ∧ H'[f + 2]? = some (.cells [.sl kg (encVs got)]) ∧ H'[f + 3]? = some .dfr ∧ ∃ es, H'[f]? = some (.map (encK kW es)) ∧ Fetched got i es) rfl hgl ?_ ?_ ?_) ?_
  · refine .i ⟨a5.app _, ?_, ?_, g_tail a1.symm, [], ?_, fetched_end got⟩
    · rw [g_app (by omega)]; exact a3
    · rw [g_app (by omega)]; exact a4
    · rw [g_app (by omega)]; exact a2
  · rintro i H' ⟨_, _, h, _⟩; exact h
  · rintro i v H3 hv ⟨h1, h2, h3, h4, es, h5, h6⟩ hb
    have m4 := glt hb
    have m0 := glt h5
    have m1 := glt h2
    have m3 := glt h3
    have t4 : ¬ f + 4 = H3.length := by omega
    simp only [seval, S1, S2, setps, r6, encV]
    refine ⟨_, rfl, ?_, ?_⟩
    · rw [g_app m4]; exact hb
    simp only [seval, S1, S2, r6, m4, m0, m1, t4, n04, n14, n24, n34, n40, h2, h5, upmB_W]
    have lq : H.length ≤ f := by omega
    refine ⟨_, rfl, .i ⟨(((h1.set (by omega) _).set lq _).set (by omega) _).app _, ?_, ?_, ?_, _, ?_, fetched_put hv h6⟩⟩
    · simp only [S2, m4, m0, m1, n04, n14, n01, h2]
    · simp only [S2, m4, m0, m3, n04, n24, n02, h3]
    · have := glt h4; simp only [S2, m4, m0, this, n04, n34, n03, h4]
    · simp only [S2, m4, m0, n04]
  rintro o H3 ⟨⟨h1, h2, h3, h4, es, h5, h6⟩, hb⟩
  refine ⟨hb, ?_⟩
  have m4 := glt hb
  simp only [seval, S1, r0, r1, r6]
  refine callB_of _ _ _ _ _ _ _ _ (greatest25v _ _ l _ (vw_sl k l _) hs hf) ?_
  rintro u H4 ⟨hx4, b, hu, hbo, hbH⟩
  cases hu
  have p0 : H4[f]? = some (.map (encK kW es)) := hx4.get (by simp only [S2, n04, h5])
  have p1 : H4[f + 1]? = some (.cells [.map f]) := hx4.get (by simp only [S2, n14, h2])
  have p3 : H4[f + 3]? = some .dfr := hx4.get (by simp only [S2, n34, h4])
  have px : Ext H H4 := (h1.set (by omega) _).trans hx4
  simp only [seval, S1, r0, r1, r6]
  refine W.loopI (fun (i : Nat) R H' => At H' (fun H' => ∃ tw ql, mends (mendO l got) (l.take i) = some (ql.map (·.2)) ∧ R 9 = tw ∧ MV H' H4.length tw ql ∧ Ext H4 H') ∧ R 0 = .sl k (encVs l) ∧ R 1 = .sl kg (encVs got) ∧ R 6 = .ptr (f + 1) 0 ∧ R 31 = .msl b 0 l.length 1 ∧ R 32 = .int .i64 l.length ∧ R 33 = .int .i64 i ∧ R 71 = .tup [.ptr (f + 3) 0] ∧ i ≤ l.length) (fun i => l.length - i) 0 ?_ ?_
  · refine ⟨.i ⟨.sl .nil [], [], rfl, rfl, MV.nil _ _, Ext.rfl'⟩, ?_⟩
    simp only [seval, S1, r0, r1, r6]
    exact Nat.zero_le _
  rintro i R H5 ⟨⟨tw, ql, hout, g9, hmv, hx45⟩, g0, g1, g6, g31, g32, g33, g71, hi⟩
  have hx5 : Ext H H5 := px.trans hx45
  have c0 := hx45.get hbo
  have c1 := hx45.get p0
  have c2 := hx45.get p1
  have c3 := hx45.get p3
  by_cases hlt : i < l.length
  · obtain ⟨v, hv⟩ := getV hlt
    have hvm := List.mem_of_getElem? hv
    have wsi := wrap_succ (show i < 9223372036854775807 by omega)
    have hg := getG rfl hv
    have lb := glt c0
    have lf := glt c1
    have lf1 := glt c2
    have lf3 := glt c3
    by_cases hlg : v.id < gr l v.key
    · have nf5 : ¬ f + 1 = H5.length := by omega
      cases ho : mlook es (v.key, gr l v.key) with
      | none =>
        simp only [seval, S1, S2, g0, g1, g6, g31, g32, g33, hlt, natOf_nat, iad_m, c0, c1, c2, lb, lf, lf1, msU_get hg, iadV hv, encV, hlg, lkpB_W, ho]
        refine endR_r (b := f + 3) (by simp only [seval, S1, g71]) (by simp only [S2, lf3, c3]) ?_
        simp only [seval, S1]
        refine ⟨(hx5.app _).set (by omega) _, .sl .nil [], [], ?_, MV.nil _ _, ?_⟩
        all_goals have hno := mends_no (mendO l got) hvm (by simp [mendO, mendOne, hlg, fetched_no h6 ho])
        all_goals simp [mendL, mendE, hf, hno]
      | some t =>
      obtain ⟨p, w, hpw, rfl, hgo⟩ := fetched_yes h6 ho
      have hwm := List.mem_of_getElem? hpw
      simp only [seval, S1, S2, g0, g1, g6, g31, g32, g33, hlt, natOf_nat, iad_m, c0, c1, c2, lb, lf, lf1, msU_get hg, iadV hv, iadV hpw, encV, hlg, lkpB_W, ho]
      refine callB_of _ _ _ _ _ _ _ _ (clone33m w.kk w.keys _ (hng w hwm).1 (hng w hwm).2) ?_
      rintro t' H6 ⟨hx6, t0, hu, hm6⟩
      obtain rfl : t' = t0 := by cases hu; rfl
      clear hu
      have s0 : H6[H5.length]? = some (.cells (encV w)) := hx6.get (by simp only [S2, encV])
      have sl := glt s0
      have lo : ql.length ≤ 1024 := by
        have := mends_len _ hout
        simp at this; omega
      have hm6 : MuE H6 (H5.length + 1) t' (setK w .arg).keys := by
        have := hm6
        simp only [List.length_append, List.length_cons, List.length_nil, Nat.zero_add] at this
        exact this
      obtain ⟨t2, H', ha, hmv', hex⟩ := MV.snoc hmv hx45.len hx6 hm6 (.cells [T.str w.key, T.int .u64 w.id, T.str w.val, t']) (.cells [[T.str w.key, T.int .u64 w.id, T.str w.val, t']].flatten) lo
      simp only [encVT, setK] at ha
      have hcl : t'.cells? = some [t'] := by rcases hm6 with ⟨_, rfl | rfl⟩ | ⟨_, _, rfl, _⟩ <;> rfl
      have hel : elemsOf (H6.set H5.length (.cells [T.str w.key, T.int .u64 w.id, T.str w.val, t']) ++ [.cells [[T.str w.key, T.int .u64 w.id, T.str w.val, t']].flatten]) 4 (.msl H6.length 0 1 4) = some [[T.str w.key, T.int .u64 w.id, T.str w.val, t']] := el1 (H6.set H5.length (.cells [T.str w.key, T.int .u64 w.id, T.str w.val, t'])) H6.length (by simp) (T.str w.key) (T.int .u64 w.id) (T.str w.val) t'
      simp only [encV] at s0
      simp only [seval, S1, S2, g9, s0, sl, hcl, List.length_set, hel, ha, g33, wsi]
      refine ⟨i + 1, by omega, .i ⟨t2, ql ++ [(t', setK w .arg)], ?_, rfl, hmv', hex H4 (Nat.le_refl _) hx45⟩, ?_⟩
      · rw [take_snoc hv, List.map_append]
        exact mends_snoc _ hout (by simp [mendO, mendOne, hlg, hgo])
      · simp only [g0, g1, g6, g31, g32, g71, true_and]; omega
    · simp only [seval, S1, S2, g0, g1, g6, g31, g32, g33, hlt, natOf_nat, iad_m, c0, c1, c2, lb, lf, lf1, msU_get hg, iadV hv, encV, hlg]
      refine callB_of _ _ _ _ _ _ _ _ (clone33m v.kk v.keys _ (hn v hvm).1 (hn v hvm).2) ?_
      rintro t' H6 ⟨hx6, t0, hu, hm6⟩
      obtain rfl : t' = t0 := by cases hu; rfl
      clear hu
      have s0 : H6[H5.length]? = some (.cells (encV v)) := hx6.get (by simp only [S2, encV])
      have sl := glt s0
      have lo : ql.length ≤ 1024 := by
        have := mends_len _ hout
        simp at this; omega
      have hm6 : MuE H6 (H5.length + 1) t' (setK v .arg).keys := by
        have := hm6
        simp only [List.length_append, List.length_cons, List.length_nil, Nat.zero_add] at this
        exact this
      obtain ⟨t2, H', ha, hmv', hex⟩ := MV.snoc hmv hx45.len hx6 hm6 (.cells [T.str v.key, T.int .u64 v.id, T.str v.val, t']) (.cells [[T.str v.key, T.int .u64 v.id, T.str v.val, t']].flatten) lo
      simp only [encVT, setK] at ha
      have hcl : t'.cells? = some [t'] := by rcases hm6 with ⟨_, rfl | rfl⟩ | ⟨_, _, rfl, _⟩ <;> rfl
      have hel : elemsOf (H6.set H5.length (.cells [T.str v.key, T.int .u64 v.id, T.str v.val, t']) ++ [.cells [[T.str v.key, T.int .u64 v.id, T.str v.val, t']].flatten]) 4 (.msl H6.length 0 1 4) = some [[T.str v.key, T.int .u64 v.id, T.str v.val, t']] := el1 (H6.set H5.length (.cells [T.str v.key, T.int .u64 v.id, T.str v.val, t'])) H6.length (by simp) (T.str v.key) (T.int .u64 v.id) (T.str v.val) t'
      simp only [encV] at s0
      simp only [seval, S1, S2, g9, s0, sl, hcl, List.length_set, hel, ha, g33, wsi]
      refine ⟨i + 1, by omega, .i ⟨t2, ql ++ [(t', setK v .arg)], ?_, rfl, hmv', hex H4 (Nat.le_refl _) hx45⟩, ?_⟩
      · rw [take_snoc hv, List.map_append]
        exact mends_snoc _ hout (by simp [mendO, mendOne, hlg])
      · simp only [g0, g1, g6, g31, g32, g71, true_and]; omega
  · have hil : i = l.length := by omega
    subst hil
    rw [List.take_length] at hout
    simp only [seval, S1, g9, g32, g33, hlt]
    refine endR_r (b := f + 3) (by simp only [seval, S1, g71]) c3 ?_
    simp only [seval, S1, g9]
    refine ⟨hx5.set (by omega) _, tw, ql, by simp [mendE, hf, hout], ?_, by simp [mendL, hf, hout]⟩
    have l4 := hx4.len
    have := px.len
    have hk : MV (H5.set (f + 3) B.dead) H4.length tw ql := hmv.keep fun c x hc hx => by rw [g_ne (by have := glt p3; omega)]; exact hx
    exact ⟨by
      rcases hk.row with h | ⟨c, e1, e2, e3⟩
      · exact .inl h
      · exact .inr ⟨c, e1, e2, by omega⟩, fun q hq => ⟨(hk.fam q hq).1.keep (fun _ _ _ h => h) (by omega), (hk.fam q hq).2⟩, hk.dis⟩
end Go.Proofs.Ytobnjpgggocdlaa.Fx
end

section
namespace Go.Proofs.Ytobnjpgggocdlaa.Fx
open Go.Rmp Go.Proofs.Ytobnjpgggocdlaa.Ir
set_option maxRecDepth 10000
theorem msC_at {α : Type} {enc : α → List T} {n : Nat} (hn : ∀ x, (enc x).length = n) {xs : List α} {i j : Nat} {x : α} (hx : xs[i]? = some x) (hj : j < n) : (msC enc xs)[i * n + j]? = (enc x)[j]? := by
  have h := msC_get hn hx j 1 (by omega)
  have hle : i * n + j + 1 ≤ (msC enc xs).length := by
    rw [msC_len hn]
    have hi := (List.getElem?_eq_some_iff.1 hx).1
    have : (i + 1) * n ≤ xs.length * n := Nat.mul_le_mul_right n hi
    rw [Nat.add_mul] at this; omega
  have hj' : j < (enc x).length := by rw [hn]; exact hj
  simp only [ldcB, if_pos hle, Option.some.injEq] at h
  have e1 : (((msC enc xs).drop (i * n + j)).take 1)[0]? = (msC enc xs)[i * n + j]? := by simp
  have e2 : (((enc x).drop j).take 1)[0]? = (enc x)[j]? := by simp
  rw [← e1, ← e2, h]
theorem vw_flat {α : Type} {enc : α → List T} {n : Nat} (hn : ∀ x, (enc x).length = n) (h1 : ∀ x, ∀ t ∈ enc x, t.one = true) {H : Heap} {b : Nat} {xs ys : List α} (hb : H[b]? = some (.fz (msC enc (xs ++ ys)))) : Go.Rmp.Vw H (.msl b 0 xs.length n) (.sl .arg (xs.map enc)) := by
  have key : ∀ (i j : Nat) (c : List T) (t' : T), (xs.map enc)[i]? = some c → c[j]? = some t' → (msC enc (xs ++ ys))[0 + i * n + j]? = some t' ∧ t'.one = true := fun i j c t' hi hj => by
    rw [List.getElem?_map] at hi
    cases hx : xs[i]? with
    | none => rw [hx] at hi; cases hi
    | some x =>
      rw [hx] at hi; cases hi
      have hj' : j < n := by have := (List.getElem?_eq_some_iff.1 hj).1; rwa [hn] at this
      have hil := (List.getElem?_eq_some_iff.1 hx).1
      have hx2 : (xs ++ ys)[i]? = some x := by rw [List.getElem?_append_left hil]; exact hx
      rw [Nat.zero_add, msC_at hn hx2 hj']
      exact ⟨hj, h1 x t' (List.mem_of_getElem? hj)⟩
  refine .ms (cs := msC enc (xs ++ ys)) (fun i j => ((msC enc (xs ++ ys))[0 + i * n + j]?).getD .nilp) hb (by simp) (fun c hc => ?_) ?_ (fun i j c t' hi hj => ?_) (fun i j c t' hi hj => ?_)
  · obtain ⟨x, _, rfl⟩ := List.mem_map.1 hc; exact hn x
  · rw [msC_len hn, List.length_append, Nat.add_mul]; omega
  · obtain ⟨k1, k2⟩ := key i j c t' hi hj
    rw [k1]; exact ⟨rfl, k2⟩
  · obtain ⟨k1, _⟩ := key i j c t' hi hj
    rw [k1]; exact .refl _
def frzH (H : Heap) (bs : List Nat) : Heap := bs.foldl (fun (H : Heap) (b : Nat) => match H[b]? with | some (B.cells cs) => H.set b (B.fz cs) | _ => H) H
theorem KnB.fz {H : Heap} {az : List T} {b b0 : Nat} {cs0 : List T} (h : KnB H az b) (hb : H[b0]? = some (.cells cs0)) : KnB (H.set b0 (.fz cs0)) az b := by
  obtain ⟨i, b', off, len, n, h1, h2⟩ := h
  refine ⟨i, b', off, len, n, h1, ?_⟩
  rcases h2 with h2 | ⟨cs, j, off', len', n', h3, h4⟩
  · exact .inl h2
  · refine .inr ⟨cs, j, off', len', n', ?_, h4⟩
    by_cases e : b' = b0
    · subst e
      rw [hb] at h3
      rcases h3 with h3 | h3
      · cases h3; exact .inr (g_eq (glt hb))
      · cases h3
    · rw [List.getElem?_set_ne (fun h => e h.symm)]; exact h3
theorem frzW {E : Env} {f : Nat} {az : List T} {Q : Out → Heap → Prop} : ∀ (bs : List Nat) (H : Heap), (∀ b ∈ bs, KnB H az b) → W E (.call f az) (frzH H bs) Q → W E (.call f az) H Q
  | [], _, _, h => h
  | b :: bs, H, hk, h => by
    unfold frzH at h
    simp only [List.foldl_cons] at h
    split at h
    · rename_i cs hb
      exact .fza (hk b List.mem_cons_self) hb (frzW bs _ (fun b' hb' => KnB.fz (hk b' (List.mem_cons_of_mem _ hb')) hb) h)
    · exact frzW bs H (fun b' hb' => hk b' (List.mem_cons_of_mem _ hb')) h
theorem frzH_len : ∀ (bs : List Nat) (H : Heap), (frzH H bs).length = H.length
  | [], _ => rfl
  | b :: bs, H => by
    unfold frzH
    simp only [List.foldl_cons]
    split
    · rename_i cs _
      have := frzH_len bs (H.set b (B.fz cs)); unfold frzH at this; rw [this]; simp
    · exact frzH_len bs H
theorem frzH_no : ∀ (bs : List Nat) (H : Heap) (b : Nat), b ∉ bs → (frzH H bs)[b]? = H[b]?
  | [], _, _, _ => rfl
  | c :: bs, H, b, h => by
    have h1 : b ≠ c := fun e => h (by rw [e]; exact List.mem_cons_self)
    have h2 : b ∉ bs := fun e => h (List.mem_cons_of_mem _ e)
    unfold frzH
    simp only [List.foldl_cons]
    split
    · rename_i cs _
      have := frzH_no bs (H.set c (B.fz cs)) b h2
      unfold frzH at this; rw [this, List.getElem?_set_ne (fun e => h1 e.symm)]
    · exact frzH_no bs H b h2
theorem frzH_at : ∀ (bs : List Nat) (H : Heap) (b : Nat) (cs : List T), b ∈ bs → H[b]? = some (.cells cs) → (frzH H bs)[b]? = some (.fz cs)
  | c :: bs, H, b, cs, hm, hb => by
    unfold frzH
    simp only [List.foldl_cons]
    by_cases e : b = c
    · subst e
      rw [hb]
      simp only
      by_cases hm2 : b ∈ bs
      · have key : ∀ (l : List Nat) (H : Heap), H[b]? = some (.fz cs) → (l.foldl (fun (H : Heap) (b : Nat) => match H[b]? with | some (B.cells cs) => H.set b (B.fz cs) | _ => H) H)[b]? = some (.fz cs) := by
          intro l
          induction l with
          | nil => exact fun _ h => h
          | cons d l ih =>
            intro H h
            simp only [List.foldl_cons]
            refine ih _ ?_
            split
            · rename_i hd
              rw [List.getElem?_set_ne (by rintro rfl; rw [h] at hd; cases hd)]; exact h
            · exact h
        exact key bs _ (g_eq (glt hb))
      · have := frzH_no bs (H.set b (.fz cs)) b hm2
        unfold frzH at this; rw [this]; exact g_eq (glt hb)
    · have hm2 : b ∈ bs := (List.mem_cons.1 hm).resolve_left e
      split
      · exact frzH_at bs _ b cs hm2 (by rw [List.getElem?_set_ne (fun h => e h.symm)]; exact hb)
      · exact frzH_at bs H b cs hm2 hb
theorem vw1 {E : Env} {f : Nat} {t t' : T} {rest : List T} {H : Heap} {Q : Out → Heap → Prop} (hv : Go.Rmp.Vw H t t') (h : W E (.call f (t' :: rest)) H Q) : W E (.call f (t :: rest)) H Q :=
  .vw (aq' := t' :: rest) rfl (fun i a b ha hb => by
    cases i with
    | zero => cases ha; cases hb; exact hv
    | succ i =>
      simp only [List.getElem?_cons_succ] at ha hb
      rw [ha] at hb; cases hb; exact .refl _) h
theorem vw2 {E : Env} {f : Nat} {t t' u u' : T} {H : Heap} {Q : Out → Heap → Prop} (hv : Go.Rmp.Vw H t t') (hw : Go.Rmp.Vw H u u') (h : W E (.call f [t', u']) H Q) : W E (.call f [t, u]) H Q :=
  .vw (aq' := [t', u']) rfl (fun i a b ha hb => by
    match i with
    | 0 => cases ha; cases hb; exact hv
    | 1 => cases ha; cases hb; exact hw
    | i + 2 => simp at ha) h
def KF (H : Heap) (kt : T) (keys : List ByteArray) : Prop := (keys = [] ∧ (kt = .sl .nil [] ∨ kt = .sl .full [])) ∨ ∃ c ys, kt = .msl c 0 keys.length 1 ∧ H[c]? = some (.fz (msC eS (keys ++ ys)))
def KC (H : Heap) (kt : T) (keys : List ByteArray) : Prop := (keys = [] ∧ (kt = .sl .nil [] ∨ kt = .sl .full [])) ∨ ∃ c ys, kt = .msl c 0 keys.length 1 ∧ H[c]? = some (.cells (msC eS (keys ++ ys)))
def kOf : T → SK
  | .sl k _ => k
  | _ => .arg
def val (q : T × Ver) : Ver := setK q.2 (kOf q.1)
structure FV (H : Heap) (t : T) (ql : List (T × Ver)) : Prop where
  row : ∃ b xs, t = .msl b 0 ql.length 4 ∧ H[b]? = some (.fz (msC encVT (ql ++ xs)))
  fam : ∀ q ∈ ql, KF H q.1 q.2.keys
structure CV (H : Heap) (t : T) (ql : List (T × Ver)) : Prop where
  row : ∃ b xs, t = .msl b 0 ql.length 4 ∧ H[b]? = some (.cells (msC encVT (ql ++ xs)))
  fam : ∀ q ∈ ql, KC H q.1 q.2.keys
theorem KF.ext {H H' : Heap} {kt : T} {keys : List ByteArray} (h : KF H kt keys) (hx : Ext H H') : KF H' kt keys := by
  rcases h with h | ⟨c, ys, h1, h2⟩
  · exact .inl h
  · exact .inr ⟨c, ys, h1, hx.get h2⟩
theorem FV.ext {H H' : Heap} {t : T} {ql : List (T × Ver)} (h : FV H t ql) (hx : Ext H H') : FV H' t ql := by
  obtain ⟨b, xs, h1, h2⟩ := h.row
  exact ⟨⟨b, xs, h1, hx.get h2⟩, fun q hq => (h.fam q hq).ext hx⟩
theorem one_eS : ∀ x : ByteArray, ∀ t ∈ eS x, t.one = true := fun x t ht => by rw [List.mem_singleton.1 ht]; rfl
theorem KF.vw {H : Heap} {kt : T} {keys : List ByteArray} (h : KF H kt keys) : Go.Rmp.Vw H kt (.sl (kOf kt) (encS keys)) := by
  rcases h with ⟨rfl, rfl | rfl⟩ | ⟨c, ys, rfl, h2⟩
  · exact .refl _
  · exact .refl _
  · exact vw_flat (enc := eS) (n := 1) (fun _ => rfl) one_eS h2
theorem FV.vw {H : Heap} {t : T} {ql : List (T × Ver)} (h : FV H t ql) : Go.Rmp.Vw H t (.sl .arg (encVs (ql.map val))) := by
  obtain ⟨b, xs, rfl, hb⟩ := h.row
  refine .ms (cs := msC encVT (ql ++ xs)) (fun i j => ((msC encVT (ql ++ xs))[i * 4 + j]?).getD .nilp) hb (by simp [encVs]) (fun c hc => ?_) (by rw [msC_len encVT_len, List.length_append, Nat.add_mul]; omega) (fun i j c t' hi hj => ?_) (fun i j c t' hi hj => ?_)
  · obtain ⟨x, _, rfl⟩ := List.mem_map.1 hc; rfl
  all_goals
    unfold encVs at hi
    rw [List.getElem?_map, List.getElem?_map] at hi
    cases hq : ql[i]? with
    | none => rw [hq] at hi; cases hi
    | some q =>
      rw [hq] at hi
      simp only [Option.map_some, Option.some.injEq] at hi
      subst hi
      have hj4 : j < 4 := (List.getElem?_eq_some_iff.1 hj).1
      have hil := (List.getElem?_eq_some_iff.1 hq).1
      have hq2 : (ql ++ xs)[i]? = some q := by rw [List.getElem?_append_left hil]; exact hq
      have hat := msC_at (enc := encVT) (n := 4) encVT_len hq2 hj4
      simp only [Nat.zero_add, hat]
      match j, hj4 with
      | 0, _ => cases hj; first | exact ⟨rfl, rfl⟩ | exact .refl _
      | 1, _ => cases hj; first | exact ⟨rfl, rfl⟩ | exact .refl _
      | 2, _ => cases hj; first | exact ⟨rfl, rfl⟩ | exact .refl _
      | 3, _ =>
        cases hj
        first
        | exact ⟨rfl, rfl⟩
        | exact (h.fam q (List.mem_of_getElem? hq)).vw
def bks (t : T) (ql : List (T × Ver)) : List Nat := (t :: ql.map (·.1)).filterMap tbk
theorem mem_bks {t : T} {ql : List (T × Ver)} {b : Nat} (h : b ∈ bks t ql) : tbk t = some b ∨ ∃ q ∈ ql, tbk q.1 = some b := by
  obtain ⟨x, hx, hb⟩ := List.mem_filterMap.1 h
  rcases List.mem_cons.1 hx with rfl | hx
  · exact .inl hb
  · obtain ⟨q, hq, rfl⟩ := List.mem_map.1 hx; exact .inr ⟨q, hq, hb⟩
theorem bks_t {t : T} {ql : List (T × Ver)} {b : Nat} (h : tbk t = some b) : b ∈ bks t ql := List.mem_filterMap.2 ⟨t, List.mem_cons_self, h⟩
theorem bks_q {t : T} {ql : List (T × Ver)} {q : T × Ver} (hq : q ∈ ql) {b : Nat} (h : tbk q.1 = some b) : b ∈ bks t ql := List.mem_filterMap.2 ⟨q.1, List.mem_cons_of_mem _ (List.mem_map_of_mem hq), h⟩
theorem CV.frz {H : Heap} {t : T} {ql : List (T × Ver)} (h : CV H t ql) (bs : List Nat) (hbs : ∀ b ∈ bks t ql, b ∈ bs) : FV (frzH H bs) t ql := by
  obtain ⟨b, xs, rfl, hb⟩ := h.row
  refine ⟨⟨b, xs, rfl, frzH_at bs H b _ (hbs b (bks_t rfl)) hb⟩, fun q hq => ?_⟩
  rcases h.fam q hq with h1 | ⟨c, ys, h1, h2⟩
  · exact .inl h1
  · exact .inr ⟨c, ys, h1, frzH_at bs H c _ (hbs c (bks_q hq (by rw [h1]; rfl))) h2⟩
theorem CV.kn {H : Heap} {t : T} {ql : List (T × Ver)} (h : CV H t ql) {az : List T} {i : Nat} (hi : az[i]? = some t) {b : Nat} (hb : b ∈ bks t ql) : KnB H az b := by
  obtain ⟨c, xs, rfl, hc⟩ := h.row
  rcases mem_bks hb with h1 | ⟨q, hq, h1⟩
  · cases h1; exact ⟨i, b, 0, ql.length, 4, hi, .inl rfl⟩
  · obtain ⟨j, hj, hqj⟩ := List.getElem_of_mem hq
    have hq2 : (ql ++ xs)[j]? = some q := by rw [List.getElem?_append_left hj, List.getElem?_eq_getElem hj, hqj]
    have hcell := msC_at (enc := encVT) (n := 4) encVT_len hq2 (j := 3) (by decide)
    rcases h.fam q hq with ⟨_, e | e⟩ | ⟨d, ys, e, _⟩
    · rw [e] at h1; cases h1
    · rw [e] at h1; cases h1
    · rw [e] at h1; cases h1
      refine ⟨i, c, 0, ql.length, 4, hi, .inr ⟨_, j * 4 + 3, 0, q.2.keys.length, 1, .inl hc, ?_⟩⟩
      rw [hcell, ← e]; rfl
theorem MuE.kc {H : Heap} {n0 : Nat} {t : T} {l : List ByteArray} (h : MuE H n0 t l) : KC H t l := by
  rcases h with h | ⟨_, b, h1, h2, _⟩
  · exact .inl h
  · exact .inr ⟨b, [], h1, by rw [List.append_nil]; exact h2⟩
theorem MV.cv {H : Heap} {n0 : Nat} {t : T} {ql : List (T × Ver)} (h : MV H n0 t ql) (hne : ql ≠ []) : CV H t ql := by
  refine ⟨?_, fun q hq => (h.fam q hq).1.kc⟩
  rcases h.row with ⟨h0, _⟩ | ⟨b, h1, h2, _⟩
  · exact absurd h0 hne
  · exact ⟨b, [], h1, by rw [List.append_nil]; exact h2⟩
def RK (H : Heap) (kt : T) (keys : List ByteArray) : Prop := lenT H .sl kt = some keys.length ∧ ∀ (j : Nat) (s : ByteArray), keys[j]? = some s → ∃ a, iadT 1 j kt = some a ∧ ldc H 1 a = some [.str s]
structure RV (H : Heap) (t : T) (l : List Ver) : Prop where
  len : lenT H .sl t = some l.length
  rd : ∀ (i : Nat) (v : Ver), l[i]? = some v → ∃ a a0 a1 a2 a3 kt, iadT 4 i t = some a ∧ fadT 0 a = some a0 ∧ fadT 1 a = some a1 ∧ fadT 2 a = some a2 ∧ fadT 3 a = some a3 ∧ ldc H 1 a0 = some [.str v.key] ∧ ldc H 1 a1 = some [.int .u64 v.id] ∧ ldc H 1 a2 = some [.str v.val] ∧ ldc H 1 a3 = some [kt] ∧ RK H kt v.keys
theorem rk_sl (H : Heap) (k : SK) (l : List ByteArray) : RK H (.sl k (encS l)) l := ⟨by simp [lenT, encS_len], fun j s hs => ⟨_, iadS hs, by simp [ldc]⟩⟩
theorem rv_sl (H : Heap) (k : SK) (l : List Ver) : RV H (.sl k (encVs l)) l := ⟨by simp [lenT, encVs_len], fun i v hv => ⟨_, _, _, .iptr [.str v.val, .sl v.kk (encS v.keys)], _, _, iadV hv, fadV0 v, fadV1 v, rfl, fadV3 v, by simp [ldc], by simp [ldc], by simp [ldc], by simp [ldc], rk_sl H v.kk v.keys⟩⟩
theorem rk_msl {H : Heap} {b : Nat} {keys ys : List ByteArray} (hb : ∀ n off, ldcB n off H[b]? = ldcB n off (some (.cells (msC eS (keys ++ ys))))) : RK H (.msl b 0 keys.length 1) keys := ⟨rfl, fun j s hs => by
  have hlt := (List.getElem?_eq_some_iff.1 hs).1
  refine ⟨.ptr b (0 + j * 1), by rw [iad_m]; simp [hlt], ?_⟩
  rw [ldc_ptr, hb]
  have hs2 : (keys ++ ys)[j]? = some s := by rw [List.getElem?_append_left hlt]; exact hs
  have := msC_get (enc := eS) (n := 1) (fun _ => rfl) hs2 0 1 (by decide)
  simpa using this⟩
theorem rv_msl {H : Heap} {b : Nat} {ql xs : List (T × Ver)} (hb : ∀ n off, ldcB n off H[b]? = ldcB n off (some (.cells (msC encVT (ql ++ xs))))) (hk : ∀ q ∈ ql, RK H q.1 q.2.keys) : RV H (.msl b 0 ql.length 4) (ql.map (·.2)) := by
  refine ⟨by simp [lenT], fun i v hv => ?_⟩
  rw [List.getElem?_map] at hv
  cases hq : ql[i]? with
  | none => rw [hq] at hv; cases hv
  | some q =>
    rw [hq] at hv
    simp only [Option.map_some, Option.some.injEq] at hv
    subst hv
    have hlt := (List.getElem?_eq_some_iff.1 hq).1
    have hq2 : (ql ++ xs)[i]? = some q := by rw [List.getElem?_append_left hlt]; exact hq
    have g := fun j (hj : j + 1 ≤ 4) => msC_get (enc := encVT) (n := 4) encVT_len hq2 j 1 hj
    refine ⟨.ptr b (0 + i * 4), .ptr b (0 + i * 4 + 0), .ptr b (0 + i * 4 + 1), .ptr b (0 + i * 4 + 2), .ptr b (0 + i * 4 + 3), q.1, by rw [iad_m]; simp [hlt], rfl, rfl, rfl, rfl, ?_, ?_, ?_, ?_, hk q (List.mem_of_getElem? hq)⟩
    all_goals (rw [ldc_ptr, hb, Nat.zero_add])
    · exact g 0 (by decide)
    · exact g 1 (by decide)
    · exact g 2 (by decide)
    · exact g 3 (by decide)
theorem rk_nil {H : Heap} {kt : T} (h : kt = .sl .nil [] ∨ kt = .sl .full []) : RK H kt [] := by
  rcases h with rfl | rfl <;> exact ⟨rfl, fun j s hs => by simp at hs⟩
theorem FV.rv {H : Heap} {t : T} {ql : List (T × Ver)} (h : FV H t ql) : RV H t (ql.map (·.2)) := by
  obtain ⟨b, xs, rfl, hb⟩ := h.row
  refine rv_msl (xs := xs) (fun n off => by rw [hb]; rfl) fun q hq => ?_
  rcases h.fam q hq with ⟨h1, h2⟩ | ⟨c, ys, h1, h2⟩
  · rw [h1]; exact rk_nil h2
  · rw [h1]; exact rk_msl (ys := ys) fun n off => by rw [h2]; rfl
theorem MV.rv {H : Heap} {n0 : Nat} {t : T} {ql : List (T × Ver)} (h : MV H n0 t ql) : RV H t (ql.map (·.2)) := by
  rcases h.row with ⟨rfl, rfl⟩ | ⟨b, rfl, hb, _⟩
  · exact ⟨rfl, fun i v hv => by simp at hv⟩
  · refine rv_msl (xs := []) (fun n off => by rw [hb, List.append_nil]) fun q hq => ?_
    rcases (h.fam q hq).1 with ⟨h1, h2⟩ | ⟨_, c, h1, h2, _⟩
    · rw [h1]; exact rk_nil h2
    · rw [h1]; exact rk_msl (ys := []) fun n off => by rw [h2, List.append_nil]
end Go.Proofs.Ytobnjpgggocdlaa.Fx
end

section
namespace Go.Proofs.Ytobnjpgggocdlaa.Fx
open Go.Rmp Go.Proofs.Ytobnjpgggocdlaa.Ir
set_option maxRecDepth 10000
def core (v : Ver) : ByteArray × Nat × ByteArray × List ByteArray := (v.key, v.id, v.val, v.keys)
def Same (a b : List Ver) : Prop := a.map core = b.map core
theorem core_eq {u v : Ver} : core u = core v ↔ u.key = v.key ∧ u.id = v.id ∧ u.val = v.val ∧ u.keys = v.keys := by simp [core]
open Classical in
noncomputable def sameB (a b : List Ver) : Bool := decide (Same a b)
theorem same_t {a b : List Ver} (h : Same a b) : sameB a b = true := by simp [sameB, h]
theorem same_f {a b : List Ver} (h : ¬ Same a b) : sameB a b = false := by simp [sameB, h]
theorem getP {α : Type} {l : List α} {i : Nat} (h : i < l.length) : ∃ x, l[i]? = some x := ⟨l[i], List.getElem?_eq_getElem h⟩
theorem eq36v {t t' : T} {a b : List ByteArray} {H : Heap} (va : RK H t a) (vb : RK H t' b) (hl : a.length < 9223372036854775807) : W env (.call 36 [t, t']) H (Ret (.bool (decide (a = b))) H) := by
  refine W.fnI rfl rfl rfl ?_
  have l1 := va.1
  have l2 := vb.1
  by_cases hab : a.length = b.length
  · simp only [ir36, seval, S1, l1, l2, hab]
    refine W.loopV [(0, _), (1, _)] (fun (i : Nat) R H' => H' = H ∧ R 5 = .int .i64 i ∧ i ≤ a.length ∧ ∀ j, j < i → a[j]? = b[j]?) (fun i => a.length - i) 0 ⟨rfl, rfl, Nat.zero_le _, fun j h => by omega⟩ ?_
    rintro i R H1 ⟨rfl, h5, hi, he⟩
    by_cases hlt : i < a.length
    · obtain ⟨x, hx⟩ := getP (l := a) hlt
      obtain ⟨y, hy⟩ := getP (l := b) (i := i) (by omega)
      have ws := wrap_succ (show i < 9223372036854775807 by omega)
      obtain ⟨p1, ix, lx⟩ := va.2 i x hx
      obtain ⟨p2, iy, ly⟩ := vb.2 i y hy
      by_cases hxy : x = y
      · subst hxy
        simp only [mkR_nil, mkR_cons, seval, S1, h5, l1, hlt, natOf_nat, ix, iy, lx, ly, ws]
        refine ⟨i + 1, by omega, rfl, by omega, fun j hj => ?_⟩
        by_cases e : j = i
        · subst e; rw [hx, hy]
        · exact he j (by omega)
      · have hne : a ≠ b := by rintro rfl; rw [hx] at hy; cases hy; exact hxy rfl
        simp only [mkR_nil, mkR_cons, seval, S1, h5, l1, hlt, natOf_nat, ix, iy, lx, ly, hxy, hne]
    · have : a = b := List.ext_getElem? fun j => by
        by_cases hj : j < a.length
        · exact he j (by omega)
        · rw [List.getElem?_eq_none (by omega), List.getElem?_eq_none (by omega)]
      subst this
      simp only [mkR_nil, mkR_cons, seval, S1, h5, l1, hlt]
  · have hne : a ≠ b := by rintro rfl; exact hab rfl
    simp only [ir36, seval, S1, l1, l2, hab, hne]
theorem same18v {t t' : T} {a b : List Ver} {H : Heap} (va : RV H t a) (vb : RV H t' b) (ha : a.length < 4611686018427387903) (hk : ∀ v ∈ a, v.keys.length < 4611686018427387903) : W env (.call 18 [t, t']) H (Ret (.bool (sameB a b)) H) := by
  refine W.fnI rfl rfl rfl ?_
  have l1 := va.len
  have l2 := vb.len
  by_cases hab : a.length = b.length
  · simp only [ir18, seval, S1, l1, l2, hab]
    refine W.loopV [(0, _), (1, _)] (fun (i : Nat) R H' => H' = H ∧ R 5 = .int .i64 i ∧ i ≤ a.length ∧ ∀ (p : Nat) u v, p < i → a[p]? = some u → b[p]? = some v → core u = core v) (fun i => a.length - i) 0 ⟨rfl, rfl, Nat.zero_le _, fun p u v h => by omega⟩ ?_
    rintro i R _ ⟨rfl, h5, hi, hg⟩
    by_cases hlt : i < a.length
    · obtain ⟨u, hu⟩ := getV hlt
      obtain ⟨v, hv⟩ := getV (l := b) (i := i) (by omega)
      have wsi := wrap_succ (show i < 9223372036854775807 by omega)
      obtain ⟨x, x0, x1, x2, x3, kx, ix, f0, f1, f2, f3, e0, e1, e2, e3, rx⟩ := va.rd i u hu
      obtain ⟨y, y0, y1, y2, y3, ky, iy, g0, g1, g2, g3, d0, d1, d2, d3, ry⟩ := vb.rd i v hv
      have bad : core u ≠ core v → ¬ Same a b := fun hne hs => hne (by
        have : (a.map core)[i]? = (b.map core)[i]? := by rw [hs]
        simpa [hu, hv] using this)
      by_cases c1 : u.key = v.key
      · by_cases c2 : u.id = v.id
        · by_cases c3 : u.val = v.val
          · simp only [mkR_nil, mkR_cons, seval, S1, h5, l1, hlt, natOf_nat, ix, f0, f1, f2, f3, e0, e1, e2, e3, iy, g0, g1, g2, g3, d0, d1, d2, d3, c1, c2, c3]
            refine callB_of _ _ _ _ _ _ _ _ (eq36v rx ry (by have := hk u (List.mem_of_getElem? hu); omega)) ?_
            rintro w H4 ⟨hw, rfl⟩
            cases hw
            by_cases c4 : u.keys = v.keys
            · simp only [mkR_nil, mkR_cons, seval, S1, h5, c4, wsi]
              refine ⟨i + 1, by omega, rfl, by omega, fun p x y hp hx hy => ?_⟩
              by_cases e : p = i
              · subst e; rw [hu] at hx; rw [hv] at hy; cases hx; cases hy; exact core_eq.2 ⟨c1, c2, c3, c4⟩
              · exact hg p x y (by omega) hx hy
            · have hb := bad (by rw [ne_eq, core_eq]; simp [c4])
              simp only [mkR_nil, mkR_cons, seval, S1, c4, same_f hb]
          · have hb := bad (by rw [ne_eq, core_eq]; simp [c3])
            simp only [mkR_nil, mkR_cons, seval, S1, h5, l1, hlt, natOf_nat, ix, f0, f1, f2, f3, e0, e1, e2, e3, iy, g0, g1, g2, g3, d0, d1, d2, d3, c1, c2, c3, same_f hb]
        · have hb := bad (by rw [ne_eq, core_eq]; simp [c2])
          simp only [mkR_nil, mkR_cons, seval, S1, h5, l1, hlt, natOf_nat, ix, f0, f1, f2, f3, e0, e1, e2, e3, iy, g0, g1, g2, g3, d0, d1, d2, d3, c1, c2, same_f hb]
      · have hb := bad (by rw [ne_eq, core_eq]; simp [c1])
        simp only [mkR_nil, mkR_cons, seval, S1, h5, l1, hlt, natOf_nat, ix, f0, f1, f2, f3, e0, e1, e2, e3, iy, g0, g1, g2, g3, d0, d1, d2, d3, c1, same_f hb]
    · have hb : Same a b := List.ext_getElem? fun p => by
        by_cases hp : p < a.length
        · obtain ⟨u, hu⟩ := getV hp
          obtain ⟨v, hv⟩ := getV (l := b) (i := p) (by omega)
          simp [hu, hv, hg p u v (by omega) hu hv]
        · rw [List.getElem?_eq_none (by simp; omega), List.getElem?_eq_none (by simp; omega)]
      simp only [mkR_nil, mkR_cons, seval, S1, h5, l1, hlt, same_t hb]
  · have hb : ¬ Same a b := fun h => hab (by have := congrArg List.length h; simpa using this)
    simp only [ir18, seval, S1, l1, l2, hab, same_f hb]
theorem map_of {α : Type} {P : α → Prop} (enc : α → List T) (es : List (List T)) (h : ∀ c ∈ es, ∃ x, c = enc x ∧ P x) : ∃ l : List α, es = l.map enc ∧ ∀ x ∈ l, P x := by
  induction es with
  | nil => exact ⟨[], rfl, by simp⟩
  | cons c es ih =>
    obtain ⟨l, rfl, hl⟩ := ih (fun c hc => h c (List.mem_cons_of_mem _ hc))
    obtain ⟨x, rfl, hx⟩ := h _ List.mem_cons_self
    exact ⟨x :: l, rfl, fun y hy => by rcases List.mem_cons.1 hy with rfl | hy; exact hx; exact hl y hy⟩
end Go.Proofs.Ytobnjpgggocdlaa.Fx
end

section
namespace Go.Proofs.Ytobnjpgggocdlaa.Fx
open Go.Rmp Go.Proofs.Ytobnjpgggocdlaa.Ir
set_option maxRecDepth 10000
theorem wants_nil (l : List Ver) : wants l = [] ↔ ∀ u ∈ l, ∀ v ∈ l, memB v.keys u.key = true → v.id ≤ u.id := by
  unfold wants wants'
  simp only [List.map_eq_nil_iff, List.filter_eq_nil_iff, decide_eq_true_eq]
  constructor
  · intro h u hu v hv hm; have := h u hu; have := gr_ge hv hm; omega
  · intro h u hu hc
    rcases gr_is l u.key with h0 | ⟨v, hv, hm, he⟩
    · omega
    · have := h u hu v hv hm; omega
theorem version27 (s : ByteArray) (n : Nat) (k : SK) (l : List ByteArray) (H : Heap) : W env (.call 27 [.str s, .int .u64 n, .sl k (encS l)]) H (RetG (.agg (encV ⟨s, n, if n = 0 then ⟨#[]⟩ else ⟨#[118]⟩, k, l⟩)) H) := by
  refine W.fnI rfl rfl rfl ?_
  have q1 : H.length < H.length + 1 := by omega
  by_cases h : n = 0
  · simp only [ir27, seval, S1, S2, S3, q1, h, encV]
    exact ⟨rfl, (Ext.rfl'.app _).app _⟩
  · simp only [ir27, seval, S1, S2, S3, q1, h, encV]
    exact ⟨rfl, (Ext.rfl'.app _).app _⟩
def tA : ByteArray := ⟨#[97]⟩
def tB : ByteArray := ⟨#[98]⟩
def tC : ByteArray := ⟨#[99]⟩
def v1 : Ver := ⟨tA, 65536, ⟨#[118]⟩, .arg, [tA, tB]⟩
def v2 : Ver := ⟨tB, 131072, ⟨#[118]⟩, .arg, [tB, tC]⟩
def v3 : Ver := ⟨tC, 0, ⟨#[]⟩, .arg, []⟩
def v4 : Ver := ⟨tC, 131072, ⟨#[118]⟩, .arg, [tB, tC]⟩
theorem ab : strLt tA tB = true := by simp [strLt, tA, tB, Go.ByteArray.toList_eq, Op.bytesLess]
theorem bc : strLt tB tC = true := by simp [strLt, tB, tC, Go.ByteArray.toList_eq, Op.bytesLess]
theorem nab : tA ≠ tB := by simp [tA, tB]
theorem nac : tA ≠ tC := by simp [tA, tC]
theorem nbc : tB ≠ tC := by simp [tB, tC]
theorem f_iff (l : List Ver) : Formed l ↔ 1 ≤ l.length ∧ l.length ≤ 1024 ∧ (∀ v ∈ l, may v = true) ∧ ∀ i k : Nat, ∀ u v, k < i → l[k]? = some u → l[i]? = some v → ok2 u v = true := by
  constructor
  · rintro ⟨h1, h2, h3⟩
    refine ⟨h1, h2, fun v hv => ?_, fun i k u v hki hu hv => ((h3 i (List.getElem?_eq_some_iff.1 hv).1) v hv).2 k u hki hu⟩
    obtain ⟨i, hi, e⟩ := List.getElem_of_mem hv
    exact ((h3 i hi) v (by rw [List.getElem?_eq_getElem hi, e])).1
  · rintro ⟨h1, h2, h3, h4⟩
    exact ⟨h1, h2, fun i hi v hv => ⟨h3 v (List.mem_of_getElem? hv), fun k u hk hu => h4 i k u v hk hu hv⟩⟩
theorem m1 : may v1 = true := by simp [may, v1, rises, ab, memB]
theorem m2 : may v2 = true := by simp [may, v2, rises, bc, memB]
theorem m3 : may v3 = true := by simp [may, v3]
theorem m4 : may v4 = true := by simp [may, v4, rises, bc, memB]
theorem f3 (x y z : Ver) (hx : may x = true) (hy : may y = true) (hz : may z = true) (h1 : ok2 x y = true) (h2 : ok2 x z = true) (h3 : ok2 y z = true) : Formed [x, y, z] := by
  rw [f_iff]
  refine ⟨by simp, by simp, by simp [hx, hy, hz], fun i k u v hki hu hv => ?_⟩
  match i, k, hki with
  | 0, k, h => omega
  | 1, 0, _ => simp at hu hv; subst hu; subst hv; exact h1
  | 2, 0, _ => simp at hu hv; subst hu; subst hv; exact h2
  | 2, 1, _ => simp at hu hv; subst hu; subst hv; exact h3
  | n + 3, _, _ => simp at hv
def kL : List Ver := [v1, v2, v3]
def kM : List Ver := [v1, v2, v4]
theorem fL : Formed kL := f3 _ _ _ m1 m2 m3 (by simp [ok2, v1, v2, nab]) (by simp [ok2, v1, v3, nac]) (by simp [ok2, v2, v3, nbc])
theorem fM : Formed kM := f3 _ _ _ m1 m2 m4 (by simp [ok2, v1, v2, nab]) (by simp [ok2, v1, v4, nac]) (by simp [ok2, v2, v4, nbc])
theorem f0 : ¬ Formed [] := fun h => by have := h.1; simp at this
theorem grA : gr kL tA = 65536 := by simp [gr, kL, v1, v2, v3, memB, nab, nac, nbc, nab.symm, nac.symm, nbc.symm]
theorem grB : gr kL tB = 131072 := by simp [gr, kL, v1, v2, v3, memB, nab, nac, nbc, nab.symm, nac.symm, nbc.symm]
theorem grC : gr kL tC = 131072 := by simp [gr, kL, v1, v2, v3, memB, nab, nac, nbc, nab.symm, nac.symm, nbc.symm]
theorem wL : wants kL = [(tC, 131072)] := by
  unfold wants wants'
  have a := grA; have b := grB; have c := grC
  simp only [kL, v1, v2, v3] at a b c ⊢
  simp [List.filter_cons, a, b, c]
theorem wM : wants kM = [] := by
  rw [wants_nil]
  simp [kM, v1, v2, v4, memB, nab, nac, nbc, nab.symm, nac.symm, nbc.symm]
theorem needsL : needs kL = [(tC, 131072)] := by rw [needs, if_pos fL, wL]
theorem needsEL : needsE kL = 0 := by rw [needsE, if_pos fL]
theorem o1 (got : List Ver) : mendO kL got v1 = some v1 := by
  have a := grA
  simp [mendO, mendOne, v1, setK, a]
theorem o2 (got : List Ver) : mendO kL got v2 = some v2 := by
  have a := grB
  simp [mendO, mendOne, v2, setK, a]
theorem o3 (got : List Ver) : mendO kL got v3 = (gotOf got tC 131072).map (setK · .arg) := by
  have a := grC
  simp [mendO, mendOne, v3, a]
theorem ml4 : mendL kL [v4] = kM ∧ mendE kL [v4] = 0 := by
  have : mends (mendO kL [v4]) kL = some kM := by
    show mends (mendO kL [v4]) [v1, v2, v3] = _
    simp [mends, o1, o2, o3, gotOf, v4, setK, kM]
  simp [mendL, mendE, fL, this]
theorem ml0 : mendL kL [] = [] ∧ mendE kL [] = 110 := by
  have : mends (mendO kL []) kL = Option.none := by
    show mends (mendO kL []) [v1, v2, v3] = _
    simp [mends, o1, o2, o3, gotOf]
  simp [mendL, mendE, fL, this]
theorem cutL : cutB kL = false := by simp [cutB, wL]
theorem cutM : cutB kM = true := by simp [cutB, wM, formed_t fM]
theorem sL : Small kL := ⟨by simp [kL], by simp [kL, v1, v2, v3]⟩
theorem sM : Small kM := ⟨by simp [kM], by simp [kM, v1, v2, v4]⟩
theorem nL : NilOk kL := by simp [NilOk, kL, v1, v2, v3, KOk]
theorem n4 : NilOk [v4] := by simp [NilOk, v4, KOk]
theorem ev1 (k : SK) : encV ⟨⟨#[97]⟩, 65536, if (65536 : Nat) = 0 then ⟨#[]⟩ else ⟨#[118]⟩, k, [⟨#[97]⟩, ⟨#[98]⟩]⟩ = encV (setK v1 k) := rfl
theorem ev2 (k : SK) : encV ⟨⟨#[98]⟩, 131072, if (131072 : Nat) = 0 then ⟨#[]⟩ else ⟨#[118]⟩, k, [⟨#[98]⟩, ⟨#[99]⟩]⟩ = encV (setK v2 k) := rfl
theorem ev3 (k : SK) : encV ⟨⟨#[99]⟩, 0, if (0 : Nat) = 0 then ⟨#[]⟩ else ⟨#[118]⟩, k, []⟩ = encV (setK v3 k) := rfl
theorem ev4 (k : SK) : encV ⟨⟨#[99]⟩, 131072, if (131072 : Nat) = 0 then ⟨#[]⟩ else ⟨#[118]⟩, k, [⟨#[98]⟩, ⟨#[99]⟩]⟩ = encV (setK v4 k) := rfl
theorem MV.vals {H : Heap} {n0 : Nat} {t : T} {ql : List (T × Ver)} (h : MV H n0 t ql) (hk : ∀ q ∈ ql, q.2.kk = .arg ∧ q.2.keys ≠ []) : ql.map val = ql.map (·.2) := by
  refine List.map_congr_left fun q hq => ?_
  obtain ⟨h1, h2⟩ := hk q hq
  rcases (h.fam q hq).1 with ⟨h3, _⟩ | ⟨_, b, h3, _⟩
  · exact absurd h3 h2
  · unfold val; rw [h3]; show setK q.2 .arg = q.2; unfold setK; rw [← h1]
theorem MV.call {E : Env} {f : Nat} {t : T} {ql : List (T × Ver)} {n0 : Nat} {rest : List T} {H : Heap} {Q : Out → Heap → Prop} (hm : MV H n0 t ql) (hne : ql ≠ []) (h : ∀ H', FV H' t ql → H'.length = H.length → (∀ b x, b < n0 → H[b]? = some x → H'[b]? = some x) → W E (.call f (.sl .arg (encVs (ql.map val)) :: rest)) H' Q) : W E (.call f (t :: rest)) H Q := by
  have hc := hm.cv hne
  have hf := hc.frz (bks t ql) fun _ h => h
  refine frzW (bks t ql) H (fun b hb => hc.kn (i := 0) rfl hb) (vw1 hf.vw (h _ hf (frzH_len _ _) fun b x hb hx => ?_))
  rw [frzH_no _ _ _ fun hm' => ?_]; exact hx
  rcases mem_bks hm' with h1 | ⟨q, hq, h1⟩
  · rcases hm.row with ⟨_, rfl⟩ | ⟨c, rfl, _, h3⟩
    · cases h1
    · cases h1; omega
  · have := ((hm.fam q hq).1.lt h1).2; omega
theorem keep_of {H H' : Heap} (hl : H'.length = H.length) {n : Nat} (hk : ∀ b x, b < n → H[b]? = some x → H'[b]? = some x) {H0 : Heap} (hx : Ext H0 H) (hn : H0.length ≤ n) : Ext H0 H' := by
  obtain ⟨m, hm⟩ := hx
  refine ⟨H'.drop H0.length, ?_⟩
  rw [← List.take_append_drop H0.length H']
  congr 1
  · refine List.ext_getElem? fun i => ?_
    rw [List.getElem?_take]
    split
    · rename_i hi
      have : H[i]? = some H0[i] := by rw [hm, List.getElem?_append_left hi]; exact List.getElem?_eq_getElem hi
      rw [hk i _ (by omega) this, List.getElem?_eq_getElem hi]
    · rw [List.getElem?_eq_none (by omega)]
  · rw [List.take_append_drop]
theorem known11 (H : Heap) : W env (.call 11 []) H (RetG (.bool true) H) := by
  refine W.fnI rfl rfl rfl ?_
  simp only [ir11, seval, S1]
  refine callB_of _ _ _ _ _ _ _ _ (version27 ⟨#[97]⟩ 65536 .full [⟨#[97]⟩, ⟨#[98]⟩] _) ?_
  rintro u H1 ⟨hu, hx1⟩
  rw [ev1] at hu
  cases hu
  simp only [seval, S1]
  refine callB_of _ _ _ _ _ _ _ _ (version27 ⟨#[98]⟩ 131072 .full [⟨#[98]⟩, ⟨#[99]⟩] _) ?_
  rintro u H2 ⟨hu, hx2⟩
  rw [ev2] at hu
  cases hu
  simp only [seval, S1]
  refine callB_of _ _ _ _ _ _ _ _ (version27 ⟨#[99]⟩ 0 .nil [] _) ?_
  rintro u H3 ⟨hu, hx3⟩
  rw [ev3] at hu
  cases hu
  have hx : Ext H H3 := (Ext.trans hx1 hx2).trans hx3
  simp only [seval, S1, encV, setK]
  refine callB_of _ _ _ _ _ _ _ _ (needs9m _ _ kL _ (vw_sl .full kL _) sL) ?_
  rintro u H4 ⟨hx4, tn, hu, hmn⟩
  rw [needsEL] at hu
  rw [needsL] at hmn
  cases hu
  simp only [seval, S1]
  refine callB_of _ _ _ _ _ _ _ _ (version27 ⟨#[99]⟩ 131072 .full [⟨#[98]⟩, ⟨#[99]⟩] _) ?_
  rintro u H5 ⟨hu, hx5⟩
  rw [ev4] at hu
  cases hu
  have hx5 : Ext H4 H5 := hx5
  simp only [seval, S1, encV, setK]
  refine callB_of _ _ _ _ _ _ _ _ (mend16m .full .full kL [v4] _ sL nL n4 (by simp)) ?_
  rintro u H6 ⟨hx6, tm, ql, hu, hmv, hml⟩
  rw [ml4.2] at hu
  rw [ml4.1] at hml
  cases hu
  simp only [seval, S1]
  refine callB_of _ _ _ _ _ _ _ _ (mend16m .full .nil kL [] _ sL nL (by simp [NilOk]) (by simp)) ?_
  rintro u H7 ⟨hx7, t0, q0, hu, hmv0, hml0⟩
  rw [ml0.2] at hu
  rw [ml0.1] at hml0
  cases hu
  have hxx : Ext H H7 := (((hx.trans hx4).trans hx5).trans hx6).trans hx7
  have hmv := hmv.ext hx7
  have hmn := ((hmn.ext hx5).ext hx6).ext hx7
  have hql3 : ql.length = 3 := by have := congrArg List.length hml; simpa [kM] using this.symm
  have hne : ql ≠ [] := by rintro rfl; simp at hql3
  have hv0 : q0 = [] := by simpa using hml0.symm
  subst hv0
  have l0 := hmv0.row.len
  have lm := hmv.row.len
  rw [hql3] at lm
  have hvals : ql.map val = kM := by
    rw [hmv.vals fun q hq => ?_, ← hml]
    have : q.2 ∈ kM := by rw [hml]; exact List.mem_map_of_mem hq
    simp only [kM, List.mem_cons, List.not_mem_nil, or_false] at this
    rcases this with e | e | e <;> rw [e] <;> simp [v1, v2, v4]
  have ln := hmn.len
  obtain ⟨bn, hi0, hb0⟩ : ∃ bn, iadT 2 0 tn = some (.ptr bn 0) ∧ ldc H7 2 (.ptr bn 0) = some [.str tC, .int .u64 131072] := by
    rcases hmn with ⟨h, _⟩ | ⟨b, rfl, h2, _⟩
    · simp at h
    · exact ⟨b, rfl, by rw [ldc_ptr, h2]; rfl⟩
  have e0 : eqCells [T.str tC, T.int .u64 131072] [T.str ⟨#[99]⟩, T.int .u64 131072] = some true := by
    have : strEq tC ⟨#[99]⟩ = true := by rw [strEq_eq]; rfl
    simp [eqCells, eqSc, this]
  have n0 : natOf (.int .i64 0) = some 0 := rfl
  have n1 : natOf (.int .i64 1) = some 1 := rfl
  have n2 : natOf (.int .i64 2) = some 2 := rfl
  have hw : hasAll [Ty1.str, Ty1.int] [T.str tC, T.int .u64 131072] = true := rfl
  have hb0' : ldcB 2 0 H7[bn]? = some [.str tC, .int .u64 131072] := hb0
  simp only [seval, S1, l0, lm, ln, hi0, hb0', e0, n0, hw]
  refine callB_of _ _ _ _ _ _ _ _ (cut14 _ _ kL _ (vw_sl .full kL _) sL) ?_
  rintro u H8 ⟨hu, hx8⟩
  rw [cutL] at hu
  cases hu
  have hx8 : Ext H7 H8 := hx8
  have hmv := hmv.ext hx8
  simp only [seval, S1]
  refine callB_of _ _ _ _ _ _ _ _ (MV.call (Q := fun o H' => o = .val (.bool true) ∧ Ext H5 H' ∧ FV H' tm ql) hmv hne fun H' hfv hlen hk => by
    rw [hvals]
    refine W.use (cut14 _ _ kM H' (vw_sl .arg kM _) sM) ?_
    rintro o H9 ⟨hu, hx9⟩
    rw [cutM] at hu
    have hx9 : Ext H' H9 := hx9
    exact ⟨hu, (keep_of hlen hk ((hx6.trans hx7).trans hx8) (Nat.le_refl _)).trans hx9, hfv.ext hx9⟩) ?_
  rintro u H9 ⟨hu, hx9, hfv⟩
  cases hu
  simp only [seval, S1]
  refine callB_of _ _ _ _ _ _ _ _ (formed12v _ _ kL _ (vw_sl .full kL _) sL) ?_
  rintro u H10 ⟨hu, hx10⟩
  rw [formed_t fL] at hu
  cases hu
  simp only [seval, S1]
  refine callB_of _ _ _ _ _ _ _ _ (formed12v _ _ [] _ (vw_sl .nil [] _) ⟨by simp, by simp⟩) ?_
  rintro u H11 ⟨hu, hx11⟩
  rw [formed_f f0] at hu
  cases hu
  have hx10 : Ext H9 H10 := hx10
  have hx11 : Ext H10 H11 := hx11
  have hxe : Ext H H11 := ((hx.trans hx4).trans hx5).trans (hx9.trans (hx10.trans hx11))
  have hrv := (hfv.ext (hx10.trans hx11)).rv
  rw [← hml] at hrv
  obtain ⟨x0, x00, x01, x02, x03, xk, ix0, fx0, fx1, fx2, fx3, lx0, lx1, lx2, lx3, _⟩ := hrv.rd 0 v1 rfl
  obtain ⟨y0, y00, y01, y02, y03, yk, iy0, fy0, fy1, fy2, fy3, ly0, ly1, ly2, ly3, _⟩ := hrv.rd 1 v2 rfl
  obtain ⟨z0, z00, z01, z02, z03, zk, iz0, fz0, fz1, fz2, fz3, lz0, lz1, lz2, lz3, _⟩ := hrv.rd 2 v4 rfl
  simp only [v1, v2, v4] at lx1 ly1 lz1
  simp only [seval, S1, n0, n1, n2, ix0, fx1, lx1, iy0, fy1, ly1, iz0, fz1, lz1, retg_ext hxe]
end Go.Proofs.Ytobnjpgggocdlaa.Fx
end

section
namespace Go.Proofs.Ytobnjpgggocdlaa.Fx
open Go.Rmp Go.Proofs.Ytobnjpgggocdlaa.Ir
set_option maxRecDepth 10000
def keyT (i : Nat) : ByteArray := ⟨#[UInt8.ofNat (97 + i)]⟩
def bit (m : Int) (i : Nat) : Bool := IntKind.i64.wrap ((BitVec.ofInt IntKind.i64.bits (m.fdiv (2 ^ (min (i : Int).toNat IntKind.i64.bits))) &&& BitVec.ofInt IntKind.i64.bits 1).toNat : Nat) == 1
def keysN (m : Int) (n : Nat) : List ByteArray := ((List.range n).filter (bit m)).map keyT
def keysOf (m : Int) : List ByteArray := if keysN m 8 = [] then [keyT 0] else keysN m 8
theorem keysN_succ (m : Int) (n : Nat) : keysN m (n + 1) = if bit m n then keysN m n ++ [keyT n] else keysN m n := by
  unfold keysN; rw [List.range_succ, List.filter_append, List.map_append]
  cases h : bit m n <;> simp [List.filter_cons, h]
theorem keyT_lt {i j : Nat} (h : i < j) (hj : j < 8) : strLt (keyT i) (keyT j) = true := by
  have hi : i < 8 := by omega
  simp only [strLt, keyT, Go.ByteArray.toList_eq, Op.bytesLess, Bool.or_eq_true, decide_eq_true_eq]
  left
  rw [UInt8.lt_iff_toNat_lt]
  simp only [UInt8.toNat_ofNat']
  omega
theorem rises_pw : ∀ {l : List ByteArray}, l.Pairwise (fun a b => strLt a b = true) → rises l = true
  | [], _ => rfl
  | [_], _ => rfl
  | a :: b :: l, h => by
    rw [List.pairwise_cons] at h
    simp only [rises, h.1 b (by simp), rises_pw h.2, Bool.and_self]
theorem keysN_rises (m : Int) (n : Nat) (hn : n ≤ 8) : (keysN m n).Pairwise (fun a b => strLt a b = true) := by
  unfold keysN
  rw [List.pairwise_map]
  have h1 : (List.range n).Pairwise (fun i j => i < j) := List.pairwise_lt_range
  refine (h1.filter _).imp_of_mem ?_
  intro i j hi hj h
  exact keyT_lt h (by have := List.mem_range.1 (List.mem_filter.1 hj).1; omega)
theorem keysOf_rises (m : Int) : rises (keysOf m) = true := by
  unfold keysOf; split
  · rfl
  · exact rises_pw (keysN_rises m 8 (Nat.le_refl _))
theorem keysN_len (m : Int) (n : Nat) : (keysN m n).length ≤ n := by
  unfold keysN; rw [List.length_map]; have := List.length_filter_le (bit m) (List.range n); simpa using this
theorem keysOf_len (m : Int) : 1 ≤ (keysOf m).length ∧ (keysOf m).length ≤ 8 := by
  unfold keysOf; split
  · simp
  · rename_i h
    exact ⟨List.length_pos_iff.2 h, keysN_len m 8⟩
theorem keysOf_nodup (m : Int) : (keysOf m).Nodup := by
  unfold keysOf; split
  · simp
  · exact (keysN_rises m 8 (Nat.le_refl _)).imp fun h e => by rw [e, lt_irr] at h; cases h
def mk (m : Int) (w : Nat) (k : ByteArray) : Ver := ⟨k, 65536 * (w + 1), k ++ ⟨#[UInt8.ofNat w]⟩, .arg, keysOf m⟩
def botA (k : ByteArray) : Ver := ⟨k, 0, ⟨#[]⟩, .arg, []⟩
def someW (masks : List Int) (k : ByteArray) (j : Nat) : List Ver := (List.range j).filterMap fun w => match masks[w]? with
  | some m => if memB (keysOf m) k then some (mk m w k) else .none
  | .none => .none
theorem someW_succ {masks : List Int} {k : ByteArray} {j : Nat} {m : Int} (h : masks[j]? = some m) : someW masks k (j + 1) = if memB (keysOf m) k then someW masks k j ++ [mk m j k] else someW masks k j := by
  unfold someW; rw [List.range_succ, List.filterMap_append]
  cases hm : memB (keysOf m) k <;> simp [h, hm]
theorem someW_mem {masks : List Int} {k : ByteArray} {j : Nat} {v : Ver} (h : v ∈ someW masks k j) : ∃ (w : Nat) (m : Int), masks[w]? = some m ∧ memB (keysOf m) k = true ∧ v = mk m w k := by
  unfold someW at h
  obtain ⟨w, _, h⟩ := List.mem_filterMap.1 h
  cases hm : masks[w]? with
  | none => simp [hm] at h
  | some m =>
    rw [hm] at h
    simp only at h
    split at h
    · rename_i hk; exact ⟨w, m, hm, hk, (Option.some.inj h).symm⟩
    · cases h
theorem someW_len (masks : List Int) (k : ByteArray) (j : Nat) : (someW masks k j).length ≤ j := by
  unfold someW
  have := List.length_filterMap_le (fun w => match masks[w]? with
  | some m => if memB (keysOf m) k then some (mk m w k) else .none
  | .none => .none) (List.range j)
  simpa using this
def restI (n : Int) (most : Nat) : Nat := (n % ((most : Int) + 1)).toNat
theorem restI_le (n : Int) (most : Nat) : restI n most ≤ most := by
  unfold restI
  have h1 := Int.emod_nonneg n (show (most : Int) + 1 ≠ 0 by omega)
  have h2 := Int.emod_lt_of_pos n (show 0 < (most : Int) + 1 by omega)
  omega
def bKey (read turn : Int) (i : Nat) : ByteArray := (keysOf read).getD ((i + restI turn ((keysOf read).length - 1)) % (keysOf read).length) ⟨#[]⟩
def bAll (masks : List Int) (k : ByteArray) : List Ver := botA k :: someW masks k masks.length
def bOne (masks : List Int) (read turn : Int) (picks : List Int) (i : Nat) : Ver := (bAll masks (bKey read turn i)).getD (restI (picks.getD i 0) ((bAll masks (bKey read turn i)).length - 1)) (botA ⟨#[]⟩)
def brought (masks : List Int) (read turn : Int) (picks : List Int) (n : Nat) : List Ver := (List.range n).map (bOne masks read turn picks)
theorem brought_succ (masks : List Int) (read turn : Int) (picks : List Int) (n : Nat) : brought masks read turn picks (n + 1) = brought masks read turn picks n ++ [bOne masks read turn picks n] := by simp [brought, List.range_succ]
def IsV (masks : List Int) (v : Ver) : Prop := v = botA v.key ∨ ∃ (w : Nat) (m : Int), masks[w]? = some m ∧ memB (keysOf m) v.key = true ∧ v = mk m w v.key
def IsB (masks : List Int) (l : List Ver) : Prop := 1 ≤ l.length ∧ l.length ≤ 8 ∧ (∀ v ∈ l, IsV masks v) ∧ (l.map Ver.key).Nodup
theorem bAll_is (masks : List Int) (k : ByteArray) {v : Ver} (h : v ∈ bAll masks k) : v.key = k ∧ IsV masks v := by
  unfold bAll at h
  rcases List.mem_cons.1 h with rfl | h
  · exact ⟨rfl, .inl rfl⟩
  · obtain ⟨w, m, h1, h2, rfl⟩ := someW_mem h
    exact ⟨rfl, .inr ⟨w, m, h1, h2, rfl⟩⟩
theorem bOne_is (masks : List Int) (read turn : Int) (picks : List Int) (i : Nat) : (bOne masks read turn picks i).key = bKey read turn i ∧ IsV masks (bOne masks read turn picks i) := by
  unfold bOne
  have hl : restI (picks.getD i 0) ((bAll masks (bKey read turn i)).length - 1) < (bAll masks (bKey read turn i)).length := by
    have := restI_le (picks.getD i 0) ((bAll masks (bKey read turn i)).length - 1)
    have h1 : 0 < (bAll masks (bKey read turn i)).length := by simp [bAll]
    omega
  rw [List.getD_eq_getElem?_getD, List.getElem?_eq_getElem hl]
  exact bAll_is _ _ (List.getElem_mem hl)
theorem mod_inj {n r i j : Nat} (hi : i < n) (hj : j < n) (hij : i < j) (h : (i + r) % n = (j + r) % n) : False := by
  have a1 := Nat.div_add_mod (i + r) n
  have a2 := Nat.div_add_mod (j + r) n
  rw [h] at a1
  have a3 : n * ((j + r) / n) - n * ((i + r) / n) = j - i := by omega
  rw [← Nat.mul_sub] at a3
  have a4 : (j + r) / n - (i + r) / n ≠ 0 := fun h => by rw [h] at a3; omega
  have a5 : n * 1 ≤ n * ((j + r) / n - (i + r) / n) := Nat.mul_le_mul_left n (by omega)
  omega
theorem brought_is (masks : List Int) (read turn : Int) (picks : List Int) : IsB masks (brought masks read turn picks (keysOf read).length) := by
  have hk := keysOf_len read
  refine ⟨by simp [brought]; omega, by simp [brought]; omega, fun v hv => ?_, ?_⟩
  · obtain ⟨i, _, rfl⟩ := List.mem_map.1 hv
    exact (bOne_is _ _ _ _ i).2
  · have e : (brought masks read turn picks (keysOf read).length).map Ver.key = (List.range (keysOf read).length).map (bKey read turn) := by
      unfold brought; rw [List.map_map]
      exact List.map_congr_left fun i _ => (bOne_is masks read turn picks i).1
    rw [e, List.Nodup, List.pairwise_map]
    refine List.pairwise_lt_range.imp_of_mem fun {i j} hi hj hij => ?_
    have hi := List.mem_range.1 hi
    have hj := List.mem_range.1 hj
    unfold bKey
    generalize restI turn ((keysOf read).length - 1) = r
    have h1 : (i + r) % (keysOf read).length < (keysOf read).length := Nat.mod_lt _ (by omega)
    have h2 : (j + r) % (keysOf read).length < (keysOf read).length := Nat.mod_lt _ (by omega)
    rw [List.getD_eq_getElem?_getD, List.getD_eq_getElem?_getD, List.getElem?_eq_getElem h1, List.getElem?_eq_getElem h2]
    intro e
    simp only [Option.getD_some] at e
    have := (List.getElem_inj (keysOf_nodup read)).1 e
    exact mod_inj hi hj hij this
end Go.Proofs.Ytobnjpgggocdlaa.Fx
end

section
namespace Go.Proofs.Ytobnjpgggocdlaa.Fx
open Go.Rmp Go.Proofs.Ytobnjpgggocdlaa.Ir
set_option maxRecDepth 10000
theorem wrap8 {n : Nat} (h : n < 256) : IntKind.u8.wrap (n : Int) = (n : Int) := by
  unfold IntKind.wrap
  simp only [IntKind.signed, IntKind.bits]
  simp
  omega
theorem key37 (i : Nat) (hi : i < 8) (H : Heap) : W env (.call 37 [.int .i64 i]) H (Ret (.str (keyT i)) H) := by
  refine W.fnI rfl rfl rfl ?_
  have w1 : IntKind.i64.wrap (97 + (i : Int)) = ((97 + i : Nat) : Int) := by rw [wrap64 (by omega)]; omega
  have w2 : IntKind.u8.wrap ((97 + i : Nat) : Int) = ((97 + i : Nat) : Int) := wrap8 (by omega)
  simp only [ir37, seval, S1, w1, w2, bytesOf, Int.toNat_natCast, keyT]
theorem keys22 (m : Int) (H : Heap) : W env (.call 22 [.int .i64 m]) H (fun o H' => Ext H H' ∧ ∃ k, KOk k (keysOf m) ∧ o = .val (.sl k (encS (keysOf m)))) := by
  refine W.fnI rfl rfl rfl ?_
  simp only [ir22, seval, S1]
  refine W.loopI (fun (i : Nat) R H' => At H' (fun H' => ∃ kw, R 3 = .sl kw (encS (keysN m i)) ∧ Ext H H' ∧ Apd H.length H' kw ∧ KOk kw (keysN m i)) ∧ R 0 = .int .i64 m ∧ R 4 = .int .i64 i ∧ i ≤ 8) (fun i => 8 - i) 0 ⟨.i ⟨.nil, rfl, Ext.rfl', apd_nil _ _, fun _ => rfl⟩, rfl, rfl, Nat.zero_le _⟩ ?_
  rintro i R H1 ⟨⟨kw, g3, hx, hap, hko⟩, g0, g4, hi⟩
  have hsn := keysN_succ m i
  by_cases hlt : i < 8
  · have wsi := wrap_succ (show i < 9223372036854775807 by omega)
    have nn : ¬ (i : Int) < 0 := by omega
    have hb : (IntKind.i64.wrap ((BitVec.ofInt IntKind.i64.bits (m.fdiv (2 ^ (min (i : Int).toNat IntKind.i64.bits))) &&& BitVec.ofInt IntKind.i64.bits 1).toNat : Nat) == 1) = bit m i := rfl
    cases hbi : bit m i
    · rw [hbi] at hb hsn
      simp only [seval, S1, g0, g3, g4, hlt, nn, hb, wsi]
      refine ⟨i + 1, by omega, .i ⟨kw, ?_, hx, hap, ?_⟩, rfl, by omega⟩
      · simp only [seval, S1, g3, hsn]
      · rw [hsn]; simpa using hko
    · rw [hbi] at hb hsn
      simp only [seval, S1, g0, g3, g4, hlt, nn, hb]
      refine callB_of _ _ _ _ _ _ _ _ (key37 i hlt _) ?_
      rintro u H2 ⟨hu, rfl⟩
      cases hu
      have hl := keysN_len m i
      obtain ⟨k', H', ha, hap', hst⟩ := app_ok (bytes := 16) (encS (keysN m i)) [[T.str (keyT i)]] hap hx.len (by simp) (roomT (by simp only [encS_len, List.length_cons, List.length_nil]; omega))
      simp only [seval, S1] at ha
      simp only [seval, S1, g0, g3, g4, allS, ha, wsi]
      refine ⟨i + 1, by omega, .i ⟨k', ?_, hst.ext H (Nat.le_refl _) hx, hap', ?_⟩, rfl, by omega⟩
      · simp only [seval, S1, hsn, encS, List.map_append]
      · intro h
        rcases hap' with h' | h' | ⟨t, e, h', _⟩
        · exfalso
          subst h
          unfold appT at ha
          simp only at ha
          split at ha
          · rcases hap with h | h | ⟨t, e, h, _, h2⟩
            · subst h; simp at ha
            · subst h; simp at ha
            · subst h; simp only [h2, if_true] at ha; simp at ha
          · cases ha
        · rw [h] at h'; cases h'
        · rw [h] at h'; cases h'
  · have hi8 : i = 8 := by omega
    subst hi8
    by_cases hz : keysN m 8 = []
    · have e1 : keysOf m = [keyT 0] := by rw [keysOf, if_pos hz]
      have e2 : (keysN m 8).length = 0 := by rw [hz]; rfl
      simp only [seval, S1, g0, g3, g4, encS_len, e2]
      refine callB_of _ _ _ _ _ _ _ _ (key37 0 (by decide) _) ?_
      rintro u H2 ⟨hu, rfl⟩
      cases hu
      simp only [seval, S1]
      exact ⟨hx, .full, fun h => (by cases h), by rw [e1]; rfl⟩
    · have e1 : keysOf m = keysN m 8 := by rw [keysOf, if_neg hz]
      have e2 : ¬ (keysN m 8).length = 0 := by simpa using hz
      simp only [seval, S1, g0, g3, g4, encS_len, e2]
      exact ⟨hx, kw, by rw [e1]; exact hko, by rw [e1]⟩
theorem tmod_rest (n : Int) (most : Nat) : (if n.tmod ((most : Int) + 1) < 0 then n.tmod ((most : Int) + 1) + (most : Int) + 1 else n.tmod ((most : Int) + 1)) = (restI n most : Int) := by
  unfold restI
  have h1 := Int.emod_nonneg n (show (most : Int) + 1 ≠ 0 by omega)
  have h2 := Int.emod_lt_of_pos n (show 0 < (most : Int) + 1 by omega)
  have h3 := @Int.tmod_eq_emod n ((most : Int) + 1)
  rw [Int.toNat_of_nonneg h1]
  by_cases hc : 0 ≤ n ∨ (most : Int) + 1 ∣ n
  · simp only [hc, if_true] at h3
    split <;> omega
  · simp only [hc, if_false] at h3
    have h4 : (((most : Int) + 1).natAbs : Int) = (most : Int) + 1 := by omega
    split <;> omega
theorem rest20 (n : Int) (most : Nat) (hm : most < 4611686018427387903) (hn : -9223372036854775808 ≤ n ∧ n ≤ 9223372036854775807) (H : Heap) : W env (.call 20 [.int .i64 n, .int .i64 most]) H (Ret (.int .i64 (restI n most : Nat)) H) := by
  refine W.fnI rfl rfl rfl ?_
  have w1 : IntKind.i64.wrap ((most : Int) + 1) = ((most : Int) + 1) := wrap64 (by omega)
  have nz : ¬ ((most : Int) + 1) = 0 := by omega
  have hr := tmod_rest n most
  have hl := restI_le n most
  have hb : -((most : Int) + 1) < n.tmod ((most : Int) + 1) := Int.lt_tmod_of_pos n (by omega)
  have hb2 : n.tmod ((most : Int) + 1) < ((most : Int) + 1) := Int.tmod_lt_of_pos n (by omega)
  by_cases hneg : n.tmod ((most : Int) + 1) < 0
  · have w2 : IntKind.i64.wrap (n.tmod ((most : Int) + 1) + (most : Int)) = n.tmod ((most : Int) + 1) + (most : Int) := wrap64 (by omega)
    have w3 : IntKind.i64.wrap (n.tmod ((most : Int) + 1) + (most : Int) + 1) = n.tmod ((most : Int) + 1) + (most : Int) + 1 := wrap64 (by omega)
    rw [if_pos hneg] at hr
    simp only [ir20, seval, S1, w1, nz, hneg, w2, w3]
    exact hr
  · rw [if_neg hneg] at hr
    simp only [ir20, seval, S1, w1, nz, hneg]
    exact hr
end Go.Proofs.Ytobnjpgggocdlaa.Fx
end

section
namespace Go.Proofs.Ytobnjpgggocdlaa.Fx
open Go.Rmp Go.Proofs.Ytobnjpgggocdlaa.Ir
set_option maxRecDepth 10000
def encI (l : List Int) : List (List T) := l.map fun n => [T.int .i64 n]
theorem encI_len (l : List Int) : (encI l).length = l.length := by simp [encI]
theorem iadI {l : List Int} {k : SK} {i : Nat} {x : Int} (h : l[i]? = some x) : iadT 1 i (.sl k (encI l)) = some (.iptr [.int .i64 x]) := iad_map (enc := fun n => [T.int .i64 n]) h rfl (by decide)
theorem getI {l : List Int} {i : Nat} (h : i < l.length) : ∃ x, l[i]? = some x := ⟨l[i], List.getElem?_eq_getElem h⟩
theorem keysOf_size {m : Int} {k : ByteArray} (h : k ∈ keysOf m) : k.size = 1 := by
  unfold keysOf at h
  split at h
  · simp at h; subst h; rfl
  · unfold keysN at h
    obtain ⟨i, _, rfl⟩ := List.mem_map.1 h
    rfl
theorem made21 (km : SK) (masks : List Int) (i : Nat) (m : Int) (k : ByteArray) (H : Heap) (hm : masks[i]? = some m) (hi : i < 60) (hk : k.size ≤ 100) : W env (.call 21 [.sl km (encI masks), .int .i64 i, .str k]) H (fun o H' => Ext H H' ∧ ∃ k', KOk k' (keysOf m) ∧ o = .val (.agg (encV (setK (mk m i k) k')))) := by
  refine W.fnI rfl rfl rfl ?_
  have w1 := wrap_succ (show i < 9223372036854775807 by omega)
  have w2 : IntKind.i64.wrap (65536 * ((i + 1 : Nat) : Int)) = ((65536 * (i + 1) : Nat) : Int) := by rw [wrap64 (by omega)]; omega
  have w3 : IntKind.u64.wrap ((65536 * (i + 1) : Nat) : Int) = ((65536 * (i + 1) : Nat) : Int) := wrapu64 (by omega)
  have w4 : IntKind.u8.wrap (i : Int) = (i : Int) := wrap8 (by omega)
  have hs : k.size + (⟨#[UInt8.ofNat i]⟩ : ByteArray).size ≤ 9223372036854775807 := by
    show k.size + 1 ≤ _; omega
  simp only [ir21, seval, S1, w1, w2, w3, w4, bytesOf, Int.toNat_natCast, hs, iadI hm]
  refine callB_of _ _ _ _ _ _ _ _ (keys22 m _) ?_
  rintro u H1 ⟨hx1, k', hk', hu⟩
  cases hu
  have g0 : H1[H.length]? = some (.cells [.str ⟨#[]⟩, .int .u64 0, .str ⟨#[]⟩, .sl .nil []]) := hx1.get (g_tail rfl)
  have l0 := glt g0
  simp only [seval, S1, S2, bytesOf, Int.toNat_natCast, g0, l0]
  exact ⟨(Ext.app Ext.rfl' _ |>.trans hx1).set (Nat.le_refl _) _, k', hk', rfl⟩
theorem bKey_in (read turn : Int) (i : Nat) : bKey read turn i ∈ keysOf read := by
  unfold bKey
  have hk := keysOf_len read
  have h1 : (i + restI turn ((keysOf read).length - 1)) % (keysOf read).length < (keysOf read).length := Nat.mod_lt _ (by omega)
  rw [List.getD_eq_getElem?_getD, List.getElem?_eq_getElem h1]
  exact List.getElem_mem h1
theorem botapp (l : List Ver) (k : ByteArray) : encVs l ++ [[T.str k, T.int .u64 0, T.str ⟨#[]⟩, T.sl .arg []]] = encVs (l ++ [botA k]) := by simp [encVs, encV, botA, encS]
theorem mkapp (l : List Ver) (m : Int) (w : Nat) (k : ByteArray) : encVs l ++ [[T.str k, T.int .u64 ((65536 * (w + 1) : Nat) : Int), T.str (k ++ ⟨#[UInt8.ofNat w]⟩), T.sl .arg (encS (keysOf m))]] = encVs (l ++ [mk m w k]) := by simp [encVs, encV, mk]
def Num (n : Int) : Prop := -9223372036854775808 ≤ n ∧ n ≤ 9223372036854775807
theorem brought19m (km kp : SK) (masks : List Int) (read turn : Int) (picks : List Int) (H : Heap) (hm : masks.length ≤ 60) (ht : Num turn) (hp : ∀ p ∈ picks, Num p) (hpl : picks.length < 4611686018427387903) :
    W env (.call 19 [.sl km (encI masks), .int .i64 read, .int .i64 turn, .sl kp (encI picks)]) H (fun o H' => Ext H H' ∧ ∃ t, o = .val t ∧ Mut encV 4 H.length H' t (brought masks read turn picks (keysOf read).length)) := by
  refine W.fnI rfl rfl rfl ?_
  simp only [ir19, seval, S1]
  refine callB_of _ _ _ _ _ _ _ _ (keys22 read _) ?_
  rintro u H1 ⟨hx1, kk, hkk, hu⟩
  cases hu
  have hkl := keysOf_len read
  simp only [seval, S1]
  refine W.loopI (fun (i : Nat) R H' => At H' (fun H' => ∃ tw, R 10 = tw ∧ Ext H H' ∧ Mut encV 4 H.length H' tw (brought masks read turn picks i)) ∧ R 0 = .sl km (encI masks) ∧ R 2 = .int .i64 turn ∧ R 3 = .sl kp (encI picks) ∧ R 9 = .sl kk (encS (keysOf read)) ∧ R 11 = .int .i64 i ∧ i ≤ (keysOf read).length) (fun i => (keysOf read).length - i) 0 ⟨.i ⟨_, rfl, hx1, mut_nil _ _ _ _⟩, rfl, rfl, rfl, rfl, rfl, Nat.zero_le _⟩ ?_
  rintro i R H2 ⟨⟨tw, g10, hx2, hap⟩, g0, g2, g3, g9, g11, hi⟩
  by_cases hlt : i < (keysOf read).length
  · have wsi := wrap_succ (show i < 9223372036854775807 by omega)
    have w1 : IntKind.i64.wrap (((keysOf read).length : Int) - 1) = (((keysOf read).length - 1 : Nat) : Int) := by rw [wrap64 (by omega)]; omega
    simp only [seval, S1, g0, g2, g3, g9, g10, g11, encS_len, hlt, w1]
    refine callB_of _ _ _ _ _ _ _ _ (rest20 turn ((keysOf read).length - 1) (by omega) ht _) ?_
    rintro u H3 ⟨hu, rfl⟩
    cases hu
    have hrl := restI_le turn ((keysOf read).length - 1)
    have w2 : IntKind.i64.wrap ((i : Int) + (restI turn ((keysOf read).length - 1) : Nat)) = ((i + restI turn ((keysOf read).length - 1) : Nat) : Int) := by rw [wrap64 (by omega)]; omega
    have nz : ¬ ((keysOf read).length : Int) = 0 := by omega
    have w3 : (((i + restI turn ((keysOf read).length - 1) : Nat) : Int)).tmod ((keysOf read).length : Int) = (((i + restI turn ((keysOf read).length - 1)) % (keysOf read).length : Nat) : Int) := (Int.ofNat_tmod _ _).symm
    have hbk : (keysOf read)[(i + restI turn ((keysOf read).length - 1)) % (keysOf read).length]? = some (bKey read turn i) := by
      have h1 : (i + restI turn ((keysOf read).length - 1)) % (keysOf read).length < (keysOf read).length := Nat.mod_lt _ (by omega)
      unfold bKey
      rw [List.getD_eq_getElem?_getD, List.getElem?_eq_getElem h1]; rfl
    have hbs : (bKey read turn i).size ≤ 100 := by rw [keysOf_size (bKey_in read turn i)]; omega
    generalize hbK : bKey read turn i = bk at *
    obtain ⟨k1, H4, ha, hap1, hst⟩ := app_ok (bytes := 64) (n0 := H3.length) (H := H3) (k := .nil) [] [[T.str bk, T.int .u64 0, T.str ⟨#[]⟩, T.sl .arg []]] (.inl rfl) (Nat.le_refl _) (by simp) (roomT (by simp only [List.length_cons, List.length_nil]; omega))
    have e0 := botapp [] bk
    simp only [encVs, List.map_nil, List.nil_append] at e0
    simp only [seval, S1] at ha
    simp only [seval, S1, g0, g2, g3, g9, g10, g11, encS_len, w1, w2, nz, w3, iadS hbk, natOf_nat, ha]
    have hx4 : Ext H3 H4 := hst.ext H3 (Nat.le_refl _) Ext.rfl'
    rw [e0]
    refine W.loopI (fun (j : Nat) R H' => At H' (fun H' => ∃ ks, R 13 = .sl ks (encVs (botA bk :: someW masks bk j)) ∧ Ext H3 H' ∧ Apd H3.length H' ks) ∧ R 0 = .sl km (encI masks) ∧ R 2 = .int .i64 turn ∧ R 3 = .sl kp (encI picks) ∧ R 9 = .sl kk (encS (keysOf read)) ∧ R 10 = tw ∧ R 11 = .int .i64 i ∧ R 12 = .str bk ∧ R 14 = .int .i64 j ∧ j ≤ masks.length) (fun j => masks.length - j) 0 ?_ ?_
    · refine ⟨.i ⟨k1, rfl, hx4, hap1⟩, ?_⟩
      simp only [seval, S1, g0, g2, g3, g9, g10, g11]
      first | exact ⟨rfl, Nat.zero_le _⟩ | exact Nat.zero_le _
    rintro j R H5 ⟨⟨ks, f13, hx5, hap5⟩, f0, f2, f3, f9, f10, f11, f12, f14, hj⟩
    by_cases hjl : j < masks.length
    · obtain ⟨m, hmj⟩ := getI hjl
      have wsj := wrap_succ (show j < 9223372036854775807 by omega)
      have hsw := someW_succ (k := bk) hmj
      simp only [seval, S1, f0, f2, f3, f9, f10, f11, f12, f14, encI_len, hjl, iadI hmj]
      refine callB_of _ _ _ _ _ _ _ _ (keys22 m _) ?_
      rintro u H6 ⟨hx6, k2, hk2, hu⟩
      cases hu
      have hml := keysOf_len m
      simp only [seval, S1, f12]
      refine callB_of _ _ _ _ _ _ _ _ (has23 k2 (keysOf m) bk _ (by omega)) ?_
      rintro u H7 ⟨hu, rfl⟩
      cases hu
      cases hb : memB (keysOf m) bk
      · rw [hb] at hsw
        simp only [seval, S1, f14, wsj]
        refine ⟨j + 1, by omega, .i ⟨ks, ?_, hx5.trans hx6, hap5.ext hx6⟩, ?_⟩
        · simp only [seval, S1, f13, hsw]
        · simp only [f0, f2, f3, f9, f10, f11, f12, true_and]; omega
      · rw [hb] at hsw
        simp only [seval, S1, f0, f12, f13, f14]
        refine callB_of _ _ _ _ _ _ _ _ (made21 km masks j m bk _ hmj (by omega) hbs) ?_
        rintro u H8 ⟨hx8, k3, hk3, hu⟩
        cases hu
        have hsl := someW_len masks bk j
        obtain ⟨k4, H9, ha, hap9, hst⟩ := app_ok (bytes := 64) (encVs (botA bk :: someW masks bk j)) [[T.str bk, T.int .u64 ((65536 * (j + 1) : Nat) : Int), T.str (bk ++ ⟨#[UInt8.ofNat j]⟩), T.sl .arg (encS (keysOf m))]] ((hap5.ext hx6).ext hx8) ((hx5.trans hx6).trans hx8).len (by simp) (roomT (by simp only [encVs_len, List.length_cons, List.length_nil]; omega))
        simp only [seval, S1, mkapp] at ha
        simp only [seval, S1, setK, mk, encV, f14, allV, ha, wsj]
        refine ⟨j + 1, by omega, .i ⟨k4, ?_, hst.ext H3 (Nat.le_refl _) ((hx5.trans hx6).trans hx8), hap9⟩, ?_⟩
        · simp only [seval, S1, hsw, mk]
        · simp only [f0, f2, f3, f9, f10, f11, f12, true_and]; omega
    · have hjl' : j = masks.length := by omega
      subst hjl'
      have hbA : bAll masks bk = botA bk :: someW masks bk masks.length := rfl
      rw [← hbA] at f13
      have hAl : (bAll masks bk).length ≤ 61 := by have := someW_len masks bk masks.length; simp only [bAll, List.length_cons]; omega
      have hA1 : 1 ≤ (bAll masks bk).length := by simp [bAll]
      have w4 : IntKind.i64.wrap (((bAll masks bk).length : Int) - 1) = (((bAll masks bk).length - 1 : Nat) : Int) := by rw [wrap64 (by omega)]; omega
      have hbo : bOne masks read turn picks i = (bAll masks bk).getD (restI (picks.getD i 0) ((bAll masks bk).length - 1)) (botA ⟨#[]⟩) := by rw [bOne, hbK]
      have hbl : (brought masks read turn picks i).length ≤ 8 := by simp [brought]; omega
      have hget : ∀ p : Int, picks.getD i 0 = p → (bAll masks bk)[restI p ((bAll masks bk).length - 1)]? = some (bOne masks read turn picks i) := fun p hp => by
        rw [hbo, hp, List.getD_eq_getElem?_getD]
        have hl : restI p ((bAll masks bk).length - 1) < (bAll masks bk).length := by have := restI_le p ((bAll masks bk).length - 1); omega
        rw [List.getElem?_eq_getElem hl]; rfl
      have hv : setK (bOne masks read turn picks i) .arg = bOne masks read turn picks i := by
        rcases (bOne_is masks read turn picks i).2 with h | ⟨w, m, _, _, h⟩ <;> rw [h] <;> rfl
      have hfg : fgt tw = tw := by rcases hap with ⟨_, rfl⟩ | ⟨_, rfl, _⟩ <;> rfl
      generalize hV : bOne masks read turn picks i = V at *
      obtain ⟨k4, H9, ha, hap9, hst⟩ := appM_ok (enc := encV) (n := 4) (fun _ => rfl) (bytes := 64) [V] (hap.ext hx5) (hx2.trans hx5).len (by simp) (roomT (by simp only [List.length_cons, List.length_nil]; omega))
      have hkV : V.kk = .arg := by have := congrArg Ver.kk hv; simpa [setK] using this.symm
      simp only [seval, S1, encV, hkV] at ha
      by_cases hpi : i < picks.length
      · obtain ⟨p, hpp⟩ := getI hpi
        simp only [seval, S1, f0, f2, f3, f9, f10, f11, f12, f13, f14, encI_len, encVs_len, hjl, hpi, iadI hpp, w4]
        refine callB_of _ _ _ _ _ _ _ _ (rest20 p ((bAll masks bk).length - 1) (by omega) (hp p (List.mem_of_getElem? hpp)) _) ?_
        rintro u H6 ⟨hu, rfl⟩
        cases hu
        simp only [seval, S1, f10, f11, f13, natOf_nat, iadV (hget p (by simp [List.getD_eq_getElem?_getD, hpp])), encV, hkV, hfg, ha, wsi]
        refine ⟨i + 1, by omega, .i ⟨k4, ?_, hst.ext H (Nat.le_refl _) (hx2.trans hx5), by rw [brought_succ, hV]; exact hap9⟩, ?_⟩
        · first | rfl | simp only [seval, S1]
        · simp only [f0, f2, f3, f9, f10, f11, f12, true_and]; omega
      · simp only [seval, S1, f0, f2, f3, f9, f10, f11, f12, f13, f14, encI_len, encVs_len, hjl, hpi, w4]
        refine callB_of _ _ _ _ _ _ _ _ (rest20 0 ((bAll masks bk).length - 1) (by omega) (by omega) _) ?_
        rintro u H6 ⟨hu, rfl⟩
        cases hu
        have hp0 : picks.getD i 0 = 0 := by rw [List.getD_eq_getElem?_getD, List.getElem?_eq_none (by omega)]; rfl
        simp only [seval, S1, f10, f11, f13, natOf_nat, iadV (hget 0 hp0), encV, hkV, hfg, ha, wsi]
        refine ⟨i + 1, by omega, .i ⟨k4, ?_, hst.ext H (Nat.le_refl _) (hx2.trans hx5), by rw [brought_succ, hV]; exact hap9⟩, ?_⟩
        · first | rfl | simp only [seval, S1]
        · simp only [f0, f2, f3, f9, f10, f11, f12, true_and]; omega
  · have hil : i = (keysOf read).length := by omega
    subst hil
    simp only [seval, S1, g9, g10, g11, encS_len, hlt]
    exact ⟨hx2, tw, rfl, hap⟩
theorem brought19 (km kp : SK) (masks : List Int) (read turn : Int) (picks : List Int) (H : Heap) (hm : masks.length ≤ 60) (ht : Num turn) (hp : ∀ p ∈ picks, Num p) (hpl : picks.length < 4611686018427387903) :
    W env (.call 19 [.sl km (encI masks), .int .i64 read, .int .i64 turn, .sl kp (encI picks)]) H (fun o H' => Ext H H' ∧ ∃ k, o = .val (.sl k (encVs (brought masks read turn picks (keysOf read).length)))) := by
  refine W.frz1 (enc := encV) (n := 4) (l := brought masks read turn picks (keysOf read).length) (fun _ => rfl) (W.use (brought19m km kp masks read turn picks H hm ht hp hpl) ?_)
  rintro o H' ⟨hx, t, rfl, hmu⟩
  rcases hmu with ⟨h0, _⟩ | ⟨b, rfl, hb, hbl⟩
  · have := (brought_is masks read turn picks).1
    rw [h0] at this; simp at this
  · exact ⟨b, rfl, hb, hx.set hbl _, .arg, rfl⟩
end Go.Proofs.Ytobnjpgggocdlaa.Fx
end

section
namespace Go.Proofs.Ytobnjpgggocdlaa.Fx
open Go.Rmp Go.Proofs.Ytobnjpgggocdlaa.Ir
set_option maxRecDepth 10000
theorem IsV.may {masks : List Int} {v : Ver} (h : IsV masks v) : Fx.may v = true := by
  rcases h with h | ⟨w, m, _, hk, h⟩
  · rw [h]; simp [Fx.may, botA]
  · rw [h]
    have h1 := keysOf_rises m
    have h2 := (keysOf_len m).2
    have h3 : ¬ (65536 * (w + 1) = 0) := by omega
    have h4 : 65536 ≤ 65536 * (w + 1) := by omega
    have h5 : (keysOf m).length ≤ 1024 := by omega
    simp [Fx.may, mk, h1, h3, h4, h5, hk]
theorem IsV.keys {masks : List Int} {u v : Ver} (hu : IsV masks u) (hv : IsV masks v) (h : u.id = v.id) : u.keys = v.keys := by
  rcases hu with hu | ⟨w, m, hm, _, hu⟩ <;> rcases hv with hv | ⟨w', m', hm', _, hv⟩
  · rw [hu, hv]; rfl
  · rw [hu, hv] at h; simp [botA, mk] at h
  · rw [hu, hv] at h; simp [botA, mk] at h
  · have hww : w = w' := by rw [hu, hv] at h; simp only [mk] at h; omega
    subst hww; rw [hm] at hm'; cases hm'
    rw [hu, hv]; rfl
theorem IsB.formed {masks : List Int} {l : List Ver} (h : IsB masks l) : Formed l := by
  rw [f_iff]
  refine ⟨h.1, by have := h.2.1; omega, fun v hv => (h.2.2.1 v hv).may, fun i k u v hki hu hv => ?_⟩
  have hne : u.key ≠ v.key := fun e => by
    have h4 := h.2.2.2
    rw [List.Nodup, List.pairwise_iff_getElem] at h4
    have hi := (List.getElem?_eq_some_iff.1 hv)
    have hk := (List.getElem?_eq_some_iff.1 hu)
    obtain ⟨hi, ei⟩ := hi
    obtain ⟨hk, ek⟩ := hk
    have := h4 k i (by simpa using hk) (by simpa using hi) hki
    simp only [List.getElem_map, ek, ei] at this
    exact this e
  have hks := (h.2.2.1 u (List.mem_of_getElem? hu)).keys (h.2.2.1 v (List.mem_of_getElem? hv))
  by_cases e : u.id = v.id
  · simp [ok2, hne, hks e]
  · simp [ok2, hne, e]
theorem IsV.kk {masks : List Int} {v : Ver} (h : IsV masks v) : v.kk = .arg ∧ v.keys.length ≤ 8 := by
  rcases h with h | ⟨w, m, _, _, h⟩
  · rw [h]; simp [botA]
  · rw [h]; exact ⟨rfl, (keysOf_len m).2⟩
theorem IsB.small {masks : List Int} {l : List Ver} (h : IsB masks l) : Small l := ⟨by have := h.2.1; omega, fun v hv => by have := (h.2.2.1 v hv).kk.2; omega⟩
theorem IsB.nil {masks : List Int} {l : List Ver} (h : IsB masks l) : NilOk l := fun v hv => ⟨by rw [(h.2.2.1 v hv).kk.1]; exact (fun h => by cases h), by have := (h.2.2.1 v hv).kk.2; omega⟩
theorem IsB.greatest {masks : List Int} {l : List Ver} (h : IsB masks l) {k : ByteArray} (hk : 0 < gr l k) : ∃ (w : Nat) (m : Int), masks[w]? = some m ∧ memB (keysOf m) k = true ∧ gr l k = 65536 * (w + 1) ∧ ∃ x ∈ l, x.id = gr l k ∧ x.keys = keysOf m := by
  rcases gr_is l k with h0 | ⟨v, hv, hm, he⟩
  · omega
  · rcases h.2.2.1 v hv with hb | ⟨w, m, hw, _, hb⟩
    · rw [hb] at he; simp [botA] at he; omega
    · refine ⟨w, m, hw, ?_, ?_, v, hv, he, ?_⟩
      · rw [hb] at hm; exact hm
      · rw [← he, hb]; rfl
      · rw [hb]; rfl
def up (masks : List Int) (l : List Ver) (u : Ver) : Ver := if u.id < gr l u.key then mk (masks.getD (gr l u.key / 65536 - 1) 0) (gr l u.key / 65536 - 1) u.key else u
theorem up_is {masks : List Int} {l : List Ver} (h : IsB masks l) {u : Ver} (hu : u ∈ l) : (up masks l u).key = u.key ∧ IsV masks (up masks l u) ∧ (up masks l u).id = max u.id (gr l u.key) ∧ ∃ x ∈ l, x.id = (up masks l u).id ∧ x.keys = (up masks l u).keys := by
  unfold up
  by_cases hlt : u.id < gr l u.key
  · obtain ⟨w, m, hw, hk, hg, x, hx, hxi, hxk⟩ := h.greatest (k := u.key) (by omega)
    have e : gr l u.key / 65536 - 1 = w := by omega
    have e2 : masks.getD w 0 = m := by rw [List.getD_eq_getElem?_getD, hw]; rfl
    simp only [hlt, if_true, e, e2]
    exact ⟨rfl, .inr ⟨w, m, hw, hk, rfl⟩, by simp only [mk]; omega, x, hx, by rw [hxi, hg]; rfl, by rw [hxk]; rfl⟩
  · simp only [hlt, if_false]
    exact ⟨trivial, h.2.2.1 u hu, by omega, u, hu, rfl, rfl⟩
theorem up_B {masks : List Int} {l : List Ver} (h : IsB masks l) : IsB masks (l.map (up masks l)) := by
  refine ⟨by simpa using h.1, by simpa using h.2.1, fun v hv => ?_, ?_⟩
  · obtain ⟨u, hu, rfl⟩ := List.mem_map.1 hv; exact (up_is h hu).2.1
  · have : (l.map (up masks l)).map Ver.key = l.map Ver.key := by
      rw [List.map_map]; exact List.map_congr_left fun u hu => (up_is h hu).1
    rw [this]; exact h.2.2.2
theorem mends_all {f : Ver → Option Ver} {g : Ver → Ver} : ∀ {l : List Ver}, (∀ u ∈ l, f u = some (g u)) → mends f l = some (l.map g)
  | [], _ => rfl
  | u :: l, h => by
    have := mends_all (l := l) (fun v hv => h v (by simp [hv]))
    simp [mends, h u (by simp), this]
def GotOk (masks : List Int) (got : List Ver) : Prop := ∀ v ∈ got, ∃ (w : Nat) (m : Int), masks[w]? = some m ∧ v = mk m w v.key
theorem GotOk.nil (masks : List Int) : GotOk masks [] := fun v hv => by cases hv
theorem GotOk.snoc {masks : List Int} {got : List Ver} (h : GotOk masks got) {w : Nat} {m : Int} (hw : masks[w]? = some m) (k : ByteArray) : GotOk masks (got ++ [mk m w k]) := fun v hv => by
  rcases List.mem_append.1 hv with hv | hv
  · exact h v hv
  · simp at hv; subst hv; exact ⟨w, m, hw, rfl⟩
theorem GotOk.small {masks : List Int} {got : List Ver} (h : GotOk masks got) : NilOk got := fun v hv => by
  obtain ⟨w, m, _, e⟩ := h v hv
  rw [e]; exact ⟨fun h => (by cases h), by have := (keysOf_len m).2; simp only [mk]; omega⟩
theorem got_of {masks : List Int} {got : List Ver} (h : GotOk masks got) {w : Nat} {m : Int} {k : ByteArray} (hw : masks[w]? = some m) (hin : mk m w k ∈ got) : gotOf got k (65536 * (w + 1)) = some (mk m w k) := by
  unfold gotOf
  cases hf : got.find? fun v => decide (v.key = k) && decide (v.id = 65536 * (w + 1)) with
  | none => have := List.find?_eq_none.1 hf _ hin; simp [mk] at this
  | some v =>
    have h1 := List.find?_some hf
    have h2 := List.mem_of_find?_eq_some hf
    obtain ⟨w', m', hw', e⟩ := h v h2
    simp only [Bool.and_eq_true, decide_eq_true_eq] at h1
    obtain ⟨rfl, h1⟩ := h1
    rw [e] at h1
    simp only [mk] at h1
    have : w' = w := by omega
    subst this
    rw [hw] at hw'; cases hw'
    rw [e]; rfl
theorem mend_up {masks : List Int} {l got : List Ver} (h : IsB masks l) (hg : GotOk masks got) (hw : ∀ u ∈ l, u.id < gr l u.key → up masks l u ∈ got) : mendL l got = l.map (up masks l) ∧ mendE l got = 0 := by
  have : mends (mendO l got) l = some (l.map (up masks l)) := mends_all fun u hu => by
    unfold mendO mendOne
    by_cases hlt : u.id < gr l u.key
    · obtain ⟨w, m, hm, hk, hgr, _⟩ := h.greatest (k := u.key) (by omega)
      have e : gr l u.key / 65536 - 1 = w := by omega
      have e2 : masks.getD w 0 = m := by rw [List.getD_eq_getElem?_getD, hm]; rfl
      have hup : up masks l u = mk m w u.key := by rw [up, if_pos hlt, e, e2]
      have := got_of hg hm (hup ▸ hw u hu hlt)
      rw [if_pos hlt, hgr, this, hup]; rfl
    · have := ((h.2.2.1 u hu).kk).1
      rw [if_neg hlt, up, if_neg hlt]
      simp only [Option.map_some, setK, ← this]
  simp [mendL, mendE, h.formed, this]
end Go.Proofs.Ytobnjpgggocdlaa.Fx
end

section
namespace Go.Proofs.Ytobnjpgggocdlaa.Fx
open Go.Rmp Go.Proofs.Ytobnjpgggocdlaa.Ir
set_option maxRecDepth 10000
def markT (i : Nat) : ByteArray := ⟨#[UInt8.ofNat (IntKind.u8.wrap i).toNat, 7, 7]⟩
theorem mark38 (i : Nat) (H : Heap) : W env (.call 38 [.int .i64 i]) H (Ret (.str (markT i)) H) := by
  refine W.fnI rfl rfl rfl ?_
  simp only [ir38, seval, S1, bytesOf]
  rfl
theorem roomS {n bytes : Nat} (h : n ≤ 2097152) (hb : bytes ≤ 64) : roomOk n bytes = true := by
  refine roomT ?_
  have h1 : n / 4 ≤ 524288 := by omega
  calc (n + n / 4 + 512) * bytes ≤ (2097152 + 524288 + 512) * 64 := Nat.mul_le_mul (by omega) hb
    _ ≤ _ := by decide
theorem iadX {α : Type} {e : α → List T} {n : Nat} (hn : ∀ x, (e x).length = n) (h0 : n ≠ 0) {l : List α} {k : SK} {i : Nat} {x : α} (h : l[i]? = some x) : iadT n i (.sl k (l.map e)) = some (.iptr (e x)) := iad_map h (hn x) h0
theorem aps_ok {α : Type} {enc : α → List T} {n : Nat} (hn : ∀ x, (enc x).length = n) (her : ∀ x, (enc x).map T.erase = enc x) {E : Env} {R : Regs} {H : Heap} {K : Regs → Heap → Prop} {l0 : List O} {d : Option Nat} {s : List Rd} {g : Gd} {bytes t bb ty : Nat} {l new : List α} {ky : SK}
    (ht : R t = .msl bb 0 l.length n) (hy : R ty = .sl ky (new.map enc)) (hb : H[bb]? = some (.cells (msC enc l))) (h0 : 0 < l.length) (hnew : new ≠ []) (hr : roomOk (l.length + new.length) bytes = true)
    (h : ∀ kw H', Ext (H.set bb (.fz (msC enc l))) H' → Apd H.length H' kw → stB R H' s ∧ wpB E l0 (updo R d (.sl kw ((l ++ new).map enc))) H' K) : stepB E R H K l0 d s (.app n bytes false (.r t) (.r ty)) g none := by
  have hne : ty ≠ t := fun e => by rw [e, ht] at hy; cases hy
  obtain ⟨kw, H', ha, hap, hst⟩ := app_ok (n0 := H.length) (H := H.set bb (.fz (msC enc l)) ++ [.tok l.length]) (k := .own H.length l.length) (bytes := bytes) (l.map enc) (new.map enc) (.inr (.inr ⟨_, _, rfl, Nat.le_refl _, g_tail (by simp)⟩)) (by simp) (by simpa using hnew) (by simpa using hr)
  refine step_aps (t := t) (y := .r ty) (v := .sl kw ((l ++ new).map enc)) (H' := H') E R H K l0 d s ht hb (msC_len hn l).symm h0 ?_ (h kw H' (hst.ext _ (by simp) ⟨_, rfl⟩) hap)
  have hmm : (new.map enc).map (·.map T.erase) = new.map enc := by rw [List.map_map]; exact List.map_congr_left fun x _ => her x
  rw [hmm, ← List.map_append] at ha
  have h1 : upd R t (.sl (.own H.length l.length) (l.map enc)) ty = R ty := by simp [upd, hne]
  have h2 : upd R t (.sl (.own H.length l.length) (l.map enc)) t = .sl (.own H.length l.length) (l.map enc) := by simp [upd]
  have h3 : elemsOf (H.set bb (.fz (msC enc l)) ++ [.tok l.length]) n (.sl ky (new.map enc)) = some (new.map enc) := by simp [elemsOf, hn]
  simp only [evop, X.ev, frzE_ms hn, h1, h2, hy, h3, Bool.false_eq_true, if_false, all_map hn, if_true]
  exact ha
def lft {α : Type} (y : α) (j : Nat) (l : List α) : List α := List.replicate j y ++ l.drop j
theorem lft_len {α : Type} (y : α) {j : Nat} {l : List α} (h : j ≤ l.length) : (lft y j l).length = l.length := by simp [lft]; omega
theorem lft_zero {α : Type} (y : α) (l : List α) : lft y 0 l = l := by simp [lft]
theorem lft_all {α : Type} (y : α) (l : List α) : lft y l.length l = List.replicate l.length y := by simp [lft]
theorem lft_set {α : Type} (y : α) {j : Nat} {l : List α} (h : j < l.length) : (lft y j l).set j y = lft y (j + 1) l := by
  unfold lft
  rw [List.set_append, List.length_replicate, if_neg (Nat.lt_irrefl j), Nat.sub_self]
  obtain ⟨x, t, e⟩ : ∃ x t, l.drop j = x :: t := ⟨_, _, List.drop_eq_getElem_cons h⟩
  have e2 : l.drop (j + 1) = t := by rw [← List.drop_drop, e]; rfl
  rw [e, e2, List.set_cons_zero, List.replicate_succ', List.append_assoc]; rfl
theorem Mut.keep {α : Type} {e : α → List T} {m n0 : Nat} {H H' : Heap} {t : T} {l : List α} (h : Mut e m n0 H t l) (hk : ∀ b x, tbk t = some b → H[b]? = some x → H'[b]? = some x) : Mut e m n0 H' t l := by
  rcases h with h | ⟨b, rfl, h2, h3⟩
  · exact .inl h
  · exact .inr ⟨b, rfl, hk b _ rfl h2, h3⟩
abbrev encA (q : T × List ByteArray) : List T := [q.1]
structure Lst (H : Heap) (tl : T) (A : List (T × List ByteArray)) (g : Nat → List ByteArray → B) : Prop where
  row : ∃ b, tl = .msl b 0 A.length 1 ∧ H[b]? = some (.cells (msC encA A))
  fam : ∀ k q b, A[k]? = some q → tbk q.1 = some b → H[b]? = some (g k q.2)
structure Dst (tl : T) (A : List (T × List ByteArray)) : Prop where
  at' : ∀ q ∈ A, (q.2 = [] ∧ (q.1 = .sl .nil [] ∨ q.1 = .sl .full [])) ∨ (q.2 ≠ [] ∧ ∃ b, q.1 = .msl b 0 q.2.length 1)
  no : ∀ q ∈ A, ∀ b, tbk q.1 = some b → tbk tl ≠ some b
  dis : ∀ (i j : Nat) (p q : T × List ByteArray) (b : Nat), A[i]? = some p → A[j]? = some q → i ≠ j → tbk p.1 = some b → tbk q.1 ≠ some b
  len : ∀ q ∈ A, q.2.length ≤ 1048576
theorem Lst.put {H : Heap} {tl : T} {A : List (T × List ByteArray)} {g g' : Nat → List ByteArray → B} (h : Lst H tl A g) (hd : Dst tl A) {i : Nat} {q : T × List ByteArray} (hq : A[i]? = some q) {b : Nat} (hb : tbk q.1 = some b) (hg : ∀ k l, k ≠ i → g' k l = g k l) : Lst (H.set b (g' i q.2)) tl A g' := by
  have hl := glt (h.fam i q b hq hb)
  refine ⟨?_, fun k p c hp hc => ?_⟩
  · obtain ⟨bl, e1, e2⟩ := h.row
    exact ⟨bl, e1, by rw [g_ne (fun e => hd.no q (List.mem_of_getElem? hq) b hb (by rw [e1, e]; rfl))]; exact e2⟩
  · by_cases hki : k = i
    · subst hki
      rw [hq] at hp; cases hp
      rw [hb] at hc; cases hc
      exact g_eq hl
    · rw [g_ne (fun e => hd.dis k i p q c hp hq hki hc (by rw [hb, e])), hg _ _ hki]
      exact h.fam k p c hp hc
theorem Lst.to {H H' : Heap} {tl : T} {A : List (T × List ByteArray)} {g g' : Nat → List ByteArray → B} (h : Lst H tl A g) (hk : ∀ (b : Nat) (x : B), (∀ e, x ≠ .tok e) → H[b]? = some x → H'[b]? = some x) (hg : ∀ k q, A[k]? = some q → g' k q.2 = g k q.2) (hn : ∀ k l e, g k l ≠ B.tok e) : Lst H' tl A g' := by
  refine ⟨?_, fun k p c hp hc => ?_⟩
  · obtain ⟨bl, e1, e2⟩ := h.row
    exact ⟨bl, e1, hk _ _ (fun e h => B.noConfusion h) e2⟩
  · rw [hg k p hp]; exact hk _ _ (hn _ _) (h.fam k p c hp hc)
def gW (i j k : Nat) (l : List ByteArray) : B := .cells (msC eS (if k < i then List.replicate l.length (markT k) else if k = i then lft (markT i) j l else l))
def gH (i k : Nat) (l : List ByteArray) : B := if k < i then .fz (msC eS (List.replicate l.length (markT k))) else .cells (msC eS (List.replicate l.length (markT k)))
def lstA (A : List (T × List ByteArray)) (k : Nat) : List ByteArray := List.replicate (((A[k]?).map (·.2.length)).getD 0 + 30) (markT k)
def laL (A : List (T × List ByteArray)) (i : Nat) : List (List T) := (List.range i).map fun k => [T.sl .arg ((lstA A k).map eS)]
theorem gW_next (i k : Nat) (l : List ByteArray) (h : k = i → k < i + 1) : gW i l.length k l = gW (i + 1) 0 k l := by
  unfold gW
  by_cases h1 : k < i
  · rw [if_pos h1, if_pos (by omega)]
  · rw [if_neg h1]
    by_cases h2 : k = i
    · subst h2; rw [if_pos rfl, if_pos (by omega), lft_all]
    · rw [if_neg h2, if_neg (by omega)]
      by_cases h3 : k = i + 1
      · rw [if_pos h3, lft_zero]
      · rw [if_neg h3]
def Frm (A : List (T × List ByteArray)) (H H' : Heap) : Prop := H.length ≤ H'.length ∧ ∀ (b : Nat) (x : B), (∀ q ∈ A, tbk q.1 ≠ some b) → (∀ e, x ≠ .tok e) → H[b]? = some x → H'[b]? = some x
theorem Frm.refl (A : List (T × List ByteArray)) (H : Heap) : Frm A H H := ⟨Nat.le_refl _, fun _ _ _ _ h => h⟩
theorem Frm.trans {A : List (T × List ByteArray)} {H H' H'' : Heap} (h : Frm A H H') (h' : Frm A H' H'') : Frm A H H'' := ⟨Nat.le_trans h.1 h'.1, fun b x h1 h2 h3 => h'.2 b x h1 h2 (h.2 b x h1 h2 h3)⟩
theorem Frm.set {A : List (T × List ByteArray)} {H : Heap} {q : T × List ByteArray} (hq : q ∈ A) {b : Nat} (hb : tbk q.1 = some b) (y : B) : Frm A H (H.set b y) := ⟨by rw [List.length_set]; exact Nat.le_refl _, fun c x h1 _ h3 => by rw [g_ne (fun e => h1 q hq (by rw [hb, e]))]; exact h3⟩
theorem Frm.ext {A : List (T × List ByteArray)} {H H' : Heap} (h : Ext H H') : Frm A H H' := ⟨h.len, fun _ _ _ _ h3 => h.get h3⟩
theorem marked24 {A : List (T × List ByteArray)} {tl : T} {H : Heap} (hd : Dst tl A) (hA : A ≠ [] → Lst H tl A fun _ l => .cells (msC eS l)) (hA0 : A = [] → tl = .sl .nil []) (hAl : A.length ≤ 128) :
    W env (.call 24 [tl]) H (fun o H' => o = .val (.bool true) ∧ Frm A H H') := by
  refine W.fnI rfl rfl rfl ?_
  by_cases he : A = []
  · subst he
    rw [hA0 rfl]
    simp only [ir24, seval, S1]
    refine W.loopV [(0, _), (3, _)] (fun (i : Nat) R H' => R 4 = .int .i64 0 ∧ H = H') (fun i => i) 0 ⟨rfl, rfl⟩ ?_
    rintro i R H1 ⟨g4, rfl⟩
    simp only [mkR_nil, mkR_cons, seval, S1, g4]
    refine W.loopV [(0, _)] (fun (i : Nat) R H' => R 6 = .int .i64 0 ∧ H = H') (fun i => i) 0 ⟨rfl, rfl⟩ ?_
    rintro i R H1 ⟨g4, rfl⟩
    simp only [mkR_nil, mkR_cons, seval, S1, g4]
    refine W.loopV [(0, _)] (fun (i : Nat) R H' => R 9 = .int .i64 0 ∧ H = H') (fun i => i) 0 ⟨rfl, rfl⟩ ?_
    rintro i R H1 ⟨g4, rfl⟩
    simp only [mkR_nil, mkR_cons, seval, S1, g4]
    exact Frm.refl _ _
  have hL := hA he
  obtain ⟨bl, rfl, hbl⟩ := hL.row
  have hnt : ∀ {i : Nat} {q : T × List ByteArray} {b : Nat}, A[i]? = some q → tbk q.1 = some b → bl ≠ b := fun hq hb e => hd.no _ (List.mem_of_getElem? hq) _ hb (by rw [e]; rfl)
  simp only [ir24, seval, S1]
  refine W.loopV [(0, _), (3, _)] (fun (i : Nat) R H' => R 4 = .int .i64 i ∧ i ≤ A.length ∧ Lst H' (.msl bl 0 A.length 1) A (gW i 0) ∧ Frm A H H') (fun i => A.length - i) 0 ⟨rfl, Nat.zero_le _, hL.to (fun _ _ _ h => h) (fun k q _ => by unfold gW; rw [if_neg (Nat.not_lt_zero k)]; by_cases h : k = 0 <;> simp [h, lft_zero]) (fun k l e h => by cases h), Frm.refl _ _⟩ ?_
  rintro i R H1 ⟨g4, hi, hf, hfr⟩
  by_cases hlt : i < A.length
  · obtain ⟨⟨t, l⟩, hx⟩ := getP hlt
    have wsi := wrap_succ (show i < 9223372036854775807 by omega)
    have hll := hd.len _ (List.mem_of_getElem? hx)
    have hll : l.length ≤ 1048576 := hll
    have hga := msC_get (enc := encA) (n := 1) (fun _ => rfl) hx 0 1 (by decide)
    rw [Nat.add_zero] at hga
    obtain ⟨_, e0, hb1⟩ := hf.row
    obtain ⟨rfl, _⟩ := T.msl.inj e0
    rcases hd.at' _ (List.mem_of_getElem? hx) with ⟨h0, ht⟩ | ⟨h0, b, ht⟩
    · simp only at h0 ht
      subst h0
      have hlen : H1 = H1 := rfl
      simp only [mkR_nil, mkR_cons, seval, S1, g4, hlt]
      refine W.loopV (hv := ⟨rfl, rfl, g4, trivial⟩) [(0, _), (3, _), (4, _)] (fun (j : Nat) R H' => R 5 = .int .i64 0 ∧ H' = H1) (fun j => j) 0 ⟨rfl, rfl⟩ ?_
      rintro j R H2 ⟨g5, rfl⟩
      rcases ht with rfl | rfl <;>
      · simp only [mkR_nil, mkR_cons, seval, S1, g5, natOf_nat, iad_m, hlt, hb1, hga, encA, wsi]
        exact ⟨i + 1, by omega, rfl, hlt, hf.to (fun _ _ _ h => h) (fun k q hk => by
          by_cases hki : k = i
          · subst hki; rw [hx] at hk; cases hk; exact (gW_next k k [] (by omega)).symm
          · unfold gW; simp only [hki, if_false]
            by_cases h1 : k < i
            · rw [if_pos h1, if_pos (by omega)]
            · rw [if_neg h1, if_neg (by omega)]; by_cases h2 : k = i + 1 <;> simp [h2, lft_zero]) (fun k l e h => by cases h), hfr⟩
    · simp only at h0 ht
      subst ht
      simp only [mkR_nil, mkR_cons, seval, S1, g4, hlt]
      refine W.loopV (hv := ⟨rfl, rfl, g4, trivial⟩) [(0, _), (3, _), (4, _)] (fun (j : Nat) R H' => R 5 = .int .i64 j ∧ j ≤ l.length ∧ Lst H' (.msl bl 0 A.length 1) A (gW i j) ∧ Frm A H H') (fun j => l.length - j) 0 ⟨rfl, Nat.zero_le _, hf, hfr⟩ ?_
      rintro j R H2 ⟨g5, hj, hf2, hfr2⟩
      obtain ⟨_, e0, hb2⟩ := hf2.row
      obtain ⟨rfl, _⟩ := T.msl.inj e0
      by_cases hltj : j < l.length
      · have wsj := wrap_succ (show j < 9223372036854775807 by omega)
        simp only [mkR_nil, mkR_cons, seval, S1, g5, natOf_nat, iad_m, hlt, hb2, hga, encA, hltj]
        refine callB_of _ _ _ _ _ _ _ _ (mark38 i _) ?_
        rintro u H3 ⟨hu, rfl⟩
        cases hu
        have hlen := lft_len (markT i) hj
        obtain ⟨yj, hyj⟩ := getP (l := lft (markT i) j l) (i := j) (by omega)
        have hbb := hf2.fam i _ b hx rfl
        simp only [gW, Nat.lt_irrefl, if_false, if_true] at hbb
        have hst := msC_set (enc := eS) (n := 1) (fun _ => rfl) hyj (y := markT i) H3 b [.str (markT i)] 0 (by simp) rfl
        rw [Nat.add_zero, lft_set (markT i) hltj] at hst
        simp only [mkR_nil, mkR_cons, seval, S1, g5, natOf_nat, iad_m, hlt, hb2, hga, encA, hltj, hbb, hst, wsj]
        refine ⟨j + 1, by omega, rfl, hltj, ?_, hfr2.trans (Frm.set (List.mem_of_getElem? hx) rfl _)⟩
        have := hf2.put (g' := gW i (j + 1)) hd hx (b := b) rfl (fun k l hk => by unfold gW; simp [hk])
        simp only [gW, Nat.lt_irrefl, if_false, if_true] at this
        exact this
      · have hjl : j = l.length := by omega
        subst hjl
        simp only [mkR_nil, mkR_cons, seval, S1, g5, natOf_nat, iad_m, hlt, hb2, hga, encA, hltj, wsi]
        exact ⟨i + 1, by omega, rfl, hlt, hf2.to (fun _ _ _ h => h) (fun k q hk => by
          by_cases hki : k = i
          · subst hki; rw [hx] at hk; cases hk; exact (gW_next k k l (by omega)).symm
          · unfold gW; simp only [hki, if_false]
            by_cases h1 : k < i
            · rw [if_pos h1, if_pos (by omega)]
            · rw [if_neg h1, if_neg (by omega)]; by_cases h2 : k = i + 1 <;> simp [h2, lft_zero]) (fun k l e h => by cases h), hfr2⟩
  · have hil : i = A.length := by omega
    subst hil
    simp only [mkR_nil, mkR_cons, seval, S1, g4, hlt]
    clear hlt g4 hi
    have hf : Lst H1 (.msl bl 0 A.length 1) A (gH 0) := hf.to (fun _ _ _ h => h) (fun k q hk => by
      have hk' := (List.getElem?_eq_some_iff.1 hk).1
      unfold gH gW; rw [if_neg (Nat.not_lt_zero k), if_pos hk']) (fun k l e h => by cases h)
    have hgn : ∀ i k l e, gH i k l ≠ B.tok e := fun i k l e h => by unfold gH at h; split at h <;> cases h
    obtain ⟨H0, hH0⟩ : ∃ H0, H0 = H1 := ⟨_, rfl⟩
    refine W.loopV [(0, _)] (fun (i : Nat) R H' => At H' (fun H' => ∃ k3, R 3 = .sl k3 (laL A i) ∧ Apd H0.length H' k3 ∧ Lst H' (.msl bl 0 A.length 1) A (gH i) ∧ H0.length ≤ H'.length ∧ Frm A H H') ∧ R 6 = .int .i64 i ∧ i ≤ A.length) (fun i => A.length - i) 0 ⟨.i ⟨.nil, rfl, apd_nil _ _, hf, by rw [hH0]; exact Nat.le_refl _, hfr⟩, rfl, Nat.zero_le _⟩ ?_
    rintro i R H2 ⟨⟨k3, g3, hap3, hh, hn2, hfr2⟩, g6, hi⟩
    by_cases hlt : i < A.length
    · obtain ⟨⟨t, l⟩, hx⟩ := getP hlt
      have wsi := wrap_succ (show i < 9223372036854775807 by omega)
      have hll := hd.len _ (List.mem_of_getElem? hx)
      have hll : l.length ≤ 1048576 := hll
      have hga := msC_get (enc := encA) (n := 1) (fun _ => rfl) hx 0 1 (by decide)
      rw [Nat.add_zero] at hga
      obtain ⟨_, e0, hb2⟩ := hh.row
      obtain ⟨rfl, _⟩ := T.msl.inj e0
      obtain ⟨Wl, hW⟩ : ∃ Wl, Wl = List.replicate l.length (markT i) := ⟨_, rfl⟩
      have hWl : Wl.length = l.length := by rw [hW, List.length_replicate]
      have hst0 : ∃ Hb, (∀ (c : Nat) (x : B), tbk t ≠ some c → H2[c]? = some x → Hb[c]? = some x) ∧ Hb.length = H2.length ∧ Lst Hb (.msl bl 0 A.length 1) A (gH (i + 1)) ∧ Frm A H2 Hb ∧ ((0 < Wl.length ∧ ∃ b, t = .msl b 0 Wl.length 1 ∧ H2[b]? = some (.cells (msC eS Wl)) ∧ Hb = H2.set b (.fz (msC eS Wl))) ∨ (Wl = [] ∧ Hb = H2 ∧ ∃ ky, t = .sl ky [] ∧ Apd H2.length H2 ky)) := by
        have hgg : ∀ k l, k ≠ i → gH (i + 1) k l = gH i k l := fun k l hk => by
          unfold gH
          by_cases h1 : k < i
          · rw [if_pos h1, if_pos (by omega)]
          · rw [if_neg h1, if_neg (by omega)]
        rcases hd.at' _ (List.mem_of_getElem? hx) with ⟨h0, ht⟩ | ⟨h0, b, ht⟩
        · simp only at h0 ht
          have hno : tbk t = Option.none := by rcases ht with rfl | rfl <;> rfl
          refine ⟨H2, fun _ _ _ h => h, rfl, ⟨hh.row, fun k p c hp hc => ?_⟩, Frm.refl _ _, .inr ⟨by rw [hW, h0]; rfl, rfl, ?_⟩⟩
          · rw [hgg k _ (by rintro rfl; rw [hx] at hp; cases hp; simp only at hc; rw [hno] at hc; cases hc)]
            exact hh.fam k p c hp hc
          · rcases ht with rfl | rfl
            · exact ⟨_, rfl, .inl rfl⟩
            · exact ⟨_, rfl, .inr (.inl rfl)⟩
        · simp only at h0 ht
          have hcb := hh.fam i _ b hx (by rw [ht]; rfl)
          simp only [gH, Nat.lt_irrefl, if_false] at hcb
          rw [← hW] at hcb
          have hput := hh.put (g' := gH (i + 1)) hd hx (b := b) (by rw [ht]; rfl) hgg
          simp only [gH, Nat.lt_succ_self, if_true] at hput
          rw [← hW] at hput
          exact ⟨H2.set b (.fz (msC eS Wl)), fun c x hc hx => by rw [g_ne (fun e => hc (by rw [ht, e]; rfl))]; exact hx, by rw [List.length_set], hput, Frm.set (List.mem_of_getElem? hx) (by rw [ht]; rfl) _, .inl ⟨by rw [hWl]; exact List.length_pos_iff.2 h0, b, by rw [ht, hWl], hcb, rfl⟩⟩
      obtain ⟨Hb, hbt0, hbl', hLb, hfb, hcase⟩ := hst0
      simp only [mkR_nil, mkR_cons, seval, S1, g6, hlt, natOf_nat, iad_m, hb2, hga, encA]
      refine W.loopV (hv := ⟨rfl, g3, g6, trivial⟩) [(0, _), (3, _), (6, _)] (fun (j : Nat) R H' => At H' (fun H' => (j = 0 ∧ R 7 = t ∧ H' = H2 ∧ 0 < Wl.length) ∨ ∃ kw, R 7 = .sl kw ((Wl ++ List.replicate j (markT i)).map eS) ∧ Ext Hb H' ∧ Apd Hb.length H' kw) ∧ R 8 = .int .i64 j ∧ j ≤ 30) (fun j => 30 - j) 0 ⟨.i ?_, rfl, Nat.zero_le _⟩ ?_
      · rcases hcase with ⟨h0, b, rfl, _⟩ | ⟨h0, rfl, ky, rfl, hap⟩
        · exact .inl ⟨rfl, rfl, rfl, h0⟩
        · exact .inr ⟨ky, by rw [h0]; rfl, Ext.rfl', hap⟩
      rintro j R H3 ⟨h3, g8, hj⟩
      by_cases hlj : j < 30
      · have wsj := wrap_succ (show j < 9223372036854775807 by omega)
        have hlj' : ((j : Nat) : Int) < 30 := by omega
        have hrep : List.replicate (j + 1) (markT i) = List.replicate j (markT i) ++ [markT i] := List.replicate_succ'
        rcases h3 with ⟨rfl, g7, rfl, hpos⟩ | ⟨kw, g7, hxe, hap⟩
        · rcases hcase with ⟨_, b, rfl, hcb, hHb⟩ | ⟨h0, _⟩
          · simp only [mkR_nil, mkR_cons, seval, S1, g7, g8]
            refine callB_of _ _ _ _ _ _ _ _ (mark38 i _) ?_
            rintro u H4 ⟨hu, rfl⟩
            cases hu
            simp only [mkR_nil, mkR_cons, seval, S1, g7, g8]
            refine aps_ok (enc := eS) (n := 1) (fun _ => rfl) (fun _ => rfl) (l := Wl) (new := [markT i]) (ky := .full) (bb := b) (by simp only [seval, S1]) (by simp only [seval, S1, eS]) hcb hpos (by simp) (roomS (by simp; omega) (by omega)) fun kw H' hx' hap => ?_
            simp only [mkR_nil, mkR_cons, seval, S1, g8]
            exact ⟨1, by omega, .i (.inr ⟨kw, rfl, by rw [hHb]; exact hx', by rw [hHb]; simpa using hap⟩), rfl, by omega⟩
          · rw [h0] at hpos; exact absurd hpos (Nat.lt_irrefl 0)
        · simp only [mkR_nil, mkR_cons, seval, S1, g7, g8, hlj']
          refine callB_of _ _ _ _ _ _ _ _ (mark38 i _) ?_
          rintro u H4 ⟨hu, rfl⟩
          cases hu
          have hall := all_map (enc := eS) (n := 1) (fun _ => rfl) (Wl ++ List.replicate j (markT i))
          obtain ⟨k', H', ha, hap', hst'⟩ := app_ok (bytes := 16) ((Wl ++ List.replicate j (markT i)).map eS) [[T.str (markT i)]] hap hxe.len (by simp) (roomS (by simp; omega) (by omega))
          simp only [seval, S1] at ha
          simp only [mkR_nil, mkR_cons, seval, S1, g7, g8, hlj', hall, ha, wsj]
          refine ⟨j + 1, by omega, .i (.inr ⟨k', ?_, hst'.ext Hb (Nat.le_refl _) hxe, hap'⟩), rfl, by omega⟩
          rw [hrep]
          simp only [seval, S1, ← List.append_assoc, List.map_append, eS]
      · have hj30 : j = 30 := by omega
        subst hj30
        rcases h3 with ⟨e, _⟩ | ⟨kw, g7, hxe, hap⟩
        · cases e
        have htl : ∀ b, tbk t = some b → ∀ e, H2[b]? ≠ some (.tok e) := fun b hb e h => by
          have := hh.fam i _ b hx hb
          rw [h] at this; exact hgn _ _ _ _ (Option.some.inj this).symm
        have hap3' : Apd H0.length H3 k3 := by
          rcases hap3 with h | h | ⟨t5, e5, h, h1, h2⟩
          · exact .inl h
          · exact .inr (.inl h)
          · exact .inr (.inr ⟨t5, e5, h, h1, hxe.get (hbt0 t5 _ (fun hb => htl t5 hb e5 h2) h2)⟩)
        have hZ : (Wl ++ List.replicate 30 (markT i)) = lstA A i := by
          rw [hW, lstA, hx, List.replicate_append_replicate]; rfl
        rw [hZ] at g7
        obtain ⟨k', H', ha, hap', hst'⟩ := app_ok (bytes := 24) (laL A i) [[T.sl .arg ((lstA A i).map eS)]] hap3' (by have := hxe.len; omega) (by simp) (roomS (by simp [laL]; omega) (by omega))
        have hall5 : (laL A i).all (fun c => c.length == 1) = true := by rw [List.all_eq_true]; intro c hc; obtain ⟨_, _, rfl⟩ := List.mem_map.1 hc; rfl
        simp only [seval, S1] at ha
        simp only [mkR_nil, mkR_cons, seval, S1, g7, g8, hall5, ha, wsi]
        refine ⟨i + 1, by omega, .i ⟨k', ?_, hap', hLb.to (fun c x hnt h => hst'.cells hap3' (hxe.get h) hnt) (fun _ _ _ => rfl) (hgn _), Nat.le_trans (by have := hxe.len; omega) hst'.len, (hfr2.trans (hfb.trans (Frm.ext hxe))).trans ⟨hst'.len, fun c x _ hnt h => hst'.cells hap3' h hnt⟩⟩, rfl, hlt⟩
        simp only [laL, List.range_succ, List.map_append, List.map_cons, List.map_nil]
    · have hil : i = A.length := by omega
      subst hil
      simp only [mkR_nil, mkR_cons, seval, S1, g6, hlt]
      clear hlt g6 hi hap3
      have hlaL : (laL A A.length).length = A.length := by simp [laL]
      obtain ⟨_, e0, hb2⟩ := hh.row
      obtain ⟨rfl, _⟩ := T.msl.inj e0
      refine W.loopV (hv := ⟨rfl, g3, trivial⟩) [(0, _), (3, _)] (fun (i : Nat) R H' => H' = H2 ∧ R 9 = .int .i64 i ∧ i ≤ A.length) (fun i => A.length - i) 0 ⟨rfl, rfl, Nat.zero_le _⟩ ?_
      rintro i R H5 ⟨rfl, g9, hi⟩
      by_cases hlt : i < A.length
      · obtain ⟨⟨t, l⟩, hx⟩ := getP hlt
        have wsi := wrap_succ (show i < 9223372036854775807 by omega)
        have hll := hd.len _ (List.mem_of_getElem? hx)
        have hll : l.length ≤ 1048576 := hll
        have hga := msC_get (enc := encA) (n := 1) (fun _ => rfl) hx 0 1 (by decide)
        rw [Nat.add_zero] at hga
        have hla : (laL A A.length)[i]? = some [T.sl .arg ((lstA A i).map eS)] := by simp [laL, hlt]
        have il : iadT 1 i (.sl k3 (laL A A.length)) = some (.iptr [T.sl .arg ((lstA A i).map eS)]) := by simp [iadT, hla]
        have hle : (lstA A i).length = l.length + 30 := by simp [lstA, hx]
        simp only [mkR_nil, mkR_cons, seval, S1, hlaL, g9, hlt]
        refine W.loopV (hv := ⟨rfl, rfl, g9, trivial⟩) [(0, _), (3, _), (9, _)] (fun (j : Nat) R H' => H' = H5 ∧ R 10 = .int .i64 j ∧ j ≤ (lstA A i).length) (fun j => (lstA A i).length - j) 0 ⟨rfl, rfl, Nat.zero_le _⟩ ?_
        rintro j R H6 ⟨rfl, g10, hj⟩
        by_cases hlj : j < (lstA A i).length
        · have wsj := wrap_succ (show j < 9223372036854775807 by omega)
          have hlv : (lstA A i)[j]? = some (markT i) := by
            rw [List.getElem?_eq_getElem hlj]; simp [lstA]
          have ij := iadX (e := eS) (n := 1) (fun _ => rfl) (by decide) (k := .arg) hlv
          have hse : strEq (markT i) (markT i) = true := by rw [strEq_eq]; simp
          simp only [mkR_nil, mkR_cons, seval, S1, List.length_map, g10, natOf_nat, il, hlj, ij, eS]
          refine callB_of _ _ _ _ _ _ _ _ (mark38 i _) ?_
          rintro u H7 ⟨hu, rfl⟩
          cases hu
          rcases hd.at' _ (List.mem_of_getElem? hx) with ⟨h0, ht⟩ | ⟨h0, b, ht⟩
          · simp only at h0 ht
            subst h0
            have hn0 : ¬ (((j : Nat) : Int) < 0) := by omega
            rcases ht with rfl | rfl <;>
            · simp only [mkR_nil, mkR_cons, seval, S1, hn0, List.length_nil, List.length_map, g10, natOf_nat, il, hlj, ij, eS, hse, iad_m, hlt, hb2, hga, encA, wsj]
              exact ⟨j + 1, by omega, rfl, by omega⟩
          · simp only at h0 ht
            subst ht
            by_cases hjl : j < l.length
            · obtain ⟨yj, hyj⟩ := getP (l := List.replicate l.length (markT i)) (i := j) (by simpa using hjl)
              have hyv : yj = markT i := (List.mem_replicate.1 (List.mem_of_getElem? hyj)).2
              subst hyv
              have hfzb := hh.fam i _ b hx rfl
              simp only [gH, hlt, if_true] at hfzb
              have hg := msC_get (enc := eS) (n := 1) (fun _ => rfl) hyj 0 1 (by decide)
              rw [Nat.add_zero] at hg
              have hg : ldcB 1 (j * 1) (some (.fz (msC eS (List.replicate l.length (markT i))))) = some [.str (markT i)] := hg
              simp only [mkR_nil, mkR_cons, seval, S1, List.length_map, g10, natOf_nat, il, hlj, ij, eS, hse, iad_m, hlt, hb2, hga, encA, hjl, hfzb, hg]
              refine callB_of _ _ _ _ _ _ _ _ (mark38 i _) ?_
              rintro u H8 ⟨hu, rfl⟩
              cases hu
              simp only [mkR_nil, mkR_cons, seval, S1, List.length_map, g10, natOf_nat, il, hlj, ij, eS, hse, iad_m, hlt, hb2, hga, encA, hjl, hfzb, hg, wsj]
              exact ⟨j + 1, by omega, rfl, by omega⟩
            · simp only [mkR_nil, mkR_cons, seval, S1, List.length_map, g10, natOf_nat, il, hlj, ij, eS, hse, iad_m, hlt, hb2, hga, encA, hjl, wsj]
              exact ⟨j + 1, by omega, rfl, by omega⟩
        · have hjl : j = (lstA A i).length := by omega
          simp only [mkR_nil, mkR_cons, seval, S1, List.length_map, g10, natOf_nat, il, hlj, wsi]
          exact ⟨i + 1, by omega, rfl, hlt⟩
      · have hil : i = A.length := by omega
        subst hil
        simp only [mkR_nil, mkR_cons, seval, S1, hlaL, g9, hlt]
        exact hfr2
end Go.Proofs.Ytobnjpgggocdlaa.Fx
end

section
namespace Go.Proofs.Ytobnjpgggocdlaa.Fx
open Go.Rmp Go.Proofs.Ytobnjpgggocdlaa.Ir
set_option maxRecDepth 10000
def Tru : Out → Heap → Prop := fun o _ => o = .val (.bool true)
theorem allI (l : List Int) : (encI l).all (fun c => c.length == 1) = true := all_map (n := 1) (fun _ => rfl) l
theorem takeI (l : List Int) (n : Nat) : (encI l).take n = encI (l.take n) := by simp [encI, List.map_take]
theorem mn20 (a : Nat) : (if (20 : Int) < ((a : Nat) : Int) then (20 : Int) else ((a : Nat) : Int)) = ((min a 20 : Nat) : Int) := by split <;> omega
theorem wants_get {l : List Ver} {i : Nat} {p : ByteArray × Nat} (h : (wants l)[i]? = some p) : ∃ u ∈ l, u.id < gr l u.key ∧ p = (u.key, gr l u.key) := by
  have := List.mem_of_getElem? h
  unfold wants wants' at this
  obtain ⟨u, hu, rfl⟩ := List.mem_map.1 this
  have hu := List.mem_filter.1 hu
  exact ⟨u, hu.1, by simpa using hu.2, rfl⟩
theorem wants_has {l : List Ver} {u : Ver} (hu : u ∈ l) (h : u.id < gr l u.key) : ∃ i : Nat, (wants l)[i]? = some (u.key, gr l u.key) := by
  have : (u.key, gr l u.key) ∈ wants l := by
    unfold wants wants'; exact List.mem_map.2 ⟨u, by simp [hu, h], rfl⟩
  exact List.mem_iff_getElem?.1 this
theorem idw (w : Nat) (h : w < 60) : IntKind.i64.wrap ((IntKind.i64.wrap (IntKind.u64.wrap ((((65536 * (w + 1) : Nat) : Int)).tdiv 65536))) - 1) = (w : Int) := by
  have e : (((65536 * (w + 1) : Nat) : Int)).tdiv 65536 = ((w + 1 : Nat) : Int) := by
    rw [show (65536 : Int) = ((65536 : Nat) : Int) by rfl, ← Int.ofNat_tdiv]
    congr 1; omega
  have a1 : IntKind.i64.wrap ((w + 1 : Nat) : Int) = ((w + 1 : Nat) : Int) := wrap64 (by omega)
  rw [e, wrapu64 (by omega), a1, wrap64 (by omega)]
  omega
theorem elems_ms {α : Type} {enc : α → List T} {n : Nat} (hn : ∀ x, (enc x).length = n) {H : Heap} {b : Nat} {l : List α} (hb : H[b]? = some (.cells (msC enc l))) : elemsOf H n (.msl b 0 l.length n) = some (l.map enc) := by
  have h1 := frzE_ms hn l
  unfold frzE at h1
  have h2 : l.length * n ≤ (msC enc l).length := by rw [msC_len hn]; exact Nat.le_refl _
  simp only [elemsOf, hb, Nat.zero_add, h2, and_self, if_true]
  simpa using h1
theorem fgt_mut {α : Type} {enc : α → List T} {n n0 : Nat} {H : Heap} {t : T} {l : List α} (h : Mut enc n n0 H t l) : fgt t = t := by
  rcases h with ⟨_, rfl⟩ | ⟨b, rfl, _⟩ <;> rfl
theorem cpy2 {α : Type} {enc : α → List T} {n bytes : Nat} (hn : ∀ x, (enc x).length = n) (l : List α) (s : α) (H : Heap) (hr0 : roomOk l.length bytes = true) (hr : roomOk (l.length + 1) bytes = true) :
    ∃ t1 H1 c H2, appM H n bytes (.sl .nil []) (l.map enc) = some (t1, H1) ∧ fgt t1 = t1 ∧ appM H1 n bytes t1 [enc s] = some (.msl c 0 (l.length + 1) n, H2) ∧ H2[c]? = some (.cells (msC enc (l ++ [s]))) ∧ Ext H H1 ∧ Ext H H2 ∧ H.length ≤ c := by
  have h1 : ∃ t1 H1, appM H n bytes (.sl .nil []) (l.map enc) = some (t1, H1) ∧ Mut enc n H.length H1 t1 l ∧ Ext H H1 := by
    by_cases he : l = []
    · subst he; exact ⟨_, H, rfl, mut_nil _ _ _ _, Ext.rfl'⟩
    · obtain ⟨t1, H1, ha, hm, hst⟩ := appM_ok (bytes := bytes) hn l (mut_nil enc n H.length H) (Nat.le_refl _) he (by simpa using hr0)
      exact ⟨t1, H1, ha, hm, hst.ext H (Nat.le_refl _) Ext.rfl'⟩
  obtain ⟨t1, H1, ha, hm, hx⟩ := h1
  obtain ⟨t2, H2, hb, hm2, hst⟩ := appM_ok (bytes := bytes) hn [s] hm hx.len (by simp) (by simpa using hr)
  rcases hm2 with ⟨h0, _⟩ | ⟨c, rfl, h2, h3⟩
  · simp at h0
  · exact ⟨t1, H1, c, H2, ha, fgt_mut hm, by simpa using hb, h2, hx, hst.ext H (Nat.le_refl _) hx, h3⟩
theorem W.loopN {E : Env} {α : Type} {a : C} {R : Regs} {H : Heap} {Q : Out → Heap → Prop} (id : Nat) (vs : List (Nat × T)) (I : α → Regs → Heap → Prop) (μ : α → Nat) (x : α) (P : Regs → Heap → Prop)
    (h0 : I x R H) (step : ∀ x R H, I x R H → wpC E a (mkR vs R) H (thenQ (fun R' H' => ∃ y, μ y < μ x ∧ I y R' H') (exitQ id P fun _ _ => False))) (rest : ∀ R H, P R H → Q (.ex (.exit id) (mkR vs R)) H)
    (hv : agree vs R := by repeat' (first | exact trivial | refine And.intro rfl ?_)) (hw : okV vs (wr a) = true := by rfl) : W E (.code (.loop a) R) H Q :=
  W.loopX id vs I μ x P h0 (fun x R H h => wpC_mono _ _ _ (fun o H' (h : thenQ (fun R' H' => ∃ y, μ y < μ x ∧ I y R' H') (exitQ id P fun _ _ => False) o H') => by
    cases o with
    | val v => exact False.elim h
    | ex e R' => cases e with
      | normal => exact h
      | ret => exact False.elim h
      | exit i =>
        by_cases e : i = id
        · simp only [thenQ, exitQ, e, if_true] at h ⊢; exact h
        · simp only [thenQ, exitQ, e, if_false] at h) (step x R H h)) rest hv hw
def dropS : Nat → C → C
  | n + 1, .seq _ b => dropS n b
  | _, c => c
def itm : Nat → C → C
  | 0, .seq a _ => a
  | n + 1, .seq _ b => itm n b
  | _, c => c
abbrev Nx (S : Regs → Heap → Prop) (rest : C) : Prop := ∀ R H, S R H → wpC env rest R H (endQ ir8.res Tru)
abbrev at8 (k : Nat) (R : Regs) (H : Heap) : Prop := wpC env (dropS k ir8.body) R H (endQ ir8.res Tru)
def spareT : ByteArray := ⟨#[115, 112, 97, 114, 101]⟩
def spV : Ver := ⟨spareT, 0, ⟨#[]⟩, .arg, []⟩
def spQ : T × Ver := (.sl .arg [], spV)
structure Ctx (M : List Int) (l got : List Ver) : Prop where
  b : IsB M l
  g : GotOk M got
  gl : got.length ≤ 8
  up : ∀ u ∈ l, u.id < gr l u.key → up M l u ∈ got
structure Inp (c : List T → B) (H : Heap) (l got : List Ver) (ql : List (T × Ver)) (ti tf : T) : Prop where
  row : ∃ b, ti = .msl b 0 ql.length 4 ∧ H[b]? = some (c (msC encVT (ql ++ [spQ])))
  keys : ∀ q ∈ ql, ∃ b, q.1 = .msl b 0 q.2.keys.length 1 ∧ H[b]? = some (c (msC eS (q.2.keys ++ [spareT])))
  vals : ql.map (·.2) = l
  flat : ∃ b, tf = .msl b 0 got.length 4 ∧ H[b]? = some (c (msC encV (got ++ [spV])))
theorem Inp.cv {H : Heap} {l got : List Ver} {ql : List (T × Ver)} {ti tf : T} (h : Inp .cells H l got ql ti tf) : CV H ti ql :=
  ⟨by obtain ⟨b, h1, h2⟩ := h.row; exact ⟨b, _, h1, h2⟩, fun q hq => by obtain ⟨b, h1, h2⟩ := h.keys q hq; exact .inr ⟨b, _, h1, h2⟩⟩
theorem Inp.fv {H : Heap} {l got : List Ver} {ql : List (T × Ver)} {ti tf : T} (h : Inp .fz H l got ql ti tf) : FV H ti ql :=
  ⟨by obtain ⟨b, h1, h2⟩ := h.row; exact ⟨b, _, h1, h2⟩, fun q hq => by obtain ⟨b, h1, h2⟩ := h.keys q hq; exact .inr ⟨b, _, h1, h2⟩⟩
theorem Inp.keep {H H' : Heap} {l got : List Ver} {ql : List (T × Ver)} {ti tf : T} (h : Inp .fz H l got ql ti tf) (hk : ∀ (b : Nat) (cs : List T), H[b]? = some (.fz cs) → H'[b]? = some (.fz cs)) : Inp .fz H' l got ql ti tf :=
  ⟨by obtain ⟨b, h1, h2⟩ := h.row; exact ⟨b, h1, hk _ _ h2⟩, fun q hq => by obtain ⟨b, h1, h2⟩ := h.keys q hq; exact ⟨b, h1, hk _ _ h2⟩, h.vals, by obtain ⟨b, h1, h2⟩ := h.flat; exact ⟨b, h1, hk _ _ h2⟩⟩
theorem Inp.ext {H H' : Heap} {l got : List Ver} {ql : List (T × Ver)} {ti tf : T} (h : Inp .fz H l got ql ti tf) (hx : Ext H H') : Inp .fz H' l got ql ti tf := h.keep fun _ _ h => hx.get h
theorem Inp.vals' {c : List T → B} {M : List Int} {H : Heap} {l got : List Ver} {ql : List (T × Ver)} {ti tf : T} (h : Inp c H l got ql ti tf) (hc : Ctx M l got) : ql.map val = l := by
  rw [← h.vals]
  refine List.map_congr_left fun q hq => ?_
  obtain ⟨b, h1, _⟩ := h.keys q hq
  have := (hc.b.2.2.1 q.2 (by rw [← h.vals]; exact List.mem_map_of_mem hq)).kk.1
  unfold val; rw [h1]; show setK q.2 .arg = q.2; unfold setK; rw [← this]
theorem one_encV : ∀ x : Ver, ∀ t ∈ encV x, t.one = true := fun x t ht => by
  simp only [encV, List.mem_cons, List.not_mem_nil, or_false] at ht
  rcases ht with rfl | rfl | rfl | rfl <;> rfl
theorem Inp.mend {M : List Int} {H : Heap} {l got : List Ver} {ql : List (T × Ver)} {ti tf : T} (h : Inp .fz H l got ql ti tf) (hc : Ctx M l got) : W env (.call 16 [ti, tf]) H (MendM l got H) := by
  obtain ⟨b, h1, h2⟩ := h.flat
  refine vw2 h.fv.vw (by rw [h1]; exact vw_flat (enc := encV) (n := 4) (fun _ => rfl) one_encV h2) ?_
  rw [h.vals' hc]
  exact mend16m .arg .arg l got H hc.b.small hc.b.nil hc.g.small (by have := hc.gl; omega)
theorem Inp.mend0 {M : List Int} {H : Heap} {l got : List Ver} {ql : List (T × Ver)} {ti tf : T} (h : Inp .cells H l got ql ti tf) (hc : Ctx M l got) : W env (.call 16 [ti, tf]) H (fun o H' => Inp .fz H' l got ql ti tf ∧ ∃ K, K.length = H.length ∧ MendM l got K o H') := by
  obtain ⟨bf, e1, e2⟩ := h.flat
  have hi : Inp .fz (frzH H (bf :: bks ti ql)) l got ql ti tf := by
    refine ⟨?_, fun q hq => ?_, h.vals, ⟨bf, e1, frzH_at _ _ _ _ List.mem_cons_self e2⟩⟩
    · obtain ⟨b, h1, h2⟩ := h.row
      exact ⟨b, h1, frzH_at _ _ _ _ (List.mem_cons_of_mem _ (bks_t (by rw [h1]; rfl))) h2⟩
    · obtain ⟨b, h1, h2⟩ := h.keys q hq
      exact ⟨b, h1, frzH_at _ _ _ _ (List.mem_cons_of_mem _ (bks_q hq (by rw [h1]; rfl))) h2⟩
  refine frzW (bf :: bks ti ql) H (fun b hb => ?_) (W.use (hi.mend hc) fun o H' hm => ⟨hi.ext hm.1, _, frzH_len _ _, hm⟩)
  rcases List.mem_cons.1 hb with rfl | hb
  · exact ⟨1, b, 0, got.length, 4, by rw [e1]; rfl, .inl rfl⟩
  · exact h.cv.kn (i := 0) rfl hb
theorem Inp.rv1 {H : Heap} {l got : List Ver} {ql : List (T × Ver)} {ti tf : T} (h : Inp .fz H l got ql ti tf) : RV H ti l := by rw [← h.vals]; exact h.fv.rv
theorem Inp.rv2 {H : Heap} {l got : List Ver} {ql : List (T × Ver)} {ti tf : T} (h : Inp .fz H l got ql ti tf) : RV H tf got := by
  obtain ⟨b, h1, h2⟩ := h.flat
  have e : msC encV (got ++ [spV]) = msC encVT ((got.map fun v => (T.sl v.kk (encS v.keys), v)) ++ [spQ]) := by
    simp only [msC, List.flatMap_append, List.flatMap_map]; rfl
  have hl : got.length = (got.map fun v => (T.sl v.kk (encS v.keys), v)).length := by simp
  have hv : got = (got.map fun v => (T.sl v.kk (encS v.keys), v)).map (·.2) := by rw [List.map_map]; exact (List.map_id _).symm
  have := rv_msl (H := H) (b := b) (ql := got.map fun v => (T.sl v.kk (encS v.keys), v)) (xs := [spQ]) (fun n off => by rw [h2, e]; rfl) (fun q hq => by
    obtain ⟨v, _, rfl⟩ := List.mem_map.1 hq; exact rk_sl H v.kk v.keys)
  rw [← hl, ← hv] at this
  rw [h1]; exact this
def S8 (R : Regs) (H : Heap) : Prop := ∃ M l got k8 kw b7 t9, Ctx M l got ∧ R 7 = .msl b7 0 l.length 4 ∧ H[b7]? = some (.cells (msC encV l)) ∧ R 8 = .sl k8 (encVs l) ∧ R 9 = t9 ∧ (∀ K, lenT K .sl t9 = some (wants l).length) ∧ R 11 = .sl kw (encVs got)
def S11 (R : Regs) (H : Heap) : Prop := ∃ M l got k8 kw t9 ql ti tf, Ctx M l got ∧ Inp .cells H l got ql ti tf ∧ R 8 = .sl k8 (encVs l) ∧ R 9 = t9 ∧ (∀ K, lenT K .sl t9 = some (wants l).length) ∧ R 11 = .sl kw (encVs got) ∧ R 15 = ti ∧ R 16 = tf
def S15 (R : Regs) (H : Heap) : Prop := ∃ M l got k8 kw ql ti tf nx ny nu tx ty tu qx qy, Ctx M l got ∧ Inp .fz H l got ql ti tf ∧ R 8 = .sl k8 (encVs l) ∧ R 11 = .sl kw (encVs got) ∧ R 15 = ti ∧ R 16 = tf ∧
  R 17 = tx ∧ R 19 = ty ∧ R 21 = tu ∧ MV H nx tx qx ∧ MV H ny ty qy ∧ Mut encW 2 nu H tu (wants l) ∧ qx.map (·.2) = mendL l got ∧ qy.map (·.2) = mendL l got ∧ (∀ b ∈ bks tx qx, b < ny) ∧ (∀ b ∈ bks ty qy, b < nu) ∧ ny ≤ nu ∧ nu ≤ H.length
def S19 (R : Regs) (H : Heap) : Prop := ∃ M l got k8 ql ti tf tk nk qk bx cx tu cu, Ctx M l got ∧ Inp .fz H l got ql ti tf ∧ R 8 = .sl k8 (encVs l) ∧ R 15 = ti ∧ R 16 = tf ∧
  R 17 = .msl bx 0 l.length 4 ∧ H[bx]? = some (.cells cx) ∧ cx.length = l.length * 4 ∧ bx < nk ∧ (∀ K, lenT K .sl (R 19) = some l.length) ∧ R 21 = tu ∧ (tu = .sl .nil [] ∨ ∃ bu, tu = .msl bu 0 (wants l).length 2 ∧ H[bu]? = some (.cells cu) ∧ cu.length = (wants l).length * 2 ∧ bu < nk ∧ bx < bu) ∧
  R 23 = tk ∧ MV H nk tk qk ∧ qk.map (·.2) = mendL l got
def S23 (R : Regs) (H : Heap) : Prop := ∃ M l got k8 ql ti tf tk nk qk, Ctx M l got ∧ Inp .fz H l got ql ti tf ∧ R 8 = .sl k8 (encVs l) ∧ R 15 = ti ∧ R 16 = tf ∧ (∀ K, lenT K .sl (R 17) = some (l.length + 1)) ∧ (∀ K, lenT K .sl (R 19) = some l.length) ∧
  R 23 = tk ∧ MV H nk tk qk ∧ qk.map (·.2) = mendL l got
end Go.Proofs.Ytobnjpgggocdlaa.Fx
end

section
namespace Go.Proofs.Ytobnjpgggocdlaa.Fx
open Go.Rmp Go.Proofs.Ytobnjpgggocdlaa.Ir
set_option maxRecDepth 10000
theorem partA (nxt : ∀ R H, S8 R H → at8 8 R H) (k0 k3 : SK) (masks : List Int) (read : Int) (picks : List Int) (H : Heap) (hml : masks.length < 4611686018427387903) (hp : ∀ p ∈ picks, Num p) (hpl : picks.length < 4611686018427387903) :
    W env (.call 8 [.sl k0 (encI masks), .int .i64 read, .sl k3 (encI picks)]) H Tru := by
  refine W.fnI rfl rfl rfl ?_
  have hn : min masks.length 20 ≤ masks.length := Nat.min_le_left _ _
  simp only [ir8, seval, S1, encI_len, mn20, natOf_nat, Nat.zero_le, hn, allI, takeI]
  generalize hM : masks.take (min masks.length 20) = M
  have hMl : M.length ≤ 20 := by rw [← hM]; simp; omega
  have h0n : Num 0 := by unfold Num; omega
  refine callB_of _ _ _ _ _ _ _ _ (brought19m _ k3 M read 0 picks _ (by omega) h0n hp hpl) ?_
  rintro t7 H1 ⟨hx1, t0, hu, hm7⟩
  obtain rfl : t7 = t0 := by cases hu; rfl
  simp only [seval, S1]
  refine callB_of _ _ _ _ _ _ _ _ (brought19 _ k3 M read 0 picks _ (by omega) h0n hp hpl) ?_
  rintro u H2 ⟨hx2, k8, hu⟩
  cases hu
  have hB := brought_is M read 0 picks
  have hsz : ∀ v ∈ brought M read 0 picks (keysOf read).length, v.key.size = 1 := fun v hv => by
    obtain ⟨i, _, rfl⟩ := List.mem_map.1 hv
    rw [(bOne_is M read 0 picks i).1]
    exact keysOf_size (bKey_in read 0 i)
  generalize brought M read 0 picks (keysOf read).length = l at *
  have hf := hB.formed
  have hl8 := hB.2.1
  have hnl : needs l = wants l := if_pos hf
  have hne : needsE l = 0 := if_pos hf
  have hwl : (wants l).length ≤ 8 := Nat.le_trans (wants_le l l) hl8
  obtain ⟨b7, rfl, h7, hb7⟩ : ∃ b, t7 = .msl b 0 l.length 4 ∧ H2[b]? = some (.cells (msC encV l)) ∧ H.length ≤ b := by
    rcases hm7.ext hx2 with ⟨h0, _⟩ | h
    · rw [h0] at hB; exact absurd hB.1 (by simp)
    · exact h
  simp only [seval, S1]
  refine callB_of _ _ _ _ _ _ _ _ (needs9m _ (fun i => .ptr b7 (i * 4)) l _ (vw_msl h7) hB.small) ?_
  rintro u H3 ⟨hx3, t9, hu, hm9⟩
  rw [hnl] at hm9
  rw [hne] at hu
  obtain rfl : u = .tup [t9, .int .i64 (0 : Nat)] := by cases hu; rfl
  clear hu
  have lw : ∀ K, lenT K .sl t9 = some (wants l).length := fun K => by
    rcases hm9 with ⟨h0, rfl⟩ | ⟨b, rfl, _⟩
    · rw [h0]; rfl
    · rfl
  simp only [seval, S1]
  refine callB_of _ _ _ _ _ _ _ _ (known11 _) ?_
  rintro u H4 ⟨hu, hx4⟩
  cases hu
  simp only [seval, S1]
  refine W.loopN 0 [(0, _), (7, _), (8, _), (9, _)] (fun (i : Nat) R H' => At H' (fun H' => ∃ kw got, R 11 = .sl kw (encVs got) ∧ GotOk M got ∧ got.length = i ∧ Ext H4 H' ∧ Apd H4.length H' kw ∧ ∀ j u, j < i → u ∈ l → (wants l)[j]? = some (u.key, gr l u.key) → u.id < gr l u.key → up M l u ∈ got) ∧ R 12 = .int .i64 i ∧ i ≤ (wants l).length) (fun i => (wants l).length - i) 0
    (fun R H' => At H' (fun H' => ∃ kw got, R 11 = .sl kw (encVs got) ∧ GotOk M got ∧ got.length ≤ 8 ∧ Ext H4 H' ∧ ∀ u ∈ l, u.id < gr l u.key → up M l u ∈ got))
    ⟨.i ⟨.nil, [], rfl, GotOk.nil M, rfl, Ext.rfl', apd_nil _ _, fun j u h => absurd h (Nat.not_lt_zero j)⟩, rfl, Nat.zero_le _⟩ ?_ ?_
  · rintro i R H5 ⟨⟨kw, got, g11, hgo, hgl, hx5, hap, hall⟩, g12, hi⟩
    by_cases hlt : i < (wants l).length
    · obtain ⟨q, hq⟩ : ∃ q, (wants l)[i]? = some q := ⟨(wants l)[i], List.getElem?_eq_getElem hlt⟩
      obtain ⟨u, hu, hult, rfl⟩ := wants_get hq
      obtain ⟨w, m, hw, hmk, hgw, _⟩ := hB.greatest (k := u.key) (by omega)
      have hup : up M l u = mk m w u.key := by
        have e : gr l u.key / 65536 - 1 = w := by omega
        have e2 : M.getD w 0 = m := by rw [List.getD_eq_getElem?_getD, hw]; rfl
        rw [up, if_pos hult, e, e2]
      have hwl2 := (List.getElem?_eq_some_iff.1 hw).1
      have e4 : decide ((w : Int) < 0) = false := by simp
      have hiw := idw w (by omega)
      have nle : ¬ M.length ≤ w := by omega
      have hks : u.key.size ≤ 100 := by rw [hsz u hu]; omega
      have wsi := wrap_succ (show i < 9223372036854775807 by omega)
      obtain ⟨b9, rfl, h9, hb9⟩ : ∃ b, t9 = .msl b 0 (wants l).length 2 ∧ H5[b]? = some (.cells (msC encW (wants l))) ∧ H2.length ≤ b := by
        rcases (hm9.ext hx4).ext hx5 with ⟨h0, _⟩ | h
        · rw [h0] at hlt; simp at hlt
        · exact h
      have hg0 := msC_get (enc := encW) (n := 2) (fun _ => rfl) hq 0 1 (by decide)
      have hg1 := msC_get (enc := encW) (n := 2) (fun _ => rfl) hq 1 1 (by decide)
      rw [hgw] at hg1
      simp only [mkR_nil, mkR_cons, seval, S1, lw, g11, g12, hlt, natOf_nat, iad_m, h9, hg0, hg1, encW, encI_len, hiw, e4, nle]
      refine callB_of _ _ _ _ _ _ _ _ (made21 _ M w m u.key _ hw (by omega) hks) ?_
      rintro u' H6 ⟨hx6, k2, hk2, hu'⟩
      cases hu'
      obtain ⟨k5, H7, ha, hap7, hst⟩ := app_ok (bytes := 64) (encVs got) [[T.str u.key, T.int .u64 ((65536 * (w + 1) : Nat) : Int), T.str (u.key ++ ⟨#[UInt8.ofNat w]⟩), T.sl .arg (encS (keysOf m))]] (hap.ext hx6) (by have := hx5.len; have := hx6.len; omega) (by simp) (roomT (by simp only [encVs_len, List.length_cons, List.length_nil]; omega))
      simp only [seval, S1, mkapp] at ha
      simp only [mkR_nil, mkR_cons, seval, S1, setK, mk, encV, g11, g12, allV, ha, wsi]
      refine ⟨i + 1, by omega, .i ⟨k5, got ++ [mk m w u.key], ?_, hgo.snoc hw _, by simp; omega, hst.ext H4 (Nat.le_refl _) (hx5.trans hx6), hap7, ?_⟩, rfl, by omega⟩
      · simp only [seval, S1, mk]
      · intro j' u' hj' hu' hw' hlt'
        by_cases ej : j' = i
        · subst ej
          rw [hq] at hw'
          simp only [Option.some.injEq, Prod.mk.injEq] at hw'
          have hk := hw'.1
          have : u' = u := by
            obtain ⟨p, hp, ep⟩ := List.getElem_of_mem hu
            obtain ⟨p', hp', ep'⟩ := List.getElem_of_mem hu'
            have := key_one hf (u := u) (w := u') (by rw [List.getElem?_eq_getElem hp, ep]) (by rw [List.getElem?_eq_getElem hp', ep']) hk.symm
            subst this; rw [ep] at ep'; exact ep'.symm
          subst this
          rw [hup]; simp
        · have := hall j' u' (by omega) hu' hw' hlt'
          simp [this]
    · simp only [mkR_nil, mkR_cons, seval, S1, lw, g12, hlt]
      exact .i ⟨kw, got, g11, hgo, by omega, hx5, fun u hu hul => by
        obtain ⟨j, hj⟩ := wants_has hu hul
        exact hall j u (by have := (List.getElem?_eq_some_iff.1 hj).1; omega) hu hj hul⟩
  rintro R H5 ⟨kw, got, g11, hgo, hgl, hx5, hall⟩
  exact nxt _ _ ⟨M, l, got, k8, kw, b7, t9, ⟨hB, hgo, hgl, hall⟩, rfl, (hx3.trans (Ext.trans hx4 hx5)).get h7, rfl, rfl, lw, g11⟩
end Go.Proofs.Ytobnjpgggocdlaa.Fx
end

section
namespace Go.Proofs.Ytobnjpgggocdlaa.Fx
open Go.Rmp Go.Proofs.Ytobnjpgggocdlaa.Ir
set_option maxRecDepth 10000
def inj (v : Ver) : T × Ver := (.sl v.kk (encS v.keys), v)
theorem msC_inj (l : List Ver) : msC encVT (l.map inj) = msC encV l := by simp only [msC, List.flatMap_map]; rfl
theorem fg0 : fgt (.sl .nil []) = .sl .nil [] := rfl
theorem cutW (c k n : Nat) : (if 0 = k then T.msl c 0 0 n else T.msl c 0 (k - 0) n) = T.msl c 0 k n := by
  split
  · rename_i h; rw [← h]
  · rfl
theorem set_mid {α : Type} (qs rest : List α) (x y : α) : (qs ++ x :: rest).set qs.length y = (qs ++ [y]) ++ rest := by simp
theorem partB (nxt : ∀ R H, S11 R H → at8 11 R H) (R : Regs) (H : Heap) (h : S8 R H) : at8 8 R H := by
  obtain ⟨M, l, got, k8, kw, b7, t9, hc, g7, h7, g8, g9, lw, g11⟩ := h
  have hl := hc.b.2.1
  have hsm := hc.b.small
  simp only [at8, ir8, dropS]
  simp only [seval, S1]
  refine W.loopN (hv := ⟨g7, g8, g9, g11, trivial⟩) 2 [(7, _), (8, _), (9, _), (11, _)] (fun (i : Nat) R H' => At H' (fun H' => ∃ qs : List (T × Ver), qs.length = i ∧ qs.map (·.2) = l.take i ∧ H'[b7]? = some (.cells (msC encVT (qs ++ (l.drop i).map inj))) ∧ ∀ q ∈ qs, ∃ c, q.1 = .msl c 0 q.2.keys.length 1 ∧ H'[c]? = some (.cells (msC eS (q.2.keys ++ [spareT]))) ∧ c ≠ b7) ∧ R 14 = .int .i64 i ∧ i ≤ l.length) (fun i => l.length - i) 0
    (fun R H' => At H' (fun H' => ∃ qs : List (T × Ver), qs.map (·.2) = l ∧ H'[b7]? = some (.cells (msC encVT qs)) ∧ ∀ q ∈ qs, ∃ c, q.1 = .msl c 0 q.2.keys.length 1 ∧ H'[c]? = some (.cells (msC eS (q.2.keys ++ [spareT])))))
    ⟨.i ⟨[], rfl, rfl, by rw [h7]; simp only [List.nil_append, List.drop_zero, msC_inj], by simp⟩, rfl, Nat.zero_le _⟩ ?_ ?_
  · rintro i R H1 ⟨⟨qs, hql, hqv, h1, hqs⟩, g14, hi⟩
    by_cases hlt : i < l.length
    · obtain ⟨v, hv⟩ := getV hlt
      have hvm := List.mem_of_getElem? hv
      have hkl := hsm.2 v hvm
      have wsi := wrap_succ (show i < 9223372036854775807 by omega)
      have hdr : l.drop i = v :: l.drop (i + 1) := by rw [List.drop_eq_getElem_cons hlt]; rw [List.getElem?_eq_getElem hlt] at hv; cases hv; rfl
      rw [hdr, List.map_cons] at h1
      have hrow : (qs ++ inj v :: (l.drop (i + 1)).map inj)[i]? = some (inj v) := by rw [List.getElem?_append_right (by omega), hql, Nat.sub_self]; rfl
      have hk8 : v.keys.length ≤ 8 := (hc.b.2.2.1 v hvm).kk.2
      obtain ⟨t1, H2, c, H3, ha, hf, hb, hcc, hx2, hx3, hcl⟩ := cpy2 (enc := eS) (n := 1) (bytes := 16) (fun _ => rfl) v.keys spareT H1 (roomS (by omega) (by omega)) (roomS (by omega) (by omega))
      have ha : appM H1 1 16 (.sl .nil []) (encS v.keys) = some (t1, H2) := ha
      have hb : appM H2 1 16 t1 [[.str ⟨#[115, 112, 97, 114, 101]⟩]] = some (.msl c 0 (v.keys.length + 1) 1, H3) := hb
      have hel : ∀ K, elemsOf K 1 (.sl v.kk (encS v.keys)) = some (encS v.keys) := fun K => by
        have := all_map (enc := eS) (n := 1) (fun _ => rfl) v.keys
        have this : (encS v.keys).all (fun c => c.length == 1) = true := this
        simp only [elemsOf, this, if_true]
      have hg : ldcB 1 (i * 4 + 3) (some (.cells (msC encVT (qs ++ inj v :: (l.drop (i + 1)).map inj)))) = some [.sl v.kk (encS v.keys)] := msC_get (enc := encVT) (n := 4) encVT_len hrow 3 1 (by decide)
      have h2 := hx2.get h1
      have h3 := hx3.get h1
      have hcb : c ≠ b7 := by have := glt h1; omega
      have hst := msC_set (enc := encVT) (n := 4) encVT_len hrow (y := (T.msl c 0 v.keys.length 1, v)) H3 b7 [T.msl c 0 v.keys.length 1] 3 (by simp) rfl
      have hle : v.keys.length ≤ v.keys.length + 1 := Nat.le_succ _
      simp only [mkR_nil, mkR_cons, seval, S1, g14, hlt, natOf_nat, iad_m, h1, h2, h3, hg, fg0, hel, ha, hf, hb, encS_len, hle, Nat.zero_le, cutW, hst, wsi]
      have hse := set_mid qs ((l.drop (i + 1)).map inj) (inj v) (T.msl c 0 v.keys.length 1, v)
      rw [hql] at hse
      refine ⟨i + 1, by omega, .i ⟨qs ++ [(T.msl c 0 v.keys.length 1, v)], by simp [hql], by rw [take_snoc hv, List.map_append, hqv]; rfl, by rw [g_eq (glt h3), hse], fun q hq => ?_⟩, rfl, hlt⟩
      rcases List.mem_append.1 hq with hq | hq
      · obtain ⟨c', e1, e2, e3⟩ := hqs q hq
        exact ⟨c', e1, by rw [g_ne (fun e => e3 e.symm)]; exact hx3.get e2, e3⟩
      · rw [List.mem_singleton] at hq; subst hq
        exact ⟨c, rfl, by rw [g_ne (fun e => hcb e.symm)]; exact hcc, hcb⟩
    · have hil : i = l.length := by omega
      subst hil
      simp only [mkR_nil, mkR_cons, seval, S1, g14, hlt]
      rw [List.take_length] at hqv
      rw [List.drop_length] at h1
      exact .i ⟨qs, hqv, by simpa using h1, fun q hq => by obtain ⟨c, e1, e2, _⟩ := hqs q hq; exact ⟨c, e1, e2⟩⟩
  rintro R H1 ⟨qs, hqv, h1, hqs⟩
  suffices key : ∀ rest, Nx S11 rest → wpC env (.seq (itm 9 ir8.body) (.seq (itm 10 ir8.body) rest)) (mkR _ R) H1 (endQ ir8.res Tru) from key _ nxt
  intro rest nx
  simp only [ir8, itm]
  have hql : qs.length = l.length := by rw [← hqv, List.length_map]
  have hgl := hc.gl
  obtain ⟨t1, H2, c, H3, ha, hf, hb, hcc, hx2, hx3, hcl⟩ := cpy2 (enc := encVT) (n := 4) (bytes := 64) encVT_len qs spQ H1 (roomS (by omega) (by omega)) (roomS (by omega) (by omega))
  have hel := elems_ms (enc := encVT) (n := 4) encVT_len h1
  rw [hql] at hel
  obtain ⟨t1', H4, c', H5, ha', hf', hb', hcc', hx4, hx5, hcl'⟩ := cpy2 (enc := encV) (n := 4) (bytes := 64) (fun _ => rfl) got spV H3 (roomS (by omega) (by omega)) (roomS (by omega) (by omega))
  have hb : appM H2 4 64 t1 [[.str ⟨#[115, 112, 97, 114, 101]⟩, .int .u64 0, .str ⟨#[]⟩, .sl .arg []]] = some (.msl c 0 (qs.length + 1) 4, H3) := hb
  have hb' : appM H4 4 64 t1' [[.str ⟨#[115, 112, 97, 114, 101]⟩, .int .u64 0, .str ⟨#[]⟩, .sl .arg []]] = some (.msl c' 0 (got.length + 1) 4, H5) := hb'
  rw [hql] at hb
  have ha' : appM H3 4 64 (.sl .nil []) (encVs got) = some (t1', H4) := ha'
  have hle : l.length ≤ l.length + 1 := Nat.le_succ _
  have hle' : got.length ≤ got.length + 1 := Nat.le_succ _
  simp only [mkR_nil, mkR_cons, seval, S1, g11, fg0, hel, ha, hf, hb, allV, ha', hf', hb', encVs_len, natOf_nat, Nat.zero_le, hle, hle', cutW]
  refine nx _ _ ⟨M, l, got, k8, kw, t9, qs, .msl c 0 l.length 4, .msl c' 0 got.length 4, hc, ⟨⟨c, by rw [hql], hx5.get hcc⟩, fun q hq => ?_, hqv, ⟨c', rfl, hcc'⟩⟩, rfl, rfl, lw, rfl, rfl, rfl⟩
  obtain ⟨d, e1, e2⟩ := hqs q hq
  exact ⟨d, e1, hx5.get (hx3.get e2)⟩
end Go.Proofs.Ytobnjpgggocdlaa.Fx
end

section
namespace Go.Proofs.Ytobnjpgggocdlaa.Fx
open Go.Rmp Go.Proofs.Ytobnjpgggocdlaa.Ir
set_option maxRecDepth 10000
theorem MV.bks_lt {H : Heap} {n0 : Nat} {t : T} {ql : List (T × Ver)} (h : MV H n0 t ql) {b : Nat} (hb : b ∈ bks t ql) : b < H.length ∧ n0 ≤ b := by
  rcases mem_bks hb with h1 | ⟨q, hq, h1⟩
  · rcases h.row with ⟨_, rfl⟩ | ⟨c, rfl, h2, h3⟩
    · cases h1
    · cases h1; exact ⟨glt h2, h3⟩
  · exact (h.fam q hq).1.lt h1
theorem ro_fz {α : Type} {enc : α → List T} {n : Nat} (hn : ∀ x, (enc x).length = n) {H : Heap} {b : Nat} {l : List α} {x : α} (hb : H[b]? = some (.fz (msC enc (l ++ [x])))) : (l.length + 1) * n ≤ roLen H b := by
  unfold roLen; rw [hb]; simp only [msC_len hn, List.length_append, List.length_cons, List.length_nil, Nat.zero_add, Nat.le_refl]
def slrT (H : Heap) (n : Nat) (x : T) (h : Option Nat) : Option (T × Heap) := match x, h with
  | .msl b off _ n', some h => if n' = n ∧ n ≠ 0 ∧ 0 < h ∧ off + h * n ≤ roLen H b then some (.msl b off h n, H) else none
  | _, _ => none
theorem ev_slr (R : Regs) (H : Heap) (n : Nat) (x hi : X) : evop R H (.slr n x hi) = slrT H n (x.ev R) (natOf (hi.ev R)) := by
  simp only [evop, slrT]
  cases x.ev R <;> first | rfl | (cases natOf (hi.ev R) <;> rfl)
theorem slr_ok (H : Heap) (b len n h : Nat) : slrT H n (.msl b 0 len n) (some (h + 1)) = if n ≠ 0 ∧ (h + 1) * n ≤ roLen H b then some (.msl b 0 (h + 1) n, H) else none := by simp [slrT]
theorem n40 : ((4 : Nat) ≠ 0) = True := by simp
theorem n10 : ((1 : Nat) ≠ 0) = True := by simp
theorem partC (nxt : ∀ R H, S15 R H → at8 15 R H) (R : Regs) (H : Heap) (h : S11 R H) : at8 11 R H := by
  obtain ⟨M, l, got, k8, kw, t9, ql, ti, tf, hc, hi, g8, g9, lw, g11, g15, g16⟩ := h
  have hl := hc.b.2.1
  have hgl := hc.gl
  have hsm := hc.b.small
  have hmu := mend_up hc.b hc.g hc.up
  have hB2 := up_B hc.b
  have hf := hc.b.formed
  have hnl : needs l = wants l := if_pos hf
  have hne : needsE l = 0 := if_pos hf
  suffices key : ∀ rest, Nx S15 rest → wpC env (.seq (itm 11 ir8.body) (.seq (itm 12 ir8.body) (.seq (itm 13 ir8.body) (.seq (itm 14 ir8.body) rest)))) R H (endQ ir8.res Tru) from key _ nxt
  intro rest nx
  simp only [ir8, itm]
  simp only [seval, S1, g15, g16]
  refine callB_of _ _ _ _ _ _ _ _ (hi.mend0 hc) ?_
  rintro u H1 ⟨hi1, K, hK, hx1, tx, qx, hu, hmx, hvx⟩
  rw [hmu.2] at hu
  obtain rfl : u = .tup [tx, .int .i64 (0 : Nat)] := by cases hu; rfl
  clear hu
  simp only [seval, S1, g15, g16]
  refine callB_of _ _ _ _ _ _ _ _ (hi1.mend hc) ?_
  rintro u H2 ⟨hx2, ty, qy, hu, hmy, hvy⟩
  rw [hmu.2] at hu
  obtain rfl : u = .tup [ty, .int .i64 (0 : Nat)] := by cases hu; rfl
  clear hu
  have hi2 := hi1.ext hx2
  simp only [seval, S1, g15, g16]
  refine callB_of _ _ _ _ _ _ _ _ (vw1 hi2.fv.vw (by rw [hi2.vals' hc]; exact needs9m _ _ l _ (vw_sl .arg l _) hsm)) ?_
  rintro u H3 ⟨hx3, tu, hu, hmw⟩
  rw [hnl] at hmw
  rw [hne] at hu
  obtain rfl : u = .tup [tu, .int .i64 (0 : Nat)] := by cases hu; rfl
  clear hu
  have lu : ∀ K, lenT K .sl tu = some (wants l).length := fun K => by
    rcases hmw with ⟨h0, rfl⟩ | ⟨b, rfl, _⟩
    · rw [h0]; rfl
    · rfl
  have hi3 := hi2.ext hx3
  have hmx3 := (hmx.ext hx2).ext hx3
  have hmy3 := hmy.ext hx3
  simp only [seval, S1, g15, g16]
  refine callB_of _ _ _ _ _ _ _ _ (same18v hmx3.rv hmy3.rv (by rw [← hvx, hmu.1]; exact hB2.small.1) (by rw [← hvx, hmu.1]; exact hB2.small.2)) ?_
  rintro u H4 ⟨hu, rfl⟩
  rw [← hvx, ← hvy, same_t (show Same _ _ from rfl)] at hu
  cases hu
  simp only [seval, S1, g8, g15, g16]
  refine callB_of _ _ _ _ _ _ _ _ (same18v hi3.rv1 (rv_sl _ k8 l) hsm.1 hsm.2) ?_
  rintro u H5 ⟨hu, rfl⟩
  rw [same_t (show Same l l from rfl)] at hu
  cases hu
  simp only [seval, S1, g11, g15, g16]
  refine callB_of _ _ _ _ _ _ _ _ (same18v hi3.rv2 (rv_sl _ kw got) (by omega) (fun v hv => by have := (hc.g.small v hv).2; omega)) ?_
  rintro u H6 ⟨hu, rfl⟩
  rw [same_t (show Same got got from rfl)] at hu
  cases hu
  obtain ⟨bi, rfl, hbi⟩ := hi3.row
  obtain ⟨bf, rfl, hbf⟩ := hi3.flat
  have hqll : ql.length = l.length := by rw [← hi3.vals, List.length_map]
  have r1 := ro_fz encVT_len hbi
  have r2 := ro_fz (enc := encV) (n := 4) (fun _ => rfl) hbf
  have w1 := wrap_succ (show l.length < 9223372036854775807 by omega)
  have w2 := wrap_succ (show got.length < 9223372036854775807 by omega)
  have e1 := msC_get (enc := encVT) (n := 4) encVT_len (xs := ql ++ [spQ]) (i := ql.length) (x := spQ) (by simp) 0 1 (by decide)
  have e1 : ldcB 1 (ql.length * 4 + 0) (some (.fz (msC encVT (ql ++ [spQ])))) = some [.str ⟨#[115, 112, 97, 114, 101]⟩] := e1
  have e2 := msC_get (enc := encV) (n := 4) (fun _ => rfl) (xs := got ++ [spV]) (i := got.length) (x := spV) (by simp) 0 1 (by decide)
  have e2 : ldcB 1 (got.length * 4 + 0) (some (.fz (msC encV (got ++ [spV])))) = some [.str ⟨#[115, 112, 97, 114, 101]⟩] := e2
  rw [hqll] at r1 e1
  have n1 := Nat.lt_succ_self l.length
  have n2 := Nat.lt_succ_self got.length
  have p1 := Nat.succ_pos l.length
  have p2 := Nat.succ_pos got.length
  simp only [seval, S1, g9, g11, g15, g16, hqll, lw, lu, w1, w2, natOf_nat, r1, r2, e1, e2, hbi, hbf, iad_m, n1, n2, ev_slr, slr_ok, n40, encVs_len]
  refine nx _ _ ⟨M, l, got, k8, kw, ql, .msl bi 0 l.length 4, .msl bf 0 got.length 4, K.length, H1.length, H2.length, tx, ty, tu, qx, qy, hc, ?_, g8, g11, g15.trans (by rw [hqll]), g16, rfl, rfl, rfl, hmx3, hmy3, hmw, hvx.symm, hvy.symm, fun b hb => (hmx.bks_lt hb).1, fun b hb => (hmy.bks_lt hb).1, hx2.len, hx3.len⟩
  rw [← hqll]; exact hi3
end Go.Proofs.Ytobnjpgggocdlaa.Fx
end

section
namespace Go.Proofs.Ytobnjpgggocdlaa.Fx
open Go.Rmp Go.Proofs.Ytobnjpgggocdlaa.Ir
set_option maxRecDepth 10000
def alP (p : (T × Ver) × (T × Ver)) : List (T × List ByteArray) := [(p.1.1, p.1.2.keys), (p.2.1, p.2.2.keys)]
def AL (z : List ((T × Ver) × (T × Ver))) : List (T × List ByteArray) := z.flatMap alP
theorem AL_len : ∀ z, (AL z).length = 2 * z.length
  | [] => rfl
  | p :: z => by
    have := AL_len z
    unfold AL at this ⊢
    simp only [List.flatMap_cons, List.length_append, this, alP, List.length_cons, List.length_nil]; omega
theorem AL_snoc (z : List ((T × Ver) × (T × Ver))) (p : (T × Ver) × (T × Ver)) : AL (z ++ [p]) = AL z ++ alP p := by simp [AL]
def Ap (p q : T × List ByteArray) : Prop := ∀ b, tbk p.1 = some b → tbk q.1 ≠ some b
theorem Ap.symm {p q : T × List ByteArray} (h : Ap p q) : Ap q p := fun b h1 h2 => h b h2 h1
theorem ap_dis {p q : T} {k l : List ByteArray} (h : Dis p q) (hp : ∀ b, tbk p = some b → ∃ n m, p = .msl b 0 n m) (hq : ∀ b, tbk q = some b → ∃ n m, q = .msl b 0 n m) : Ap (p, k) (q, l) := fun b h1 h2 => by
  obtain ⟨n, m, e1⟩ := hp b h1
  obtain ⟨n', m', e2⟩ := hq b h2
  exact h _ _ _ _ _ _ e1 e2 rfl
theorem MuE.msl {H : Heap} {n0 : Nat} {t : T} {l : List ByteArray} (h : MuE H n0 t l) {b : Nat} (hb : tbk t = some b) : ∃ n m, t = .msl b 0 n m := by
  rcases h with ⟨_, rfl | rfl⟩ | ⟨_, c, rfl, _, _⟩
  · cases hb
  · cases hb
  · cases hb; exact ⟨_, _, rfl⟩
theorem AL_mem {qx qy : List (T × Ver)} {q : T × List ByteArray} (h : q ∈ AL (qx.zip qy)) : (∃ p ∈ qx, q = (p.1, p.2.keys)) ∨ ∃ p ∈ qy, q = (p.1, p.2.keys) := by
  obtain ⟨p, hp, hq⟩ := List.mem_flatMap.1 h
  have := List.of_mem_zip (show (p.1, p.2) ∈ qx.zip qy from hp)
  simp only [alP, List.mem_cons, List.not_mem_nil, or_false] at hq
  rcases hq with rfl | rfl
  · exact .inl ⟨_, this.1, rfl⟩
  · exact .inr ⟨_, this.2, rfl⟩
theorem AL_pw {H : Heap} {nx ny : Nat} {tx ty : T} {qx qy : List (T × Ver)} (hx : MV H nx tx qx) (hy : MV H ny ty qy) (hb : ∀ b ∈ bks tx qx, b < ny) : (AL (qx.zip qy)).Pairwise Ap := by
  have mx : ∀ p ∈ qx, ∀ b, tbk p.1 = some b → ∃ n m, p.1 = .msl b 0 n m := fun p hp b h => (hx.fam p hp).1.msl h
  have my : ∀ p ∈ qy, ∀ b, tbk p.1 = some b → ∃ n m, p.1 = .msl b 0 n m := fun p hp b h => (hy.fam p hp).1.msl h
  have hxy : ∀ p ∈ qx, ∀ q ∈ qy, Ap (p.1, p.2.keys) (q.1, q.2.keys) := fun p hp q hq b h1 h2 => by
    have a1 := hb b (bks_q hp h1)
    have a2 := ((hy.fam q hq).1.lt h2).2
    omega
  unfold AL
  rw [List.pairwise_flatMap]
  refine ⟨fun p hp => ?_, ?_⟩
  · have := List.of_mem_zip (show (p.1, p.2) ∈ qx.zip qy from hp)
    simp only [alP, List.pairwise_cons, List.mem_singleton, List.not_mem_nil, false_imp_iff, implies_true, List.Pairwise.nil, and_true]
    rintro q rfl
    exact hxy _ this.1 _ this.2
  · rw [List.pairwise_iff_getElem]
    intro i j hi hj hij
    have hi2 : i < qx.length ∧ i < qy.length := by rw [List.length_zip] at hi; omega
    have hj2 : j < qx.length ∧ j < qy.length := by rw [List.length_zip] at hj; omega
    have dx := (List.pairwise_iff_getElem.1 hx.dis) i j hi2.1 hj2.1 hij
    have dy := (List.pairwise_iff_getElem.1 hy.dis) i j hi2.2 hj2.2 hij
    have m1 := List.getElem_mem hi2.1
    have m2 := List.getElem_mem hi2.2
    have m3 := List.getElem_mem hj2.1
    have m4 := List.getElem_mem hj2.2
    rw [List.getElem_zip, List.getElem_zip]
    intro x hx' y hy'
    simp only [alP, List.mem_cons, List.not_mem_nil, or_false] at hx' hy'
    rcases hx' with rfl | rfl <;> rcases hy' with rfl | rfl
    · exact ap_dis dx (mx _ m1) (mx _ m3)
    · exact hxy _ m1 _ m4
    · exact (hxy _ m3 _ m2).symm
    · exact ap_dis dy (my _ m2) (my _ m4)
theorem MuE.keepC {H H' : Heap} {n0 : Nat} {t : T} {l : List ByteArray} (h : MuE H n0 t l) (hk : ∀ (b : Nat) (cs : List T), n0 ≤ b → H[b]? = some (.cells cs) → H'[b]? = some (.cells cs)) : MuE H' n0 t l := by
  rcases h with h | ⟨h0, b, h1, h2, h3⟩
  · exact .inl h
  · exact .inr ⟨h0, b, h1, hk b _ h3 h2, h3⟩
theorem MV.keepC {H H' : Heap} {n0 : Nat} {t : T} {ql : List (T × Ver)} (h : MV H n0 t ql) (hk : ∀ (b : Nat) (cs : List T), n0 ≤ b → H[b]? = some (.cells cs) → H'[b]? = some (.cells cs)) : MV H' n0 t ql := by
  refine ⟨?_, fun q hq => ⟨(h.fam q hq).1.keepC hk, (h.fam q hq).2⟩, h.dis⟩
  rcases h.row with h | ⟨b, h1, h2, h3⟩
  · exact .inl h
  · exact .inr ⟨b, h1, hk b _ h3 h2, h3⟩
theorem el2 (K : Heap) (a b : T) : elemsOf (K ++ [.cells [a, b]]) 1 (.msl K.length 0 2 1) = some [[a], [b]] := by simp [elemsOf]; rfl
theorem partD (nxt : ∀ R H, S19 R H → at8 19 R H) (R : Regs) (H : Heap) (h : S15 R H) : at8 15 R H := by
  obtain ⟨M, l, got, k8, kw, ql, ti, tf, nx, ny, nu, tx, ty, tu, qx, qy, hc, hi, g8, g11, g15, g16, g17, g19, g21, hmx, hmy, hmw, hvx, hvy, hbx, hby, hnyu, hnu⟩ := h
  have hl := hc.b.2.1
  have hgl := hc.gl
  have hsm := hc.b.small
  have hmu := mend_up hc.b hc.g hc.up
  have hB2 := up_B hc.b
  rw [hmu.1] at hvx hvy
  have lx : qx.length = l.length := by rw [← List.length_map (f := (·.2)), hvx, List.length_map]
  have ly : qy.length = l.length := by rw [← List.length_map (f := (·.2)), hvy, List.length_map]
  have hk8 : ∀ v ∈ l.map (up M l), v.keys.length ≤ 8 := fun v hv => (hB2.2.2.1 v hv).kk.2
  obtain ⟨bx, ex, hx0, hbxn⟩ : ∃ b, tx = .msl b 0 l.length 4 ∧ H[b]? = some (.cells (msC encVT qx)) ∧ nx ≤ b := by
    rcases hmx.row with ⟨h0, _⟩ | h
    · rw [h0] at lx; have := hc.b.1; simp at lx; omega
    · rw [lx] at h; exact h
  obtain ⟨byy, ey, hy0, hbyn⟩ : ∃ b, ty = .msl b 0 l.length 4 ∧ H[b]? = some (.cells (msC encVT qy)) ∧ ny ≤ b := by
    rcases hmy.row with ⟨h0, _⟩ | h
    · rw [h0] at ly; have := hc.b.1; simp at ly; omega
    · rw [ly] at h; exact h
  suffices key : ∀ rest, Nx S19 rest → wpC env (.seq (itm 15 ir8.body) (.seq (itm 16 ir8.body) (.seq (itm 17 ir8.body) (.seq (itm 18 ir8.body) rest)))) R H (endQ ir8.res Tru) from key _ nxt
  intro rest nx'
  simp only [ir8, itm]
  simp only [seval, S1, g8, g11]
  refine callB_of _ _ _ _ _ _ _ _ (mend16m k8 kw l got _ hsm hc.b.nil hc.g.small (by omega)) ?_
  rintro u H1 ⟨hx1, tk, qk, hu, hmk, hvk⟩
  obtain rfl : u = .tup [tk, .int .i64 (mendE l got)] := by cases hu; rfl
  clear hu
  simp only [seval, S1]
  have hx1' := hx1.get hx0
  have hy1' := hx1.get hy0
  refine W.loopN (hv := ⟨g8, g15, g16, g17.trans ex, g19.trans ey, g21, rfl, trivial⟩) 4 [(8, _), (15, _), (16, _), (17, _), (19, _), (21, _), (23, _)] (fun (i : Nat) R H' => At H' (fun H' => Mut encA 1 H1.length H' (R 25) (AL ((qx.zip qy).take i)) ∧ Ext H1 H') ∧ R 26 = .int .i64 i ∧ i ≤ l.length) (fun i => l.length - i) 0
    (fun R H' => At H' (fun H' => Mut encA 1 H1.length H' (R 25) (AL (qx.zip qy)) ∧ Ext H1 H')) ⟨.i ⟨mut_nil _ _ _ _, Ext.rfl'⟩, rfl, Nat.zero_le _⟩ ?_ ?_
  · rintro i R H2 ⟨⟨hm, hx2⟩, g26, hi⟩
    obtain ⟨t25, g25⟩ : ∃ t, R 25 = t := ⟨_, rfl⟩
    rw [g25] at hm
    by_cases hlt : i < l.length
    · obtain ⟨px, hpx⟩ := getP (l := qx) (i := i) (by omega)
      obtain ⟨py, hpy⟩ := getP (l := qy) (i := i) (by omega)
      have wsi := wrap_succ (show i < 9223372036854775807 by omega)
      have hg1 : ldcB 1 (i * 4 + 3) (some (.cells (msC encVT qx))) = some [px.1] := msC_get (enc := encVT) (n := 4) encVT_len hpx 3 1 (by decide)
      have hg2 : ldcB 1 (i * 4 + 3) (some (.cells (msC encVT qy))) = some [py.1] := msC_get (enc := encVT) (n := 4) encVT_len hpy 3 1 (by decide)
      have hx2' := hx2.get hx1'
      have hy2' := hx2.get hy1'
      have hz : (qx.zip qy)[i]? = some (px, py) := by rw [List.getElem?_zip_eq_some]; exact ⟨hpx, hpy⟩
      have htk : (qx.zip qy).take (i + 1) = (qx.zip qy).take i ++ [(px, py)] := by rw [List.take_add_one, hz]; rfl
      have cx : px.1.cells? = some [px.1] := by rcases (hmx.fam px (List.mem_of_getElem? hpx)).1 with ⟨_, e | e⟩ | ⟨_, b, e, _⟩ <;> rw [e] <;> rfl
      have cy : py.1.cells? = some [py.1] := by rcases (hmy.fam py (List.mem_of_getElem? hpy)).1 with ⟨_, e | e⟩ | ⟨_, b, e, _⟩ <;> rw [e] <;> rfl
      have hfg := fgt_mut hm
      have hal : (AL ((qx.zip qy).take i)).length ≤ 2 * l.length := by rw [AL_len, List.length_take]; omega
      obtain ⟨t', H', ha, hm', hst⟩ := appM_ok (enc := encA) (n := 1) (bytes := 24) (fun _ => rfl) (alP (px, py)) (hm.ext ⟨[.cells [px.1, py.1]], rfl⟩) (by have := hx2.len; simp; omega) (by simp [alP]) (roomS (by simp only [alP, List.length_cons, List.length_nil]; omega) (by omega))
      have ha : appM (H2 ++ [.cells [px.1, py.1]]) 1 24 t25 [[px.1], [py.1]] = some (t', H') := ha
      have hel := el2 H2 px.1 py.1
      simp only [mkR_nil, mkR_cons, seval, S1, g25, g26, hlt, natOf_nat, iad_m, hx2', hy2', hg1, hg2, cx, cy, n10, List.flatten_cons, List.flatten_nil, hel, hfg, ha, wsi]
      refine ⟨i + 1, by omega, .i ⟨?_, hst.ext H1 (Nat.le_refl _) (Ext.app hx2 _)⟩, rfl, hlt⟩
      rw [htk, AL_snoc]; exact hm'
    · have hil : i = l.length := by omega
      subst hil
      simp only [mkR_nil, mkR_cons, seval, S1, g25, g26, hlt]
      rw [List.take_of_length_le (by rw [List.length_zip]; omega)] at hm
      exact .i ⟨hm, hx2⟩
  rintro R2 H2 ⟨hm, hx2⟩
  obtain ⟨t25, g25⟩ : ∃ t, R2 25 = t := ⟨_, rfl⟩
  rw [g25] at hm
  simp only [mkR_nil, mkR_cons, seval, S1, g25]
  have hx02 : Ext H H2 := hx1.trans hx2
  have hmx2 := hmx.ext hx02
  have hmy2 := hmy.ext hx02
  have hAb : ∀ q ∈ AL (qx.zip qy), ∀ b, tbk q.1 = some b → b < H.length ∧ b < nu ∧ b ≠ bx ∧ ∃ cs, H2[b]? = some (.cells cs) := fun q hq b hb => by
    rcases AL_mem hq with ⟨p, hp, rfl⟩ | ⟨p, hp, rfl⟩
    · have h1 := hbx b (bks_q hp hb)
      refine ⟨by omega, by omega, fun e => (hmx.fam p hp).2 b hb (by rw [ex, e]; rfl), ?_⟩
      rcases (hmx2.fam p hp).1 with ⟨_, e | e⟩ | ⟨_, c, e, h2, _⟩
      · simp only [e] at hb; cases hb
      · simp only [e] at hb; cases hb
      · simp only [e] at hb; cases hb; exact ⟨_, h2⟩
    · have h1 := hby b (bks_q hp hb)
      have h3 := hbx bx (bks_t (by rw [ex]; rfl))
      refine ⟨by omega, h1, fun e => by have := ((hmy.fam p hp).1.lt hb).2; omega, ?_⟩
      rcases (hmy2.fam p hp).1 with ⟨_, e | e⟩ | ⟨_, c, e, h2, _⟩
      · simp only [e] at hb; cases hb
      · simp only [e] at hb; cases hb
      · simp only [e] at hb; cases hb; exact ⟨_, h2⟩
  have hmE : ∀ q ∈ AL (qx.zip qy), ∃ n, MuE H2 n q.1 q.2 := fun q hq => by
    rcases AL_mem hq with ⟨p, hp, rfl⟩ | ⟨p, hp, rfl⟩
    · exact ⟨_, (hmx2.fam p hp).1⟩
    · exact ⟨_, (hmy2.fam p hp).1⟩
  have hd : Dst t25 (AL (qx.zip qy)) := by
    refine ⟨fun q hq => ?_, fun q hq b hb e => ?_, fun i j p q b hi hj hne h1 h2 => ?_, fun q hq => ?_⟩
    · obtain ⟨n, hn⟩ := hmE q hq
      rcases hn with h | ⟨h0, b, h1, _⟩
      · exact .inl h
      · exact .inr ⟨h0, b, h1⟩
    · have h1 := (hAb q hq b hb).1
      rcases hm with ⟨_, rfl⟩ | ⟨c, rfl, _, h3⟩
      · cases e
      · cases e; have := hx1.len; omega
    · have hp := (List.pairwise_iff_getElem.1 (AL_pw hmx hmy hbx))
      obtain ⟨li, rfl⟩ := List.getElem?_eq_some_iff.1 hi
      obtain ⟨lj, rfl⟩ := List.getElem?_eq_some_iff.1 hj
      rcases Nat.lt_or_gt_of_ne hne with h | h
      · exact hp i j li lj h b h1 h2
      · exact hp j i lj li h b h2 h1
    · rcases AL_mem hq with ⟨p, hp, rfl⟩ | ⟨p, hp, rfl⟩
      · have := hk8 p.2 (by rw [← hvx]; exact List.mem_map_of_mem hp); simp only; omega
      · have := hk8 p.2 (by rw [← hvy]; exact List.mem_map_of_mem hp); simp only; omega
  refine callB_of _ _ _ _ _ _ _ _ (marked24 (A := AL (qx.zip qy)) hd (fun hne => ?_) (fun he => ?_) (by rw [AL_len, List.length_zip]; omega)) ?_
  · rcases hm with ⟨h0, _⟩ | ⟨c, h1, h2, _⟩
    · exact absurd h0 hne
    · refine ⟨⟨c, h1, h2⟩, fun k q b hq hb => ?_⟩
      obtain ⟨n, hn⟩ := hmE q (List.mem_of_getElem? hq)
      rcases hn with ⟨_, e | e⟩ | ⟨_, b', e, e2, _⟩
      · rw [e] at hb; cases hb
      · rw [e] at hb; cases hb
      · rw [e] at hb; cases hb; exact e2
  · rcases hm with ⟨_, h1⟩ | ⟨c, h1, _⟩
    · exact h1
    · have := hc.b.1
      have h2 := AL_len (qx.zip qy)
      rw [he, List.length_zip, lx, ly] at h2
      simp at h2; omega
  rintro u H3 ⟨hu, hfr⟩
  cases hu
  simp only [mkR_nil, mkR_cons, seval, S1]
  have hbxH := glt hx0
  have hfz : ∀ (b : Nat) (cs : List T), H[b]? = some (.fz cs) → H3[b]? = some (.fz cs) := fun b cs hb => hfr.2 b _ (fun q hq hq2 => by
    obtain ⟨_, _, _, cs', h4⟩ := hAb q hq b hq2
    rw [hx02.get hb] at h4; cases h4) (fun e h => by cases h) (hx02.get hb)
  have hcl : ∀ (b : Nat) (cs : List T), (nu ≤ b ∨ b = bx) → H2[b]? = some (.cells cs) → H3[b]? = some (.cells cs) := fun b cs hb hb2 => hfr.2 b _ (fun q hq hq2 => by
    obtain ⟨_, h2, h3, _⟩ := hAb q hq b hq2
    rcases hb with hb | hb
    · omega
    · exact h3 hb) (fun e h => by cases h) hb2
  have hlen : ∀ K, lenT K .sl (.msl byy 0 l.length 4) = some l.length := fun K => rfl
  obtain ⟨cu, hcu⟩ : ∃ cu, tu = .sl .nil [] ∨ ∃ bu, tu = .msl bu 0 (wants l).length 2 ∧ H3[bu]? = some (.cells cu) ∧ cu.length = (wants l).length * 2 ∧ bu < H.length ∧ bx < bu := by
    rcases hmw with ⟨_, h⟩ | ⟨b, h1, h2, h3⟩
    · exact ⟨[], .inl h⟩
    · exact ⟨_, .inr ⟨b, h1, hcl b _ (.inl h3) (hx02.get h2), msC_len (enc := encW) (n := 2) (fun _ => rfl) _, glt h2, by have := hbx bx (bks_t (by rw [ex]; rfl)); omega⟩⟩
  exact nx' _ _ ⟨M, l, got, k8, ql, ti, tf, tk, H.length, qk, bx, _, tu, cu, hc, hi.keep hfz, rfl, rfl, rfl, rfl, hcl bx _ (.inr rfl) (hx2.get hx1'), by rw [msC_len encVT_len, lx], hbxH, hlen, rfl, hcu, rfl, (hmk.ext hx2).keepC fun b cs hb h => hcl b cs (.inl (by omega)) h, hvk.symm⟩
end Go.Proofs.Ytobnjpgggocdlaa.Fx
end

section
namespace Go.Proofs.Ytobnjpgggocdlaa.Fx
open Go.Rmp Go.Proofs.Ytobnjpgggocdlaa.Ir
set_option maxRecDepth 10000
theorem partF (R : Regs) (H : Heap) (h : S23 R H) : at8 23 R H := by
  obtain ⟨M, l, got, k8, ql, ti, tf, tk, nk, qk, hc, hi, g8, g15, g16, h17, h19, g23, hk, hkv⟩ := h
  have hl := hc.b.2.1
  have hmu := mend_up hc.b hc.g hc.up
  simp only [at8, ir8, dropS]
  simp only [seval, S1, g15, g16]
  refine callB_of _ _ _ _ _ _ _ _ (hi.mend hc) ?_
  rintro u H1 ⟨hx1, tz, qz, hu, hz, hzv⟩
  rw [hmu.2] at hu
  obtain rfl : u = .tup [tz, .int .i64 (0 : Nat)] := by cases hu; rfl
  have hk1 := hk.ext hx1
  have hi1 := hi.ext hx1
  have hB2 := up_B hc.b
  rw [hmu.1] at hkv hzv
  have hsm := hB2.small
  simp only [seval, S1, g8, g15, g16, g23]
  refine callB_of _ _ _ _ _ _ _ _ (same18v hz.rv hk1.rv (by rw [← hzv]; exact hsm.1) (by rw [← hzv]; exact hsm.2)) ?_
  rintro u H2 ⟨hu, rfl⟩
  rw [← hzv, ← hkv, same_t (show Same _ _ from rfl)] at hu
  cases hu
  simp only [seval, S1, g8, g15, g16, g23]
  refine callB_of _ _ _ _ _ _ _ _ (same18v hi1.rv1 (rv_sl H2 k8 l) hc.b.small.1 hc.b.small.2) ?_
  rintro u H3 ⟨hu, rfl⟩
  rw [same_t (show Same l l from rfl)] at hu
  cases hu
  have w1 := wrap_succ (show l.length < 9223372036854775807 by omega)
  simp only [seval, S1, h17, h19, w1]
  exact rfl
end Go.Proofs.Ytobnjpgggocdlaa.Fx
end

section
namespace Go.Proofs.Ytobnjpgggocdlaa.Fx
open Go.Rmp Go.Proofs.Ytobnjpgggocdlaa.Ir
set_option maxRecDepth 10000
def Fro (S : Nat → Prop) (H H' : Heap) : Prop := ∀ (b : Nat) (x : B), ¬ S b → H[b]? = some x → H'[b]? = some x
theorem Fro.refl (S : Nat → Prop) (H : Heap) : Fro S H H := fun _ _ _ h => h
theorem Fro.set {S : Nat → Prop} {H H' : Heap} (h : Fro S H H') {b : Nat} (hb : S b) (x : B) : Fro S H (H'.set b x) := fun c y hc hy => by
  rw [g_ne (fun e => hc (by rw [← e]; exact hb))]; exact h c y hc hy
theorem set1_len (cs : List T) (off : Nat) (v : T) (h : off + 1 ≤ cs.length) : (cs.take off ++ [v] ++ cs.drop (off + 1)).length = cs.length := by simp; omega
theorem fgm (b o l n : Nat) : fgt (.msl b o l n) = .msl b o l n := rfl
theorem appM_at {H : Heap} {b l n bytes : Nat} {cs r : List T} (hb : H[b]? = some (.cells cs)) (hl : cs.length = l * n) (hr : roomOk (l + 1) bytes = true) : appM H n bytes (.msl b 0 l n) [r] = some (.msl H.length 0 (l + 1) n, H.set b .dead ++ [.cells (cs ++ r)]) := by
  simp [appM, hb, hl, hr]
theorem partE (nxt : ∀ R H, S23 R H → at8 23 R H) (R : Regs) (H : Heap) (h : S19 R H) : at8 19 R H := by
  obtain ⟨M, l, got, k8, ql, ti, tf, tk, nk, qk, bx, cx, tu, cu, hc, hi, g8, g15, g16, g17, hx, hcx, hbx, l19, g21, hu, g23, hk, hkv⟩ := h
  have hl := hc.b.2.1
  obtain ⟨ty, g19⟩ : ∃ t, R 19 = t := ⟨_, rfl⟩
  rw [g19] at l19
  suffices key : ∀ rest, Nx S23 rest → wpC env (.seq (itm 19 ir8.body) (.seq (itm 20 ir8.body) (.seq (itm 21 ir8.body) (.seq (itm 22 ir8.body) rest)))) R H (endQ ir8.res Tru) from key _ nxt
  intro rest nx
  simp only [ir8, itm]
  simp only [seval, S1]
  refine W.loopN (hv := ⟨g8, g15, g16, g17, g19, g21, g23, trivial⟩) 6 [(8, _), (15, _), (16, _), (17, _), (19, _), (21, _), (23, _)] (fun (i : Nat) R H' => At H' (fun H' => (∃ cs, H'[bx]? = some (.cells cs) ∧ cs.length = l.length * 4) ∧ Fro (fun b => b = bx) H H') ∧ R 27 = .int .i64 i ∧ i ≤ l.length) (fun i => l.length - i) 0
    (fun R H' => At H' (fun H' => (∃ cs, H'[bx]? = some (.cells cs) ∧ cs.length = l.length * 4) ∧ Fro (fun b => b = bx) H H')) ⟨.i ⟨⟨_, hx, hcx⟩, Fro.refl _ _⟩, rfl, Nat.zero_le _⟩ ?_ ?_
  · rintro i R H1 ⟨⟨⟨cs, h1, hcs⟩, hfr⟩, g27, hi⟩
    by_cases hlt : i < l.length
    · have wsi := wrap_succ (show i < 9223372036854775807 by omega)
      have hle : i * 4 + 0 + 1 ≤ cs.length := by omega
      simp only [mkR_nil, mkR_cons, seval, S1, g27, hlt, natOf_nat, iad_m, h1, hle, wsi]
      exact ⟨i + 1, by omega, .i ⟨⟨_, g_eq (glt h1), (set1_len cs (i * 4 + 0) _ hle).trans hcs⟩, hfr.set rfl _⟩, rfl, hlt⟩
    · simp only [mkR_nil, mkR_cons, seval, S1, g27, hlt]
      exact .i ⟨⟨cs, h1, hcs⟩, hfr⟩
  rintro R1 H1 ⟨⟨cs, h1, hcs⟩, hfr⟩
  have ha := appM_at (r := [.str ⟨#[33]⟩, .int .u64 0, .str ⟨#[]⟩, .sl .arg []]) (bytes := 64) h1 hcs (roomS (by omega) (by omega))
  obtain ⟨nw, hnw, lu, hu'⟩ : ∃ nw, nw ≤ 8 ∧ (∀ K, lenT K .sl tu = some nw) ∧ (0 < nw → ∃ bu, tu = .msl bu 0 nw 2) := by
    rcases hu with rfl | ⟨bu, rfl, _⟩
    · exact ⟨0, by omega, fun _ => rfl, fun h => absurd h (Nat.lt_irrefl 0)⟩
    · exact ⟨_, Nat.le_trans (wants_le l l) hl, fun _ => rfl, fun _ => ⟨bu, rfl⟩⟩
  have hub : ∀ b, tbk tu = some b → bx < b ∧ b < nk ∧ H[b]? = some (.cells cu) := fun b hb => by
    rcases hu with rfl | ⟨bu, rfl, h1, _, h2, h3⟩
    · cases hb
    · cases hb; exact ⟨h3, h2, h1⟩
  have hcl : ∀ bu, tu = .msl bu 0 nw 2 → cu.length = nw * 2 := fun bu hb => by
    rcases hu with h | ⟨bu', h, _, h1, _⟩
    · rw [h] at hb; cases hb
    · rw [h] at hb; cases hb; exact h1
  have hS : Fro (fun b => b = bx ∨ tbk tu = some b) H (H1.set bx .dead ++ [.cells (cs ++ [.str ⟨#[33]⟩, .int .u64 0, .str ⟨#[]⟩, .sl .arg []])]) := fun b x hb hx => by
    have h2 : H1[b]? = some x := hfr b x (fun e => hb (.inl e)) hx
    rw [g_app (by rw [List.length_set]; exact glt h2), g_ne (fun e => hb (.inl e.symm))]; exact h2
  have hu1 : ∀ b, tbk tu = some b → (H1.set bx .dead ++ [.cells (cs ++ [.str ⟨#[33]⟩, .int .u64 0, .str ⟨#[]⟩, .sl .arg []])])[b]? = some (.cells cu) := fun b hb => by
    obtain ⟨e1, e2, e3⟩ := hub b hb
    have h2 : H1[b]? = some (.cells cu) := hfr b _ (fun e => by omega) e3
    rw [g_app (by rw [List.length_set]; exact glt h2), g_ne (fun e => by omega)]; exact h2
  simp only [mkR_nil, mkR_cons, seval, S1, fgm, ha]
  generalize H1.set bx .dead ++ [.cells (cs ++ [.str ⟨#[33]⟩, .int .u64 0, .str ⟨#[]⟩, .sl .arg []])] = H2 at *
  generalize H1.length = bn at *
  refine W.loopN 8 [(8, _), (15, _), (16, _), (17, _), (19, _), (21, _), (23, _)] (fun (i : Nat) R H' => At H' (fun H' => (∀ b, tbk tu = some b → ∃ cs, H'[b]? = some (.cells cs) ∧ cs.length = cu.length) ∧ Fro (fun b => b = bx ∨ tbk tu = some b) H H') ∧ R 28 = .int .i64 i ∧ i ≤ nw) (fun i => nw - i) 0
    (fun R H' => At H' (fun H' => Fro (fun b => b = bx ∨ tbk tu = some b) H H')) ⟨.i ⟨fun b hb => ⟨_, hu1 b hb, rfl⟩, hS⟩, rfl, Nat.zero_le _⟩ ?_ ?_
  · rintro i R H3 ⟨⟨h3, hfr3⟩, g28, hi⟩
    by_cases hlt : i < nw
    · have wsi := wrap_succ (show i < 9223372036854775807 by omega)
      obtain ⟨bu, hbu⟩ := hu' (by omega)
      obtain ⟨cs3, h3a, h3b⟩ := h3 bu (by rw [hbu]; rfl)
      have hcl' := hcl bu hbu
      have hle : i * 2 + 0 + 1 ≤ cs3.length := by omega
      simp only [mkR_nil, mkR_cons, seval, S1, lu, g28, hlt, hbu, natOf_nat, iad_m, h3a, hle, wsi]
      refine ⟨i + 1, by omega, .i ⟨fun b hb => ?_, ?_⟩, rfl, hlt⟩
      · cases hb
        exact ⟨_, g_eq (glt h3a), (set1_len cs3 (i * 2 + 0) _ hle).trans h3b⟩
      · rw [← hbu]; exact hfr3.set (.inr (by rw [hbu]; rfl)) _
    · simp only [mkR_nil, mkR_cons, seval, S1, lu, g28, hlt]
      exact .i hfr3
  rintro R3 H3 hfr3
  have hi3 : Inp .fz H3 l got ql ti tf := hi.keep fun b cs hb => hfr3 b _ (fun h => by
    rcases h with rfl | h
    · rw [hx] at hb; cases hb
    · rw [(hub b h).2.2] at hb; cases hb) hb
  have hk3 : MV H3 nk tk qk := hk.keepC fun b cs hb h => hfr3 b _ (fun h => by
    rcases h with rfl | h
    · omega
    · have := (hub b h).2.1; omega) h
  obtain ⟨bi, ei, hbi⟩ := hi3.row
  have lq : ql.length = l.length := by rw [← hi3.vals, List.length_map]
  rw [lq] at ei
  simp only [mkR_nil, mkR_cons, seval, S1]
  refine W.loopN (hv := ⟨rfl, ei, rfl, rfl, rfl, rfl, trivial⟩) 10 [(8, _), (15, _), (16, _), (17, _), (19, _), (23, _)] (fun (i : Nat) R H' => H' = H3 ∧ R 29 = .int .i64 i ∧ i ≤ l.length) (fun i => l.length - i) 0
    (fun R H' => H' = H3) ⟨rfl, rfl, Nat.zero_le _⟩ ?_ ?_
  · rintro i R H4 ⟨rfl, g29, hi⟩
    by_cases hlt : i < l.length
    · have wsi := wrap_succ (show i < 9223372036854775807 by omega)
      obtain ⟨q, hq⟩ := getP (l := ql) (i := i) (by omega)
      obtain ⟨c, e1, hc1⟩ := hi3.keys q (List.mem_of_getElem? hq)
      have hq2 : (ql ++ [spQ])[i]? = some q := by rw [List.getElem?_append_left (by omega)]; exact hq
      have hg : ldcB 1 (i * 4 + 3) (some (.fz (msC encVT (ql ++ [spQ])))) = some [q.1] := msC_get (enc := encVT) (n := 4) encVT_len hq2 3 1 (by decide)
      rw [e1] at hg
      have hkl : q.2.keys.length ≤ 8 := (hc.b.2.2.1 q.2 (by rw [← hi3.vals]; exact List.mem_map_of_mem (List.mem_of_getElem? hq))).kk.2
      have w1 := wrap_succ (show q.2.keys.length < 9223372036854775807 by omega)
      have hr := ro_fz (enc := eS) (n := 1) (fun _ => rfl) hc1
      have hlk := Nat.lt_succ_self q.2.keys.length
      have hsp : ldcB 1 (q.2.keys.length * 1) (some (.fz (msC eS (q.2.keys ++ [spareT])))) = some [.str ⟨#[115, 112, 97, 114, 101]⟩] := msC_get (enc := eS) (n := 1) (fun _ => rfl) (xs := q.2.keys ++ [spareT]) (i := q.2.keys.length) (x := spareT) (by simp) 0 1 (by decide)
      simp only [mkR_nil, mkR_cons, seval, S1, g29, hlt, natOf_nat, iad_m, hbi, hg, w1, ev_slr, slr_ok, n10, hr, hlk, hc1, hsp, wsi]
      exact ⟨i + 1, by omega, rfl, hlt⟩
    · simp only [mkR_nil, mkR_cons, seval, S1, g29, hlt]
  rintro R4 H4 rfl
  exact nx _ _ ⟨M, l, got, k8, ql, ti, tf, tk, nk, qk, hc, hi3, rfl, ei.symm, rfl, fun _ => rfl, l19, rfl, hk3, hkv⟩
end Go.Proofs.Ytobnjpgggocdlaa.Fx
end

section
namespace Go.Proofs.Ytobnjpgggocdlaa.Fx
open Go.Rmp Go.Proofs.Ytobnjpgggocdlaa.Ir
theorem keeps8 (k0 k3 : SK) (masks : List Int) (read : Int) (picks : List Int) (H : Heap) (hml : masks.length < 4611686018427387903) (hp : ∀ p ∈ picks, Num p) (hpl : picks.length < 4611686018427387903) :
    W env (.call 8 [.sl k0 (encI masks), .int .i64 read, .sl k3 (encI picks)]) H Tru :=
  partA (partB (partC (partD (partE partF)))) k0 k3 masks read picks H hml hp hpl
end Go.Proofs.Ytobnjpgggocdlaa.Fx
end

section
namespace Go.Proofs.Ytobnjpgggocdlaa
open Go.ChangeShapes Go.WideShapes Go.ChangeAt Go.RowKit
namespace Law
theorem own : ownKnob Try.prog.godebug = none := by kernel_rfl
theorem kids : Kids Try.prog (· < Try.prog.types.size) := kids_rows (by kernel_rfl) (by kernel_rfl)
noncomputable def hzB : Bool := (List.range Try.prog.types.size).all fun t => match Try.prog.underlying t with
  | some (.slice e) => decide (0 < Try.prog.cellsOf e)
  | _ => true
theorem hzB_ok : hzB = true := by kernel_rfl
theorem hz : ∀ t e, t < Try.prog.types.size → Try.prog.underlying t = some (.slice e) → 0 < Try.prog.cellsOf e := fun t e ht h => by
  have := (List.all_eq_true.1 hzB_ok) t (List.mem_range.2 ht)
  rw [h] at this
  simpa using this
mutual
theorem bulk_eq {H : Type} : ∀ d : DataW H, Go.Rmp.bulkW d = Rows.uptoBulk d
  | .lit l => by cases l <;> simp [Go.Rmp.bulkW, Rows.uptoBulk]
  | .nil => by simp [Go.Rmp.bulkW, Rows.uptoBulk]
  | .ptr d => by simp [Go.Rmp.bulkW, Rows.uptoBulk, bulk_eq d]
  | .slice elems spare => by simp [Go.Rmp.bulkW, Rows.uptoBulk, bulks_eq elems, bulks_eq spare]
  | .agg parts => by simp [Go.Rmp.bulkW, Rows.uptoBulk, bulks_eq parts]
  | .iface _ d => by simp [Go.Rmp.bulkW, Rows.uptoBulk, bulk_eq d]
  | .map entries => by simp [Go.Rmp.bulkW, Rows.uptoBulk, bulkE_eq entries]
  | .held _ => by simp [Go.Rmp.bulkW, Rows.uptoBulk]
theorem bulks_eq {H : Type} : ∀ l : List (DataW H), Go.Rmp.bulkAllW l = Rows.uptoBulkAll l
  | [] => by simp [Go.Rmp.bulkAllW, Rows.uptoBulkAll]
  | d :: r => by simp [Go.Rmp.bulkAllW, Rows.uptoBulkAll, bulk_eq d, bulks_eq r]
theorem bulkE_eq {H : Type} : ∀ l : List (Lit × DataW H), Go.Rmp.bulkEntriesW l = Rows.uptoBulkEntries l
  | [] => by simp [Go.Rmp.bulkEntriesW, Rows.uptoBulkEntries]
  | x :: r => by simp [Go.Rmp.bulkEntriesW, Rows.uptoBulkEntries, bulkEn_eq x, bulkE_eq r]
theorem bulkEn_eq {H : Type} : ∀ x : Lit × DataW H, Go.Rmp.bulkEntryW x = Rows.uptoBulkEntry x
  | (l, d) => by cases l <;> simp [Go.Rmp.bulkEntryW, Rows.uptoBulkEntry, bulk_eq d]
end
theorem bulk_ok {H : Type} {ds : List (DataW H)} (h : Rows.uptoSmall H ds = true) : Go.Rmp.bulkAllW ds ≤ 1048576 := by
  rw [bulks_eq]; simpa [Rows.uptoSmall] using h
end Law
namespace Fx
open Go.Rmp
theorem hasI {B : Nat} {t : T} (h : HasSh B (.int .i64) t) : ∃ n : Int, t = .int .i64 n ∧ Num n := by
  cases h with | int h =>
    rename_i n
    exact ⟨n, rfl, by simpa [Num, Lit.wf, IntKind.min, IntKind.max, IntKind.signed, IntKind.bits] using h⟩
theorem hasIs {B : Nat} {t : T} (h : HasSh B (.sl [.int .i64]) t) : ∃ k l, t = .sl k (encI l) ∧ l.length ≤ B ∧ ∀ x ∈ l, Num x := by
  cases h with
  | nil => exact ⟨.nil, [], rfl, Nat.zero_le _, by simp⟩
  | sl hl hB h0 h =>
    rename_i es
    obtain ⟨l, rfl, hP⟩ := map_of (P := Num) (fun n : Int => [T.int .i64 n]) es fun c hc => by
      have hc1 := h0 c hc
      match c, hc1 with
      | [a], _ => obtain ⟨n, rfl, hn⟩ := hasI (h _ hc 0 (.int .i64) a rfl rfl); exact ⟨n, rfl, hn⟩
    exact ⟨.arg, l, rfl, by simpa using hB, hP⟩
end Fx
namespace Law
theorem fixKeeps_w (as' : List Go.Rmp.T) (hs : Go.Rmp.HasShs 1048576 [Go.Rmp.Sh.sl [.int .i64], .int .i64, .sl [.int .i64]] as') : Go.Rmp.W Ir.env (.call 8 as') [] (fun o _ => o = .val (.bool true)) := by
  cases hs with | cons h1 hs =>
  cases hs with | cons h2 hs =>
  cases hs with | cons h3 hs =>
  cases hs
  obtain ⟨k1, l1, rfl, b1, n1⟩ := Fx.hasIs h1
  obtain ⟨r, rfl, n2⟩ := Fx.hasI h2
  obtain ⟨k3, l3, rfl, b3, n3⟩ := Fx.hasIs h3
  exact Fx.keeps8 k1 k3 l1 r l3 [] (by omega) n3 (by omega)
theorem fixKeeps_fn (H : Type) : ∀ ds : List (DataW H), ds.length = Try.f8.params.toList.length → Rows.fixKeepsSpec.fn H ds = { results := [.lit (.bool true)], args := ds } := by
  have hn : Try.f8.params.toList.length = 3 := by kernel_rfl
  rw [hn]
  intro ds hds
  cases ds with | nil => simp at hds | cons d0 ds =>
  cases ds with | nil => simp at hds | cons d1 ds =>
  cases ds with | nil => simp at hds | cons d2 ds =>
  cases ds with | cons => simp at hds | nil =>
  rfl
set_option maxRecDepth 100000 in
theorem fixKeeps_lifted (os : Os) (started : os.Started) (H : Type) (enc : TypeId × Value → H) (F : Stop.Interp) :
    ReturnsInHanded {} Try.checked os 8 .any ((Rows.OpenSpec.upto Rows.fixKeepsSpec).pre6 enc Try.prog Try.f8 Rows.fixKeepsUptoRow.domain false) (((Rows.OpenSpec.upto Rows.fixKeepsSpec).at F).post enc Try.prog Try.f8 false true false false) := by
  refine returnsInHanded_of_cond (C := Try.checked) (s := Rows.OpenSpec.upto Rows.fixKeepsSpec) (k := Rows.uptoSmall) rfl own started (by kernel_rfl) Try.func8
    (OpenSpec.witness (enc := enc) (C := Try.checked) (s := Rows.OpenSpec.upto Rows.fixKeepsSpec) (k := Rows.uptoSmall) rfl false ⟨#[], #[.slice .none 0 0, .int .i64 0, .slice .none 0 0], []⟩ 8 (by kernel_rfl) (by kernel_rfl) (by kernel_rfl)
      (x := ([.nil, .lit (.int .i64 0), .nil], [], [])) (by kernel_rfl) rfl (by kernel_rfl)) ?_
  intro W base args ds gs before hval hW _ hk _
  exact Go.Rmp.law_contract (s := Rows.fixKeepsSpec) (shs := [Go.Rmp.Sh.sl [.int .i64], .int .i64, .sl [.int .i64]]) (B := 1048576) (tb := Try.f8.resultTypes[0]!) Ir.envOk kids hz (by kernel_rfl) (by intro t ht; exact of_decide_eq_true ((List.all_eq_true.1 (show Try.f8.params.toList.all (fun t => decide (t < Try.prog.types.size)) = true by kernel_rfl)) t ht)) (by kernel_rfl) (by kernel_rfl) rfl (fixKeeps_fn H) fixKeeps_w base args ds gs before hval hW (bulk_ok hk)
theorem fixKeeps_over : Rows.fixKeepsUptoRow.holds Try.pinned (Rows.OpenSpec.upto Rows.fixKeepsSpec) :=
  OpenClaim.holds_of_cond 8 Try.f8 rfl rfl rfl rfl rfl rfl rfl ⟨rfl, rfl, rfl, rfl, rfl⟩ rfl rfl rfl rfl rfl (by kernel_rfl) Try.func8 (by kernel_rfl)
    (of_decide_eq_true (by kernel_rfl)) (by unfold Func.isWrapper; first | (rw [if_pos (by decide +kernel)]; kernel_rfl) | (rw [if_neg (by decide +kernel)]; exact ⟨rfl, rfl⟩))
    (fun os started H enc _ F => fixKeeps_lifted os started H enc F)
theorem fixKeeps_proved : Rows.FixKeepsUptoSaid := fixKeeps_over
end Law
end Go.Proofs.Ytobnjpgggocdlaa
end
