/- Machines of a config that isn't right, and of none (Sweep). -/
import Derived.Test.YtbnlhmaedapjlaaWmPNMade
import Derived.Test.YtbnlhmaedapjlaaWmTxtCollectBoundsA
set_option linter.all false
namespace Wm

theorem newSweep_made (s a c hd g st e : Int) {h : H} (ok : h.ok) : Made (C 188 [cfgV s a c hd g st, .int .u64 e] h) h (cfgR s a c hd g st) := by
  refine Made.call (af := F.sweep_NewSweep) (by kernel_rfl) rfl ?_
  have hR := planRight_spec s a c hd g st
  unfold cfgV at hR ⊢
  rw [S.sweep_NewSweep_eq]
  simp only [S.sweep_NewSweep, H.new_ext, H.ext_ext, H.ext_next, H.ext_ldNk_0, H.ext_ldNk, H.ext_ldk_0, H.ext_ldk, H.ext_stk_0, H.ext_stk, ok, ldB_cells, ldNB_cells, stB_cells, V.one, V.cells, List.length_cons, List.length_nil, List.length_append, List.length_singleton, Nat.zero_add, Nat.add_zero, Nat.reduceAdd, Nat.reduceLeDiff, Nat.reduceLT, Nat.reduceMul, Nat.reduceSub, Int.reduceEq, Int.reduceLT, Int.reduceLE, if_true, if_false, or_self, or_false, false_or, or_true, true_or, Nat.zero_lt_one, Nat.lt_add_one, Nat.zero_lt_succ, Nat.add_assoc, decide_true, decide_false, List.getElem?_cons_zero, List.getElem?_cons_succ, List.cons_append, List.nil_append, List.append_assoc, List.drop_zero, List.drop_succ_cons, List.take_succ_cons, List.take_zero, List.set_cons_zero, List.set_cons_succ, splice, List.all_cons, List.all_nil, Bool.and_true, Bool.not_true, Bool.not_false, Bool.or_false, Option.bind_some, Option.map_some, Option.join_some, ckB_some, V.beq, V.beqs, Nat.beq_refl, BEq.rfl, Bool.and_self, fill, opd, boxc, finV, resAllV, resOfV, result, eqV, aggCells, eqOffs, eqCell, asI_int, asB_bool, ptrAt_ptr, reduceCtorEq, W_call, hR]
  cases cfgR s a c hd g st with
  | false =>
    simp only [H.new_ext, H.ext_ext, H.ext_next, H.ext_ldNk_0, H.ext_ldNk, H.ext_ldk_0, H.ext_ldk, H.ext_stk_0, H.ext_stk, ok, ldB_cells, ldNB_cells, stB_cells, V.one, V.cells, List.length_cons, List.length_nil, List.length_append, List.length_singleton, Nat.zero_add, Nat.add_zero, Nat.reduceAdd, Nat.reduceLeDiff, Nat.reduceLT, Nat.reduceMul, Nat.reduceSub, Int.reduceEq, Int.reduceLT, Int.reduceLE, if_true, if_false, or_self, or_false, false_or, or_true, true_or, Nat.zero_lt_one, Nat.lt_add_one, Nat.zero_lt_succ, Nat.add_assoc, decide_true, decide_false, List.getElem?_cons_zero, List.getElem?_cons_succ, List.cons_append, List.nil_append, List.append_assoc, List.drop_zero, List.drop_succ_cons, List.take_succ_cons, List.take_zero, List.set_cons_zero, List.set_cons_succ, splice, List.all_cons, List.all_nil, Bool.and_true, Bool.not_true, Bool.not_false, Bool.or_false, Option.bind_some, Option.map_some, Option.join_some, ckB_some, V.beq, V.beqs, Nat.beq_refl, BEq.rfl, Bool.and_self, fill, opd, boxc, finV, resAllV, resOfV, result, eqV, aggCells, eqOffs, eqCell, asI_int, asB_bool, ptrAt_ptr, reduceCtorEq]
    exact ⟨_, _, rfl, rfl⟩
  | true =>
    simp only [H.new_ext, H.ext_ext, H.ext_next, H.ext_ldNk_0, H.ext_ldNk, H.ext_ldk_0, H.ext_ldk, H.ext_stk_0, H.ext_stk, ok, ldB_cells, ldNB_cells, stB_cells, V.one, V.cells, List.length_cons, List.length_nil, List.length_append, List.length_singleton, Nat.zero_add, Nat.add_zero, Nat.reduceAdd, Nat.reduceLeDiff, Nat.reduceLT, Nat.reduceMul, Nat.reduceSub, Int.reduceEq, Int.reduceLT, Int.reduceLE, if_true, if_false, or_self, or_false, false_or, or_true, true_or, Nat.zero_lt_one, Nat.lt_add_one, Nat.zero_lt_succ, Nat.add_assoc, decide_true, decide_false, List.getElem?_cons_zero, List.getElem?_cons_succ, List.cons_append, List.nil_append, List.append_assoc, List.drop_zero, List.drop_succ_cons, List.take_succ_cons, List.take_zero, List.set_cons_zero, List.set_cons_succ, splice, List.all_cons, List.all_nil, Bool.and_true, Bool.not_true, Bool.not_false, Bool.or_false, Option.bind_some, Option.map_some, Option.join_some, ckB_some, V.beq, V.beqs, Nat.beq_refl, BEq.rfl, Bool.and_self, fill, opd, boxc, finV, resAllV, resOfV, result, eqV, aggCells, eqOffs, eqCell, asI_int, asB_bool, ptrAt_ptr, reduceCtorEq]
    exact ⟨_, _, rfl, _, _, rfl⟩

theorem newReclaim_made (s a c hd g st : Int) {h : H} (ok : h.ok) : Made (C 189 [cfgV s a c hd g st] h) h (cfgR s a c hd g st) := by
  refine Made.call (af := F.sweep_NewReclaim) (by kernel_rfl) rfl ?_
  have hR := planRight_spec s a c hd g st
  unfold cfgV at hR ⊢
  rw [S.sweep_NewReclaim_eq]
  simp only [S.sweep_NewReclaim, H.new_ext, H.ext_ext, H.ext_next, H.ext_ldNk_0, H.ext_ldNk, H.ext_ldk_0, H.ext_ldk, H.ext_stk_0, H.ext_stk, ok, ldB_cells, ldNB_cells, stB_cells, V.one, V.cells, List.length_cons, List.length_nil, List.length_append, List.length_singleton, Nat.zero_add, Nat.add_zero, Nat.reduceAdd, Nat.reduceLeDiff, Nat.reduceLT, Nat.reduceMul, Nat.reduceSub, Int.reduceEq, Int.reduceLT, Int.reduceLE, if_true, if_false, or_self, or_false, false_or, or_true, true_or, Nat.zero_lt_one, Nat.lt_add_one, Nat.zero_lt_succ, Nat.add_assoc, decide_true, decide_false, List.getElem?_cons_zero, List.getElem?_cons_succ, List.cons_append, List.nil_append, List.append_assoc, List.drop_zero, List.drop_succ_cons, List.take_succ_cons, List.take_zero, List.set_cons_zero, List.set_cons_succ, splice, List.all_cons, List.all_nil, Bool.and_true, Bool.not_true, Bool.not_false, Bool.or_false, Option.bind_some, Option.map_some, Option.join_some, ckB_some, V.beq, V.beqs, Nat.beq_refl, BEq.rfl, Bool.and_self, fill, opd, boxc, finV, resAllV, resOfV, result, eqV, aggCells, eqOffs, eqCell, asI_int, asB_bool, ptrAt_ptr, reduceCtorEq, W_call, hR]
  cases cfgR s a c hd g st with
  | false =>
    simp only [H.new_ext, H.ext_ext, H.ext_next, H.ext_ldNk_0, H.ext_ldNk, H.ext_ldk_0, H.ext_ldk, H.ext_stk_0, H.ext_stk, ok, ldB_cells, ldNB_cells, stB_cells, V.one, V.cells, List.length_cons, List.length_nil, List.length_append, List.length_singleton, Nat.zero_add, Nat.add_zero, Nat.reduceAdd, Nat.reduceLeDiff, Nat.reduceLT, Nat.reduceMul, Nat.reduceSub, Int.reduceEq, Int.reduceLT, Int.reduceLE, if_true, if_false, or_self, or_false, false_or, or_true, true_or, Nat.zero_lt_one, Nat.lt_add_one, Nat.zero_lt_succ, Nat.add_assoc, decide_true, decide_false, List.getElem?_cons_zero, List.getElem?_cons_succ, List.cons_append, List.nil_append, List.append_assoc, List.drop_zero, List.drop_succ_cons, List.take_succ_cons, List.take_zero, List.set_cons_zero, List.set_cons_succ, splice, List.all_cons, List.all_nil, Bool.and_true, Bool.not_true, Bool.not_false, Bool.or_false, Option.bind_some, Option.map_some, Option.join_some, ckB_some, V.beq, V.beqs, Nat.beq_refl, BEq.rfl, Bool.and_self, fill, opd, boxc, finV, resAllV, resOfV, result, eqV, aggCells, eqOffs, eqCell, asI_int, asB_bool, ptrAt_ptr, reduceCtorEq]
    exact ⟨_, _, rfl, rfl⟩
  | true =>
    simp only [H.new_ext, H.ext_ext, H.ext_next, H.ext_ldNk_0, H.ext_ldNk, H.ext_ldk_0, H.ext_ldk, H.ext_stk_0, H.ext_stk, ok, ldB_cells, ldNB_cells, stB_cells, V.one, V.cells, List.length_cons, List.length_nil, List.length_append, List.length_singleton, Nat.zero_add, Nat.add_zero, Nat.reduceAdd, Nat.reduceLeDiff, Nat.reduceLT, Nat.reduceMul, Nat.reduceSub, Int.reduceEq, Int.reduceLT, Int.reduceLE, if_true, if_false, or_self, or_false, false_or, or_true, true_or, Nat.zero_lt_one, Nat.lt_add_one, Nat.zero_lt_succ, Nat.add_assoc, decide_true, decide_false, List.getElem?_cons_zero, List.getElem?_cons_succ, List.cons_append, List.nil_append, List.append_assoc, List.drop_zero, List.drop_succ_cons, List.take_succ_cons, List.take_zero, List.set_cons_zero, List.set_cons_succ, splice, List.all_cons, List.all_nil, Bool.and_true, Bool.not_true, Bool.not_false, Bool.or_false, Option.bind_some, Option.map_some, Option.join_some, ckB_some, V.beq, V.beqs, Nat.beq_refl, BEq.rfl, Bool.and_self, fill, opd, boxc, finV, resAllV, resOfV, result, eqV, aggCells, eqOffs, eqCell, asI_int, asB_bool, ptrAt_ptr, reduceCtorEq]
    exact ⟨_, _, rfl, _, _, rfl⟩

theorem sweepNil (m : V) (h : H) : C 190 [.nilp, m] h = some (.bool true, h) := by
  refine call_open (af := F.sweep_Sweep_Step) (by kernel_rfl) rfl ?_
  rw [S.sweep_Sweep_Step_eq]
  simp only [S.sweep_Sweep_Step, eqV, eqPtr, Option.bind_some]

theorem reclaimNil (m : V) (h : H) : C 191 [.nilp, m] h = some (.bool true, h) := by
  refine call_open (af := F.sweep_Reclaim_Step) (by kernel_rfl) rfl ?_
  rw [S.sweep_Reclaim_Step_eq]
  simp only [S.sweep_Reclaim_Step, eqV, eqPtr, Option.bind_some]

theorem newReclaim_right {s a c hd g st : Int} (hr : cfgR s a c hd g st = true) {h : H} (ok : h.ok) : ∃ x y, C 189 [cfgV s a c hd g st] h = some (.ptr (h.next + 1) 0, h.ext [some x, some y]) := by
  have hR := planRight_spec s a c hd g st
  rw [hr] at hR
  refine ⟨?_, ?_, call_open (af := F.sweep_NewReclaim) (by kernel_rfl) rfl ?_⟩
  rotate_left 2
  · unfold cfgV at hR ⊢
    rw [S.sweep_NewReclaim_eq]
    simp only [S.sweep_NewReclaim, H.new_ext, H.ext_ext, H.ext_next, H.ext_ldNk_0, H.ext_ldNk, H.ext_ldk_0, H.ext_ldk, H.ext_stk_0, H.ext_stk, ok, ldB_cells, ldNB_cells, stB_cells, V.one, V.cells, List.length_cons, List.length_nil, List.length_append, List.length_singleton, Nat.zero_add, Nat.add_zero, Nat.reduceAdd, Nat.reduceLeDiff, Nat.reduceLT, Nat.reduceMul, Nat.reduceSub, Int.reduceEq, Int.reduceLT, Int.reduceLE, if_true, if_false, or_self, or_false, false_or, or_true, true_or, Nat.zero_lt_one, Nat.lt_add_one, Nat.zero_lt_succ, Nat.add_assoc, decide_true, decide_false, List.getElem?_cons_zero, List.getElem?_cons_succ, List.cons_append, List.nil_append, List.append_assoc, List.drop_zero, List.drop_succ_cons, List.take_succ_cons, List.take_zero, List.set_cons_zero, List.set_cons_succ, splice, List.all_cons, List.all_nil, Bool.and_true, Bool.not_true, Bool.not_false, Bool.or_false, Option.bind_some, Option.map_some, Option.join_some, ckB_some, V.beq, V.beqs, Nat.beq_refl, BEq.rfl, Bool.and_self, fill, opd, boxc, finV, resAllV, resOfV, result, eqV, aggCells, eqOffs, eqCell, asI_int, asB_bool, ptrAt_ptr, reduceCtorEq, W_call, hR]
    rfl
end Wm
