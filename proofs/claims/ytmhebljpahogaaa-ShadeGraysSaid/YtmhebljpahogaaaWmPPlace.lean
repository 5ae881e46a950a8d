/- Where everything stands in the memory: what the functions of plan come to. -/
import Derived.Test.YtmhebljpahogaaaWmPPlan
import Derived.Test.YtmhebljpahogaaaWmHeap
import Derived.Test.YtmhebljpahogaaaWmPOp0
import Derived.Test.YtmhebljpahogaaaWmPModelNewA
import Derived.Test.YtmhebljpahogaaaWmTxtShadeGraysA
set_option linter.all false
namespace Wm

theorem mul_bd {x y X Y : Int} (h0 : 0 ≤ x) (h1 : x ≤ X) (h2 : 0 ≤ y) (h3 : y ≤ Y) : 0 ≤ x * y ∧ x * y ≤ X * Y :=
  ⟨Int.mul_nonneg h0 h2, Int.mul_le_mul h1 h3 h2 (Int.le_trans h0 h1)⟩

def roomT (a : Int) : Int := 2 + max a 3
def slotsT (c hd : Int) : Int := 4 + c * (1 + hd + 2)

theorem room_spec (s a c hd g st : Int) (h0 : 0 ≤ a) (h1 : a ≤ 8) (h : H) : C 378 [cfgV s a c hd g st] h = some (.int .i64 (roomT a), h) := by
  refine call_closed (af := F.plan_room) (by kernel_rfl) rfl (by rfl) (by rfl) h ?_
  have ok := H.ok_empty
  unfold cfgV
  rw [S.plan_room_eq]
  simp only [S.plan_room, H.new_ext, H.ext_ext, H.ext_next, H.ext_ldNk_0, H.ext_ldNk, H.ext_ldk_0, H.ext_ldk, H.ext_stk_0, H.ext_stk, ok, ldB_cells, ldNB_cells, stB_cells, V.one, V.cells, List.length_cons, List.length_nil, List.length_append, List.length_singleton, Nat.zero_add, Nat.add_zero, Nat.reduceAdd, Nat.reduceLeDiff, Nat.reduceLT, Nat.reduceMul, Nat.reduceSub, Int.reduceEq, Int.reduceLT, Int.reduceLE, if_true, if_false, or_self, or_false, false_or, or_true, true_or, Nat.zero_lt_one, Nat.lt_add_one, Nat.zero_lt_succ, Nat.add_assoc, decide_true, decide_false, List.getElem?_cons_zero, List.getElem?_cons_succ, List.cons_append, List.nil_append, List.append_assoc, List.drop_zero, List.drop_succ_cons, List.take_succ_cons, List.take_zero, List.set_cons_zero, List.set_cons_succ, splice, List.all_cons, List.all_nil, Bool.and_true, Bool.not_true, Bool.not_false, Bool.or_false, Option.bind_some, Option.map_some, Option.join_some, ckB_some, V.beq, V.beqs, Nat.beq_refl, BEq.rfl, Bool.and_self, fill, opd, boxc, finV, resAllV, resOfV, result, eqV, aggCells, eqOffs, eqCell, asI_int, asB_bool, ptrAt_ptr, reduceCtorEq, W_call]
  rw [wr64 (by omega) (by omega)]
  exact Ev.some rfl

theorem slots_spec (s a c hd g st : Int) (h0 : 0 ≤ c) (h1 : c ≤ 8) (h2 : 0 ≤ hd) (h3 : hd ≤ 16) (h : H) : C 377 [cfgV s a c hd g st] h = some (.int .i64 (slotsT c hd), h) := by
  refine call_closed (af := F.plan_slots) (by kernel_rfl) rfl (by rfl) (by rfl) h ?_
  have ok := H.ok_empty
  unfold cfgV
  rw [S.plan_slots_eq]
  simp only [S.plan_slots, H.new_ext, H.ext_ext, H.ext_next, H.ext_ldNk_0, H.ext_ldNk, H.ext_ldk_0, H.ext_ldk, H.ext_stk_0, H.ext_stk, ok, ldB_cells, ldNB_cells, stB_cells, V.one, V.cells, List.length_cons, List.length_nil, List.length_append, List.length_singleton, Nat.zero_add, Nat.add_zero, Nat.reduceAdd, Nat.reduceLeDiff, Nat.reduceLT, Nat.reduceMul, Nat.reduceSub, Int.reduceEq, Int.reduceLT, Int.reduceLE, if_true, if_false, or_self, or_false, false_or, or_true, true_or, Nat.zero_lt_one, Nat.lt_add_one, Nat.zero_lt_succ, Nat.add_assoc, decide_true, decide_false, List.getElem?_cons_zero, List.getElem?_cons_succ, List.cons_append, List.nil_append, List.append_assoc, List.drop_zero, List.drop_succ_cons, List.take_succ_cons, List.take_zero, List.set_cons_zero, List.set_cons_succ, splice, List.all_cons, List.all_nil, Bool.and_true, Bool.not_true, Bool.not_false, Bool.or_false, Option.bind_some, Option.map_some, Option.join_some, ckB_some, V.beq, V.beqs, Nat.beq_refl, BEq.rfl, Bool.and_self, fill, opd, boxc, finV, resAllV, resOfV, result, eqV, aggCells, eqOffs, eqCell, asI_int, asB_bool, ptrAt_ptr, reduceCtorEq, W_call]
  rw [wr64 (n := 1 + hd) (by omega) (by omega), wr64 (n := 1 + hd + 2) (by omega) (by omega)]
  obtain ⟨q1, q2⟩ := mul_bd h0 h1 (show 0 ≤ 1 + hd + 2 by omega) (show 1 + hd + 2 ≤ 19 by omega)
  rw [wr64 (n := c * (1 + hd + 2)) (by omega) (by omega), wr64 (by omega) (by omega)]
  exact Ev.some rfl

def withinT (s a c hd g st slot i : Int) : Int :=
  if cfgR s a c hd g st = true ∧ (0 ≤ slot ∧ slot ≤ s - 1) ∧ (0 ≤ i ∧ i ≤ roomT a - 1) then slotsT c hd + slot * roomT a + i else -1

theorem within_spec (s a c hd g st slot i : Int) (h : H) : C 375 [cfgV s a c hd g st, .int .i64 slot, .int .i64 i] h = some (.int .i64 (withinT s a c hd g st slot i), h) := by
  refine call_closed (af := F.plan_within) (by kernel_rfl) rfl (by rfl) (by rfl) h ?_
  have ok := H.ok_empty
  have hR := planRight_spec s a c hd g st
  cases hr : cfgR s a c hd g st with
  | false =>
    rw [hr] at hR
    unfold cfgV at hR ⊢
    rw [S.plan_within_eq]
    simp only [S.plan_within, H.new_ext, H.ext_ext, H.ext_next, H.ext_ldNk_0, H.ext_ldNk, H.ext_ldk_0, H.ext_ldk, H.ext_stk_0, H.ext_stk, ok, ldB_cells, ldNB_cells, stB_cells, V.one, V.cells, List.length_cons, List.length_nil, List.length_append, List.length_singleton, Nat.zero_add, Nat.add_zero, Nat.reduceAdd, Nat.reduceLeDiff, Nat.reduceLT, Nat.reduceMul, Nat.reduceSub, Int.reduceEq, Int.reduceLT, Int.reduceLE, if_true, if_false, or_self, or_false, false_or, or_true, true_or, Nat.zero_lt_one, Nat.lt_add_one, Nat.zero_lt_succ, Nat.add_assoc, decide_true, decide_false, List.getElem?_cons_zero, List.getElem?_cons_succ, List.cons_append, List.nil_append, List.append_assoc, List.drop_zero, List.drop_succ_cons, List.take_succ_cons, List.take_zero, List.set_cons_zero, List.set_cons_succ, splice, List.all_cons, List.all_nil, Bool.and_true, Bool.not_true, Bool.not_false, Bool.or_false, Option.bind_some, Option.map_some, Option.join_some, ckB_some, V.beq, V.beqs, Nat.beq_refl, BEq.rfl, Bool.and_self, fill, opd, boxc, finV, resAllV, resOfV, result, eqV, aggCells, eqOffs, eqCell, asI_int, asB_bool, ptrAt_ptr, reduceCtorEq, W_call, hR]
    exact Ev.some (by simp [withinT, hr])
  | true =>
    obtain ⟨⟨s1, s2⟩, ⟨a1, a2⟩, ⟨c1, c2⟩, ⟨d1, d2⟩, _⟩ := cfgR_iff.mp hr
    rw [hr] at hR
    have h1 := room_spec s a c hd g st (by omega) (by omega)
    have h2 := slots_spec s a c hd g st (by omega) (by omega) (by omega) (by omega)
    unfold cfgV at hR h1 h2 ⊢
    rw [S.plan_within_eq]
    simp only [S.plan_within, H.new_ext, H.ext_ext, H.ext_next, H.ext_ldNk_0, H.ext_ldNk, H.ext_ldk_0, H.ext_ldk, H.ext_stk_0, H.ext_stk, ok, ldB_cells, ldNB_cells, stB_cells, V.one, V.cells, List.length_cons, List.length_nil, List.length_append, List.length_singleton, Nat.zero_add, Nat.add_zero, Nat.reduceAdd, Nat.reduceLeDiff, Nat.reduceLT, Nat.reduceMul, Nat.reduceSub, Int.reduceEq, Int.reduceLT, Int.reduceLE, if_true, if_false, or_self, or_false, false_or, or_true, true_or, Nat.zero_lt_one, Nat.lt_add_one, Nat.zero_lt_succ, Nat.add_assoc, decide_true, decide_false, List.getElem?_cons_zero, List.getElem?_cons_succ, List.cons_append, List.nil_append, List.append_assoc, List.drop_zero, List.drop_succ_cons, List.take_succ_cons, List.take_zero, List.set_cons_zero, List.set_cons_succ, splice, List.all_cons, List.all_nil, Bool.and_true, Bool.not_true, Bool.not_false, Bool.or_false, Option.bind_some, Option.map_some, Option.join_some, ckB_some, V.beq, V.beqs, Nat.beq_refl, BEq.rfl, Bool.and_self, fill, opd, boxc, finV, resAllV, resOfV, result, eqV, aggCells, eqOffs, eqCell, asI_int, asB_bool, ptrAt_ptr, reduceCtorEq, W_call, hR, h1, h2, between_spec]
    have hroom : 5 ≤ roomT a ∧ roomT a ≤ 10 := by unfold roomT; omega
    rw [wr64 (n := s - 1) (by omega) (by omega), wr64 (n := roomT a - 1) (by omega) (by omega)]
    by_cases p1 : 0 ≤ slot ∧ slot ≤ s - 1
    · simp only [decide_eq_true p1.1, decide_eq_true p1.2, H.new_ext, H.ext_ext, H.ext_next, H.ext_ldNk_0, H.ext_ldNk, H.ext_ldk_0, H.ext_ldk, H.ext_stk_0, H.ext_stk, ok, ldB_cells, ldNB_cells, stB_cells, V.one, V.cells, List.length_cons, List.length_nil, List.length_append, List.length_singleton, Nat.zero_add, Nat.add_zero, Nat.reduceAdd, Nat.reduceLeDiff, Nat.reduceLT, Nat.reduceMul, Nat.reduceSub, Int.reduceEq, Int.reduceLT, Int.reduceLE, if_true, if_false, or_self, or_false, false_or, or_true, true_or, Nat.zero_lt_one, Nat.lt_add_one, Nat.zero_lt_succ, Nat.add_assoc, decide_true, decide_false, List.getElem?_cons_zero, List.getElem?_cons_succ, List.cons_append, List.nil_append, List.append_assoc, List.drop_zero, List.drop_succ_cons, List.take_succ_cons, List.take_zero, List.set_cons_zero, List.set_cons_succ, splice, List.all_cons, List.all_nil, Bool.and_true, Bool.not_true, Bool.not_false, Bool.or_false, Option.bind_some, Option.map_some, Option.join_some, ckB_some, V.beq, V.beqs, Nat.beq_refl, BEq.rfl, Bool.and_self, fill, opd, boxc, finV, resAllV, resOfV, result, eqV, aggCells, eqOffs, eqCell, asI_int, asB_bool, ptrAt_ptr, reduceCtorEq]
      by_cases p2 : 0 ≤ i ∧ i ≤ roomT a - 1
      · simp only [decide_eq_true p2.1, decide_eq_true p2.2, H.new_ext, H.ext_ext, H.ext_next, H.ext_ldNk_0, H.ext_ldNk, H.ext_ldk_0, H.ext_ldk, H.ext_stk_0, H.ext_stk, ok, ldB_cells, ldNB_cells, stB_cells, V.one, V.cells, List.length_cons, List.length_nil, List.length_append, List.length_singleton, Nat.zero_add, Nat.add_zero, Nat.reduceAdd, Nat.reduceLeDiff, Nat.reduceLT, Nat.reduceMul, Nat.reduceSub, Int.reduceEq, Int.reduceLT, Int.reduceLE, if_true, if_false, or_self, or_false, false_or, or_true, true_or, Nat.zero_lt_one, Nat.lt_add_one, Nat.zero_lt_succ, Nat.add_assoc, decide_true, decide_false, List.getElem?_cons_zero, List.getElem?_cons_succ, List.cons_append, List.nil_append, List.append_assoc, List.drop_zero, List.drop_succ_cons, List.take_succ_cons, List.take_zero, List.set_cons_zero, List.set_cons_succ, splice, List.all_cons, List.all_nil, Bool.and_true, Bool.not_true, Bool.not_false, Bool.or_false, Option.bind_some, Option.map_some, Option.join_some, ckB_some, V.beq, V.beqs, Nat.beq_refl, BEq.rfl, Bool.and_self, fill, opd, boxc, finV, resAllV, resOfV, result, eqV, aggCells, eqOffs, eqCell, asI_int, asB_bool, ptrAt_ptr, reduceCtorEq]
        obtain ⟨q1, q2⟩ := mul_bd p1.1 (show slot ≤ 63 by omega) (show 0 ≤ roomT a by omega) hroom.2
        obtain ⟨q3, q4⟩ := mul_bd (show 0 ≤ c by omega) c2 (show 0 ≤ 1 + hd + 2 by omega) (show 1 + hd + 2 ≤ 19 by omega)
        have q5 : slotsT c hd = 4 + c * (1 + hd + 2) := rfl
        rw [wr64 (n := slot * roomT a) (by omega) (by omega), wr64 (n := slotsT c hd + slot * roomT a) (by omega) (by omega), wr64 (by omega) (by omega)]
        refine Ev.some ?_
        unfold withinT
        rw [if_pos ⟨hr, p1, p2⟩]
      · have : (decide (0 ≤ i) && decide (i ≤ roomT a - 1)) = false := by
          rw [Bool.eq_false_iff]; intro q
          simp only [Bool.and_eq_true, decide_eq_true_eq] at q
          exact p2 q
        simp only [this, H.new_ext, H.ext_ext, H.ext_next, H.ext_ldNk_0, H.ext_ldNk, H.ext_ldk_0, H.ext_ldk, H.ext_stk_0, H.ext_stk, ok, ldB_cells, ldNB_cells, stB_cells, V.one, V.cells, List.length_cons, List.length_nil, List.length_append, List.length_singleton, Nat.zero_add, Nat.add_zero, Nat.reduceAdd, Nat.reduceLeDiff, Nat.reduceLT, Nat.reduceMul, Nat.reduceSub, Int.reduceEq, Int.reduceLT, Int.reduceLE, if_true, if_false, or_self, or_false, false_or, or_true, true_or, Nat.zero_lt_one, Nat.lt_add_one, Nat.zero_lt_succ, Nat.add_assoc, decide_true, decide_false, List.getElem?_cons_zero, List.getElem?_cons_succ, List.cons_append, List.nil_append, List.append_assoc, List.drop_zero, List.drop_succ_cons, List.take_succ_cons, List.take_zero, List.set_cons_zero, List.set_cons_succ, splice, List.all_cons, List.all_nil, Bool.and_true, Bool.not_true, Bool.not_false, Bool.or_false, Option.bind_some, Option.map_some, Option.join_some, ckB_some, V.beq, V.beqs, Nat.beq_refl, BEq.rfl, Bool.and_self, fill, opd, boxc, finV, resAllV, resOfV, result, eqV, aggCells, eqOffs, eqCell, asI_int, asB_bool, ptrAt_ptr, reduceCtorEq]
        refine Ev.some ?_
        unfold withinT
        rw [if_neg (fun q => p2 q.2.2)]
    · have : (decide (0 ≤ slot) && decide (slot ≤ s - 1)) = false := by
        rw [Bool.eq_false_iff]; intro q
        simp only [Bool.and_eq_true, decide_eq_true_eq] at q
        exact p1 q
      simp only [this, H.new_ext, H.ext_ext, H.ext_next, H.ext_ldNk_0, H.ext_ldNk, H.ext_ldk_0, H.ext_ldk, H.ext_stk_0, H.ext_stk, ok, ldB_cells, ldNB_cells, stB_cells, V.one, V.cells, List.length_cons, List.length_nil, List.length_append, List.length_singleton, Nat.zero_add, Nat.add_zero, Nat.reduceAdd, Nat.reduceLeDiff, Nat.reduceLT, Nat.reduceMul, Nat.reduceSub, Int.reduceEq, Int.reduceLT, Int.reduceLE, if_true, if_false, or_self, or_false, false_or, or_true, true_or, Nat.zero_lt_one, Nat.lt_add_one, Nat.zero_lt_succ, Nat.add_assoc, decide_true, decide_false, List.getElem?_cons_zero, List.getElem?_cons_succ, List.cons_append, List.nil_append, List.append_assoc, List.drop_zero, List.drop_succ_cons, List.take_succ_cons, List.take_zero, List.set_cons_zero, List.set_cons_succ, splice, List.all_cons, List.all_nil, Bool.and_true, Bool.not_true, Bool.not_false, Bool.or_false, Option.bind_some, Option.map_some, Option.join_some, ckB_some, V.beq, V.beqs, Nat.beq_refl, BEq.rfl, Bool.and_self, fill, opd, boxc, finV, resAllV, resOfV, result, eqV, aggCells, eqOffs, eqCell, asI_int, asB_bool, ptrAt_ptr, reduceCtorEq]
      refine Ev.some ?_
      unfold withinT
      rw [if_neg (fun q => p1 q.2.1)]

theorem header_spec (s a c hd g st slot : Int) (h : H) : C 261 [cfgV s a c hd g st, .int .i64 slot] h = some (.int .i64 (withinT s a c hd g st slot 0), h) := by
  refine call_closed (af := F.plan_Header) (by kernel_rfl) rfl (by rfl) (by rfl) h ?_
  have ok := H.ok_empty
  have hW := within_spec s a c hd g st slot 0
  unfold cfgV at hW ⊢
  rw [S.plan_Header_eq]
  simp only [S.plan_Header, H.new_ext, H.ext_ext, H.ext_next, H.ext_ldNk_0, H.ext_ldNk, H.ext_ldk_0, H.ext_ldk, H.ext_stk_0, H.ext_stk, ok, ldB_cells, ldNB_cells, stB_cells, V.one, V.cells, List.length_cons, List.length_nil, List.length_append, List.length_singleton, Nat.zero_add, Nat.add_zero, Nat.reduceAdd, Nat.reduceLeDiff, Nat.reduceLT, Nat.reduceMul, Nat.reduceSub, Int.reduceEq, Int.reduceLT, Int.reduceLE, if_true, if_false, or_self, or_false, false_or, or_true, true_or, Nat.zero_lt_one, Nat.lt_add_one, Nat.zero_lt_succ, Nat.add_assoc, decide_true, decide_false, List.getElem?_cons_zero, List.getElem?_cons_succ, List.cons_append, List.nil_append, List.append_assoc, List.drop_zero, List.drop_succ_cons, List.take_succ_cons, List.take_zero, List.set_cons_zero, List.set_cons_succ, splice, List.all_cons, List.all_nil, Bool.and_true, Bool.not_true, Bool.not_false, Bool.or_false, Option.bind_some, Option.map_some, Option.join_some, ckB_some, V.beq, V.beqs, Nat.beq_refl, BEq.rfl, Bool.and_self, fill, opd, boxc, finV, resAllV, resOfV, result, eqV, aggCells, eqOffs, eqCell, asI_int, asB_bool, ptrAt_ptr, reduceCtorEq, W_call, hW]
  exact Ev.some rfl

/-- Is there such a slot? -/
theorem header_neg (s a c hd g st slot : Int) : withinT s a c hd g st slot 0 < 0 ↔ ¬(cfgR s a c hd g st = true ∧ 0 ≤ slot ∧ slot < s) := by
  unfold withinT
  constructor
  · intro h q
    have hr : (0 : Int) ≤ 0 ∧ (0 : Int) ≤ roomT a - 1 := by unfold roomT; omega
    rw [if_pos ⟨q.1, ⟨q.2.1, by omega⟩, hr⟩] at h
    obtain ⟨_, _, ⟨c1, c2⟩, ⟨d1, d2⟩, _⟩ := cfgR_iff.mp q.1
    have q3 := Int.mul_nonneg (show 0 ≤ c by omega) (show 0 ≤ 1 + hd + 2 by omega)
    have q4 := Int.mul_nonneg q.2.1 (show 0 ≤ roomT a by unfold roomT; omega)
    unfold slotsT at h
    omega
  · intro h
    rw [if_neg (fun q => h ⟨q.1, q.2.1.1, by omega⟩)]
    omega
end Wm
