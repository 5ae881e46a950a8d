/- What the functions come to, and the law: of my machine. -/
import Derived.Test.YtbnlhmaedapjlaaWmEv
import Derived.Test.YtbnlhmaedapjlaaWmProgIterNone
import Derived.Test.YtbnlhmaedapjlaaWmTxtIterNoneA
import Derived.Test.YtbnlhmaedapjlaaWmHeap
import Derived.Test.YtbnlhmaedapjlaaWmPOp0
import Derived.Test.YtbnlhmaedapjlaaWmOpen
set_option linter.all false
section
/- What was there is as it was. -/
namespace Wm
/-- What was there is as it was. -/
def Old (h h' : H) : Prop := h.next ≤ h'.next ∧ ∀ b, b < h.next → h'.get b = h.get b
theorem Old.refl (h : H) : Old h h := ⟨Nat.le_refl _, fun _ _ => rfl⟩
theorem Old.trans {a b c : H} (x : Old a b) (y : Old b c) : Old a c := ⟨Nat.le_trans x.1 y.1, fun n hn => (y.2 n (Nat.lt_of_lt_of_le hn x.1)).trans (x.2 n hn)⟩
theorem Old.new {h h' : H} (o : Old h h') (x : Blk) : Old h (h'.new x) := ⟨by have := o.1; simp only [H.next_new]; omega, fun b hb => by rw [get_new_ne (by have := o.1; omega)]; exact o.2 b hb⟩
theorem Old.put {h h' : H} (o : Old h h') {c : Nat} (hc : h.next ≤ c) (x : Option Blk) : Old h (h'.put c x) := ⟨o.1, fun b hb => by rw [get_put_ne (by omega)]; exact o.2 b hb⟩

end Wm
end

section
/- What the functions of plan come to. -/
namespace Wm

theorem between_spec (x lo hi : Int) (h : H) : C 376 [.int .i64 x, .int .i64 lo, .int .i64 hi] h = some (.bool (decide (lo ≤ x) && decide (x ≤ hi)), h) := by
  refine call_closed (af := F.plan_between) (by kernel_rfl) rfl (by rfl) (by rfl) h ?_
  rw [S.plan_between_eq]
  unfold S.plan_between
  by_cases h1 : lo ≤ x <;> simp [h1, Ev.iff_some]

/-- A config, as a value. -/
def cfgV (s a c hd g st : Int) : V := .agg [.int .i64 s, .int .i64 a, .int .i64 c, .int .i64 hd, .int .i64 g, .int .i64 st]
/-- Is it right? -/
def cfgR (s a c hd g st : Int) : Bool := (decide (1 ≤ s) && decide (s ≤ 64)) && (decide (0 ≤ a) && decide (a ≤ 8)) && (decide (1 ≤ c) && decide (c ≤ 8)) && (decide (1 ≤ hd) && decide (hd ≤ 16)) && (decide (1 ≤ g) && decide (g ≤ 1048576)) && (decide (0 ≤ st) && decide (st ≤ 64))

theorem ld1_new {h : H} {cs : List V} {k : Bk} (o : Nat) : (h.new (.cells cs k)).ld1 (.ptr h.next o) = match cs[o]? with
    | some v => match V.one v with
      | true => some v
      | false => none
    | none => none := by
  simp only [H.ld1, get_new_self]; rfl

theorem planRight_spec (s a c hd g st : Int) (h : H) : C 263 [cfgV s a c hd g st] h = some (.bool (cfgR s a c hd g st), h) := by
  refine call_closed (af := F.plan_Right) (by kernel_rfl) rfl (by rfl) (by rfl) h ?_
  unfold cfgV
  rw [S.plan_Right_eq]
  simp only [S.plan_Right, ld1_new, V.one, List.getElem?_cons_zero, List.getElem?_cons_succ, Option.bind_some, W_call, between_spec]
  unfold cfgR
  generalize (decide (1 ≤ s) && decide (s ≤ 64)) = b1
  generalize (decide (0 ≤ a) && decide (a ≤ 8)) = b2
  generalize (decide (1 ≤ c) && decide (c ≤ 8)) = b3
  generalize (decide (1 ≤ hd) && decide (hd ≤ 16)) = b4
  generalize (decide (1 ≤ g) && decide (g ≤ 1048576)) = b5
  cases b1 <;> cases b2 <;> cases b3 <;> cases b4 <;> cases b5 <;> simp [Ev.iff_some]

theorem ref06Right_spec (s a c hd g st : Int) (h : H) : C 85 [cfgV s a c hd g st] h = some (.bool (cfgR s a c hd g st), h) := by
  refine call_closed (af := F.withyref06_Right) (by kernel_rfl) rfl (by rfl) (by rfl) h ?_
  unfold cfgV
  rw [S.withyref06_Right_eq]
  simp only [S.withyref06_Right, ld1_new, V.one, List.getElem?_cons_zero, List.getElem?_cons_succ, Option.bind_some, asI, decide_true]
  unfold cfgR
  by_cases h1 : 1 ≤ s <;> simp only [h1, decide_true, decide_false, Bool.false_and, Bool.true_and, Ev.iff_some]
  by_cases h2 : s ≤ 64 <;> simp only [h2, decide_true, decide_false, Bool.false_and, Bool.true_and, Ev.iff_some]
  by_cases h3 : 0 ≤ a <;> simp only [h3, decide_true, decide_false, Bool.false_and, Bool.true_and, Ev.iff_some]
  by_cases h4 : a ≤ 8 <;> simp only [h4, decide_true, decide_false, Bool.false_and, Bool.true_and, Ev.iff_some]
  by_cases h5 : 1 ≤ c <;> simp only [h5, decide_true, decide_false, Bool.false_and, Bool.true_and, Ev.iff_some]
  by_cases h6 : c ≤ 8 <;> simp only [h6, decide_true, decide_false, Bool.false_and, Bool.true_and, Ev.iff_some]
  by_cases h7 : 1 ≤ hd <;> simp only [h7, decide_true, decide_false, Bool.false_and, Bool.true_and, Ev.iff_some]
  by_cases h8 : hd ≤ 16 <;> simp only [h8, decide_true, decide_false, Bool.false_and, Bool.true_and, Ev.iff_some]
  by_cases h9 : 1 ≤ g <;> simp only [h9, decide_true, decide_false, Bool.false_and, Bool.true_and, Ev.iff_some]
  by_cases h10 : g ≤ 1048576 <;> simp only [h10, decide_true, decide_false, Bool.false_and, Bool.true_and, Ev.iff_some]
  by_cases h11 : 0 ≤ st <;> simp only [h11, decide_true, decide_false, Bool.false_and, Bool.true_and, Ev.iff_some]

end Wm
end

section
/- A config that is right. -/
namespace Wm
theorem cfgR_iff {s a c hd g st : Int} : cfgR s a c hd g st = true ↔ (1 ≤ s ∧ s ≤ 64) ∧ (0 ≤ a ∧ a ≤ 8) ∧ (1 ≤ c ∧ c ≤ 8) ∧ (1 ≤ hd ∧ hd ≤ 16) ∧ (1 ≤ g ∧ g ≤ 1048576) ∧ (0 ≤ st ∧ st ≤ 64) := by
  simp only [cfgR, Bool.and_eq_true, decide_eq_true_eq, and_assoc]

end Wm
end

section
/- Where everything stands in the memory: what the functions of plan come to. -/
namespace Wm

theorem mul_bd {x y X Y : Int} (h0 : 0 ≤ x) (h1 : x ≤ X) (h2 : 0 ≤ y) (h3 : y ≤ Y) : 0 ≤ x * y ∧ x * y ≤ X * Y :=
  ⟨Int.mul_nonneg h0 h2, Int.mul_le_mul h1 h3 h2 (Int.le_trans h0 h1)⟩

def roomT (a : Int) : Int := 2 + max a 3
def slotsT (c hd : Int) : Int := 4 + c * (1 + hd + 2)

theorem room_spec (s a c hd g st : Int) (h0 : 0 ≤ a) (h1 : a ≤ 8) (h : H) : C 378 [cfgV s a c hd g st] h = some (.int .i64 (roomT a), h) := by
  refine call_closed (af := F.plan_room) (by kernel_rfl) rfl (by rfl) (by rfl) h ?_
  have ok := H.ok_empty
  unfold cfgV
  rw [S.plan_room_eq]
  simp only [S.plan_room, H.new_ext, H.ext_ext, H.ext_next, H.ext_ldNk_0, H.ext_ldNk, H.ext_ldk_0, H.ext_ldk, H.ext_stk_0, H.ext_stk, ok, ldB_cells, ldNB_cells, stB_cells, V.one, V.cells, List.length_cons, List.length_nil, List.length_append, List.length_singleton, Nat.zero_add, Nat.add_zero, Nat.reduceAdd, Nat.reduceLeDiff, Nat.reduceLT, Nat.reduceMul, Nat.reduceSub, Int.reduceEq, Int.reduceLT, Int.reduceLE, if_true, if_false, or_self, or_false, false_or, or_true, true_or, Nat.zero_lt_one, Nat.lt_add_one, Nat.zero_lt_succ, Nat.add_assoc, decide_true, decide_false, List.getElem?_cons_zero, List.getElem?_cons_succ, List.cons_append, List.nil_append, List.append_assoc, List.drop_zero, List.drop_succ_cons, List.take_succ_cons, List.take_zero, List.set_cons_zero, List.set_cons_succ, splice, List.all_cons, List.all_nil, Bool.and_true, Bool.not_true, Bool.not_false, Bool.or_false, Option.bind_some, Option.map_some, Option.join_some, ckB_some, V.beq, V.beqs, Nat.beq_refl, BEq.rfl, Bool.and_self, fill, repl, opd, boxc, finV, resAllV, resOfV, result, eqV, aggCells, eqOffs, eqCell, asI_int, asB_bool, ptrAt_ptr, reduceCtorEq, W_call]
  rw [wr64 (by omega) (by omega)]
  exact Ev.some rfl

theorem slots_spec (s a c hd g st : Int) (h0 : 0 ≤ c) (h1 : c ≤ 8) (h2 : 0 ≤ hd) (h3 : hd ≤ 16) (h : H) : C 377 [cfgV s a c hd g st] h = some (.int .i64 (slotsT c hd), h) := by
  refine call_closed (af := F.plan_slots) (by kernel_rfl) rfl (by rfl) (by rfl) h ?_
  have ok := H.ok_empty
  unfold cfgV
  rw [S.plan_slots_eq]
  simp only [S.plan_slots, H.new_ext, H.ext_ext, H.ext_next, H.ext_ldNk_0, H.ext_ldNk, H.ext_ldk_0, H.ext_ldk, H.ext_stk_0, H.ext_stk, ok, ldB_cells, ldNB_cells, stB_cells, V.one, V.cells, List.length_cons, List.length_nil, List.length_append, List.length_singleton, Nat.zero_add, Nat.add_zero, Nat.reduceAdd, Nat.reduceLeDiff, Nat.reduceLT, Nat.reduceMul, Nat.reduceSub, Int.reduceEq, Int.reduceLT, Int.reduceLE, if_true, if_false, or_self, or_false, false_or, or_true, true_or, Nat.zero_lt_one, Nat.lt_add_one, Nat.zero_lt_succ, Nat.add_assoc, decide_true, decide_false, List.getElem?_cons_zero, List.getElem?_cons_succ, List.cons_append, List.nil_append, List.append_assoc, List.drop_zero, List.drop_succ_cons, List.take_succ_cons, List.take_zero, List.set_cons_zero, List.set_cons_succ, splice, List.all_cons, List.all_nil, Bool.and_true, Bool.not_true, Bool.not_false, Bool.or_false, Option.bind_some, Option.map_some, Option.join_some, ckB_some, V.beq, V.beqs, Nat.beq_refl, BEq.rfl, Bool.and_self, fill, repl, opd, boxc, finV, resAllV, resOfV, result, eqV, aggCells, eqOffs, eqCell, asI_int, asB_bool, ptrAt_ptr, reduceCtorEq, W_call]
  rw [wr64 (n := 1 + hd) (by omega) (by omega), wr64 (n := 1 + hd + 2) (by omega) (by omega)]
  obtain ⟨q1, q2⟩ := mul_bd h0 h1 (show 0 ≤ 1 + hd + 2 by omega) (show 1 + hd + 2 ≤ 19 by omega)
  rw [wr64 (n := c * (1 + hd + 2)) (by omega) (by omega), wr64 (by omega) (by omega)]
  exact Ev.some rfl

def withinT (s a c hd g st slot i : Int) : Int :=
  if cfgR s a c hd g st = true ∧ (0 ≤ slot ∧ slot ≤ s - 1) ∧ (0 ≤ i ∧ i ≤ roomT a - 1) then slotsT c hd + slot * roomT a + i else -1

theorem within_spec (s a c hd g st slot i : Int) (h : H) : C 375 [cfgV s a c hd g st, .int .i64 slot, .int .i64 i] h = some (.int .i64 (withinT s a c hd g st slot i), h) := by
  refine call_closed (af := F.plan_within) (by kernel_rfl) rfl (by rfl) (by rfl) h ?_
  have ok := H.ok_empty
  have hR := planRight_spec s a c hd g st
  cases hr : cfgR s a c hd g st with
  | false =>
    rw [hr] at hR
    unfold cfgV at hR ⊢
    rw [S.plan_within_eq]
    simp only [S.plan_within, H.new_ext, H.ext_ext, H.ext_next, H.ext_ldNk_0, H.ext_ldNk, H.ext_ldk_0, H.ext_ldk, H.ext_stk_0, H.ext_stk, ok, ldB_cells, ldNB_cells, stB_cells, V.one, V.cells, List.length_cons, List.length_nil, List.length_append, List.length_singleton, Nat.zero_add, Nat.add_zero, Nat.reduceAdd, Nat.reduceLeDiff, Nat.reduceLT, Nat.reduceMul, Nat.reduceSub, Int.reduceEq, Int.reduceLT, Int.reduceLE, if_true, if_false, or_self, or_false, false_or, or_true, true_or, Nat.zero_lt_one, Nat.lt_add_one, Nat.zero_lt_succ, Nat.add_assoc, decide_true, decide_false, List.getElem?_cons_zero, List.getElem?_cons_succ, List.cons_append, List.nil_append, List.append_assoc, List.drop_zero, List.drop_succ_cons, List.take_succ_cons, List.take_zero, List.set_cons_zero, List.set_cons_succ, splice, List.all_cons, List.all_nil, Bool.and_true, Bool.not_true, Bool.not_false, Bool.or_false, Option.bind_some, Option.map_some, Option.join_some, ckB_some, V.beq, V.beqs, Nat.beq_refl, BEq.rfl, Bool.and_self, fill, repl, opd, boxc, finV, resAllV, resOfV, result, eqV, aggCells, eqOffs, eqCell, asI_int, asB_bool, ptrAt_ptr, reduceCtorEq, W_call, hR]
    exact Ev.some (by simp [withinT, hr])
  | true =>
    obtain ⟨⟨s1, s2⟩, ⟨a1, a2⟩, ⟨c1, c2⟩, ⟨d1, d2⟩, _⟩ := cfgR_iff.mp hr
    rw [hr] at hR
    have h1 := room_spec s a c hd g st (by omega) (by omega)
    have h2 := slots_spec s a c hd g st (by omega) (by omega) (by omega) (by omega)
    unfold cfgV at hR h1 h2 ⊢
    rw [S.plan_within_eq]
    simp only [S.plan_within, H.new_ext, H.ext_ext, H.ext_next, H.ext_ldNk_0, H.ext_ldNk, H.ext_ldk_0, H.ext_ldk, H.ext_stk_0, H.ext_stk, ok, ldB_cells, ldNB_cells, stB_cells, V.one, V.cells, List.length_cons, List.length_nil, List.length_append, List.length_singleton, Nat.zero_add, Nat.add_zero, Nat.reduceAdd, Nat.reduceLeDiff, Nat.reduceLT, Nat.reduceMul, Nat.reduceSub, Int.reduceEq, Int.reduceLT, Int.reduceLE, if_true, if_false, or_self, or_false, false_or, or_true, true_or, Nat.zero_lt_one, Nat.lt_add_one, Nat.zero_lt_succ, Nat.add_assoc, decide_true, decide_false, List.getElem?_cons_zero, List.getElem?_cons_succ, List.cons_append, List.nil_append, List.append_assoc, List.drop_zero, List.drop_succ_cons, List.take_succ_cons, List.take_zero, List.set_cons_zero, List.set_cons_succ, splice, List.all_cons, List.all_nil, Bool.and_true, Bool.not_true, Bool.not_false, Bool.or_false, Option.bind_some, Option.map_some, Option.join_some, ckB_some, V.beq, V.beqs, Nat.beq_refl, BEq.rfl, Bool.and_self, fill, repl, opd, boxc, finV, resAllV, resOfV, result, eqV, aggCells, eqOffs, eqCell, asI_int, asB_bool, ptrAt_ptr, reduceCtorEq, W_call, hR, h1, h2, between_spec]
    have hroom : 5 ≤ roomT a ∧ roomT a ≤ 10 := by unfold roomT; omega
    rw [wr64 (n := s - 1) (by omega) (by omega), wr64 (n := roomT a - 1) (by omega) (by omega)]
    by_cases p1 : 0 ≤ slot ∧ slot ≤ s - 1
    · simp only [decide_eq_true p1.1, decide_eq_true p1.2, H.new_ext, H.ext_ext, H.ext_next, H.ext_ldNk_0, H.ext_ldNk, H.ext_ldk_0, H.ext_ldk, H.ext_stk_0, H.ext_stk, ok, ldB_cells, ldNB_cells, stB_cells, V.one, V.cells, List.length_cons, List.length_nil, List.length_append, List.length_singleton, Nat.zero_add, Nat.add_zero, Nat.reduceAdd, Nat.reduceLeDiff, Nat.reduceLT, Nat.reduceMul, Nat.reduceSub, Int.reduceEq, Int.reduceLT, Int.reduceLE, if_true, if_false, or_self, or_false, false_or, or_true, true_or, Nat.zero_lt_one, Nat.lt_add_one, Nat.zero_lt_succ, Nat.add_assoc, decide_true, decide_false, List.getElem?_cons_zero, List.getElem?_cons_succ, List.cons_append, List.nil_append, List.append_assoc, List.drop_zero, List.drop_succ_cons, List.take_succ_cons, List.take_zero, List.set_cons_zero, List.set_cons_succ, splice, List.all_cons, List.all_nil, Bool.and_true, Bool.not_true, Bool.not_false, Bool.or_false, Option.bind_some, Option.map_some, Option.join_some, ckB_some, V.beq, V.beqs, Nat.beq_refl, BEq.rfl, Bool.and_self, fill, repl, opd, boxc, finV, resAllV, resOfV, result, eqV, aggCells, eqOffs, eqCell, asI_int, asB_bool, ptrAt_ptr, reduceCtorEq]
      by_cases p2 : 0 ≤ i ∧ i ≤ roomT a - 1
      · simp only [decide_eq_true p2.1, decide_eq_true p2.2, H.new_ext, H.ext_ext, H.ext_next, H.ext_ldNk_0, H.ext_ldNk, H.ext_ldk_0, H.ext_ldk, H.ext_stk_0, H.ext_stk, ok, ldB_cells, ldNB_cells, stB_cells, V.one, V.cells, List.length_cons, List.length_nil, List.length_append, List.length_singleton, Nat.zero_add, Nat.add_zero, Nat.reduceAdd, Nat.reduceLeDiff, Nat.reduceLT, Nat.reduceMul, Nat.reduceSub, Int.reduceEq, Int.reduceLT, Int.reduceLE, if_true, if_false, or_self, or_false, false_or, or_true, true_or, Nat.zero_lt_one, Nat.lt_add_one, Nat.zero_lt_succ, Nat.add_assoc, decide_true, decide_false, List.getElem?_cons_zero, List.getElem?_cons_succ, List.cons_append, List.nil_append, List.append_assoc, List.drop_zero, List.drop_succ_cons, List.take_succ_cons, List.take_zero, List.set_cons_zero, List.set_cons_succ, splice, List.all_cons, List.all_nil, Bool.and_true, Bool.not_true, Bool.not_false, Bool.or_false, Option.bind_some, Option.map_some, Option.join_some, ckB_some, V.beq, V.beqs, Nat.beq_refl, BEq.rfl, Bool.and_self, fill, repl, opd, boxc, finV, resAllV, resOfV, result, eqV, aggCells, eqOffs, eqCell, asI_int, asB_bool, ptrAt_ptr, reduceCtorEq]
        obtain ⟨q1, q2⟩ := mul_bd p1.1 (show slot ≤ 63 by omega) (show 0 ≤ roomT a by omega) hroom.2
        obtain ⟨q3, q4⟩ := mul_bd (show 0 ≤ c by omega) c2 (show 0 ≤ 1 + hd + 2 by omega) (show 1 + hd + 2 ≤ 19 by omega)
        have q5 : slotsT c hd = 4 + c * (1 + hd + 2) := rfl
        rw [wr64 (n := slot * roomT a) (by omega) (by omega), wr64 (n := slotsT c hd + slot * roomT a) (by omega) (by omega), wr64 (by omega) (by omega)]
        refine Ev.some ?_
        unfold withinT
        rw [if_pos ⟨hr, p1, p2⟩]
      · have : (decide (0 ≤ i) && decide (i ≤ roomT a - 1)) = false := by
          rw [Bool.eq_false_iff]; intro q
          simp only [Bool.and_eq_true, decide_eq_true_eq] at q
          exact p2 q
        simp only [this, H.new_ext, H.ext_ext, H.ext_next, H.ext_ldNk_0, H.ext_ldNk, H.ext_ldk_0, H.ext_ldk, H.ext_stk_0, H.ext_stk, ok, ldB_cells, ldNB_cells, stB_cells, V.one, V.cells, List.length_cons, List.length_nil, List.length_append, List.length_singleton, Nat.zero_add, Nat.add_zero, Nat.reduceAdd, Nat.reduceLeDiff, Nat.reduceLT, Nat.reduceMul, Nat.reduceSub, Int.reduceEq, Int.reduceLT, Int.reduceLE, if_true, if_false, or_self, or_false, false_or, or_true, true_or, Nat.zero_lt_one, Nat.lt_add_one, Nat.zero_lt_succ, Nat.add_assoc, decide_true, decide_false, List.getElem?_cons_zero, List.getElem?_cons_succ, List.cons_append, List.nil_append, List.append_assoc, List.drop_zero, List.drop_succ_cons, List.take_succ_cons, List.take_zero, List.set_cons_zero, List.set_cons_succ, splice, List.all_cons, List.all_nil, Bool.and_true, Bool.not_true, Bool.not_false, Bool.or_false, Option.bind_some, Option.map_some, Option.join_some, ckB_some, V.beq, V.beqs, Nat.beq_refl, BEq.rfl, Bool.and_self, fill, repl, opd, boxc, finV, resAllV, resOfV, result, eqV, aggCells, eqOffs, eqCell, asI_int, asB_bool, ptrAt_ptr, reduceCtorEq]
        refine Ev.some ?_
        unfold withinT
        rw [if_neg (fun q => p2 q.2.2)]
    · have : (decide (0 ≤ slot) && decide (slot ≤ s - 1)) = false := by
        rw [Bool.eq_false_iff]; intro q
        simp only [Bool.and_eq_true, decide_eq_true_eq] at q
        exact p1 q
      simp only [this, H.new_ext, H.ext_ext, H.ext_next, H.ext_ldNk_0, H.ext_ldNk, H.ext_ldk_0, H.ext_ldk, H.ext_stk_0, H.ext_stk, ok, ldB_cells, ldNB_cells, stB_cells, V.one, V.cells, List.length_cons, List.length_nil, List.length_append, List.length_singleton, Nat.zero_add, Nat.add_zero, Nat.reduceAdd, Nat.reduceLeDiff, Nat.reduceLT, Nat.reduceMul, Nat.reduceSub, Int.reduceEq, Int.reduceLT, Int.reduceLE, if_true, if_false, or_self, or_false, false_or, or_true, true_or, Nat.zero_lt_one, Nat.lt_add_one, Nat.zero_lt_succ, Nat.add_assoc, decide_true, decide_false, List.getElem?_cons_zero, List.getElem?_cons_succ, List.cons_append, List.nil_append, List.append_assoc, List.drop_zero, List.drop_succ_cons, List.take_succ_cons, List.take_zero, List.set_cons_zero, List.set_cons_succ, splice, List.all_cons, List.all_nil, Bool.and_true, Bool.not_true, Bool.not_false, Bool.or_false, Option.bind_some, Option.map_some, Option.join_some, ckB_some, V.beq, V.beqs, Nat.beq_refl, BEq.rfl, Bool.and_self, fill, repl, opd, boxc, finV, resAllV, resOfV, result, eqV, aggCells, eqOffs, eqCell, asI_int, asB_bool, ptrAt_ptr, reduceCtorEq]
      refine Ev.some ?_
      unfold withinT
      rw [if_neg (fun q => p1 q.2.1)]

theorem header_spec (s a c hd g st slot : Int) (h : H) : C 261 [cfgV s a c hd g st, .int .i64 slot] h = some (.int .i64 (withinT s a c hd g st slot 0), h) := by
  refine call_closed (af := F.plan_Header) (by kernel_rfl) rfl (by rfl) (by rfl) h ?_
  have ok := H.ok_empty
  have hW := within_spec s a c hd g st slot 0
  unfold cfgV at hW ⊢
  rw [S.plan_Header_eq]
  simp only [S.plan_Header, H.new_ext, H.ext_ext, H.ext_next, H.ext_ldNk_0, H.ext_ldNk, H.ext_ldk_0, H.ext_ldk, H.ext_stk_0, H.ext_stk, ok, ldB_cells, ldNB_cells, stB_cells, V.one, V.cells, List.length_cons, List.length_nil, List.length_append, List.length_singleton, Nat.zero_add, Nat.add_zero, Nat.reduceAdd, Nat.reduceLeDiff, Nat.reduceLT, Nat.reduceMul, Nat.reduceSub, Int.reduceEq, Int.reduceLT, Int.reduceLE, if_true, if_false, or_self, or_false, false_or, or_true, true_or, Nat.zero_lt_one, Nat.lt_add_one, Nat.zero_lt_succ, Nat.add_assoc, decide_true, decide_false, List.getElem?_cons_zero, List.getElem?_cons_succ, List.cons_append, List.nil_append, List.append_assoc, List.drop_zero, List.drop_succ_cons, List.take_succ_cons, List.take_zero, List.set_cons_zero, List.set_cons_succ, splice, List.all_cons, List.all_nil, Bool.and_true, Bool.not_true, Bool.not_false, Bool.or_false, Option.bind_some, Option.map_some, Option.join_some, ckB_some, V.beq, V.beqs, Nat.beq_refl, BEq.rfl, Bool.and_self, fill, repl, opd, boxc, finV, resAllV, resOfV, result, eqV, aggCells, eqOffs, eqCell, asI_int, asB_bool, ptrAt_ptr, reduceCtorEq, W_call, hW]
  exact Ev.some rfl

/-- Is there such a slot? -/
theorem header_neg (s a c hd g st slot : Int) : withinT s a c hd g st slot 0 < 0 ↔ ¬(cfgR s a c hd g st = true ∧ 0 ≤ slot ∧ slot < s) := by
  unfold withinT
  constructor
  · intro h q
    have hr : (0 : Int) ≤ 0 ∧ (0 : Int) ≤ roomT a - 1 := by unfold roomT; omega
    rw [if_pos ⟨q.1, ⟨q.2.1, by omega⟩, hr⟩] at h
    obtain ⟨_, _, ⟨c1, c2⟩, ⟨d1, d2⟩, _⟩ := cfgR_iff.mp q.1
    have q3 := Int.mul_nonneg (show 0 ≤ c by omega) (show 0 ≤ 1 + hd + 2 by omega)
    have q4 := Int.mul_nonneg q.2.1 (show 0 ≤ roomT a by unfold roomT; omega)
    unfold slotsT at h
    omega
  · intro h
    rw [if_neg (fun q => h ⟨q.1, q.2.1.1, by omega⟩)]
    omega
end Wm
end

section
/- Slices that grow, and loops. -/
namespace Wm
theorem ldN_new {h : H} {cs : List V} {k : Bk} {o n : Nat} (hl : o + n ≤ cs.length) : (h.new (.cells cs k)).ldN n (.ptr h.next o) = some (.agg ((cs.drop o).take n)) := ldN_get (get_new_self _ _) hl

theorem mkSl_ok {h : H} {e b : Nat} {z : List V} {l c : Int} (h1 : 0 ≤ l) (h2 : l ≤ c) (h3 : c * b ≤ 140737488355328) (h4 : c ≤ 9223372036854775807) (h5 : z.length = e) (h6 : 0 < e) :
    h.mkSl e b z l c = some (.sl h.next 0 l.toNat (.ex c.toNat), h.new (.cells (repl z c.toNat) .rw)) := by
  subst h5
  simp [H.mkSl, h1, h2, h3, h4, h6]

theorem ld1_new_ne {h : H} {x : Blk} {b o : Nat} (hb : b ≠ h.next) : (h.new x).ld1 (.ptr b o) = h.ld1 (.ptr b o) := by
  simp only [H.ld1, get_new_ne hb]

theorem append_op {h : H} {e b bb o len n : Nat} {x : V} {new old cs : List V} (hx : lenSl x = some n) (hn : h.slc e x = some new) (ho : h.slc e (.sl bb o len (.op e)) = some old) (hg : h.get bb = some (.cells cs (.gr e))) (h1 : new.all V.one = true) (h2 : (len + n + (len + n) / 2 + 1000) * b ≤ 281474976710656) (he : 0 < e) (hb : 0 < b) :
    h.append e b (.sl bb o len (.op e)) x = some (.sl h.next 0 (len + n) (.op e), (h.put bb none).new (.cells (old ++ new) (.gr e))) := by
  have h3 : lenSl (.sl bb o len (.op e)) = some len := rfl
  simp only [H.append, hx, hn, h3, ho, h1, h2, he, hb, decide_true, Bool.and_self, hg, Nat.beq_refl]

theorem append_nil {h : H} {e b n : Nat} {x : V} {new : List V} (hx : lenSl x = some n) (hn : h.slc e x = some new) (h0 : n ≠ 0) (h1 : new.all V.one = true) (h2 : (n + n / 2 + 1000) * b ≤ 281474976710656) (he : 0 < e) (hb : 0 < b) :
    h.append e b .nilsl x = some (.sl h.next 0 n (.op e), h.new (.cells new (.gr e))) := by
  have h3 : lenSl .nilsl = some 0 := rfl
  have h4 : h.slc e .nilsl = some [] := rfl
  have h5 : Nat.beq n 0 = false := by cases n with
    | zero => exact absurd rfl h0
    | succ n => rfl
  simp only [H.append, hx, hn, h3, h4, h1, h2, he, hb, decide_true, Bool.and_self, Nat.zero_add, h5, List.nil_append]

theorem slc_get {h : H} {e bb o len : Nat} {cap : Cap} {cs : List V} {k : Bk} (hg : h.get bb = some (.cells cs k)) (hl : o + len * e ≤ cs.length) : h.slc e (.sl bb o len cap) = some ((cs.drop o).take (len * e)) := by
  simp only [H.slc, ldc_get hg hl]

theorem st1_get {h : H} {b o : Nat} {cs : List V} {k : Bk} {v : V} (hb : h.get b = some (.cells cs k)) (hk : k ≠ .ro) (hv : v.one = true) (hl : o < cs.length) : h.st 1 (.ptr b o) v = some (h.put b (some (.cells (cs.set o v) k))) := by
  have hc : v.cells = [v] := by cases v <;> first | rfl | simp [V.one] at hv
  have hs : splice cs o [v] = cs.set o v := by
    simp only [splice, List.length_singleton]
    rw [List.set_eq_take_append_cons_drop, if_pos hl]
    simp
  have h6 := stc_get hb hk (vs := [v]) (by simp [hv]) (show o + [v].length ≤ cs.length by simp; omega)
  rw [hs] at h6
  simp only [H.st, hc, List.length_singleton, Nat.beq, h6]

theorem loop_ev {α : Type} {call : Nat → List V → H → Option (V × H)} {meth : Nat → Nat → Option Nat} {b : List V → H → Option (AX × List V × H)} {R : Type} {k : AX × List V × H → Option R} {Q : R → Prop} {e : List V} {h : H} (enc : α → List V) (I : α → H → Prop) (μ : α → H → Nat) (P : AX × List V × H → Prop) (a : α) (he : e = enc a) (h0 : I a h)
    (step : ∀ a h, I a h → Ev (b (enc a) h) fun r => (∃ a', r.1 = .normal ∧ r.2.1 = enc a' ∧ I a' r.2.2 ∧ μ a' r.2.2 < μ a h) ∨ (r.1 ≠ .normal ∧ P r)) (out : ∀ r, P r → Ev (k r) Q) : Ev (((envW meth call).loop b e h).bind k) Q := by
  subst he
  exact Ev.bind (loopW_ev enc I μ step a h h0) out

end Wm
end

section
/- A slice that one element is appended to, among blocks that came. -/
namespace Wm

theorem indexAV_in {b o n e : Nat} {c : Cap} {i : Int} {k : Go.IntKind} (h0 : 0 ≤ i) (h1 : i < n) : indexAV e (.sl b o n c) (.int k i) = some (.ptr b (o + i.toNat * e)) := by
  simp only [indexAV, indexOf, asIAny, h0, h1, decide_true, Bool.and_self]

section
variable {h : H} {P : List (Option Blk)} {e b : Nat} {new : List V}

theorem grow_new (hn : new.length = e) : (h.ext (P ++ [some (.cells new .rw)])).slc e (.sl (h.next + P.length) 0 1 (.ex 1)) = some new := by
  rw [slc_get (cs := new) (k := .rw) ?_ (by omega)]
  · rw [List.drop_zero, List.take_of_length_le (by omega)]
  · rw [H.ext_get (by rw [List.length_append]; exact Nat.lt_succ_self _), List.getElem?_append_right (Nat.le_refl _), Nat.sub_self]; rfl

theorem grow_nil (hn : new.length = e) (h1 : new.all V.one = true) (he : 0 < e) (hb : 0 < b ∧ b ≤ 1000) :
    (h.ext (P ++ [some (.cells new .rw)])).append e b .nilsl (.sl (h.next + P.length) 0 1 (.ex 1)) = some (.sl (h.next + (P.length + 1)) 0 1 (.op e), h.ext (P ++ [some (Blk.cells new .rw)] ++ [some (Blk.cells new (.gr e))])) := by
  rw [append_nil (n := 1) rfl (grow_new hn) (by omega) h1 (by omega) he hb.1, H.new_ext, H.ext_ext, H.ext_next]
  have e1 : (P ++ [some (Blk.cells new .rw)]).length = P.length + 1 := by rw [List.length_append]; rfl
  rw [e1]

theorem grow_op {j i : Nat} {cs : List V} (hj : P[j]? = some (some (.cells cs (.gr e)))) (hc : cs.length = i * e) (hn : new.length = e) (h1 : new.all V.one = true) (he : 0 < e) (hb : 0 < b) (hi : (i + 1 + (i + 1) / 2 + 1000) * b ≤ 281474976710656) :
    (h.ext (P ++ [some (.cells new .rw)])).append e b (.sl (h.next + j) 0 i (.op e)) (.sl (h.next + P.length) 0 1 (.ex 1)) =
      some (.sl (h.next + (P.length + 1)) 0 (i + 1) (.op e), h.ext ((P ++ [some (Blk.cells new .rw)]).set j none ++ [some (Blk.cells (cs ++ new) (.gr e))])) := by
  have hlt : j < P.length := by
    rcases Nat.lt_or_ge j P.length with q | q
    · exact q
    · rw [List.getElem?_eq_none q] at hj; cases hj
  have e1 : (P ++ [some (Blk.cells new .rw)]).length = P.length + 1 := by rw [List.length_append]; rfl
  have hbk : (h.ext (P ++ [some (.cells new .rw)])).get (h.next + j) = some (.cells cs (.gr e)) := by
    rw [H.ext_get (by rw [e1]; omega), List.getElem?_append_left hlt, hj]; rfl
  have hs : (h.ext (P ++ [some (.cells new .rw)])).slc e (.sl (h.next + j) 0 i (.op e)) = some cs := by
    rw [slc_get hbk (by omega), List.drop_zero, List.take_of_length_le (by omega)]
  rw [append_op (n := 1) rfl (grow_new hn) hs hbk h1 hi he hb, H.ext_put (by rw [e1]; omega), H.new_ext, H.ext_ext, H.ext_next, e1]
end
end Wm
end

section
/- A header's word: what the functions of word, head and withyref04 come to. -/
namespace Wm

def U64 (w : Int) : Prop := 0 ≤ w ∧ w < 18446744073709551616

/-- So many bits, from one on. -/
def getT (w : Int) (at' n : Nat) : Int := w / (2 ^ at' : Int) % (2 ^ n : Int)

theorem and64_mask {x : Int} (hx : U64 x) {n : Nat} (hn : n ≤ 64) : and64 x (2 ^ n - 1) = x % (2 ^ n : Int) := by
  obtain ⟨h0, h1⟩ := hx
  obtain ⟨k, rfl⟩ : ∃ k : Nat, x = k := ⟨x.toNat, by omega⟩
  have e1 : (2 ^ n - 1 : Int) = ((2 ^ n - 1 : Nat) : Int) := by
    have : 1 ≤ 2 ^ n := Nat.one_le_two_pow
    rw [Int.natCast_sub this]; simp
  have h2 : 2 ^ n ≤ 2 ^ 64 := Nat.pow_le_pow_right (by omega) hn
  have h3 : 2 ^ n - 1 < 2 ^ 64 := by have : 1 ≤ 2 ^ n := Nat.one_le_two_pow; omega
  unfold and64
  rw [e1, BitVec.ofInt_natCast, BitVec.ofInt_natCast, BitVec.toNat_and, BitVec.toNat_ofNat, BitVec.toNat_ofNat, Nat.mod_eq_of_lt (by omega), Nat.mod_eq_of_lt h3, Nat.and_two_pow_sub_one_eq_mod]
  simp

theorem getT_range {w : Int} (hw : U64 w) (a n : Nat) : U64 (w / (2 ^ a : Int)) := by
  obtain ⟨h0, h1⟩ := hw
  have h2 : (0 : Int) < 2 ^ a := Int.pow_pos (by omega)
  refine ⟨Int.ediv_nonneg h0 (by omega), ?_⟩
  have := Int.ediv_le_self (2 ^ a : Int) h0
  omega

theorem some_spec (a n : Int) (h0 : 0 ≤ a) (h1 : 1 ≤ n) (h2 : a + n ≤ 64) (h : H) : C 441 [.int .i64 a, .int .i64 n] h = some (.bool true, h) := by
  refine call_closed (af := F.word_some) (by kernel_rfl) rfl (by rfl) (by rfl) h ?_
  rw [S.word_some_eq]
  simp only [S.word_some, show 1 ≤ n from h1, show n ≤ 64 by omega, h0, decide_true]
  rw [wr64 (by omega) (by omega)]
  exact Ev.some (by simp; omega)

theorem mask_spec (n : Nat) (hn : n ≤ 63) (h : H) : C 449 [.int .i64 n] h = some (.int .u64 (2 ^ n - 1), h) := by
  refine call_closed (af := F.word_mask) (by kernel_rfl) rfl (by rfl) (by rfl) h ?_
  rw [S.word_mask_eq]
  have h1 : ¬ (n : Int) < 0 := by omega
  have hp : (1 : Nat) ≤ 2 ^ n := Nat.one_le_two_pow
  have hq : 2 ^ n ≤ 2 ^ 63 := Nat.pow_le_pow_right (by omega) hn
  have hc : ((2 ^ n : Nat) : Int) = (2 ^ n : Int) := by simp
  have e1 : (2 ^ n : Int) ≤ 9223372036854775808 := by rw [← hc]; omega
  have e2 : (1 : Int) ≤ 2 ^ n := by rw [← hc]; omega
  simp only [S.word_mask, shiftI, decide_eq_false h1, Int.toNat_natCast, show min n (Go.IntKind.bits .u64) = n from by show min n 64 = n; omega, Option.bind_some, Int.one_mul]
  rw [wru64 (n := 2 ^ n) (by omega) (by omega), wru64 (by omega) (by omega)]
  exact Ev.some rfl

theorem get_spec {w : Int} (hw : U64 w) (a n : Nat) (h1 : 1 ≤ n) (h2 : a + n ≤ 64) (h3 : n ≤ 63) (h : H) : C 396 [.int .u64 w, .int .i64 a, .int .i64 n] h = some (.int .u64 (getT w a n), h) := by
  refine call_closed (af := F.word_Get) (by kernel_rfl) rfl (by rfl) (by rfl) h ?_
  rw [S.word_Get_eq]
  have h4 : ¬ (a : Int) < 0 := by omega
  simp only [S.word_Get, W_call, some_spec (a : Int) (n : Int) (by omega) (by omega) (by omega), asB_bool, Option.bind_some, Bool.not_true, shiftI, decide_eq_false h4, Int.toNat_natCast, show min a (Go.IntKind.bits .u64) = a from by show min a 64 = a; omega, mask_spec n h3, asI_int]
  rw [and64_mask (getT_range hw a n) (by omega)]
  exact Ev.some rfl

/-- The seven values of a word. -/
def sevenT (w : Int) : List Int := [getT w 0 3, getT w 3 1, getT w 4 1, getT w 5 4, getT w 9 7, getT w 16 32, getT w 48 16]
def sizesT : List Nat := [3, 1, 1, 4, 7, 32, 16]
def sumT (i : Nat) : Nat := (sizesT.take i).sum

theorem size_at (w : Int) : ∀ i, i < 7 → ∃ n : Nat, ([.int .i64 3, .int .i64 1, .int .i64 1, .int .i64 4, .int .i64 7, .int .i64 32, .int .i64 16] : List V)[i]? = some (.int .i64 n) ∧ 1 ≤ n ∧ sumT i + n ≤ 64 ∧ n ≤ 63 ∧ sumT (i + 1) = sumT i + n ∧ (sevenT w).take (i + 1) = (sevenT w).take i ++ [getT w (sumT i) n]
  | 0, _ => ⟨3, rfl, by decide, by decide, by decide, rfl, rfl⟩
  | 1, _ => ⟨1, rfl, by decide, by decide, by decide, rfl, rfl⟩
  | 2, _ => ⟨1, rfl, by decide, by decide, by decide, rfl, rfl⟩
  | 3, _ => ⟨4, rfl, by decide, by decide, by decide, rfl, rfl⟩
  | 4, _ => ⟨7, rfl, by decide, by decide, by decide, rfl, rfl⟩
  | 5, _ => ⟨32, rfl, by decide, by decide, by decide, rfl, rfl⟩
  | 6, _ => ⟨16, rfl, by decide, by decide, by decide, rfl, rfl⟩
  | n + 7, h => by omega

theorem unpack_loop {w : Int} (hw : U64 w) {h : H} (ok : h.ok) (A : Option Blk) :
    Ev (C 379 [.int .u64 w, .sl (h.next + 1) 0 7 (.ex 7)] (h.ext [A, some (.cells [.int .i64 3, .int .i64 1, .int .i64 1, .int .i64 4, .int .i64 7, .int .i64 32, .int .i64 16] .rw)])) fun r =>
      ∃ j L, r = (.tup [.sl (h.next + (j + 2)) 0 7 (.op 1), .bool true], h.ext (A :: some (.cells [.int .i64 3, .int .i64 1, .int .i64 1, .int .i64 4, .int .i64 7, .int .i64 32, .int .i64 16] .rw) :: L)) ∧ L[j]? = some (some (.cells ((sevenT w).map (.int .u64)) (.gr 1))) := by
  refine call_ev (af := F.word_Unpack) (by kernel_rfl) rfl ?_
  rw [S.word_Unpack_eq]
  simp only [S.word_Unpack, lenSl, Option.bind_some]
  generalize hZ : (some (Blk.cells [.int .i64 3, .int .i64 1, .int .i64 1, .int .i64 4, .int .i64 7, .int .i64 32, .int .i64 16] .rw)) = Z
  refine loop_ev (α := Nat × V) (fun a => S.word_Unpack_c1_E (.int .u64 w) a.2 (.int .i64 (sumT a.1 : Nat)) (.sl (h.next + 1) 0 7 (.ex 7)) (.int .i64 (7 : Nat)) (.int .i64 a.1))
    (fun a g => a.1 ≤ 7 ∧ ∃ L, g = h.ext (A :: Z :: L) ∧ ((a.1 = 0 ∧ a.2 = .nilsl) ∨ ∃ j, a.2 = .sl (h.next + (j + 2)) 0 a.1 (.op 1) ∧ j < L.length ∧ L[j]? = some (some (.cells (((sevenT w).take a.1).map (.int .u64)) (.gr 1)))))
    (fun a _ => 7 - a.1) (fun r => ∃ j L, r = (.exit 0, S.word_Unpack_c1_O .dead .dead (.sl (h.next + (j + 2)) 0 7 (.op 1)), h.ext (A :: Z :: L)) ∧ L[j]? = some (some (.cells ((sevenT w).map (.int .u64)) (.gr 1))))
    (0, .nilsl) rfl ⟨Nat.zero_le _, [], rfl, Or.inl ⟨rfl, rfl⟩⟩ ?_ ?_
  · rintro ⟨i, x⟩ g ⟨hi, L, rfl, hx⟩
    simp only at hi hx ⊢
    rw [S.word_Unpack_c1_eq]
    simp only [S.word_Unpack_c1_S]
    by_cases hic : (i : Int) < ((7 : Nat) : Int)
    · have hi7 : i < 7 := by omega
      simp only [decide_eq_true hic]
      obtain ⟨n, hn, n1, n2, n3, n4, n5⟩ := size_at w i hi7
      have hld : (h.ext (A :: Z :: L)).ld1 (.ptr (h.next + 1) i) = some (.int .i64 n) := by
        rw [H.ext_ldk ok]
        simp only [List.getElem?_cons_succ, List.getElem?_cons_zero, Option.join_some, ← hZ, ldB_cells, hn, V.one]
      have e1 : indexAV 1 (.sl (h.next + 1) 0 7 (.ex 7)) (.int .i64 (i : Int)) = some (.ptr (h.next + 1) i) := by
        rw [indexAV_in (by omega) (by omega)]
        simp
      have hfill : ∀ v : Int, fill (repl [V.int .u64 0] 1) [] [(0, 1, .c (.int .u64 v))] = some [.int .u64 v] := fun v => rfl
      have hw1 : wr .i64 ((sumT i : Nat) + (n : Int)) = ((sumT (i + 1) : Nat) : Int) := by rw [wr64 (by omega) (by omega), n4]; omega
      have hw2 : wr .i64 ((i : Int) + 1) = ((i + 1 : Nat) : Int) := by rw [wr64 (by omega) (by omega)]; rfl
      simp only [e1, hld, Option.bind_some, W_call, some_spec ((sumT i : Nat) : Int) (n : Int) (by omega) (by omega) (by omega), asB_bool, Bool.not_true, get_spec hw (sumT i) n n1 n2 n3, hfill, asI_int, hw1, hw2, H.new_ext, H.ext_ext, H.ext_next]
      rcases hx with ⟨rfl, rfl⟩ | ⟨j, rfl, hj, hjL⟩
      · rw [grow_nil (P := A :: Z :: L) (e := 1) (b := 8) (new := [.int .u64 (getT w (sumT 0) n)]) rfl rfl (by decide) (by decide)]
        simp only [Option.bind_some]
        refine Ev.some (Or.inl ⟨(1, .sl (h.next + ((A :: Z :: L).length + 1)) 0 1 (.op 1)), rfl, rfl, ⟨by omega, L ++ [some (.cells [.int .u64 (getT w (sumT 0) n)] .rw)] ++ [some (.cells [.int .u64 (getT w (sumT 0) n)] (.gr 1))], rfl, Or.inr ⟨L.length + 1, ?_, ?_, ?_⟩⟩, by omega⟩)
        · simp only [List.length_cons]
        · simp
        · rw [List.getElem?_append_right (by simp)]
          simp [n5]
      · rw [grow_op (P := A :: Z :: L) (e := 1) (b := 8) (j := j + 2) (i := i) (cs := ((sevenT w).take i).map (.int .u64)) (new := [.int .u64 (getT w (sumT i) n)]) (by simpa using hjL) ?_ rfl rfl (by decide) (by decide) (by omega)]
        · simp only [Option.bind_some]
          refine Ev.some (Or.inl ⟨(i + 1, .sl (h.next + ((A :: Z :: L).length + 1)) 0 (i + 1) (.op 1)), rfl, rfl, ⟨hi7, (L ++ [some (Blk.cells [.int .u64 (getT w (sumT i) n)] .rw)]).set j none ++ [some (.cells (((sevenT w).take i).map (.int .u64) ++ [.int .u64 (getT w (sumT i) n)]) (.gr 1))], ?_, Or.inr ⟨L.length + 1, ?_, ?_, ?_⟩⟩, by omega⟩)
          · simp only [List.cons_append, List.set_cons_succ]
          · simp only [List.length_cons]
          · simp
          · rw [List.getElem?_append_right (by simp)]
            simp [n5]
        · rw [List.length_map, List.length_take]
          have : (sevenT w).length = 7 := rfl
          omega
    · simp only [decide_eq_false hic]
      have h7 : i = 7 := by omega
      subst h7
      rcases hx with ⟨h1, _⟩ | ⟨j, rfl, hj, hjL⟩
      · cases h1
      · exact Ev.some (Or.inr ⟨by simp, j, L, rfl, hjL⟩)
  · rintro r ⟨j, L, rfl, hL⟩
    simp only
    rw [S.word_Unpack_c1_e0_eq]
    exact Ev.some ⟨j, L, rfl, hL⟩

def hdrT (w : Int) : List V := [.int .i64 (getT w 0 3), .int .i64 (getT w 3 1), .bool (decide (getT w 4 1 = 1)), .int .i64 (getT w 5 4), .int .i64 (getT w 16 32), .int .i64 (getT w 48 16)]
def hdr0 : List V := [.int .i64 0, .int .i64 0, .bool false, .int .i64 0, .int .i64 0, .int .i64 0]
/-- Is it a header's word? -/
def okT (w : Int) : Bool := decide (getT w 0 3 ≤ 4) && decide (getT w 9 7 = 0)

theorem getT_small (w : Int) (a n : Nat) (hn : n ≤ 62) : 0 ≤ getT w a n ∧ getT w a n ≤ 4611686018427387904 := by
  have h2 : (0 : Int) < 2 ^ n := Int.pow_pos (by omega)
  have h3 : ((2 ^ n : Nat) : Int) = (2 ^ n : Int) := by simp
  have h4 : 2 ^ n ≤ 2 ^ 62 := Nat.pow_le_pow_right (by omega) hn
  refine ⟨Int.emod_nonneg _ (by omega), ?_⟩
  have := Int.emod_lt_of_pos (w / (2 ^ a : Int)) h2
  unfold getT
  omega

theorem headUnpack_spec {w : Int} (hw : U64 w) (h : H) : C 265 [.int .u64 w] h = some (.tup [.agg (match okT w with | true => hdrT w | false => hdr0), .bool (okT w)], h) := by
  refine call_closed (af := F.head_Unpack) (by kernel_rfl) rfl (by rfl) (by cases okT w <;> rfl) h ?_
  rw [S.head_Unpack_eq]
  have ok := H.ok_empty
  obtain ⟨r, e, j, L, rfl, hL⟩ := unpack_loop hw ok (some (.cells [.int .i64 0, .int .i64 0, .bool false, .int .i64 0, .int .i64 0, .int .i64 0] .rw))
  have hld : ∀ i v, (sevenT w)[i]? = some v → (H.empty.ext (some (.cells [.int .i64 0, .int .i64 0, .bool false, .int .i64 0, .int .i64 0, .int .i64 0] .rw) :: some (.cells [.int .i64 3, .int .i64 1, .int .i64 1, .int .i64 4, .int .i64 7, .int .i64 32, .int .i64 16] .rw) :: L)).ld1 (.ptr (H.empty.next + (j + 2)) i) = some (.int .u64 v) := by
    intro i v hv
    rw [H.ext_ldk ok]
    simp only [List.getElem?_cons_succ, hL, Option.join_some, ldB_cells, List.getElem?_map, hv, Option.map_some, V.one]
  have x0 : indexAV 1 (.sl (H.empty.next + (j + 2)) 0 7 (.op 1)) (.int .i64 0) = some (.ptr (H.empty.next + (j + 2)) 0) := rfl
  have d0 := hld 0 (getT w 0 3) rfl
  have x1 : indexAV 1 (.sl (H.empty.next + (j + 2)) 0 7 (.op 1)) (.int .i64 1) = some (.ptr (H.empty.next + (j + 2)) 1) := rfl
  have d1 := hld 1 (getT w 3 1) rfl
  have x2 : indexAV 1 (.sl (H.empty.next + (j + 2)) 0 7 (.op 1)) (.int .i64 2) = some (.ptr (H.empty.next + (j + 2)) 2) := rfl
  have d2 := hld 2 (getT w 4 1) rfl
  have x3 : indexAV 1 (.sl (H.empty.next + (j + 2)) 0 7 (.op 1)) (.int .i64 3) = some (.ptr (H.empty.next + (j + 2)) 3) := rfl
  have d3 := hld 3 (getT w 5 4) rfl
  have x4 : indexAV 1 (.sl (H.empty.next + (j + 2)) 0 7 (.op 1)) (.int .i64 4) = some (.ptr (H.empty.next + (j + 2)) 4) := rfl
  have d4 := hld 4 (getT w 9 7) rfl
  have x5 : indexAV 1 (.sl (H.empty.next + (j + 2)) 0 7 (.op 1)) (.int .i64 5) = some (.ptr (H.empty.next + (j + 2)) 5) := rfl
  have d5 := hld 5 (getT w 16 32) rfl
  have x6 : indexAV 1 (.sl (H.empty.next + (j + 2)) 0 7 (.op 1)) (.int .i64 6) = some (.ptr (H.empty.next + (j + 2)) 6) := rfl
  have d6 := hld 6 (getT w 48 16) rfl
  have e7 : ¬ (((7 : Nat) : Int) < 7) := by omega
  have q0 := getT_small w 0 3 (by omega)
  have q1 := getT_small w 3 1 (by omega)
  have q3 := getT_small w 5 4 (by omega)
  have q5 := getT_small w 16 32 (by omega)
  have q6 := getT_small w 48 16 (by omega)
  have w0 := wr64 (n := getT w 0 3) (by omega) (by omega)
  have w1 := wr64 (n := getT w 3 1) (by omega) (by omega)
  have w3 := wr64 (n := getT w 5 4) (by omega) (by omega)
  have w5 := wr64 (n := getT w 16 32) (by omega) (by omega)
  have w6 := wr64 (n := getT w 48 16) (by omega) (by omega)
  have hany : ∀ (k : Go.IntKind) (n : Int), asIAny (.int k n) = some n := fun _ _ => rfl
  clear q0 q1 q3 q5 q6 hld
  by_cases k1 : getT w 0 3 ≤ 4
  · have k1' : ¬ 4 < getT w 0 3 := by clear w0 w1 w3 w5 w6; omega
    by_cases k2 : getT w 9 7 = 0
    · simp only [S.head_Unpack, H.new_ext, H.ext_ext, H.ext_next, H.ext_ldNk_0, H.ext_ldNk, H.ext_ldk_0, H.ext_ldk, H.ext_stk_0, H.ext_stk, ok, ldB_cells, ldNB_cells, stB_cells, V.one, V.cells, List.length_cons, List.length_nil, List.length_append, List.length_singleton, Nat.zero_add, Nat.add_zero, Nat.reduceAdd, Nat.reduceLeDiff, Nat.reduceLT, Nat.reduceMul, Nat.reduceSub, Int.reduceEq, Int.reduceLT, Int.reduceLE, if_true, if_false, or_self, or_false, false_or, or_true, true_or, Nat.zero_lt_one, Nat.lt_add_one, Nat.zero_lt_succ, Nat.add_assoc, decide_true, decide_false, List.getElem?_cons_zero, List.getElem?_cons_succ, List.cons_append, List.nil_append, List.append_assoc, List.drop_zero, List.drop_succ_cons, List.take_succ_cons, List.take_zero, List.set_cons_zero, List.set_cons_succ, splice, List.all_cons, List.all_nil, Bool.and_true, Bool.not_true, Bool.not_false, Bool.or_false, Option.bind_some, Option.map_some, Option.join_some, ckB_some, V.beq, V.beqs, Nat.beq_refl, BEq.rfl, Bool.and_self, fill, repl, opd, boxc, finV, resAllV, resOfV, result, eqV, aggCells, eqOffs, eqCell, asI_int, asB_bool, ptrAt_ptr, reduceCtorEq, W_call, e, lenSl, e7, x0, x1, x2, x3, x4, x5, x6, d0, d1, d2, d3, d4, d5, d6, k1', k2, hany, w0, w1, w3, w5, w6]
      exact Ev.some (by simp [okT, k1, k2, hdrT])
    · simp only [S.head_Unpack, H.new_ext, H.ext_ext, H.ext_next, H.ext_ldNk_0, H.ext_ldNk, H.ext_ldk_0, H.ext_ldk, H.ext_stk_0, H.ext_stk, ok, ldB_cells, ldNB_cells, stB_cells, V.one, V.cells, List.length_cons, List.length_nil, List.length_append, List.length_singleton, Nat.zero_add, Nat.add_zero, Nat.reduceAdd, Nat.reduceLeDiff, Nat.reduceLT, Nat.reduceMul, Nat.reduceSub, Int.reduceEq, Int.reduceLT, Int.reduceLE, if_true, if_false, or_self, or_false, false_or, or_true, true_or, Nat.zero_lt_one, Nat.lt_add_one, Nat.zero_lt_succ, Nat.add_assoc, decide_true, decide_false, List.getElem?_cons_zero, List.getElem?_cons_succ, List.cons_append, List.nil_append, List.append_assoc, List.drop_zero, List.drop_succ_cons, List.take_succ_cons, List.take_zero, List.set_cons_zero, List.set_cons_succ, splice, List.all_cons, List.all_nil, Bool.and_true, Bool.not_true, Bool.not_false, Bool.or_false, Option.bind_some, Option.map_some, Option.join_some, ckB_some, V.beq, V.beqs, Nat.beq_refl, BEq.rfl, Bool.and_self, fill, repl, opd, boxc, finV, resAllV, resOfV, result, eqV, aggCells, eqOffs, eqCell, asI_int, asB_bool, ptrAt_ptr, reduceCtorEq, W_call, e, lenSl, e7, x0, x1, x2, x3, x4, x5, x6, d0, d1, d2, d3, d4, d5, d6, k1', k2, hany, w0, w1, w3, w5, w6]
      exact Ev.some (by simp [okT, k1, k2, hdr0])
  · have k1' : 4 < getT w 0 3 := by clear w0 w1 w3 w5 w6; omega
    simp only [S.head_Unpack, H.new_ext, H.ext_ext, H.ext_next, H.ext_ldNk_0, H.ext_ldNk, H.ext_ldk_0, H.ext_ldk, H.ext_stk_0, H.ext_stk, ok, ldB_cells, ldNB_cells, stB_cells, V.one, V.cells, List.length_cons, List.length_nil, List.length_append, List.length_singleton, Nat.zero_add, Nat.add_zero, Nat.reduceAdd, Nat.reduceLeDiff, Nat.reduceLT, Nat.reduceMul, Nat.reduceSub, Int.reduceEq, Int.reduceLT, Int.reduceLE, if_true, if_false, or_self, or_false, false_or, or_true, true_or, Nat.zero_lt_one, Nat.lt_add_one, Nat.zero_lt_succ, Nat.add_assoc, decide_true, decide_false, List.getElem?_cons_zero, List.getElem?_cons_succ, List.cons_append, List.nil_append, List.append_assoc, List.drop_zero, List.drop_succ_cons, List.take_succ_cons, List.take_zero, List.set_cons_zero, List.set_cons_succ, splice, List.all_cons, List.all_nil, Bool.and_true, Bool.not_true, Bool.not_false, Bool.or_false, Option.bind_some, Option.map_some, Option.join_some, ckB_some, V.beq, V.beqs, Nat.beq_refl, BEq.rfl, Bool.and_self, fill, repl, opd, boxc, finV, resAllV, resOfV, result, eqV, aggCells, eqOffs, eqCell, asI_int, asB_bool, ptrAt_ptr, reduceCtorEq, W_call, e, lenSl, e7, x0, x1, x2, x3, x4, x5, x6, d0, d1, d2, d3, d4, d5, d6, k1', hany, w0, w1, w3, w5, w6]
    exact Ev.some (by simp [okT, k1, hdr0])

theorem tm {a b : Int} (h : 0 ≤ a) : Int.tmod a b = a % b := Int.tmod_eq_emod_of_nonneg h
theorem td {a b : Int} (h : 0 ≤ a) : Int.tdiv a b = a / b := Int.tdiv_eq_ediv_of_nonneg h

theorem refUnpack_spec {w : Int} (hw : U64 w) (h : H) : C 109 [.int .u64 w] h = some (.tup [.agg (match okT w with | true => hdrT w | false => hdr0), .bool (okT w)], h) := by
  refine call_closed (af := F.withyref04_Unpack) (by kernel_rfl) rfl (by rfl) (by cases okT w <;> rfl) h ?_
  rw [S.withyref04_Unpack_eq]
  have ok := H.ok_empty
  obtain ⟨h0, h1⟩ := hw
  have e0 : wr .i64 (Int.tmod w 8) = getT w 0 3 := by rw [tm h0, wr64 (by omega) (by omega)]; simp [getT]
  have e1 : wr .i64 (Int.tmod (wr .u64 (Int.tdiv w 8)) 2) = getT w 3 1 := by rw [td h0, wru64 (by omega) (by omega), tm (by omega), wr64 (by omega) (by omega)]; rfl
  have e2 : Int.tmod (wr .u64 (Int.tdiv w 16)) 2 = getT w 4 1 := by rw [td h0, wru64 (by omega) (by omega), tm (by omega)]; rfl
  have e3 : wr .i64 (Int.tmod (wr .u64 (Int.tdiv w 32)) 16) = getT w 5 4 := by rw [td h0, wru64 (by omega) (by omega), tm (by omega), wr64 (by omega) (by omega)]; rfl
  have e4 : wr .i64 (Int.tmod (wr .u64 (Int.tdiv w 65536)) 4294967296) = getT w 16 32 := by rw [td h0, wru64 (by omega) (by omega), tm (by omega), wr64 (by omega) (by omega)]; rfl
  have e5 : wr .i64 (wr .u64 (Int.tdiv w 281474976710656)) = getT w 48 16 := by
    rw [td h0, wru64 (by omega) (by omega), wr64 (by omega) (by omega)]
    show _ = w / 281474976710656 % 65536
    omega
  have e6 : Int.tmod (wr .u64 (Int.tdiv w 512)) 128 = getT w 9 7 := by rw [td h0, wru64 (by omega) (by omega), tm (by omega)]; rfl
  clear h0 h1
  by_cases k1 : getT w 0 3 ≤ 4
  · have k1' : ¬ 4 < getT w 0 3 := by clear e0 e1 e2 e3 e4 e5 e6; omega
    by_cases k2 : getT w 9 7 = 0
    · simp only [S.withyref04_Unpack, H.new_ext, H.ext_ext, H.ext_next, H.ext_ldNk_0, H.ext_ldNk, H.ext_ldk_0, H.ext_ldk, H.ext_stk_0, H.ext_stk, ok, ldB_cells, ldNB_cells, stB_cells, V.one, V.cells, List.length_cons, List.length_nil, List.length_append, List.length_singleton, Nat.zero_add, Nat.add_zero, Nat.reduceAdd, Nat.reduceLeDiff, Nat.reduceLT, Nat.reduceMul, Nat.reduceSub, Int.reduceEq, Int.reduceLT, Int.reduceLE, if_true, if_false, or_self, or_false, false_or, or_true, true_or, Nat.zero_lt_one, Nat.lt_add_one, Nat.zero_lt_succ, Nat.add_assoc, decide_true, decide_false, List.getElem?_cons_zero, List.getElem?_cons_succ, List.cons_append, List.nil_append, List.append_assoc, List.drop_zero, List.drop_succ_cons, List.take_succ_cons, List.take_zero, List.set_cons_zero, List.set_cons_succ, splice, List.all_cons, List.all_nil, Bool.and_true, Bool.not_true, Bool.not_false, Bool.or_false, Option.bind_some, Option.map_some, Option.join_some, ckB_some, V.beq, V.beqs, Nat.beq_refl, BEq.rfl, Bool.and_self, fill, repl, opd, boxc, finV, resAllV, resOfV, result, eqV, aggCells, eqOffs, eqCell, asI_int, asB_bool, ptrAt_ptr, reduceCtorEq, e0, e1, e2, e3, e4, e5, e6, k1', k2]
      exact Ev.some (by simp [okT, k1, k2, hdrT])
    · simp only [S.withyref04_Unpack, H.new_ext, H.ext_ext, H.ext_next, H.ext_ldNk_0, H.ext_ldNk, H.ext_ldk_0, H.ext_ldk, H.ext_stk_0, H.ext_stk, ok, ldB_cells, ldNB_cells, stB_cells, V.one, V.cells, List.length_cons, List.length_nil, List.length_append, List.length_singleton, Nat.zero_add, Nat.add_zero, Nat.reduceAdd, Nat.reduceLeDiff, Nat.reduceLT, Nat.reduceMul, Nat.reduceSub, Int.reduceEq, Int.reduceLT, Int.reduceLE, if_true, if_false, or_self, or_false, false_or, or_true, true_or, Nat.zero_lt_one, Nat.lt_add_one, Nat.zero_lt_succ, Nat.add_assoc, decide_true, decide_false, List.getElem?_cons_zero, List.getElem?_cons_succ, List.cons_append, List.nil_append, List.append_assoc, List.drop_zero, List.drop_succ_cons, List.take_succ_cons, List.take_zero, List.set_cons_zero, List.set_cons_succ, splice, List.all_cons, List.all_nil, Bool.and_true, Bool.not_true, Bool.not_false, Bool.or_false, Option.bind_some, Option.map_some, Option.join_some, ckB_some, V.beq, V.beqs, Nat.beq_refl, BEq.rfl, Bool.and_self, fill, repl, opd, boxc, finV, resAllV, resOfV, result, eqV, aggCells, eqOffs, eqCell, asI_int, asB_bool, ptrAt_ptr, reduceCtorEq, e0, e1, e2, e3, e4, e5, e6, k1', k2]
      exact Ev.some (by simp [okT, k1, k2, hdr0])
  · have k1' : 4 < getT w 0 3 := by clear e0 e1 e2 e3 e4 e5 e6; omega
    simp only [S.withyref04_Unpack, H.new_ext, H.ext_ext, H.ext_next, H.ext_ldNk_0, H.ext_ldNk, H.ext_ldk_0, H.ext_ldk, H.ext_stk_0, H.ext_stk, ok, ldB_cells, ldNB_cells, stB_cells, V.one, V.cells, List.length_cons, List.length_nil, List.length_append, List.length_singleton, Nat.zero_add, Nat.add_zero, Nat.reduceAdd, Nat.reduceLeDiff, Nat.reduceLT, Nat.reduceMul, Nat.reduceSub, Int.reduceEq, Int.reduceLT, Int.reduceLE, if_true, if_false, or_self, or_false, false_or, or_true, true_or, Nat.zero_lt_one, Nat.lt_add_one, Nat.zero_lt_succ, Nat.add_assoc, decide_true, decide_false, List.getElem?_cons_zero, List.getElem?_cons_succ, List.cons_append, List.nil_append, List.append_assoc, List.drop_zero, List.drop_succ_cons, List.take_succ_cons, List.take_zero, List.set_cons_zero, List.set_cons_succ, splice, List.all_cons, List.all_nil, Bool.and_true, Bool.not_true, Bool.not_false, Bool.or_false, Option.bind_some, Option.map_some, Option.join_some, ckB_some, V.beq, V.beqs, Nat.beq_refl, BEq.rfl, Bool.and_self, fill, repl, opd, boxc, finV, resAllV, resOfV, result, eqV, aggCells, eqOffs, eqCell, asI_int, asB_bool, ptrAt_ptr, reduceCtorEq, e0, e1, e2, e3, e4, e5, e6, k1']
    exact Ev.some (by simp [okT, k1, hdr0])
end Wm
end

section
/- Frames: what of a heap stays; known blocks are read and written. -/
namespace Wm

theorem bind_congr1 {α β : Type} {x y : Option α} {f : α → Option β} (h : x = y) : x.bind f = y.bind f := by rw [h]

/-- Blocks of 'h' outside of 'L' are as they were; more may have come. -/
structure Fr (L : List Nat) (h h' : H) : Prop where
  le : h.next ≤ h'.next
  ok : h'.ok
  same : ∀ b, b < h.next → b ∉ L → h'.get b = h.get b

theorem Fr.refl {L : List Nat} {h : H} (ok : h.ok) : Fr L h h := ⟨Nat.le_refl _, ok, fun _ _ _ => rfl⟩
theorem Fr.new {L : List Nat} {h h' : H} (f : Fr L h h') (x : Blk) : Fr L h (h'.new x) :=
  ⟨by have := f.le; simp only [H.next_new]; omega, f.ok.new x, fun b hb hL => by rw [get_new_ne (by have := f.le; omega)]; exact f.same b hb hL⟩
theorem Fr.put {L : List Nat} {h h' : H} (f : Fr L h h') {b : Nat} (hb : b ∈ L ∨ h.next ≤ b) (hl : b < h'.next) (x : Option Blk) : Fr L h (h'.put b x) :=
  ⟨f.le, f.ok.put hl x, fun c hc hL => by
    rw [get_put_ne (by rintro rfl; rcases hb with q | q; exact hL q; omega)]; exact f.same c hc hL⟩
theorem Fr.trans {L L' : List Nat} {h h1 h2 : H} (f : Fr L h h1) (g : Fr L' h1 h2) (hL : ∀ b ∈ L', b ∈ L ∨ h.next ≤ b) : Fr L h h2 :=
  ⟨Nat.le_trans f.le g.le, g.ok, fun b hb hn => by
    rw [g.same b (by have := f.le; omega) (fun q => by rcases hL b q with q | q; exact hn q; omega)]; exact f.same b hb hn⟩
theorem Fr.trans' {L : List Nat} {h h1 h2 : H} (f : Fr L h h1) (g : Fr L h1 h2) : Fr L h h2 := f.trans g fun _ q => .inl q
theorem Fr.mono {L L' : List Nat} {h h1 : H} (f : Fr L h h1) (hL : ∀ b ∈ L, b ∈ L' ∨ h.next ≤ b) : Fr L' h h1 :=
  ⟨f.le, f.ok, fun b hb hn => f.same b hb fun q => by rcases hL b q with q | q; exact hn q; omega⟩
theorem Fr.get {L : List Nat} {h h' : H} (f : Fr L h h') (ok : h.ok) {b : Nat} {x : Blk} (hb : h.get b = some x) (hL : b ∉ L) : h'.get b = some x := by
  rw [f.same b (ok.lt hb) hL]; exact hb
theorem Fr.old {L : List Nat} {h h' : H} (o : Old h h') (ok : h'.ok) : Fr L h h' := ⟨o.1, ok, fun b hb _ => o.2 b hb⟩
theorem Fr.lt {L : List Nat} {h h' : H} (f : Fr L h h') {b : Nat} (hb : b < h.next) : b < h'.next := Nat.lt_of_lt_of_le hb f.le

/-! ### Reads and writes of blocks that are known -/
section
variable {h : H} {n b o : Nat}
theorem ld1_get' : h.ld1 (.ptr b o) = ldB (h.get b) o := H.ld1_eq
theorem ldN_get' : h.ldN (n + 1) (.ptr b o) = ldNB (h.get b) o (n + 1) := H.ldN_eq (Nat.succ_ne_zero n)
theorem st_get' {x : V} : h.st n (.ptr b o) x = match Nat.beq x.cells.length n with
    | true => (stB (h.get b) o x.cells).map fun y => h.put b (some y)
    | false => none := by
  simp only [H.st]
  split
  · rename_i hb; simp only [hb, H.stc_eq]
  · rename_i hb; simp only [hb]
theorem get_put' {x : Option Blk} {c : Nat} : (h.put b x).get c = if c = b then x else h.get c := H.get_put _ _ _ _
theorem get_new' {x : Blk} {c : Nat} : (h.new x).get c = if c = h.next then some x else h.get c := H.get_new _ _ _
theorem put_put' {x y : Option Blk} : (h.put b x).put b y = h.put b y := by
  simp only [H.put, T.put, T.put'_put' _ _ _ _ _ _ (Nat.lt_succ_self _) (Nat.lt_succ_self _)]
end
theorem lenSl_sl (b o n : Nat) (c : Cap) : lenSl (.sl b o n c) = some n := rfl
theorem lenSl_nil : lenSl .nilsl = some 0 := rfl
theorem nilc_ptr (b o : Nat) : nilc (.ptr b o) = some (.ptr b o) := rfl
theorem eqPtr_ptr (b o : Nat) : eqPtr (.ptr b o) .nilp = some false := rfl
theorem eqPtr_nil : eqPtr .nilp .nilp = some true := rfl
theorem eqPtr_ptr' (b o : Nat) : eqPtr .nilp (.ptr b o) = some false := rfl
theorem eqSl_sl (b o n : Nat) (c : Cap) : eqSl (.sl b o n c) .nilsl = some false := rfl
theorem eqSl_nil : eqSl .nilsl .nilsl = some true := rfl
theorem H.ok.ne {h : H} (ok : h.ok) {b : Nat} {x : Blk} (hb : h.get b = some x) (k : Nat) : b ≠ h.next + k := by have := ok.lt hb; omega
theorem H.ok.ne0 {h : H} (ok : h.ok) {b : Nat} {x : Blk} (hb : h.get b = some x) : b ≠ h.next := by have := ok.lt hb; omega

/-! ### Configs -/
structure Cfg where
  s : Int
  a : Int
  c : Int
  hd : Int
  g : Int
  st : Int
def Cfg.cs (k : Cfg) : List V := [.int .i64 k.s, .int .i64 k.a, .int .i64 k.c, .int .i64 k.hd, .int .i64 k.g, .int .i64 k.st]
def Cfg.v (k : Cfg) : V := cfgV k.s k.a k.c k.hd k.g k.st
def Cfg.R (k : Cfg) : Bool := cfgR k.s k.a k.c k.hd k.g k.st

/-! ### Words of a memory -/
structure Touch where
  kind : Int
  at' : Int
  was : Int
  now : Int
structure Mem where
  ws : List Int
  n : Int
  last : Touch

def Mem.there (m : Mem) (k : Int) : Bool := decide (0 ≤ k) && decide (k < m.ws.length)
def Mem.w (m : Mem) (k : Int) : Int := m.ws.getD k.toNat 0
def Mem.touch (m : Mem) (kind k now : Int) : Mem := ⟨m.ws.set k.toNat now, wr .i64 (m.n + 1), ⟨kind, k, m.w k, now⟩⟩
def Mem.load (m : Mem) (k : Int) : Mem := if m.there k then m.touch 1 k (m.w k) else m
def Mem.val (m : Mem) (k : Int) : Int := if m.there k then m.w k else 0
def Mem.store (m : Mem) (k v : Int) : Mem := if m.there k then m.touch 2 k v else m
def Mem.swap (m : Mem) (k old now : Int) : Mem := if m.there k then m.touch 3 k (if m.w k = old then now else m.w k) else m
def Mem.swaps (m : Mem) (k old : Int) : Bool := m.there k && decide (m.w k = old)
def Mem.add (m : Mem) (k v : Int) : Mem := if m.there k then m.touch 4 k (wr .u64 (m.w k + v)) else m

/-- A memory stands in these two blocks. -/
structure MemAt (h : H) (b bw : Nat) (m : Mem) : Prop where
  ne : b ≠ bw
  own : ∃ c, h.get b = some (.cells [.sl bw 0 m.ws.length c, .int .i64 m.n, .int .i64 m.last.kind, .int .i64 m.last.at', .int .u64 m.last.was, .int .u64 m.last.now] .rw)
  row : ∃ k, k ≠ Bk.ro ∧ h.get bw = some (.cells (m.ws.map (.int .u64)) k)
  u64 : ∀ w ∈ m.ws, U64 w
  small : m.ws.length ≤ 65536

theorem MemAt.fr {h h' : H} {L : List Nat} {b bw : Nat} {m : Mem} (M : MemAt h b bw m) (ok : h.ok) (f : Fr L h h') (h1 : b ∉ L) (h2 : bw ∉ L) : MemAt h' b bw m := by
  obtain ⟨ne, ⟨c, ho⟩, ⟨k, hk, hr⟩, hu, hs⟩ := M
  exact ⟨ne, ⟨c, f.get ok ho h1⟩, ⟨k, hk, f.get ok hr h2⟩, hu, hs⟩
theorem MemAt.w64 {h : H} {b bw : Nat} {m : Mem} (M : MemAt h b bw m) (k : Int) : U64 (m.w k) := by
  unfold Mem.w
  rw [List.getD_eq_getElem?_getD]
  cases hk : m.ws[k.toNat]? with
  | none => exact ⟨by decide, by decide⟩
  | some w => exact M.u64 w (List.mem_of_getElem? hk)
theorem MemAt.val64 {h : H} {b bw : Nat} {m : Mem} (M : MemAt h b bw m) (k : Int) : U64 (m.val k) := by
  unfold Mem.val
  split
  · exact M.w64 k
  · exact ⟨by decide, by decide⟩
end Wm
end

section
/- A slice that grows among blocks that came: what it holds. -/
namespace Wm

/-- The slice holds these cells; its block is one of those behind the first. -/
def Acc (h : H) (L : List (Option Blk)) (x : V) (e n : Nat) (l : List V) : Prop :=
  l.length = n * e ∧ l.all V.one = true ∧ ∃ j, (x = .sl (h.next + (j + 1)) 0 n (.op e) ∧ L[j]? = some (some (.cells l (.gr e)))) ∨ (x = .sl (h.next + (j + 1)) 0 n (.ex n) ∧ L[j]? = some (some (.cells l .rw)))

theorem lt_of_get {α : Type} {l : List α} {j : Nat} {x : α} (h : l[j]? = some x) : j < l.length := by
  rcases Nat.lt_or_ge j l.length with q | q
  · exact q
  · rw [List.getElem?_eq_none q] at h; cases h

theorem append_ex' {h : H} {e b bb o len n c : Nat} {x : V} {new old : List V} (hx : lenSl x = some n) (hn : h.slc e x = some new) (ho : h.slc e (.sl bb o len (.ex c)) = some old) (h1 : new.all V.one = true) (h2 : (len + n + (len + n) / 2 + 1000) * b ≤ 281474976710656) (he : 0 < e) (hb : 0 < b) (hc : ¬ len + n ≤ c) :
    h.append e b (.sl bb o len (.ex c)) x = some (.sl h.next 0 (len + n) (.op e), h.new (.cells (old ++ new) (.gr e))) := by
  have h3 : lenSl (.sl bb o len (.ex c)) = some len := rfl
  simp only [H.append, hx, hn, h3, ho, h1, h2, he, hb, decide_true, Bool.and_self, hc, decide_false]

theorem Acc.grow {h : H} {F : Option Blk} {L : List (Option Blk)} {x : V} {e n m b : Nat} {l new : List V} (hA : Acc h L x e n l) (hn : new.length = m * e) (h1 : new.all V.one = true) (hm : 0 < m) (he : 0 < e) (hb : 0 < b) (hs : (n + m + (n + m) / 2 + 1000) * b ≤ 281474976710656) :
    ∃ x' L', (h.ext (F :: (L ++ [some (.cells new .rw)]))).append e b x (.sl (h.next + (L.length + 1)) 0 m (.ex m)) = some (x', h.ext (F :: L')) ∧ Acc h L' x' e (n + m) (l ++ new) := by
  obtain ⟨hl, ho, j, hj⟩ := hA
  have hlen : (l ++ new).length = (n + m) * e := by rw [List.length_append, hl, hn, Nat.add_mul]
  have hone : (l ++ new).all V.one = true := by rw [List.all_append, ho, h1]; rfl
  have e1 : (F :: (L ++ [some (Blk.cells new .rw)])).length = L.length + 2 := by rw [List.length_cons, List.length_append]; rfl
  have hnew : (h.ext (F :: (L ++ [some (.cells new .rw)]))).slc e (.sl (h.next + (L.length + 1)) 0 m (.ex m)) = some new := by
    rw [slc_get (cs := new) (k := .rw) ?_ (by omega)]
    · rw [List.drop_zero, List.take_of_length_le (by omega)]
    · rw [H.ext_get (by rw [e1]; omega), List.getElem?_cons_succ, List.getElem?_append_right (Nat.le_refl _), Nat.sub_self]; rfl
  rcases hj with ⟨rfl, hjL⟩ | ⟨rfl, hjL⟩
  · have hlt := lt_of_get hjL
    have hbk : (h.ext (F :: (L ++ [some (.cells new .rw)]))).get (h.next + (j + 1)) = some (.cells l (.gr e)) := by
      rw [H.ext_get (by rw [e1]; omega), List.getElem?_cons_succ, List.getElem?_append_left hlt, hjL]; rfl
    have hold : (h.ext (F :: (L ++ [some (.cells new .rw)]))).slc e (.sl (h.next + (j + 1)) 0 n (.op e)) = some l := by
      rw [slc_get hbk (by omega), List.drop_zero, List.take_of_length_le (by omega)]
    refine ⟨.sl (h.next + (L.length + 2)) 0 (n + m) (.op e), (L ++ [some (Blk.cells new .rw)]).set j none ++ [some (Blk.cells (l ++ new) (.gr e))], ?_, hlen, hone, L.length + 1, Or.inl ⟨rfl, ?_⟩⟩
    · rw [append_op (n := m) rfl hnew hold hbk h1 hs he hb, H.ext_put (by rw [e1]; omega), H.new_ext, H.ext_ext, H.ext_next, e1]
      rfl
    · rw [List.getElem?_append_right (by rw [List.length_set, List.length_append]; exact Nat.le_refl _), List.length_set, List.length_append]
      simp only [List.length_singleton, Nat.sub_self, List.getElem?_cons_zero]
  · have hlt := lt_of_get hjL
    have hbk : (h.ext (F :: (L ++ [some (.cells new .rw)]))).get (h.next + (j + 1)) = some (.cells l .rw) := by
      rw [H.ext_get (by rw [e1]; omega), List.getElem?_cons_succ, List.getElem?_append_left hlt, hjL]; rfl
    have hold : (h.ext (F :: (L ++ [some (.cells new .rw)]))).slc e (.sl (h.next + (j + 1)) 0 n (.ex n)) = some l := by
      rw [slc_get hbk (by omega), List.drop_zero, List.take_of_length_le (by omega)]
    refine ⟨.sl (h.next + (L.length + 2)) 0 (n + m) (.op e), L ++ [some (Blk.cells new .rw)] ++ [some (Blk.cells (l ++ new) (.gr e))], ?_, hlen, hone, L.length + 1, Or.inl ⟨rfl, ?_⟩⟩
    · rw [append_ex' (n := m) rfl hnew hold h1 hs he hb (by omega), H.new_ext, H.ext_ext, H.ext_next, e1]
      rfl
    · rw [List.getElem?_append_right (by rw [List.length_append]; exact Nat.le_refl _), List.length_append]
      simp only [List.length_singleton, Nat.sub_self, List.getElem?_cons_zero]
end Wm
end

section
/- All words of a config, in their order: withyref06.Words. -/
namespace Wm

/-- A loop that counts, and appends so many elements each time. -/
theorem acc_loop {h : H} {F : Option Blk} {e N m id : Nat} {B : List V → H → Option (AX × List V × H)} (enc : V → Nat → List V) (O : V → List V) (new : Nat → List V)
    (hstep : ∀ i x L n l, i < N → n + m ≤ 100000 → Acc h L x e n l → ∃ x' L', B (enc x i) (h.ext (F :: L)) = some (.normal, enc x' (i + 1), h.ext (F :: L')) ∧ Acc h L' x' e (n + m) (l ++ new i))
    (hout : ∀ x L, B (enc x N) (h.ext (F :: L)) = some (.exit id, O x, h.ext (F :: L))) :
    ∀ (k i : Nat) (x : V) (L : List (Option Blk)) (n : Nat) (l : List V), i + k = N → n + k * m ≤ 100000 → Acc h L x e n l → ∃ x' L', loopW B (enc x i) (h.ext (F :: L)) = some (.exit id, O x', h.ext (F :: L')) ∧ Acc h L' x' e (n + k * m) (l ++ (List.range' i k).flatMap new)
  | 0, i, x, L, n, l, hi, _, hA => by
    have : i = N := by omega
    subst this
    exact ⟨x, L, loopW_out (hout x L) (by simp), by simpa using hA⟩
  | k + 1, i, x, L, n, l, hi, hn, hA => by
    rw [Nat.add_mul] at hn
    obtain ⟨x1, L1, h1, hA1⟩ := hstep i x L n l (by omega) (by omega) hA
    obtain ⟨x2, L2, h2, hA2⟩ := acc_loop enc O new hstep hout k (i + 1) x1 L1 (n + m) (l ++ new i) (by omega) (by omega) hA1
    refine ⟨x2, L2, loopW_next h1 h2, ?_⟩
    rw [show n + (k + 1) * m = n + m + k * m by rw [Nat.add_mul]; omega, List.range'_succ, List.flatMap_cons, ← List.append_assoc]
    exact hA2

/-- A word's description. -/
def pinW (k : Nat) : List V := [.str ⟨⟨[112, 105, 110]⟩⟩, .int .i64 k, .int .i64 0]
def entryW (k i : Nat) : List V := [.str ⟨⟨[101, 110, 116, 114, 121]⟩⟩, .int .i64 k, .int .i64 i]
def viewW (k : Nat) : List V := [.str ⟨⟨[118, 105, 101, 119]⟩⟩, .int .i64 k, .int .i64 0, .str ⟨⟨[115, 116, 97, 114, 116]⟩⟩, .int .i64 k, .int .i64 0]
def headW (k : Nat) : List V := [.str ⟨⟨[104, 101, 97, 100, 101, 114]⟩⟩, .int .i64 k, .int .i64 0, .str ⟨⟨[108, 105, 110, 107]⟩⟩, .int .i64 k, .int .i64 0]
def bodyW (k i : Nat) : List V := [.str ⟨⟨[98, 111, 100, 121]⟩⟩, .int .i64 k, .int .i64 i]
def oneW : List V := [.str ⟨⟨[99, 108, 111, 99, 107]⟩⟩, .int .i64 0, .int .i64 0, .str ⟨⟨[101, 112, 111, 99, 104]⟩⟩, .int .i64 0, .int .i64 0, .str ⟨⟨[103, 114, 97, 121, 115]⟩⟩, .int .i64 0, .int .i64 0, .str ⟨⟨[116, 111, 112]⟩⟩, .int .i64 0, .int .i64 0]
def slotW (room k : Nat) : List V := headW k ++ (List.range room).flatMap (bodyW k)
def wordsW (S room c hd : Nat) : List V :=
  oneW ++ (List.range c).flatMap pinW ++ (List.range c).flatMap (fun k => (List.range hd).flatMap (entryW k)) ++ (List.range c).flatMap viewW ++ (List.range S).flatMap (slotW room)
def sizeW (S room c hd : Nat) : Nat := 4 + c * 1 + c * hd + c * 2 + S * (2 + room)

theorem refRoom_spec (s a c hd g st : Int) (h : H) : C 149 [cfgV s a c hd g st] h = some (.int .i64 (if a < 3 then 3 else a), h) := by
  refine call_closed (af := F.withyref06_Room) (by kernel_rfl) rfl (by rfl) (by rfl) h ?_
  have ok := H.ok_empty
  unfold cfgV
  rw [S.withyref06_Room_eq]
  simp only [S.withyref06_Room, H.new_ext, H.ext_ext, H.ext_next, H.ext_ldNk_0, H.ext_ldNk, H.ext_ldk_0, H.ext_ldk, H.ext_stk_0, H.ext_stk, ok, ldB_cells, ldNB_cells, stB_cells, V.one, V.cells, List.length_cons, List.length_nil, List.length_append, List.length_singleton, Nat.zero_add, Nat.add_zero, Nat.reduceAdd, Nat.reduceLeDiff, Nat.reduceLT, Nat.reduceMul, Nat.reduceSub, Int.reduceEq, Int.reduceLT, Int.reduceLE, if_true, if_false, or_self, or_false, false_or, or_true, true_or, Nat.zero_lt_one, Nat.lt_add_one, Nat.zero_lt_succ, Nat.add_assoc, decide_true, decide_false, List.getElem?_cons_zero, List.getElem?_cons_succ, List.cons_append, List.nil_append, List.append_assoc, List.drop_zero, List.drop_succ_cons, List.take_succ_cons, List.take_zero, List.set_cons_zero, List.set_cons_succ, splice, List.all_cons, List.all_nil, Bool.and_true, Bool.not_true, Bool.not_false, Bool.or_false, Option.bind_some, Option.map_some, Option.join_some, ckB_some, V.beq, V.beqs, Nat.beq_refl, BEq.rfl, Bool.and_self, fill, repl, opd, boxc, finV, resAllV, resOfV, result, eqV, aggCells, eqOffs, eqCell, asI_int, asB_bool, ptrAt_ptr, reduceCtorEq]
  by_cases h0 : a < 3
  · simp only [h0, H.new_ext, H.ext_ext, H.ext_next, H.ext_ldNk_0, H.ext_ldNk, H.ext_ldk_0, H.ext_ldk, H.ext_stk_0, H.ext_stk, ok, ldB_cells, ldNB_cells, stB_cells, V.one, V.cells, List.length_cons, List.length_nil, List.length_append, List.length_singleton, Nat.zero_add, Nat.add_zero, Nat.reduceAdd, Nat.reduceLeDiff, Nat.reduceLT, Nat.reduceMul, Nat.reduceSub, Int.reduceEq, Int.reduceLT, Int.reduceLE, if_true, if_false, or_self, or_false, false_or, or_true, true_or, Nat.zero_lt_one, Nat.lt_add_one, Nat.zero_lt_succ, Nat.add_assoc, decide_true, decide_false, List.getElem?_cons_zero, List.getElem?_cons_succ, List.cons_append, List.nil_append, List.append_assoc, List.drop_zero, List.drop_succ_cons, List.take_succ_cons, List.take_zero, List.set_cons_zero, List.set_cons_succ, splice, List.all_cons, List.all_nil, Bool.and_true, Bool.not_true, Bool.not_false, Bool.or_false, Option.bind_some, Option.map_some, Option.join_some, ckB_some, V.beq, V.beqs, Nat.beq_refl, BEq.rfl, Bool.and_self, fill, repl, opd, boxc, finV, resAllV, resOfV, result, eqV, aggCells, eqOffs, eqCell, asI_int, asB_bool, ptrAt_ptr, reduceCtorEq]; exact Ev.some rfl
  · simp only [h0, H.new_ext, H.ext_ext, H.ext_next, H.ext_ldNk_0, H.ext_ldNk, H.ext_ldk_0, H.ext_ldk, H.ext_stk_0, H.ext_stk, ok, ldB_cells, ldNB_cells, stB_cells, V.one, V.cells, List.length_cons, List.length_nil, List.length_append, List.length_singleton, Nat.zero_add, Nat.add_zero, Nat.reduceAdd, Nat.reduceLeDiff, Nat.reduceLT, Nat.reduceMul, Nat.reduceSub, Int.reduceEq, Int.reduceLT, Int.reduceLE, if_true, if_false, or_self, or_false, false_or, or_true, true_or, Nat.zero_lt_one, Nat.lt_add_one, Nat.zero_lt_succ, Nat.add_assoc, decide_true, decide_false, List.getElem?_cons_zero, List.getElem?_cons_succ, List.cons_append, List.nil_append, List.append_assoc, List.drop_zero, List.drop_succ_cons, List.take_succ_cons, List.take_zero, List.set_cons_zero, List.set_cons_succ, splice, List.all_cons, List.all_nil, Bool.and_true, Bool.not_true, Bool.not_false, Bool.or_false, Option.bind_some, Option.map_some, Option.join_some, ckB_some, V.beq, V.beqs, Nat.beq_refl, BEq.rfl, Bool.and_self, fill, repl, opd, boxc, finV, resAllV, resOfV, result, eqV, aggCells, eqOffs, eqCell, asI_int, asB_bool, ptrAt_ptr, reduceCtorEq]; exact Ev.some rfl

section
variable {h : H} (ok : h.ok) (s a g st : Int) (c hd : Nat) (hc : c ≤ 8) (hhd : hd ≤ 16)
include ok hc hhd

omit hc hhd in
theorem ldF {L : List (Option Blk)} {cs : List V} {k : Nat} {v : V} (hv : cs[k]? = some v) (h1 : v.one = true) : (h.ext (some (.cells cs .rw) :: L)).ld1 (.ptr h.next k) = some v := by
  rw [H.ext_ldk_0 ok]
  simp only [List.getElem?_cons_zero, Option.join_some, ldB_cells, hv, h1]


theorem pins_loop : ∀ (k i : Nat) (x : V) (L : List (Option Blk)) (n : Nat) (l : List V), i + k = c → n + k * 1 ≤ 100000 → Acc h L x 3 n l → ∃ x' L', loopW (S.withyref06_Words_c1_B W) (S.withyref06_Words_c1_E (.ptr h.next 0) x (.int .i64 (i : Nat))) (h.ext ((some (.cells [.int .i64 s, .int .i64 a, .int .i64 c, .int .i64 hd, .int .i64 g, .int .i64 st] .rw)) :: L)) = some (.exit 0, S.withyref06_Words_c1_O (.ptr h.next 0) x', h.ext ((some (.cells [.int .i64 s, .int .i64 a, .int .i64 c, .int .i64 hd, .int .i64 g, .int .i64 st] .rw)) :: L')) ∧ Acc h L' x' 3 (n + k * 1) (l ++ (List.range' i k).flatMap pinW) := by
  refine acc_loop (fun x i => S.withyref06_Words_c1_E (.ptr h.next 0) x (.int .i64 (i : Nat))) (fun x => S.withyref06_Words_c1_O (.ptr h.next 0) x) pinW (fun i x L n l hi hn hA => ?_) (fun x L => ?_)
  · rw [S.withyref06_Words_c1_eq]
    have hf := ldF ok (L := L) (cs := [.int .i64 s, .int .i64 a, .int .i64 c, .int .i64 hd, .int .i64 g, .int .i64 st]) (k := 2) rfl rfl
    obtain ⟨x', L', h1, hA'⟩ := hA.grow (F := (some (.cells [.int .i64 s, .int .i64 a, .int .i64 c, .int .i64 hd, .int .i64 g, .int .i64 st] .rw))) (b := 32) (m := 1) (new := pinW i) rfl rfl (by omega) (by omega) (by omega) (by omega)
    have hw : wr .i64 ((i : Int) + 1) = ((i + 1 : Nat) : Int) := by rw [wr64 (by omega) (by omega)]; rfl
    refine ⟨x', L', ?_, hA'⟩
    simp only [S.withyref06_Words_c1_S, ptrAt_ptr, Nat.zero_add, hf, Option.bind_some, asI_int, show (i : Int) < ((c : Nat) : Int) by omega, decide_true, H.new_ext, H.ext_ext, H.ext_next, List.cons_append, List.length_cons]
    simp only [pinW] at h1
    rw [h1]
    simp only [Option.bind_some, hw]
  · rw [S.withyref06_Words_c1_eq]
    have hf := ldF ok (L := L) (cs := [.int .i64 s, .int .i64 a, .int .i64 c, .int .i64 hd, .int .i64 g, .int .i64 st]) (k := 2) rfl rfl
    simp only [S.withyref06_Words_c1_S, ptrAt_ptr, Nat.zero_add, hf, Option.bind_some, asI_int, Int.lt_irrefl, decide_false]

theorem entries_loop (q : Nat) : ∀ (k i : Nat) (x : V) (L : List (Option Blk)) (n : Nat) (l : List V), i + k = hd → n + k * 1 ≤ 100000 → Acc h L x 3 n l → ∃ x' L', loopW (S.withyref06_Words_c5_B W) (S.withyref06_Words_c5_E (.ptr h.next 0) x (.int .i64 (q : Nat)) (.int .i64 (i : Nat))) (h.ext ((some (.cells [.int .i64 s, .int .i64 a, .int .i64 c, .int .i64 hd, .int .i64 g, .int .i64 st] .rw)) :: L)) = some (.exit 4, S.withyref06_Words_c5_O (.ptr h.next 0) x' (.int .i64 (q : Nat)), h.ext ((some (.cells [.int .i64 s, .int .i64 a, .int .i64 c, .int .i64 hd, .int .i64 g, .int .i64 st] .rw)) :: L')) ∧ Acc h L' x' 3 (n + k * 1) (l ++ (List.range' i k).flatMap (entryW q)) := by
  refine acc_loop (fun x i => S.withyref06_Words_c5_E (.ptr h.next 0) x (.int .i64 (q : Nat)) (.int .i64 (i : Nat))) (fun x => S.withyref06_Words_c5_O (.ptr h.next 0) x (.int .i64 (q : Nat))) (entryW q) (fun i x L n l hi hn hA => ?_) (fun x L => ?_)
  · rw [S.withyref06_Words_c5_eq]
    have hf := ldF ok (L := L) (cs := [.int .i64 s, .int .i64 a, .int .i64 c, .int .i64 hd, .int .i64 g, .int .i64 st]) (k := 3) rfl rfl
    obtain ⟨x', L', h1, hA'⟩ := hA.grow (F := (some (.cells [.int .i64 s, .int .i64 a, .int .i64 c, .int .i64 hd, .int .i64 g, .int .i64 st] .rw))) (b := 32) (m := 1) (new := entryW q i) rfl rfl (by omega) (by omega) (by omega) (by omega)
    have hw : wr .i64 ((i : Int) + 1) = ((i + 1 : Nat) : Int) := by rw [wr64 (by omega) (by omega)]; rfl
    refine ⟨x', L', ?_, hA'⟩
    simp only [S.withyref06_Words_c5_S, ptrAt_ptr, Nat.zero_add, hf, Option.bind_some, asI_int, show (i : Int) < ((hd : Nat) : Int) by omega, decide_true, H.new_ext, H.ext_ext, H.ext_next, List.cons_append, List.length_cons]
    simp only [entryW] at h1
    rw [h1]
    simp only [Option.bind_some, hw]
  · rw [S.withyref06_Words_c5_eq]
    have hf := ldF ok (L := L) (cs := [.int .i64 s, .int .i64 a, .int .i64 c, .int .i64 hd, .int .i64 g, .int .i64 st]) (k := 3) rfl rfl
    simp only [S.withyref06_Words_c5_S, ptrAt_ptr, Nat.zero_add, hf, Option.bind_some, asI_int, Int.lt_irrefl, decide_false]

theorem views_loop : ∀ (k i : Nat) (x : V) (L : List (Option Blk)) (n : Nat) (l : List V), i + k = c → n + k * 2 ≤ 100000 → Acc h L x 3 n l → ∃ x' L', loopW (S.withyref06_Words_c7_B W) (S.withyref06_Words_c7_E (.ptr h.next 0) x (.int .i64 (i : Nat))) (h.ext ((some (.cells [.int .i64 s, .int .i64 a, .int .i64 c, .int .i64 hd, .int .i64 g, .int .i64 st] .rw)) :: L)) = some (.exit 6, S.withyref06_Words_c7_O (.ptr h.next 0) x', h.ext ((some (.cells [.int .i64 s, .int .i64 a, .int .i64 c, .int .i64 hd, .int .i64 g, .int .i64 st] .rw)) :: L')) ∧ Acc h L' x' 3 (n + k * 2) (l ++ (List.range' i k).flatMap viewW) := by
  refine acc_loop (fun x i => S.withyref06_Words_c7_E (.ptr h.next 0) x (.int .i64 (i : Nat))) (fun x => S.withyref06_Words_c7_O (.ptr h.next 0) x) viewW (fun i x L n l hi hn hA => ?_) (fun x L => ?_)
  · rw [S.withyref06_Words_c7_eq]
    have hf := ldF ok (L := L) (cs := [.int .i64 s, .int .i64 a, .int .i64 c, .int .i64 hd, .int .i64 g, .int .i64 st]) (k := 2) rfl rfl
    obtain ⟨x', L', h1, hA'⟩ := hA.grow (F := (some (.cells [.int .i64 s, .int .i64 a, .int .i64 c, .int .i64 hd, .int .i64 g, .int .i64 st] .rw))) (b := 32) (m := 2) (new := viewW i) rfl rfl (by omega) (by omega) (by omega) (by omega)
    have hw : wr .i64 ((i : Int) + 1) = ((i + 1 : Nat) : Int) := by rw [wr64 (by omega) (by omega)]; rfl
    refine ⟨x', L', ?_, hA'⟩
    simp only [S.withyref06_Words_c7_S, ptrAt_ptr, Nat.zero_add, hf, Option.bind_some, asI_int, show (i : Int) < ((c : Nat) : Int) by omega, decide_true, H.new_ext, H.ext_ext, H.ext_next, List.cons_append, List.length_cons]
    simp only [viewW] at h1
    rw [h1]
    simp only [Option.bind_some, hw]
  · rw [S.withyref06_Words_c7_eq]
    have hf := ldF ok (L := L) (cs := [.int .i64 s, .int .i64 a, .int .i64 c, .int .i64 hd, .int .i64 g, .int .i64 st]) (k := 2) rfl rfl
    simp only [S.withyref06_Words_c7_S, ptrAt_ptr, Nat.zero_add, hf, Option.bind_some, asI_int, Int.lt_irrefl, decide_false]

theorem allEntries_loop : ∀ (k i : Nat) (x : V) (L : List (Option Blk)) (n : Nat) (l : List V), i + k = c → n + k * hd ≤ 100000 → Acc h L x 3 n l → ∃ x' L', loopW (S.withyref06_Words_c3_B W) (S.withyref06_Words_c3_E (.ptr h.next 0) x (.int .i64 (i : Nat))) (h.ext ((some (.cells [.int .i64 s, .int .i64 a, .int .i64 c, .int .i64 hd, .int .i64 g, .int .i64 st] .rw)) :: L)) = some (.exit 2, S.withyref06_Words_c3_O (.ptr h.next 0) x', h.ext ((some (.cells [.int .i64 s, .int .i64 a, .int .i64 c, .int .i64 hd, .int .i64 g, .int .i64 st] .rw)) :: L')) ∧ Acc h L' x' 3 (n + k * hd) (l ++ (List.range' i k).flatMap fun k => (List.range' 0 hd).flatMap (entryW k)) := by
  refine acc_loop (fun x i => S.withyref06_Words_c3_E (.ptr h.next 0) x (.int .i64 (i : Nat))) (fun x => S.withyref06_Words_c3_O (.ptr h.next 0) x) (fun k => (List.range' 0 hd).flatMap (entryW k)) (fun i x L n l hi hn hA => ?_) (fun x L => ?_)
  · rw [S.withyref06_Words_c3_eq]
    have hf := ldF ok (L := L) (cs := [.int .i64 s, .int .i64 a, .int .i64 c, .int .i64 hd, .int .i64 g, .int .i64 st]) (k := 2) rfl rfl
    obtain ⟨x', L', h1, hA'⟩ := entries_loop ok s a g st c hd hc hhd i hd 0 x L n l (by omega) (by omega) hA
    have hw : wr .i64 ((i : Int) + 1) = ((i + 1 : Nat) : Int) := by rw [wr64 (by omega) (by omega)]; rfl
    rw [Nat.mul_one] at hA'
    refine ⟨x', L', ?_, hA'⟩
    have h1' : W.loop (S.withyref06_Words_c5_B W) (S.withyref06_Words_c5_E (.ptr h.next 0) x (.int .i64 (i : Nat)) (.int .i64 0)) (h.ext ((some (.cells [.int .i64 s, .int .i64 a, .int .i64 c, .int .i64 hd, .int .i64 g, .int .i64 st] .rw)) :: L)) = _ := h1
    simp only [S.withyref06_Words_c3_S, ptrAt_ptr, Nat.zero_add, hf, Option.bind_some, asI_int, show (i : Int) < ((c : Nat) : Int) by omega, decide_true]
    rw [h1']
    simp only [Option.bind_some]
    rw [S.withyref06_Words_c5_e4_eq]
    simp only [S.withyref06_Words_c5_e4, hw]
  · rw [S.withyref06_Words_c3_eq]
    have hf := ldF ok (L := L) (cs := [.int .i64 s, .int .i64 a, .int .i64 c, .int .i64 hd, .int .i64 g, .int .i64 st]) (k := 2) rfl rfl
    simp only [S.withyref06_Words_c3_S, ptrAt_ptr, Nat.zero_add, hf, Option.bind_some, asI_int, Int.lt_irrefl, decide_false]

theorem bodies_loop (q room : Nat) (hr : (if a < 3 then 3 else a) = (room : Int)) (hr2 : room ≤ 10) : ∀ (k i : Nat) (x : V) (L : List (Option Blk)) (n : Nat) (l : List V), i + k = room → n + k * 1 ≤ 100000 → Acc h L x 3 n l → ∃ x' L', loopW (S.withyref06_Words_c11_B W) (S.withyref06_Words_c11_E (.ptr h.next 0) x (.int .i64 (q : Nat)) (.int .i64 (i : Nat))) (h.ext ((some (.cells [.int .i64 s, .int .i64 a, .int .i64 c, .int .i64 hd, .int .i64 g, .int .i64 st] .rw)) :: L)) = some (.exit 10, S.withyref06_Words_c11_O (.ptr h.next 0) x' (.int .i64 (q : Nat)), h.ext ((some (.cells [.int .i64 s, .int .i64 a, .int .i64 c, .int .i64 hd, .int .i64 g, .int .i64 st] .rw)) :: L')) ∧ Acc h L' x' 3 (n + k * 1) (l ++ (List.range' i k).flatMap (bodyW q)) := by
  have hd6 : ∀ L, (h.ext ((some (.cells [.int .i64 s, .int .i64 a, .int .i64 c, .int .i64 hd, .int .i64 g, .int .i64 st] .rw)) :: L)).ldN 6 (.ptr h.next 0) = some (.agg [.int .i64 s, .int .i64 a, .int .i64 c, .int .i64 hd, .int .i64 g, .int .i64 st]) := fun L => by
    rw [H.ext_ldNk_0 ok]; rfl
  have hR := refRoom_spec s a c hd g st
  rw [hr] at hR
  unfold cfgV at hR
  refine acc_loop (fun x i => S.withyref06_Words_c11_E (.ptr h.next 0) x (.int .i64 (q : Nat)) (.int .i64 (i : Nat))) (fun x => S.withyref06_Words_c11_O (.ptr h.next 0) x (.int .i64 (q : Nat))) (bodyW q) (fun i x L n l hi hn hA => ?_) (fun x L => ?_)
  · rw [S.withyref06_Words_c11_eq]
    obtain ⟨x', L', h1, hA'⟩ := hA.grow (F := (some (.cells [.int .i64 s, .int .i64 a, .int .i64 c, .int .i64 hd, .int .i64 g, .int .i64 st] .rw))) (b := 32) (m := 1) (new := bodyW q i) rfl rfl (by omega) (by omega) (by omega) (by omega)
    have hw : wr .i64 ((i : Int) + 1) = ((i + 1 : Nat) : Int) := by rw [wr64 (by omega) (by omega)]; rfl
    refine ⟨x', L', ?_, hA'⟩
    simp only [S.withyref06_Words_c11_S, hd6, W_call, hR, Option.bind_some, asI_int, show (i : Int) < ((room : Nat) : Int) by omega, decide_true, H.new_ext, H.ext_ext, H.ext_next, List.cons_append, List.length_cons]
    simp only [bodyW] at h1
    rw [h1]
    simp only [Option.bind_some, hw]
  · rw [S.withyref06_Words_c11_eq]
    simp only [S.withyref06_Words_c11_S, hd6, W_call, hR, Option.bind_some, asI_int, Int.lt_irrefl, decide_false]

theorem slots_loop (S' room : Nat) (hS : s = (S' : Int)) (hS2 : S' ≤ 64) (hr : (if a < 3 then 3 else a) = (room : Int)) (hr2 : room ≤ 10) : ∀ (k i : Nat) (x : V) (L : List (Option Blk)) (n : Nat) (l : List V), i + k = S' → n + k * (2 + room) ≤ 100000 → Acc h L x 3 n l → ∃ x' L', loopW (S.withyref06_Words_c9_B W) (S.withyref06_Words_c9_E (.ptr h.next 0) x (.int .i64 (i : Nat))) (h.ext ((some (.cells [.int .i64 s, .int .i64 a, .int .i64 c, .int .i64 hd, .int .i64 g, .int .i64 st] .rw)) :: L)) = some (.exit 8, S.withyref06_Words_c9_O x', h.ext ((some (.cells [.int .i64 s, .int .i64 a, .int .i64 c, .int .i64 hd, .int .i64 g, .int .i64 st] .rw)) :: L')) ∧ Acc h L' x' 3 (n + k * (2 + room)) (l ++ (List.range' i k).flatMap fun k => headW k ++ (List.range' 0 room).flatMap (bodyW k)) := by
  refine acc_loop (fun x i => S.withyref06_Words_c9_E (.ptr h.next 0) x (.int .i64 (i : Nat))) (fun x => S.withyref06_Words_c9_O x) (fun k => headW k ++ (List.range' 0 room).flatMap (bodyW k)) (fun i x L n l hi hn hA => ?_) (fun x L => ?_)
  · rw [S.withyref06_Words_c9_eq]
    have hf := ldF ok (L := L) (cs := [.int .i64 s, .int .i64 a, .int .i64 c, .int .i64 hd, .int .i64 g, .int .i64 st]) (k := 0) rfl rfl
    obtain ⟨x1, L1, h1, hA1⟩ := hA.grow (F := (some (.cells [.int .i64 s, .int .i64 a, .int .i64 c, .int .i64 hd, .int .i64 g, .int .i64 st] .rw))) (b := 32) (m := 2) (new := headW i) rfl rfl (by omega) (by omega) (by omega) (by omega)
    obtain ⟨x', L', h2, hA'⟩ := bodies_loop ok s a g st c hd hc hhd i room hr hr2 room 0 x1 L1 (n + 2) (l ++ headW i) (by omega) (by omega) hA1
    have hw : wr .i64 ((i : Int) + 1) = ((i + 1 : Nat) : Int) := by rw [wr64 (by omega) (by omega)]; rfl
    rw [Nat.mul_one, List.append_assoc, Nat.add_assoc] at hA'
    refine ⟨x', L', ?_, hA'⟩
    have h2' : W.loop (S.withyref06_Words_c11_B W) (S.withyref06_Words_c11_E (.ptr h.next 0) x1 (.int .i64 (i : Nat)) (.int .i64 0)) (h.ext ((some (.cells [.int .i64 s, .int .i64 a, .int .i64 c, .int .i64 hd, .int .i64 g, .int .i64 st] .rw)) :: L1)) = _ := h2
    simp only [S.withyref06_Words_c9_S, ptrAt_ptr, Nat.zero_add, hf, Option.bind_some, asI_int, show (i : Int) < s by omega, decide_true, H.new_ext, H.ext_ext, H.ext_next, List.cons_append, List.length_cons]
    simp only [headW] at h1
    rw [h1]
    simp only [Option.bind_some]
    rw [h2']
    simp only [Option.bind_some]
    rw [S.withyref06_Words_c11_e10_eq]
    simp only [S.withyref06_Words_c11_e10, hw]
  · rw [S.withyref06_Words_c9_eq]
    have hf := ldF ok (L := L) (cs := [.int .i64 s, .int .i64 a, .int .i64 c, .int .i64 hd, .int .i64 g, .int .i64 st]) (k := 0) rfl rfl
    simp only [S.withyref06_Words_c9_S, ptrAt_ptr, Nat.zero_add, hf, Option.bind_some, asI_int, show ¬ ((S' : Nat) : Int) < s by omega, decide_false]
end

theorem range'_zero (n : Nat) : List.range' 0 n = List.range n := (List.range_eq_range').symm

theorem words_spec {s a c hd g st : Int} (hr : cfgR s a c hd g st = true) {h : H} (ok : h.ok) : ∃ x L, C 87 [cfgV s a c hd g st] h = some (x, h.ext (some (.cells [.int .i64 s, .int .i64 a, .int .i64 c, .int .i64 hd, .int .i64 g, .int .i64 st] .rw) :: L)) ∧
    Acc h L x 3 (sizeW s.toNat (if a < 3 then 3 else a).toNat c.toNat hd.toNat) (wordsW s.toNat (if a < 3 then 3 else a).toNat c.toNat hd.toNat) := by
  obtain ⟨⟨s1, s2⟩, ⟨a1, a2⟩, ⟨c1, c2⟩, ⟨d1, d2⟩, _⟩ := cfgR_iff.mp hr
  obtain ⟨c', rfl⟩ : ∃ n : Nat, c = n := ⟨c.toNat, by omega⟩
  obtain ⟨hd', rfl⟩ : ∃ n : Nat, hd = n := ⟨hd.toNat, by omega⟩
  obtain ⟨s', rfl⟩ : ∃ n : Nat, s = n := ⟨s.toNat, by omega⟩
  obtain ⟨room, hroom⟩ : ∃ n : Nat, (if a < 3 then 3 else a) = (n : Int) := ⟨(if a < 3 then 3 else a).toNat, by split <;> omega⟩
  have hroom2 : room ≤ 10 := by split at hroom <;> omega
  have hS2 : s' ≤ 64 := by omega
  rw [hroom]
  simp only [Int.toNat_natCast]
  -- loop by loop
  have hA0 : Acc h [some (.cells oneW .rw)] (.sl (h.next + 1) 0 4 (.ex 4)) 3 4 oneW := ⟨rfl, rfl, 0, Or.inr ⟨rfl, rfl⟩⟩
  obtain ⟨x1, L1, e1, A1⟩ := pins_loop ok s' a g st c' hd' (by omega) (by omega) c' 0 _ _ 4 _ (by omega) (by omega) hA0
  have b1 : c' * hd' ≤ 8 * 16 := Nat.mul_le_mul (by omega) (by omega)
  obtain ⟨x2, L2, e2, A2⟩ := allEntries_loop ok s' a g st c' hd' (by omega) (by omega) c' 0 _ _ _ _ (by omega) (by omega) A1
  obtain ⟨x3, L3, e3, A3⟩ := views_loop ok s' a g st c' hd' (by omega) (by omega) c' 0 _ _ _ _ (by omega) (by omega) A2
  have b2 : s' * (2 + room) ≤ 64 * 12 := Nat.mul_le_mul hS2 (by omega)
  obtain ⟨x4, L4, e4, A4⟩ := slots_loop ok s' a g st c' hd' (by omega) (by omega) s' room rfl hS2 hroom hroom2 s' 0 _ _ _ _ (by omega) (by omega) A3
  simp only [range'_zero] at A4
  refine ⟨x4, L4, ?_, A4⟩
  refine call_open (af := F.withyref06_Words) (by kernel_rfl) rfl ?_
  unfold cfgV
  rw [S.withyref06_Words_eq]
  simp only [S.withyref06_Words, H.new_ext, H.ext_ext, H.ext_next, List.length_singleton, List.cons_append, List.nil_append]
  have e1' : W.loop (S.withyref06_Words_c1_B W) (S.withyref06_Words_c1_E (.ptr h.next 0) (.sl (h.next + 1) 0 4 (.ex 4)) (.int .i64 0)) _ = _ := e1
  unfold oneW at e1'
  rw [e1']
  simp only [Option.bind_some]
  rw [S.withyref06_Words_c1_e0_eq]
  simp only [S.withyref06_Words_c1_e0]
  have e2' : W.loop (S.withyref06_Words_c3_B W) (S.withyref06_Words_c3_E (.ptr h.next 0) x1 (.int .i64 0)) _ = _ := e2
  rw [e2']
  simp only [Option.bind_some]
  rw [S.withyref06_Words_c3_e2_eq]
  simp only [S.withyref06_Words_c3_e2]
  have e3' : W.loop (S.withyref06_Words_c7_B W) (S.withyref06_Words_c7_E (.ptr h.next 0) x2 (.int .i64 0)) _ = _ := e3
  rw [e3']
  simp only [Option.bind_some]
  rw [S.withyref06_Words_c7_e6_eq]
  simp only [S.withyref06_Words_c7_e6]
  have e4' : W.loop (S.withyref06_Words_c9_B W) (S.withyref06_Words_c9_E (.ptr h.next 0) x3 (.int .i64 0)) _ = _ := e4
  rw [e4']
  simp only [Option.bind_some]
  rw [S.withyref06_Words_c9_e8_eq]
  rfl
end Wm
end

section
/- Where a word stands: withyref06.At, and that it is where plan says. -/
namespace Wm

abbrev wordEq : Eq' := .agg [(0, .str), (1, .int), (2, .int)]

theorem wordEq_self (nm : ByteArray) (who k : Int) : eqV wordEq (.agg [.str nm, .int .i64 who, .int .i64 k]) (.agg [.str nm, .int .i64 who, .int .i64 k]) = some true := by
  simp [eqV, aggCells, eqOffs, eqCell]

theorem Acc.part {h : H} {F : Option Blk} {L : List (Option Blk)} {x : V} {n : Nat} {l : List V} (ok : h.ok) (hA : Acc h L x 3 n l) {i : Nat} (hi : i < n) : ∃ p, indexAV 3 x (.int .i64 (i : Int)) = some p ∧ (h.ext (F :: L)).ldN 3 p = some (.agg ((l.drop (i * 3)).take 3)) := by
  obtain ⟨hl, _, j, hj⟩ := hA
  have hle : i * 3 + 3 ≤ l.length := by omega
  have key : ∀ k, L[j]? = some (some (.cells l k)) → (h.ext (F :: L)).ldN 3 (.ptr (h.next + (j + 1)) (i * 3)) = some (.agg ((l.drop (i * 3)).take 3)) := fun k hk => by
    rw [H.ext_ldNk ok]
    simp only [List.getElem?_cons_succ, hk, Option.join_some, ldNB_cells, decide_eq_true hle]
  rcases hj with ⟨rfl, hjL⟩ | ⟨rfl, hjL⟩
  · refine ⟨.ptr (h.next + (j + 1)) (i * 3), ?_, key _ hjL⟩
    rw [indexAV_in (by omega) (by omega)]; simp
  · refine ⟨.ptr (h.next + (j + 1)) (i * 3), ?_, key _ hjL⟩
    rw [indexAV_in (by omega) (by omega)]; simp

theorem Acc.len {h : H} {L : List (Option Blk)} {x : V} {e n : Nat} {l : List V} (hA : Acc h L x e n l) : lenSl x = some n := by
  obtain ⟨_, _, j, ⟨rfl, _⟩ | ⟨rfl, _⟩⟩ := hA <;> rfl

theorem at_spec {s a c hd g st : Int} (hr : cfgR s a c hd g st = true) {nm : ByteArray} {who k : Int} {pre : List (List V)} {post : List V}
    (hw : wordsW s.toNat (if a < 3 then 3 else a).toNat c.toNat hd.toNat = pre.flatten ++ ([.str nm, .int .i64 who, .int .i64 k] ++ post))
    (hp : ∀ e ∈ pre, e.length = 3 ∧ eqV wordEq (.agg e) (.agg [.str nm, .int .i64 who, .int .i64 k]) = some false) (hpl : pre.length ≤ 100000) (h : H) :
    C 108 [cfgV s a c hd g st, .agg [.str nm, .int .i64 who, .int .i64 k]] h = some (.int .i64 (pre.length : Nat), h) := by
  refine call_closed (af := F.withyref06_At) (by kernel_rfl) rfl (by rfl) (by rfl) h ?_
  have ok := H.ok_empty
  have hR := ref06Right_spec s a c hd g st
  obtain ⟨x, L, hW, hA⟩ := words_spec hr (ok.ext [some (.cells [.int .i64 s, .int .i64 a, .int .i64 c, .int .i64 hd, .int .i64 g, .int .i64 st] .rw), some (.cells [.str nm, .int .i64 who, .int .i64 k] .rw)])
  rw [hr] at hR
  have ok2 := ok.ext [some (Blk.cells [.int .i64 s, .int .i64 a, .int .i64 c, .int .i64 hd, .int .i64 g, .int .i64 st] .rw), some (.cells [.str nm, .int .i64 who, .int .i64 k] .rw)]
  have hT : ∀ l, ((H.empty.ext [some (Blk.cells [.int .i64 s, .int .i64 a, .int .i64 c, .int .i64 hd, .int .i64 g, .int .i64 st] .rw), some (.cells [.str nm, .int .i64 who, .int .i64 k] .rw)]).ext l).ldN 3 (.ptr (H.empty.next + 1) 0) = some (.agg [.str nm, .int .i64 who, .int .i64 k]) := fun l => by
    rw [H.ext_ext, H.ext_ldNk ok]; rfl
  have hlw := hA.1
  rw [hw] at hA hlw
  have hfl : pre.flatten.length = pre.length * 3 := flat_length fun e he => (hp e he).1
  have hlen : pre.length < sizeW s.toNat (if a < 3 then 3 else a).toNat c.toNat hd.toNat := by
    rw [List.length_append, List.length_append, hfl] at hlw
    simp only [List.length_cons, List.length_nil] at hlw
    omega
  generalize sizeW s.toNat (if a < 3 then 3 else a).toNat c.toNat hd.toNat = n at hA hlen
  unfold cfgV at hR hW ⊢
  rw [S.withyref06_At_eq]
  simp only [S.withyref06_At, H.new_ext, H.ext_ext, H.ext_next, H.ext_ldNk_0, H.ext_ldNk, H.ext_ldk_0, H.ext_ldk, H.ext_stk_0, H.ext_stk, ok, ldB_cells, ldNB_cells, stB_cells, V.one, V.cells, List.length_cons, List.length_nil, List.length_append, List.length_singleton, Nat.zero_add, Nat.add_zero, Nat.reduceAdd, Nat.reduceLeDiff, Nat.reduceLT, Nat.reduceMul, Nat.reduceSub, Int.reduceEq, Int.reduceLT, Int.reduceLE, if_true, if_false, or_self, or_false, false_or, or_true, true_or, Nat.zero_lt_one, Nat.lt_add_one, Nat.zero_lt_succ, Nat.add_assoc, decide_true, decide_false, List.getElem?_cons_zero, List.getElem?_cons_succ, List.cons_append, List.nil_append, List.append_assoc, List.drop_zero, List.drop_succ_cons, List.take_succ_cons, List.take_zero, List.set_cons_zero, List.set_cons_succ, splice, List.all_cons, List.all_nil, Bool.and_true, Bool.not_true, Bool.not_false, Bool.or_false, Option.bind_some, Option.map_some, Option.join_some, ckB_some, V.beq, V.beqs, Nat.beq_refl, BEq.rfl, Bool.and_self, fill, repl, opd, boxc, finV, resAllV, resOfV, result, eqV, aggCells, eqOffs, eqCell, asI_int, asB_bool, ptrAt_ptr, reduceCtorEq, W_call, hR]
  simp only [hW, Option.bind_some]
  generalize hH : (H.empty.ext [some (Blk.cells [.int .i64 s, .int .i64 a, .int .i64 c, .int .i64 hd, .int .i64 g, .int .i64 st] .rw), some (.cells [.str nm, .int .i64 who, .int .i64 k] .rw)]) = hh at hA hT ok2 ⊢
  refine loop_ev (fun i : Nat => S.withyref06_At_c1_E (.ptr (H.empty.next + 1) 0) x (.int .i64 (i : Nat))) (fun i g' => i ≤ pre.length ∧ g' = hh.ext (some (.cells [.int .i64 s, .int .i64 a, .int .i64 c, .int .i64 hd, .int .i64 g, .int .i64 st] .rw) :: L)) (fun i _ => pre.length - i)
    (fun r => r = (.ret, S.withyref06_At_c1_O (.int .i64 (pre.length : Nat)), hh.ext (some (.cells [.int .i64 s, .int .i64 a, .int .i64 c, .int .i64 hd, .int .i64 g, .int .i64 st] .rw) :: L))) 0 rfl ⟨Nat.zero_le _, rfl⟩ ?_ ?_
  · rintro i g' ⟨hi, rfl⟩
    rw [S.withyref06_At_c1_eq]
    obtain ⟨p, e1, e2⟩ := hA.part (F := some (.cells [.int .i64 s, .int .i64 a, .int .i64 c, .int .i64 hd, .int .i64 g, .int .i64 st] .rw)) ok2 (show i < n by omega)
    simp only [S.withyref06_At_c1_S, hA.len, Option.bind_some, show (i : Int) < ((n : Nat) : Int) by omega, decide_true, e1, e2, hT]
    by_cases hip : i < pre.length
    · have hpi : pre[i]? = some pre[i] := List.getElem?_eq_getElem hip
      have hel : ((pre.flatten ++ ([V.str nm, V.int .i64 who, V.int .i64 k] ++ post)).drop (i * 3)).take 3 = pre[i] := by
        rw [List.drop_append_of_le_length (by omega), List.take_append_of_le_length (by rw [List.length_drop]; omega)]
        exact flat_part (fun e he => (hp e he).1) i _ hpi
      rw [hel, (hp _ (List.getElem_mem hip)).2]
      have hw1 : wr .i64 ((i : Int) + 1) = ((i + 1 : Nat) : Int) := by rw [wr64 (by omega) (by omega)]; rfl
      simp only [Option.bind_some, hw1]
      exact Ev.some (Or.inl ⟨i + 1, rfl, rfl, ⟨hip, rfl⟩, by omega⟩)
    · have : i = pre.length := by omega
      subst this
      have hel : ((pre.flatten ++ ([V.str nm, V.int .i64 who, V.int .i64 k] ++ post)).drop (pre.length * 3)).take 3 = [V.str nm, V.int .i64 who, V.int .i64 k] := by
        rw [List.drop_left' hfl]; rfl
      rw [hel, wordEq_self]
      simp only [Option.bind_some]
      exact Ev.some (Or.inr ⟨by simp, rfl⟩)
  · rintro r rfl
    simp only
    rw [S.withyref06_At_c1_r_eq]
    exact Ev.some rfl

theorem flatten_flatMap' {α β : Type} (f : α → List (List β)) : ∀ l : List α, (l.flatMap f).flatten = l.flatMap fun x => (f x).flatten
  | [] => rfl
  | x :: l => by rw [List.flatMap_cons, List.flatten_append, flatten_flatMap' f l, List.flatMap_cons]

theorem length_flatMap_const {α β : Type} {f : α → List β} {m : Nat} : ∀ {l : List α}, (∀ x ∈ l, (f x).length = m) → (l.flatMap f).length = l.length * m
  | [], _ => by simp
  | x :: l, h => by
    rw [List.flatMap_cons, List.length_append, h x (by simp), length_flatMap_const fun y hy => h y (by simp [hy]), List.length_cons, Nat.add_mul]
    omega

def oneE : List (List V) := [[.str ⟨⟨[99, 108, 111, 99, 107]⟩⟩, .int .i64 0, .int .i64 0], [.str ⟨⟨[101, 112, 111, 99, 104]⟩⟩, .int .i64 0, .int .i64 0], [.str ⟨⟨[103, 114, 97, 121, 115]⟩⟩, .int .i64 0, .int .i64 0], [.str ⟨⟨[116, 111, 112]⟩⟩, .int .i64 0, .int .i64 0]]
def slotE (room q : Nat) : List (List V) := [[.str ⟨⟨[104, 101, 97, 100, 101, 114]⟩⟩, .int .i64 q, .int .i64 0], [.str ⟨⟨[108, 105, 110, 107]⟩⟩, .int .i64 q, .int .i64 0]] ++ (List.range room).map (bodyW q)
def viewE (q : Nat) : List (List V) := [[.str ⟨⟨[118, 105, 101, 119]⟩⟩, .int .i64 q, .int .i64 0], [.str ⟨⟨[115, 116, 97, 114, 116]⟩⟩, .int .i64 q, .int .i64 0]]
/-- What stands ahead of the slots; ahead of a slot. -/
def aheadE (c hd : Nat) : List (List V) := oneE ++ (List.range c).map pinW ++ (List.range c).flatMap (fun q => (List.range hd).map (entryW q)) ++ (List.range c).flatMap viewE
def preE (room c hd k : Nat) : List (List V) := aheadE c hd ++ (List.range k).flatMap (slotE room)

theorem slotE_flatten (room q : Nat) : (slotE room q).flatten = slotW room q := by
  unfold slotE slotW headW
  rw [List.flatten_append, ← List.flatMap_def]; rfl

theorem aheadE_flatten (c hd : Nat) : (aheadE c hd).flatten = oneW ++ (List.range c).flatMap pinW ++ (List.range c).flatMap (fun q => (List.range hd).flatMap (entryW q)) ++ (List.range c).flatMap viewW := by
  unfold aheadE
  rw [List.flatten_append, List.flatten_append, List.flatten_append, ← List.flatMap_def, flatten_flatMap', flatten_flatMap']
  congr 1

theorem preE_length (room c hd k : Nat) : (preE room c hd k).length = 4 + c + c * hd + c * 2 + k * (2 + room) := by
  unfold preE aheadE
  rw [List.length_append, List.length_append, List.length_append, List.length_append, List.length_map, List.length_range, length_flatMap_const (m := hd) (fun q _ => by simp), length_flatMap_const (m := 2) (fun q _ => rfl), length_flatMap_const (m := 2 + room) (fun q _ => by simp [slotE]; omega)]
  simp [oneE]

theorem words_split (S room c hd k : Nat) (hk : k < S) : ∃ post, wordsW S room c hd = (preE room c hd k).flatten ++ ([.str ⟨⟨[104, 101, 97, 100, 101, 114]⟩⟩, .int .i64 k, .int .i64 0] ++ post) := by
  obtain ⟨m, rfl⟩ : ∃ m, S = k + (m + 1) := ⟨S - k - 1, by omega⟩
  have h1 : List.range (k + (m + 1)) = List.range k ++ k :: List.range' (k + 1) m := by
    rw [List.range_add, ← List.range'_eq_map_range, List.range'_succ]
  have h2 : slotW room k = [.str ⟨⟨[104, 101, 97, 100, 101, 114]⟩⟩, .int .i64 k, .int .i64 0] ++ ([.str ⟨⟨[108, 105, 110, 107]⟩⟩, .int .i64 k, .int .i64 0] ++ (List.range room).flatMap (bodyW k)) := rfl
  refine ⟨[.str ⟨⟨[108, 105, 110, 107]⟩⟩, .int .i64 k, .int .i64 0] ++ (List.range room).flatMap (bodyW k) ++ (List.range' (k + 1) m).flatMap (slotW room), ?_⟩
  have h3 : ((List.range k).flatMap (slotE room)).flatten = (List.range k).flatMap (slotW room) := by
    rw [flatten_flatMap']
    exact congrArg (fun f => (List.range k).flatMap f) (funext fun q => slotE_flatten room q)
  unfold wordsW preE
  rw [h1, List.flatMap_append, List.flatMap_cons, List.flatten_append, aheadE_flatten, h3, h2]
  simp only [List.append_assoc]

theorem name_ne {a b : ByteArray} (hn : (a.toList == b.toList) = false) (x y z w : Int) : eqV wordEq (.agg [.str a, .int .i64 x, .int .i64 y]) (.agg [.str b, .int .i64 z, .int .i64 w]) = some false := by
  simp [eqV, aggCells, eqOffs, eqCell, hn]
theorem ne_clock (x y z w : Int) : eqV wordEq (.agg [.str ⟨⟨[99, 108, 111, 99, 107]⟩⟩, .int .i64 x, .int .i64 y]) (.agg [.str ⟨⟨[104, 101, 97, 100, 101, 114]⟩⟩, .int .i64 z, .int .i64 w]) = some false := name_ne (by kernel_rfl) x y z w
theorem ne_epoch (x y z w : Int) : eqV wordEq (.agg [.str ⟨⟨[101, 112, 111, 99, 104]⟩⟩, .int .i64 x, .int .i64 y]) (.agg [.str ⟨⟨[104, 101, 97, 100, 101, 114]⟩⟩, .int .i64 z, .int .i64 w]) = some false := name_ne (by kernel_rfl) x y z w
theorem ne_grays (x y z w : Int) : eqV wordEq (.agg [.str ⟨⟨[103, 114, 97, 121, 115]⟩⟩, .int .i64 x, .int .i64 y]) (.agg [.str ⟨⟨[104, 101, 97, 100, 101, 114]⟩⟩, .int .i64 z, .int .i64 w]) = some false := name_ne (by kernel_rfl) x y z w
theorem ne_top (x y z w : Int) : eqV wordEq (.agg [.str ⟨⟨[116, 111, 112]⟩⟩, .int .i64 x, .int .i64 y]) (.agg [.str ⟨⟨[104, 101, 97, 100, 101, 114]⟩⟩, .int .i64 z, .int .i64 w]) = some false := name_ne (by kernel_rfl) x y z w
theorem ne_pin (x y z w : Int) : eqV wordEq (.agg [.str ⟨⟨[112, 105, 110]⟩⟩, .int .i64 x, .int .i64 y]) (.agg [.str ⟨⟨[104, 101, 97, 100, 101, 114]⟩⟩, .int .i64 z, .int .i64 w]) = some false := name_ne (by kernel_rfl) x y z w
theorem ne_entry (x y z w : Int) : eqV wordEq (.agg [.str ⟨⟨[101, 110, 116, 114, 121]⟩⟩, .int .i64 x, .int .i64 y]) (.agg [.str ⟨⟨[104, 101, 97, 100, 101, 114]⟩⟩, .int .i64 z, .int .i64 w]) = some false := name_ne (by kernel_rfl) x y z w
theorem ne_view (x y z w : Int) : eqV wordEq (.agg [.str ⟨⟨[118, 105, 101, 119]⟩⟩, .int .i64 x, .int .i64 y]) (.agg [.str ⟨⟨[104, 101, 97, 100, 101, 114]⟩⟩, .int .i64 z, .int .i64 w]) = some false := name_ne (by kernel_rfl) x y z w
theorem ne_start (x y z w : Int) : eqV wordEq (.agg [.str ⟨⟨[115, 116, 97, 114, 116]⟩⟩, .int .i64 x, .int .i64 y]) (.agg [.str ⟨⟨[104, 101, 97, 100, 101, 114]⟩⟩, .int .i64 z, .int .i64 w]) = some false := name_ne (by kernel_rfl) x y z w
theorem ne_link (x y z w : Int) : eqV wordEq (.agg [.str ⟨⟨[108, 105, 110, 107]⟩⟩, .int .i64 x, .int .i64 y]) (.agg [.str ⟨⟨[104, 101, 97, 100, 101, 114]⟩⟩, .int .i64 z, .int .i64 w]) = some false := name_ne (by kernel_rfl) x y z w
theorem ne_body (x y z w : Int) : eqV wordEq (.agg [.str ⟨⟨[98, 111, 100, 121]⟩⟩, .int .i64 x, .int .i64 y]) (.agg [.str ⟨⟨[104, 101, 97, 100, 101, 114]⟩⟩, .int .i64 z, .int .i64 w]) = some false := name_ne (by kernel_rfl) x y z w

theorem pre_ne (room c hd k : Nat) : ∀ e ∈ preE room c hd k, e.length = 3 ∧ eqV wordEq (.agg e) (.agg [.str ⟨⟨[104, 101, 97, 100, 101, 114]⟩⟩, .int .i64 k, .int .i64 0]) = some false := by
  intro e he
  unfold preE aheadE at he
  simp only [List.mem_append, List.mem_flatMap, List.mem_map, List.mem_range] at he
  rcases he with (((he | ⟨q, _, rfl⟩) | ⟨q, _, i, _, rfl⟩) | ⟨q, _, he⟩) | ⟨q, hq, he⟩
  · simp only [oneE, List.mem_cons, List.not_mem_nil, or_false] at he
    rcases he with rfl | rfl | rfl | rfl
    · exact ⟨rfl, ne_clock _ _ _ _⟩
    · exact ⟨rfl, ne_epoch _ _ _ _⟩
    · exact ⟨rfl, ne_grays _ _ _ _⟩
    · exact ⟨rfl, ne_top _ _ _ _⟩
  · exact ⟨rfl, ne_pin _ _ _ _⟩
  · exact ⟨rfl, ne_entry _ _ _ _⟩
  · simp only [viewE, List.mem_cons, List.not_mem_nil, or_false] at he
    rcases he with rfl | rfl
    · exact ⟨rfl, ne_view _ _ _ _⟩
    · exact ⟨rfl, ne_start _ _ _ _⟩
  · simp only [slotE, List.mem_append, List.mem_cons, List.not_mem_nil, or_false, List.mem_map, List.mem_range] at he
    rcases he with (rfl | rfl) | ⟨i, _, rfl⟩
    · refine ⟨rfl, ?_⟩
      have : ¬ ((q : Int) = (k : Int)) := by omega
      simp [eqV, aggCells, eqOffs, eqCell, this]
    · exact ⟨rfl, ne_link _ _ _ _⟩
    · exact ⟨rfl, ne_body _ _ _ _⟩

theorem atHeader_spec {s a c hd g st : Int} (hr : cfgR s a c hd g st = true) {k : Int} (h0 : 0 ≤ k) (h1 : k < s) (h : H) : C 108 [cfgV s a c hd g st, .agg [.str ⟨⟨[104, 101, 97, 100, 101, 114]⟩⟩, .int .i64 k, .int .i64 0]] h = some (.int .i64 (withinT s a c hd g st k 0), h) := by
  obtain ⟨⟨s1, s2⟩, ⟨a1, a2⟩, ⟨c1, c2⟩, ⟨d1, d2⟩, _⟩ := cfgR_iff.mp hr
  obtain ⟨k', rfl⟩ : ∃ n : Nat, k = n := ⟨k.toNat, by omega⟩
  obtain ⟨post, hw⟩ := words_split s.toNat (if a < 3 then 3 else a).toNat c.toNat hd.toNat k' (by omega)
  have hl := preE_length (if a < 3 then 3 else a).toNat c.toNat hd.toNat k'
  have hroom : ((if a < 3 then 3 else a).toNat : Int) = max a 3 := by split <;> omega
  have hroom2 : (if a < 3 then 3 else a).toNat ≤ 8 := by split <;> omega
  have b1 : c.toNat * hd.toNat ≤ 8 * 16 := Nat.mul_le_mul (by omega) (by omega)
  have b2 : k' * (2 + (if a < 3 then 3 else a).toNat) ≤ 64 * 12 := Nat.mul_le_mul (by omega) (by omega)
  have hspec := at_spec hr hw (pre_ne _ _ _ _) (by rw [hl]; clear hw; omega) h
  rw [hspec, hl]
  have he : ((4 + c.toNat + c.toNat * hd.toNat + c.toNat * 2 + k' * (2 + (if a < 3 then 3 else a).toNat) : Nat) : Int) = withinT s a c hd g st (k' : Int) 0 := by
    clear hspec hl hw
    have hi : (0 : Int) ≤ 0 ∧ (0 : Int) ≤ roomT a - 1 := by unfold roomT; omega
    have hk : (0 : Int) ≤ (k' : Int) ∧ (k' : Int) ≤ s - 1 := by omega
    generalize (if a < 3 then 3 else a).toNat = R at hroom b2 ⊢
    unfold withinT
    rw [if_pos ⟨hr, hk, hi⟩]
    unfold slotsT roomT
    have m1 : ((c.toNat * hd.toNat : Nat) : Int) = c * hd := by rw [Int.natCast_mul, Int.toNat_of_nonneg (by omega), Int.toNat_of_nonneg (by omega)]
    have m2 : ((k' * (2 + R) : Nat) : Int) = (k' : Int) * (2 + max a 3) := by
      rw [Int.natCast_mul]
      congr 1
      omega
    have m3 : c * (1 + hd + 2) = c + c * hd + c * 2 := by rw [Int.mul_add, Int.mul_add, Int.mul_one]
    rw [m3, ← m1, ← m2]
    generalize c.toNat * hd.toNat = P
    generalize k' * (2 + R) = Q
    omega
  rw [he]
end Wm
end

section
/- A slice of words. -/
namespace Wm

def RowIs (g : Nat → Option Blk) (u : V) (x : List Int) : Prop := x.length ≤ 9223372036854775807 ∧ ((u = .nilsl ∧ x = []) ∨ ∃ b c k, u = .sl b 0 x.length c ∧ g b = some (.cells (x.map (.int .u64)) k))
theorem RowIs.mono {g g' : Nat → Option Blk} (hg : GExt g g') {u : V} {x : List Int} (h : RowIs g u x) : RowIs g' u x := by
  obtain ⟨h0, h⟩ := h
  refine ⟨h0, ?_⟩
  rcases h with h | ⟨b, c, k, h1, h2⟩
  · exact .inl h
  · exact .inr ⟨b, c, k, h1, hg _ _ h2⟩
theorem RowIs.len {g : Nat → Option Blk} {u : V} {x : List Int} (h : RowIs g u x) : lenSl u = some x.length := by
  rcases h with ⟨_, ⟨rfl, rfl⟩ | ⟨b, c, k, rfl, _⟩⟩ <;> rfl
theorem indexAV_ok {b o n e : Nat} {c : Cap} {i : Int} {k : Go.IntKind} (h0 : 0 ≤ i) (h1 : i < n) : indexAV e (.sl b o n c) (.int k i) = some (.ptr b (o + i.toNat * e)) := by
  simp only [indexAV, indexOf, asIAny, h0, h1, decide_true, Bool.and_self]

theorem RowIs.at {g : H} {u : V} {x : List Int} (h : RowIs g.get u x) {i : Int} (h0 : 0 ≤ i) (h1 : i < x.length) : ∃ p, indexAV 1 u (.int .i64 i) = some p ∧ g.ld1 p = some (.int .u64 ((x[i.toNat]?).getD 0)) := by
  rcases h with ⟨_, ⟨rfl, rfl⟩ | ⟨b, c, k, rfl, h2⟩⟩
  · simp at h1; omega
  · refine ⟨_, indexAV_ok h0 h1, ?_⟩
    have hl : i.toNat < x.length := by omega
    rw [Nat.zero_add, Nat.mul_one]
    exact ld1_get h2 (by simp [hl]) rfl
theorem GExt.ext {h : H} (ok : h.ok) (l : List (Option Blk)) : GExt h.get (h.ext l).get := fun b x hb => by rw [H.ext_old (ok.lt hb)]; exact hb

end Wm
end

section
/- How many slots are gray: shade.Grays and withylaw09.grays. -/
namespace Wm

theorem set_concat {α : Type} (l : List α) (a b : α) : (l ++ [a]).set l.length b = l ++ [b] := by
  induction l with
  | nil => rfl
  | cons x l ih => simp only [List.cons_append, List.length_cons, List.set_cons_succ, ih]

def grayOf (w : Int) : Bool := okT w && decide (getT w 4 1 = 1)
def wAt (ws : List Int) (k : Int) : Int := (ws[k.toNat]?).getD 0
def cntT (s a c hd g st : Int) (ws : List Int) : Nat → Int
  | 0 => 0
  | k + 1 => cntT s a c hd g st ws k + (match grayOf (wAt ws (withinT s a c hd g st k 0)) with | true => 1 | false => 0)
/-- How many words there are. -/
def totT (s a c hd : Int) : Int := slotsT c hd + s * roomT a

theorem cntT_bd (s a c hd g st : Int) (ws : List Int) : ∀ k, 0 ≤ cntT s a c hd g st ws k ∧ cntT s a c hd g st ws k ≤ k
  | 0 => ⟨Int.le_refl _, Int.le_refl _⟩
  | k + 1 => by
    obtain ⟨h1, h2⟩ := cntT_bd s a c hd g st ws k
    unfold cntT
    cases grayOf (wAt ws (withinT s a c hd g st k 0)) <;> simp only <;> omega

theorem within_bd {s a c hd g st k : Int} (hr : cfgR s a c hd g st = true) (h0 : 0 ≤ k) (h1 : k < s) : 0 ≤ withinT s a c hd g st k 0 ∧ withinT s a c hd g st k 0 < totT s a c hd := by
  obtain ⟨⟨s1, s2⟩, ⟨a1, a2⟩, ⟨c1, c2⟩, ⟨d1, d2⟩, _⟩ := cfgR_iff.mp hr
  have hroom : 5 ≤ roomT a := by unfold roomT; omega
  unfold withinT totT
  rw [if_pos ⟨hr, ⟨h0, by omega⟩, ⟨Int.le_refl _, by omega⟩⟩]
  have q1 := Int.mul_nonneg (show 0 ≤ c by omega) (show 0 ≤ 1 + hd + 2 by omega)
  have q2 := Int.mul_nonneg h0 (show 0 ≤ roomT a by omega)
  have q3 : k * roomT a + roomT a ≤ s * roomT a := by
    have := Int.mul_le_mul_of_nonneg_right (show k + 1 ≤ s by omega) (show 0 ≤ roomT a by omega)
    rw [Int.add_mul, Int.one_mul] at this
    exact this
  unfold slotsT
  omega

theorem size_spec {s a c hd g st : Int} (hr : cfgR s a c hd g st = true) (h : H) : C 264 [cfgV s a c hd g st] h = some (.int .i64 (totT s a c hd), h) := by
  refine call_closed (af := F.plan_Size) (by kernel_rfl) rfl (by rfl) (by rfl) h ?_
  have ok := H.ok_empty
  obtain ⟨⟨s1, s2⟩, ⟨a1, a2⟩, ⟨c1, c2⟩, ⟨d1, d2⟩, _⟩ := cfgR_iff.mp hr
  have hR := planRight_spec s a c hd g st
  rw [hr] at hR
  have h1 := room_spec s a c hd g st (by omega) (by omega)
  have h2 := slots_spec s a c hd g st (by omega) (by omega) (by omega) (by omega)
  have hroom : 5 ≤ roomT a ∧ roomT a ≤ 10 := by unfold roomT; omega
  obtain ⟨q1, q2⟩ := mul_bd (show 0 ≤ s by omega) s2 (show 0 ≤ roomT a by omega) hroom.2
  obtain ⟨q3, q4⟩ := mul_bd (show 0 ≤ c by omega) c2 (show 0 ≤ 1 + hd + 2 by omega) (show 1 + hd + 2 ≤ 19 by omega)
  have w1 := wr64 (n := s * roomT a) (by omega) (by omega)
  have w2 : wr .i64 (slotsT c hd + s * roomT a) = totT s a c hd := wr64 (by unfold slotsT; omega) (by unfold slotsT; omega)
  unfold cfgV at hR h1 h2 ⊢
  rw [S.plan_Size_eq]
  simp only [S.plan_Size, H.new_ext, H.ext_ext, H.ext_next, H.ext_ldNk_0, H.ext_ldNk, H.ext_ldk_0, H.ext_ldk, H.ext_stk_0, H.ext_stk, ok, ldB_cells, ldNB_cells, stB_cells, V.one, V.cells, List.length_cons, List.length_nil, List.length_append, List.length_singleton, Nat.zero_add, Nat.add_zero, Nat.reduceAdd, Nat.reduceLeDiff, Nat.reduceLT, Nat.reduceMul, Nat.reduceSub, Int.reduceEq, Int.reduceLT, Int.reduceLE, if_true, if_false, or_self, or_false, false_or, or_true, true_or, Nat.zero_lt_one, Nat.lt_add_one, Nat.zero_lt_succ, Nat.add_assoc, decide_true, decide_false, List.getElem?_cons_zero, List.getElem?_cons_succ, List.cons_append, List.nil_append, List.append_assoc, List.drop_zero, List.drop_succ_cons, List.take_succ_cons, List.take_zero, List.set_cons_zero, List.set_cons_succ, splice, List.all_cons, List.all_nil, Bool.and_true, Bool.not_true, Bool.not_false, Bool.or_false, Option.bind_some, Option.map_some, Option.join_some, ckB_some, V.beq, V.beqs, Nat.beq_refl, BEq.rfl, Bool.and_self, fill, repl, opd, boxc, finV, resAllV, resOfV, result, eqV, aggCells, eqOffs, eqCell, asI_int, asB_bool, ptrAt_ptr, reduceCtorEq, W_call, hR, h1, h2, w1, w2]
  exact Ev.some rfl

theorem ar_lt {i : Nat} {s : Int} (h : (i : Int) < s) (h2 : s ≤ 64) : i < 64 := by omega
theorem ar_wr {i : Nat} (h : i < 64) : wr .i64 ((i : Int) + 1) = ((i + 1 : Nat) : Int) := by rw [wr64 (by omega) (by omega)]; rfl
theorem ar_wc {i : Nat} {x : Int} (h : 0 ≤ x ∧ x ≤ i) (h2 : i < 64) : wr .i64 (x + 1) = x + 1 := wr64 (by omega) (by omega)
theorem ar_q1 {i : Nat} {s : Int} (h : (i : Int) < s) : i + 1 ≤ s.toNat := by omega
theorem ar_q2 {i : Nat} {s : Int} (h : (i : Int) < s) : s.toNat - (i + 1) < s.toNat - i := by omega
theorem ar_nat {z t : Int} {n : Nat} (h0 : 0 ≤ z) (h1 : z < t) (h2 : (n : Int) = t) : z.toNat < n := by omega
theorem ar_eq {i : Nat} {s : Int} (h : i ≤ s.toNat) (h1 : ¬ (i : Int) < s) : i = s.toNat := by omega

theorem grays_loop {s a c hd g st : Int} (hr : cfgR s a c hd g st = true) {h : H} (ok : h.ok) {x : V} {ws : List Int} (hx : RowIs h.get x ws) (hu : ∀ w ∈ ws, U64 w) (hl : (ws.length : Int) = totT s a c hd) :
    Ev ((W.loop (S.withylaw09_grays_c1_B W) (S.withylaw09_grays_c1_E x (.ptr h.next 0) (.int .i64 0) (.int .i64 0)) (h.ext [(some (Blk.cells [.int .i64 s, .int .i64 a, .int .i64 c, .int .i64 hd, .int .i64 g, .int .i64 st] .rw))])).bind fun p1 => S.withylaw09_grays_K2 W p1.1 p1.2.1 p1.2.2) fun r => ∃ L, r = (.int .i64 (cntT s a c hd g st ws s.toNat), h.ext L) := by
  obtain ⟨⟨s1, s2⟩, _⟩ := cfgR_iff.mp hr
  refine loop_ev (fun i : Nat => S.withylaw09_grays_c1_E x (.ptr h.next 0) (.int .i64 (cntT s a c hd g st ws i)) (.int .i64 (i : Nat))) (fun i g' => i ≤ s.toNat ∧ ∃ L, g' = h.ext ((some (Blk.cells [.int .i64 s, .int .i64 a, .int .i64 c, .int .i64 hd, .int .i64 g, .int .i64 st] .rw)) :: L)) (fun i _ => s.toNat - i) (fun r => ∃ L, r = (.exit 0, S.withylaw09_grays_c1_O (.int .i64 (cntT s a c hd g st ws s.toNat)), h.ext L)) 0 rfl ⟨Nat.zero_le _, [], rfl⟩ ?_ ?_
  · rintro i g' ⟨hi, L, rfl⟩
    rw [S.withylaw09_grays_c1_eq]
    have hf := ldF ok (L := L) (cs := [.int .i64 s, .int .i64 a, .int .i64 c, .int .i64 hd, .int .i64 g, .int .i64 st]) (k := 0) rfl rfl
    have hd6 : (h.ext ((some (Blk.cells [.int .i64 s, .int .i64 a, .int .i64 c, .int .i64 hd, .int .i64 g, .int .i64 st] .rw)) :: L)).ldN 6 (.ptr h.next 0) = some (.agg [.int .i64 s, .int .i64 a, .int .i64 c, .int .i64 hd, .int .i64 g, .int .i64 st]) := by rw [H.ext_ldNk_0 ok]; rfl
    by_cases his : (i : Int) < s
    · have hb := within_bd hr (Int.natCast_nonneg i) his
      obtain ⟨p, e1, e2⟩ := (hx.mono (GExt.ext ok ((some (Blk.cells [.int .i64 s, .int .i64 a, .int .i64 c, .int .i64 hd, .int .i64 g, .int .i64 st] .rw)) :: L))).at hb.1 (by rw [hl]; exact hb.2)
      have hat := atHeader_spec hr (Int.natCast_nonneg i) his
      have hhd := header_spec s a c hd g st (i : Int)
      unfold cfgV at hat hhd
      have hw0 : (ws[(withinT s a c hd g st (i : Int) 0).toNat]?).getD 0 = wAt ws (withinT s a c hd g st (i : Int) 0) := rfl
      have hU : U64 (wAt ws (withinT s a c hd g st (i : Int) 0)) := by
        have hlt : (withinT s a c hd g st (i : Int) 0).toNat < ws.length := ar_nat hb.1 hb.2 hl
        unfold wAt
        rw [List.getElem?_eq_getElem hlt]
        exact hu _ (List.getElem_mem hlt)
      have hcu := refUnpack_spec hU
      have hstep : cntT s a c hd g st ws (i + 1) = cntT s a c hd g st ws i + (match grayOf (wAt ws (withinT s a c hd g st (i : Int) 0)) with | true => 1 | false => 0) := rfl
      have hbd := cntT_bd s a c hd g st ws i
      rw [hw0] at e2
      generalize wAt ws (withinT s a c hd g st (i : Int) 0) = w at hU hcu hstep e2
      have hi64 := ar_lt his s2
      have hwi := ar_wr hi64
      have hwc := ar_wc hbd hi64
      have q1 := ar_q1 his
      have q2 := ar_q2 his
      clear hb hbd hl
      cases hok : okT w with
      | false =>
        rw [hok] at hcu
        have hg : grayOf w = false := by simp [grayOf, hok]
        rw [hg] at hstep
        simp only [Int.add_zero] at hstep
        unfold hdr0 at hcu
        simp only [S.withylaw09_grays_c1_S, ptrAt_ptr, Nat.zero_add, hf, hd6, W_call, hat, hcu, e1, e2, Option.bind_some, asI_int, decide_true, decide_eq_true his, List.getElem?_cons_zero, List.getElem?_cons_succ, H.new_ext, H.ext_ext, H.ext_next, H.ext_stk, H.ext_ldk, ok, List.cons_append, List.length_cons, List.length_append, List.length_nil, Nat.add_assoc, Nat.reduceAdd, V.cells, List.getElem?_concat_length, Option.join_some, stB_cells, splice, List.take_zero, List.nil_append, List.drop_succ_cons, List.drop_zero, List.all_cons, List.all_nil, V.one, Bool.and_true, Bool.not_true, Bool.or_false, Nat.reduceLeDiff, reduceCtorEq, decide_false, Option.map_some, List.set_cons_succ, set_concat, List.append_nil, ldB_cells, asB_bool]
        rw [hwi, ← hstep]
        exact Ev.some (Or.inl ⟨i + 1, rfl, rfl, ⟨q1, _, rfl⟩, q2⟩)
      | true =>
        rw [hok] at hcu
        unfold hdrT at hcu
        cases hgr : decide (getT w 4 1 = 1) with
        | false =>
          have hg : grayOf w = false := by simp [grayOf, hok, hgr]
          rw [hg] at hstep
          simp only [Int.add_zero] at hstep
          rw [hgr] at hcu
          simp only [S.withylaw09_grays_c1_S, ptrAt_ptr, Nat.zero_add, hf, hd6, W_call, hat, hcu, e1, e2, Option.bind_some, asI_int, decide_true, decide_eq_true his, List.getElem?_cons_zero, List.getElem?_cons_succ, H.new_ext, H.ext_ext, H.ext_next, H.ext_stk, H.ext_ldk, ok, List.cons_append, List.length_cons, List.length_append, List.length_nil, Nat.add_assoc, Nat.reduceAdd, V.cells, List.getElem?_concat_length, Option.join_some, stB_cells, splice, List.take_zero, List.nil_append, List.drop_succ_cons, List.drop_zero, List.all_cons, List.all_nil, V.one, Bool.and_true, Bool.not_true, Bool.or_false, Nat.reduceLeDiff, reduceCtorEq, decide_false, Option.map_some, List.set_cons_succ, set_concat, List.append_nil, ldB_cells, asB_bool]
          rw [hwi, ← hstep]
          exact Ev.some (Or.inl ⟨i + 1, rfl, rfl, ⟨q1, _, rfl⟩, q2⟩)
        | true =>
          have hg : grayOf w = true := by simp [grayOf, hok, hgr]
          rw [hg] at hstep
          rw [hgr] at hcu
          simp only [S.withylaw09_grays_c1_S, ptrAt_ptr, Nat.zero_add, hf, hd6, W_call, hat, hcu, e1, e2, Option.bind_some, asI_int, decide_true, decide_eq_true his, List.getElem?_cons_zero, List.getElem?_cons_succ, H.new_ext, H.ext_ext, H.ext_next, H.ext_stk, H.ext_ldk, ok, List.cons_append, List.length_cons, List.length_append, List.length_nil, Nat.add_assoc, Nat.reduceAdd, V.cells, List.getElem?_concat_length, Option.join_some, stB_cells, splice, List.take_zero, List.nil_append, List.drop_succ_cons, List.drop_zero, List.all_cons, List.all_nil, V.one, Bool.and_true, Bool.not_true, Bool.or_false, Nat.reduceLeDiff, reduceCtorEq, decide_false, Option.map_some, List.set_cons_succ, set_concat, List.append_nil, ldB_cells, asB_bool]
          rw [hwi, hwc, ← hstep]
          exact Ev.some (Or.inl ⟨i + 1, rfl, rfl, ⟨q1, _, rfl⟩, q2⟩)
    · have := ar_eq hi his
      subst this
      simp only [S.withylaw09_grays_c1_S, ptrAt_ptr, Nat.zero_add, hf, Option.bind_some, asI_int, decide_eq_false his]
      exact Ev.some (Or.inr ⟨by simp, _, rfl⟩)
  · rintro r ⟨L, rfl⟩
    simp only
    rw [S.withylaw09_grays_c1_e0_eq]
    exact Ev.some ⟨L, rfl⟩

theorem shadeGrays_loop {s a c hd g st : Int} (hr : cfgR s a c hd g st = true) {h : H} (ok : h.ok) {x : V} {ws : List Int} (hx : RowIs h.get x ws) (hu : ∀ w ∈ ws, U64 w) (hl : (ws.length : Int) = totT s a c hd) :
    Ev ((W.loop (S.shade_Grays_c1_B W) (S.shade_Grays_c1_E x (.ptr h.next 0) (.int .i64 0) (.int .i64 s) (.int .i64 0)) (h.ext [(some (Blk.cells [.int .i64 s, .int .i64 a, .int .i64 c, .int .i64 hd, .int .i64 g, .int .i64 st] .rw))])).bind fun p1 => S.shade_Grays_K2 W p1.1 p1.2.1 p1.2.2) fun r => ∃ L, r = (.int .i64 (cntT s a c hd g st ws s.toNat), h.ext L) := by
  obtain ⟨⟨s1, s2⟩, _⟩ := cfgR_iff.mp hr
  refine loop_ev (fun i : Nat => S.shade_Grays_c1_E x (.ptr h.next 0) (.int .i64 (cntT s a c hd g st ws i)) (.int .i64 s) (.int .i64 (i : Nat))) (fun i g' => i ≤ s.toNat ∧ ∃ L, g' = h.ext ((some (Blk.cells [.int .i64 s, .int .i64 a, .int .i64 c, .int .i64 hd, .int .i64 g, .int .i64 st] .rw)) :: L)) (fun i _ => s.toNat - i) (fun r => ∃ L, r = (.exit 0, S.shade_Grays_c1_O (.int .i64 (cntT s a c hd g st ws s.toNat)), h.ext L)) 0 rfl ⟨Nat.zero_le _, [], rfl⟩ ?_ ?_
  · rintro i g' ⟨hi, L, rfl⟩
    rw [S.shade_Grays_c1_eq]
    have hf := ldF ok (L := L) (cs := [.int .i64 s, .int .i64 a, .int .i64 c, .int .i64 hd, .int .i64 g, .int .i64 st]) (k := 0) rfl rfl
    have hd6 : (h.ext ((some (Blk.cells [.int .i64 s, .int .i64 a, .int .i64 c, .int .i64 hd, .int .i64 g, .int .i64 st] .rw)) :: L)).ldN 6 (.ptr h.next 0) = some (.agg [.int .i64 s, .int .i64 a, .int .i64 c, .int .i64 hd, .int .i64 g, .int .i64 st]) := by rw [H.ext_ldNk_0 ok]; rfl
    by_cases his : (i : Int) < s
    · have hb := within_bd hr (Int.natCast_nonneg i) his
      obtain ⟨p, e1, e2⟩ := (hx.mono (GExt.ext ok ((some (Blk.cells [.int .i64 s, .int .i64 a, .int .i64 c, .int .i64 hd, .int .i64 g, .int .i64 st] .rw)) :: L))).at hb.1 (by rw [hl]; exact hb.2)
      have hat := atHeader_spec hr (Int.natCast_nonneg i) his
      have hhd := header_spec s a c hd g st (i : Int)
      unfold cfgV at hat hhd
      have hw0 : (ws[(withinT s a c hd g st (i : Int) 0).toNat]?).getD 0 = wAt ws (withinT s a c hd g st (i : Int) 0) := rfl
      have hU : U64 (wAt ws (withinT s a c hd g st (i : Int) 0)) := by
        have hlt : (withinT s a c hd g st (i : Int) 0).toNat < ws.length := ar_nat hb.1 hb.2 hl
        unfold wAt
        rw [List.getElem?_eq_getElem hlt]
        exact hu _ (List.getElem_mem hlt)
      have hcu := headUnpack_spec hU
      have hstep : cntT s a c hd g st ws (i + 1) = cntT s a c hd g st ws i + (match grayOf (wAt ws (withinT s a c hd g st (i : Int) 0)) with | true => 1 | false => 0) := rfl
      have hbd := cntT_bd s a c hd g st ws i
      rw [hw0] at e2
      generalize wAt ws (withinT s a c hd g st (i : Int) 0) = w at hU hcu hstep e2
      have hi64 := ar_lt his s2
      have hwi := ar_wr hi64
      have hwc := ar_wc hbd hi64
      have q1 := ar_q1 his
      have q2 := ar_q2 his
      clear hb hbd hl
      cases hok : okT w with
      | false =>
        rw [hok] at hcu
        have hg : grayOf w = false := by simp [grayOf, hok]
        rw [hg] at hstep
        simp only [Int.add_zero] at hstep
        unfold hdr0 at hcu
        simp only [S.shade_Grays_c1_S, ptrAt_ptr, Nat.zero_add, hf, hd6, W_call, hhd, hcu, e1, e2, Option.bind_some, asI_int, decide_true, decide_eq_true his, List.getElem?_cons_zero, List.getElem?_cons_succ, H.new_ext, H.ext_ext, H.ext_next, H.ext_stk, H.ext_ldk, ok, List.cons_append, List.length_cons, List.length_append, List.length_nil, Nat.add_assoc, Nat.reduceAdd, V.cells, List.getElem?_concat_length, Option.join_some, stB_cells, splice, List.take_zero, List.nil_append, List.drop_succ_cons, List.drop_zero, List.all_cons, List.all_nil, V.one, Bool.and_true, Bool.not_true, Bool.or_false, Nat.reduceLeDiff, reduceCtorEq, decide_false, Option.map_some, List.set_cons_succ, set_concat, List.append_nil, ldB_cells, asB_bool]
        rw [hwi, ← hstep]
        exact Ev.some (Or.inl ⟨i + 1, rfl, rfl, ⟨q1, _, rfl⟩, q2⟩)
      | true =>
        rw [hok] at hcu
        unfold hdrT at hcu
        cases hgr : decide (getT w 4 1 = 1) with
        | false =>
          have hg : grayOf w = false := by simp [grayOf, hok, hgr]
          rw [hg] at hstep
          simp only [Int.add_zero] at hstep
          rw [hgr] at hcu
          simp only [S.shade_Grays_c1_S, ptrAt_ptr, Nat.zero_add, hf, hd6, W_call, hhd, hcu, e1, e2, Option.bind_some, asI_int, decide_true, decide_eq_true his, List.getElem?_cons_zero, List.getElem?_cons_succ, H.new_ext, H.ext_ext, H.ext_next, H.ext_stk, H.ext_ldk, ok, List.cons_append, List.length_cons, List.length_append, List.length_nil, Nat.add_assoc, Nat.reduceAdd, V.cells, List.getElem?_concat_length, Option.join_some, stB_cells, splice, List.take_zero, List.nil_append, List.drop_succ_cons, List.drop_zero, List.all_cons, List.all_nil, V.one, Bool.and_true, Bool.not_true, Bool.or_false, Nat.reduceLeDiff, reduceCtorEq, decide_false, Option.map_some, List.set_cons_succ, set_concat, List.append_nil, ldB_cells, asB_bool]
          rw [hwi, ← hstep]
          exact Ev.some (Or.inl ⟨i + 1, rfl, rfl, ⟨q1, _, rfl⟩, q2⟩)
        | true =>
          have hg : grayOf w = true := by simp [grayOf, hok, hgr]
          rw [hg] at hstep
          rw [hgr] at hcu
          simp only [S.shade_Grays_c1_S, ptrAt_ptr, Nat.zero_add, hf, hd6, W_call, hhd, hcu, e1, e2, Option.bind_some, asI_int, decide_true, decide_eq_true his, List.getElem?_cons_zero, List.getElem?_cons_succ, H.new_ext, H.ext_ext, H.ext_next, H.ext_stk, H.ext_ldk, ok, List.cons_append, List.length_cons, List.length_append, List.length_nil, Nat.add_assoc, Nat.reduceAdd, V.cells, List.getElem?_concat_length, Option.join_some, stB_cells, splice, List.take_zero, List.nil_append, List.drop_succ_cons, List.drop_zero, List.all_cons, List.all_nil, V.one, Bool.and_true, Bool.not_true, Bool.or_false, Nat.reduceLeDiff, reduceCtorEq, decide_false, Option.map_some, List.set_cons_succ, set_concat, List.append_nil, ldB_cells, asB_bool]
          rw [hwi, hwc, ← hstep]
          exact Ev.some (Or.inl ⟨i + 1, rfl, rfl, ⟨q1, _, rfl⟩, q2⟩)
    · have := ar_eq hi his
      subst this
      simp only [S.shade_Grays_c1_S, ptrAt_ptr, Nat.zero_add, hf, Option.bind_some, asI_int, decide_eq_false his]
      exact Ev.some (Or.inr ⟨by simp, _, rfl⟩)
  · rintro r ⟨L, rfl⟩
    simp only
    rw [S.shade_Grays_c1_e0_eq]
    exact Ev.some ⟨L, rfl⟩

theorem grays_spec {s a c hd g st : Int} (hr : cfgR s a c hd g st = true) {h : H} (ok : h.ok) {x : V} {ws : List Int} (hx : RowIs h.get x ws) (hu : ∀ w ∈ ws, U64 w) (hl : (ws.length : Int) = totT s a c hd) :
    ∃ L, C 88 [cfgV s a c hd g st, x] h = some (.int .i64 (cntT s a c hd g st ws s.toNat), h.ext L) := by
  obtain ⟨r, e, L, rfl⟩ := grays_loop hr ok hx hu hl
  refine ⟨L, call_open (af := F.withylaw09_grays) (by kernel_rfl) rfl ?_⟩
  unfold cfgV
  rw [S.withylaw09_grays_eq]
  simp only [S.withylaw09_grays, H.new_ext]
  exact e

theorem shadeGrays_spec {s a c hd g st : Int} (hr : cfgR s a c hd g st = true) {h : H} (ok : h.ok) {x : V} {ws : List Int} (hx : RowIs h.get x ws) (hu : ∀ w ∈ ws, U64 w) (hl : (ws.length : Int) = totT s a c hd) :
    ∃ L, C 89 [cfgV s a c hd g st, x] h = some (.int .i64 (cntT s a c hd g st ws s.toNat), h.ext L) := by
  obtain ⟨r, e, L, rfl⟩ := shadeGrays_loop hr ok hx hu hl
  refine ⟨L, call_open (af := F.shade_Grays) (by kernel_rfl) rfl ?_⟩
  have hR := planRight_spec s a c hd g st
  rw [hr] at hR
  have hS := size_spec hr
  unfold cfgV at hR hS ⊢
  rw [S.shade_Grays_eq]
  simp only [S.shade_Grays, H.new_ext, H.ext_ext, H.ext_next, H.ext_ldNk_0, H.ext_ldNk, H.ext_ldk_0, H.ext_ldk, H.ext_stk_0, H.ext_stk, ok, ldB_cells, ldNB_cells, stB_cells, V.one, V.cells, List.length_cons, List.length_nil, List.length_append, List.length_singleton, Nat.zero_add, Nat.add_zero, Nat.reduceAdd, Nat.reduceLeDiff, Nat.reduceLT, Nat.reduceMul, Nat.reduceSub, Int.reduceEq, Int.reduceLT, Int.reduceLE, if_true, if_false, or_self, or_false, false_or, or_true, true_or, Nat.zero_lt_one, Nat.lt_add_one, Nat.zero_lt_succ, Nat.add_assoc, decide_true, decide_false, List.getElem?_cons_zero, List.getElem?_cons_succ, List.cons_append, List.nil_append, List.append_assoc, List.drop_zero, List.drop_succ_cons, List.take_succ_cons, List.take_zero, List.set_cons_zero, List.set_cons_succ, splice, List.all_cons, List.all_nil, Bool.and_true, Bool.not_true, Bool.not_false, Bool.or_false, Option.bind_some, Option.map_some, Option.join_some, ckB_some, V.beq, V.beqs, Nat.beq_refl, BEq.rfl, Bool.and_self, fill, repl, opd, boxc, finV, resAllV, resOfV, result, eqV, aggCells, eqOffs, eqCell, asI_int, asB_bool, ptrAt_ptr, reduceCtorEq, W_call, hR, hS, hx.len, hl]
  exact e

/-- Of a config that isn't right, or other words, there is none. -/
theorem shadeGrays_none {s a c hd g st : Int} {h : H} (ok : h.ok) {x : V} {ws : List Int} (hx : RowIs h.get x ws) (hn : cfgR s a c hd g st = false ∨ (ws.length : Int) ≠ totT s a c hd) :
    ∃ L, C 89 [cfgV s a c hd g st, x] h = some (.int .i64 0, h.ext L) := by
  refine ⟨[(some (Blk.cells [.int .i64 s, .int .i64 a, .int .i64 c, .int .i64 hd, .int .i64 g, .int .i64 st] .rw))], call_open (af := F.shade_Grays) (by kernel_rfl) rfl ?_⟩
  have hR := planRight_spec s a c hd g st
  cases hr : cfgR s a c hd g st with
  | false =>
    rw [hr] at hR
    unfold cfgV at hR ⊢
    rw [S.shade_Grays_eq]
    simp only [S.shade_Grays, H.new_ext, H.ext_ext, H.ext_next, H.ext_ldNk_0, H.ext_ldNk, H.ext_ldk_0, H.ext_ldk, H.ext_stk_0, H.ext_stk, ok, ldB_cells, ldNB_cells, stB_cells, V.one, V.cells, List.length_cons, List.length_nil, List.length_append, List.length_singleton, Nat.zero_add, Nat.add_zero, Nat.reduceAdd, Nat.reduceLeDiff, Nat.reduceLT, Nat.reduceMul, Nat.reduceSub, Int.reduceEq, Int.reduceLT, Int.reduceLE, if_true, if_false, or_self, or_false, false_or, or_true, true_or, Nat.zero_lt_one, Nat.lt_add_one, Nat.zero_lt_succ, Nat.add_assoc, decide_true, decide_false, List.getElem?_cons_zero, List.getElem?_cons_succ, List.cons_append, List.nil_append, List.append_assoc, List.drop_zero, List.drop_succ_cons, List.take_succ_cons, List.take_zero, List.set_cons_zero, List.set_cons_succ, splice, List.all_cons, List.all_nil, Bool.and_true, Bool.not_true, Bool.not_false, Bool.or_false, Option.bind_some, Option.map_some, Option.join_some, ckB_some, V.beq, V.beqs, Nat.beq_refl, BEq.rfl, Bool.and_self, fill, repl, opd, boxc, finV, resAllV, resOfV, result, eqV, aggCells, eqOffs, eqCell, asI_int, asB_bool, ptrAt_ptr, reduceCtorEq, W_call, hR]
  | true =>
    rw [hr] at hR hn
    have hn : ¬ ((ws.length : Nat) : Int) = totT s a c hd := by
      rcases hn with q | q
      · cases q
      · exact q
    have hS := size_spec hr
    unfold cfgV at hR hS ⊢
    rw [S.shade_Grays_eq]
    simp only [S.shade_Grays, H.new_ext, H.ext_ext, H.ext_next, H.ext_ldNk_0, H.ext_ldNk, H.ext_ldk_0, H.ext_ldk, H.ext_stk_0, H.ext_stk, ok, ldB_cells, ldNB_cells, stB_cells, V.one, V.cells, List.length_cons, List.length_nil, List.length_append, List.length_singleton, Nat.zero_add, Nat.add_zero, Nat.reduceAdd, Nat.reduceLeDiff, Nat.reduceLT, Nat.reduceMul, Nat.reduceSub, Int.reduceEq, Int.reduceLT, Int.reduceLE, if_true, if_false, or_self, or_false, false_or, or_true, true_or, Nat.zero_lt_one, Nat.lt_add_one, Nat.zero_lt_succ, Nat.add_assoc, decide_true, decide_false, List.getElem?_cons_zero, List.getElem?_cons_succ, List.cons_append, List.nil_append, List.append_assoc, List.drop_zero, List.drop_succ_cons, List.take_succ_cons, List.take_zero, List.set_cons_zero, List.set_cons_succ, splice, List.all_cons, List.all_nil, Bool.and_true, Bool.not_true, Bool.not_false, Bool.or_false, Option.bind_some, Option.map_some, Option.join_some, ckB_some, V.beq, V.beqs, Nat.beq_refl, BEq.rfl, Bool.and_self, fill, repl, opd, boxc, finV, resAllV, resOfV, result, eqV, aggCells, eqOffs, eqCell, asI_int, asB_bool, ptrAt_ptr, reduceCtorEq, W_call, hR, hS, hx.len, decide_eq_false hn]
end Wm
end

section
/- The words of a memory in which nothing was done: withyref06.Memory. -/
namespace Wm

theorem H.put_put (h : H) (b : Nat) (x y : Option Blk) : (h.put b x).put b y = h.put b y := by
  simp only [H.put, T.put, T.put'_put' _ _ _ _ _ _ (Nat.lt_succ_self _) (Nat.lt_succ_self _)]

def WordP (e : List V) : Prop := ∃ (nm : ByteArray) (who k : Int), e = [.str nm, .int .i64 who, .int .i64 k] ∧ 0 ≤ who ∧ who ≤ 64
def elemsW (S room c hd : Nat) : List (List V) := aheadE c hd ++ (List.range S).flatMap (slotE room)

theorem elemsW_flatten (S room c hd : Nat) : (elemsW S room c hd).flatten = wordsW S room c hd := by
  have h3 : ((List.range S).flatMap (slotE room)).flatten = (List.range S).flatMap (slotW room) := by
    rw [flatten_flatMap']
    exact congrArg (fun f => (List.range S).flatMap f) (funext fun q => slotE_flatten room q)
  unfold elemsW wordsW
  rw [List.flatten_append, aheadE_flatten, h3]

theorem wordP {nm : ByteArray} {q : Nat} {k : Int} (h : q ≤ 64) : WordP [.str nm, .int .i64 (q : Int), .int .i64 k] := ⟨nm, q, k, rfl, Int.natCast_nonneg q, Int.ofNat_le.mpr h⟩

theorem elemsW_ok (S room c hd : Nat) (hS : S ≤ 64) (hc : c ≤ 8) : ∀ e ∈ elemsW S room c hd, WordP e := by
  intro e he
  unfold elemsW aheadE at he
  simp only [List.mem_append, List.mem_flatMap, List.mem_map, List.mem_range] at he
  rcases he with (((he | ⟨q, hq, rfl⟩) | ⟨q, hq, i, _, rfl⟩) | ⟨q, hq, he⟩) | ⟨q, hq, he⟩
  · simp only [oneE, List.mem_cons, List.not_mem_nil, or_false] at he
    rcases he with rfl | rfl | rfl | rfl <;> exact wordP (q := 0) (Nat.zero_le _)
  · exact wordP (by omega)
  · exact wordP (by omega)
  · simp only [viewE, List.mem_cons, List.not_mem_nil, or_false] at he
    rcases he with rfl | rfl <;> exact wordP (by omega)
  · simp only [slotE, List.mem_append, List.mem_cons, List.not_mem_nil, or_false, List.mem_map, List.mem_range] at he
    rcases he with (rfl | rfl) | ⟨i, _, rfl⟩ <;> exact wordP (by omega)

theorem elem_at {S room c hd n i : Nat} (hS : S ≤ 64) (hc : c ≤ 8) (hl : (wordsW S room c hd).length = n * 3) (hi : i < n) :
    ∃ (nm : ByteArray) (who : Int), (wordsW S room c hd)[i * 3]? = some (.str nm) ∧ (wordsW S room c hd)[i * 3 + 1]? = some (.int .i64 who) ∧ 0 ≤ who ∧ who ≤ 64 := by
  have hp := elemsW_ok S room c hd hS hc
  have h3 : ∀ x ∈ elemsW S room c hd, x.length = 3 := fun x hx => by
    obtain ⟨_, _, _, rfl, _⟩ := hp x hx; rfl
  have hfl := flat_length h3
  rw [elemsW_flatten, hl] at hfl
  have hlt : i < (elemsW S room c hd).length := by omega
  have hpart := flat_part h3 i _ (List.getElem?_eq_getElem hlt)
  rw [elemsW_flatten] at hpart
  obtain ⟨nm, who, k, he, q1, q2⟩ := hp _ (List.getElem_mem hlt)
  rw [he] at hpart
  refine ⟨nm, who, ?_, ?_, q1, q2⟩
  · have := congrArg (fun l => l[0]?) hpart
    simpa using this
  · have := congrArg (fun l => l[1]?) hpart
    simpa using this

theorem sizeW_tot {s a c hd g st : Int} (hr : cfgR s a c hd g st = true) : ((sizeW s.toNat (if a < 3 then 3 else a).toNat c.toNat hd.toNat : Nat) : Int) = totT s a c hd := by
  obtain ⟨⟨s1, s2⟩, ⟨a1, a2⟩, ⟨c1, c2⟩, ⟨d1, d2⟩, _⟩ := cfgR_iff.mp hr
  have hroom : ((if a < 3 then 3 else a).toNat : Int) = max a 3 := by split <;> omega
  unfold sizeW totT slotsT roomT
  generalize (if a < 3 then 3 else a).toNat = R at hroom ⊢
  have m1 : ((c.toNat * hd.toNat : Nat) : Int) = c * hd := by rw [Int.natCast_mul, Int.toNat_of_nonneg (by omega), Int.toNat_of_nonneg (by omega)]
  have m2 : ((s.toNat * (2 + R) : Nat) : Int) = s * (2 + max a 3) := by
    rw [Int.natCast_mul, Int.toNat_of_nonneg (by omega)]
    congr 1
    omega
  have m3 : c * (1 + hd + 2) = c + c * hd + c * 2 := by rw [Int.mul_add, Int.mul_add, Int.mul_one]
  rw [m3, ← m1, ← m2]
  generalize c.toNat * hd.toNat = P
  generalize s.toNat * (2 + R) = Q
  omega

theorem ws_set {ws : List Int} {i : Nat} {v : Int} (hu : ∀ w ∈ ws, U64 w) (hv : U64 v) : ∀ w ∈ ws.set i v, U64 w := fun w hw => by
  rcases List.mem_or_eq_of_mem_set hw with q | rfl
  · exact hu w q
  · exact hv

theorem row_st {g1 : H} {b n i : Nat} {ws : List Int} {v : Int} (hl : ws.length = n) (hi : i < n) : (g1.put b (some (.cells (ws.map (.int .u64)) .rw))).st 1 (.ptr b i) (.int .u64 v) = some (g1.put b (some (.cells ((ws.set i v).map (.int .u64)) .rw))) := by
  rw [st1_get (get_put_self _ _ _) (by decide) rfl (by rw [List.length_map, hl]; exact hi), H.put_put, List.map_set]

theorem u64_small {v : Int} (h0 : 0 ≤ v) (h1 : v ≤ 1000) : U64 v := ⟨h0, by omega⟩
theorem ar_link {who : Int} (h0 : 0 ≤ who) (h1 : who ≤ 64) : wr .u64 (wr .i64 (who + 2)) = who + 2 := by rw [wr64 (by omega) (by omega), wru64 (by omega) (by omega)]
theorem ar_w1 {i n : Nat} (h : i < n) (hn : n ≤ 10000) : wr .i64 ((i : Int) + 1) = ((i + 1 : Nat) : Int) := by rw [wr64 (by omega) (by omega)]; rfl
theorem repl_map (n : Nat) : repl [V.int .u64 0] n = (List.replicate n (0 : Int)).map (.int .u64) := by
  induction n with
  | zero => rfl
  | succ n ih => simp only [repl, ih, List.replicate_succ, List.map_cons, List.cons_append, List.nil_append]

theorem memory_spec {s a c hd g st : Int} (hr : cfgR s a c hd g st = true) {h : H} (ok : h.ok) : ∃ (g' : H) (b : Nat) (ws : List Int), C 86 [cfgV s a c hd g st] h = some (.sl b 0 ws.length (.ex ws.length), g') ∧ Old h g' ∧ g'.ok ∧ h.next ≤ b ∧ b < g'.next ∧ g'.get b = some (.cells (ws.map (.int .u64)) .rw) ∧ (ws.length : Int) = totT s a c hd ∧ ∀ w ∈ ws, U64 w := by
  obtain ⟨⟨s1, s2⟩, ⟨a1, a2⟩, ⟨c1, c2⟩, ⟨d1, d2⟩, _⟩ := cfgR_iff.mp hr
  have hS : s.toNat ≤ 64 := by omega
  have hc : c.toNat ≤ 8 := by omega
  obtain ⟨xw, Lw, hW, hA⟩ := words_spec hr (ok.ext [(some (Blk.cells [.int .i64 s, .int .i64 a, .int .i64 c, .int .i64 hd, .int .i64 g, .int .i64 st] .rw))])
  have hn : sizeW s.toNat (if a < 3 then 3 else a).toNat c.toNat hd.toNat ≤ 10000 ∧ 4 ≤ sizeW s.toNat (if a < 3 then 3 else a).toNat c.toNat hd.toNat := by
    have hroom2 : (if a < 3 then 3 else a).toNat ≤ 8 := by split <;> omega
    unfold sizeW
    generalize (if a < 3 then 3 else a).toNat = R at hroom2 ⊢
    have b1 : c.toNat * hd.toNat ≤ 8 * 16 := Nat.mul_le_mul hc (by omega)
    have b2 : s.toNat * (2 + R) ≤ 64 * 10 := Nat.mul_le_mul hS (by omega)
    omega
  have htot := sizeW_tot hr
  have hlen := hA.len
  have hat := fun i hi => elem_at (i := i) hS hc hA.1 hi
  obtain ⟨bw, kw, capw, hxw, hbw⟩ : ∃ bw kw capw, xw = .sl bw 0 (sizeW s.toNat (if a < 3 then 3 else a).toNat c.toNat hd.toNat) capw ∧ ((h.ext [(some (Blk.cells [.int .i64 s, .int .i64 a, .int .i64 c, .int .i64 hd, .int .i64 g, .int .i64 st] .rw))]).ext ((some (Blk.cells [.int .i64 s, .int .i64 a, .int .i64 c, .int .i64 hd, .int .i64 g, .int .i64 st] .rw)) :: Lw)).get bw = some (.cells (wordsW s.toNat (if a < 3 then 3 else a).toNat c.toNat hd.toNat) kw) := by
    obtain ⟨_, _, j, ⟨e, hj⟩ | ⟨e, hj⟩⟩ := hA
    · exact ⟨_, _, _, e, by rw [H.ext_get' (ok.ext _), List.getElem?_cons_succ, hj]; rfl⟩
    · exact ⟨_, _, _, e, by rw [H.ext_get' (ok.ext _), List.getElem?_cons_succ, hj]; rfl⟩
  have hfr : ((h.ext [(some (Blk.cells [.int .i64 s, .int .i64 a, .int .i64 c, .int .i64 hd, .int .i64 g, .int .i64 st] .rw))]).ext ((some (Blk.cells [.int .i64 s, .int .i64 a, .int .i64 c, .int .i64 hd, .int .i64 g, .int .i64 st] .rw)) :: Lw)).get h.next = (some (Blk.cells [.int .i64 s, .int .i64 a, .int .i64 c, .int .i64 hd, .int .i64 g, .int .i64 st] .rw)) := by
    rw [H.ext_ext]
    have := H.ext_get' (h := h) (l := [(some (Blk.cells [.int .i64 s, .int .i64 a, .int .i64 c, .int .i64 hd, .int .i64 g, .int .i64 st] .rw))] ++ (some (Blk.cells [.int .i64 s, .int .i64 a, .int .i64 c, .int .i64 hd, .int .i64 g, .int .i64 st] .rw)) :: Lw) (i := 0) ok
    rw [Nat.add_zero] at this
    rw [this]; rfl
  have ok0 := (ok.ext [(some (Blk.cells [.int .i64 s, .int .i64 a, .int .i64 c, .int .i64 hd, .int .i64 g, .int .i64 st] .rw))]).ext ((some (Blk.cells [.int .i64 s, .int .i64 a, .int .i64 c, .int .i64 hd, .int .i64 g, .int .i64 st] .rw)) :: Lw)
  have old0 : Old h ((h.ext [(some (Blk.cells [.int .i64 s, .int .i64 a, .int .i64 c, .int .i64 hd, .int .i64 g, .int .i64 st] .rw))]).ext ((some (Blk.cells [.int .i64 s, .int .i64 a, .int .i64 c, .int .i64 hd, .int .i64 g, .int .i64 st] .rw)) :: Lw)) := by
    rw [H.ext_ext]
    exact ⟨by rw [H.ext_next]; exact Nat.le_add_right _ _, fun q hq => H.ext_old hq⟩
  generalize hg0 : (h.ext [(some (Blk.cells [.int .i64 s, .int .i64 a, .int .i64 c, .int .i64 hd, .int .i64 g, .int .i64 st] .rw))]).ext ((some (Blk.cells [.int .i64 s, .int .i64 a, .int .i64 c, .int .i64 hd, .int .i64 g, .int .i64 st] .rw)) :: Lw) = g0 at hW hbw ok0 old0 hfr
  generalize hnn : sizeW s.toNat (if a < 3 then 3 else a).toNat c.toNat hd.toNat = n at *
  generalize wordsW s.toNat (if a < 3 then 3 else a).toNat c.toNat hd.toNat = l at *
  have hbwlt := ok0.lt hbw
  have hfrlt := ok0.lt hfr
  -- the loop
  have hloop : ∀ ws : List Int, ws.length = n → (∀ w ∈ ws, U64 w) → Ev ((W.loop (S.withyref06_Memory_c1_B W) (S.withyref06_Memory_c1_E (.ptr h.next 0) (.sl bw 0 n capw) (.sl g0.next 0 n (.ex n)) (.int .i64 0)) ((g0.new (.cells [] .rw)).put g0.next (some (.cells (ws.map (.int .u64)) .rw)))).bind fun p9 => S.withyref06_Memory_K2 W p9.1 p9.2.1 p9.2.2)
      fun r => ∃ ws : List Int, r = (.sl g0.next 0 n (.ex n), (g0.new (.cells [] .rw)).put g0.next (some (.cells (ws.map (.int .u64)) .rw))) ∧ ws.length = n ∧ ∀ w ∈ ws, U64 w := by
    intro ws0 hws0 hu0
    have hgw : ∀ X, ((g0.new (.cells [] .rw)).put g0.next X).get bw = some (.cells l kw) := fun X => by rw [get_put_ne (Nat.ne_of_lt hbwlt), get_new_ne (Nat.ne_of_lt hbwlt)]; exact hbw
    have hgf : ∀ X, ((g0.new (.cells [] .rw)).put g0.next X).get h.next = (some (Blk.cells [.int .i64 s, .int .i64 a, .int .i64 c, .int .i64 hd, .int .i64 g, .int .i64 st] .rw)) := fun X => by rw [get_put_ne (Nat.ne_of_lt hfrlt), get_new_ne (Nat.ne_of_lt hfrlt)]; exact hfr
    refine loop_ev (fun i : Nat => S.withyref06_Memory_c1_E (.ptr h.next 0) (.sl bw 0 n capw) (.sl g0.next 0 n (.ex n)) (.int .i64 (i : Nat))) (fun i g' => i ≤ n ∧ ∃ ws : List Int, g' = (g0.new (.cells [] .rw)).put g0.next (some (.cells (ws.map (.int .u64)) .rw)) ∧ ws.length = n ∧ ∀ w ∈ ws, U64 w) (fun i _ => n - i)
      (fun r => ∃ ws : List Int, r = (.exit 0, S.withyref06_Memory_c1_O (.sl g0.next 0 n (.ex n)), (g0.new (.cells [] .rw)).put g0.next (some (.cells (ws.map (.int .u64)) .rw))) ∧ ws.length = n ∧ ∀ w ∈ ws, U64 w) 0 rfl ⟨Nat.zero_le _, ws0, rfl, hws0, hu0⟩ ?_ ?_
    · rintro i g' ⟨hi, ws, rfl, hws, hu⟩
      rw [S.withyref06_Memory_c1_eq]
      by_cases hin : i < n
      · have hini : (i : Int) < ((n : Nat) : Int) := Int.ofNat_lt.mpr hin
        obtain ⟨nm, who, hn1, hn2, q1, q2⟩ := hat i hin
        have hw1 := ar_w1 hin hn.1
        have e1 : indexAV 3 (.sl bw 0 n capw) (.int .i64 (i : Int)) = some (.ptr bw (i * 3)) := by rw [indexAV_in (Int.natCast_nonneg i) hini]; simp
        have e2 : indexAV 1 (.sl g0.next 0 n (.ex n)) (.int .i64 (i : Int)) = some (.ptr g0.next i) := by rw [indexAV_in (Int.natCast_nonneg i) hini]; simp
        have d1 := ld1_get (hgw (some (.cells (ws.map (.int .u64)) .rw))) hn1 rfl
        have d2 := ld1_get (hgw (some (.cells (ws.map (.int .u64)) .rw))) hn2 rfl
        have d3 : ((g0.new (.cells [] .rw)).put g0.next (some (.cells (ws.map (.int .u64)) .rw))).ld1 (.ptr h.next 0) = some (.int .i64 s) := ld1_get (hgf _) rfl rfl
        have hst := row_st (g1 := g0.new (.cells [] .rw)) (b := g0.next) (v := who + 2) hws hin
        have hlk := ar_link q1 q2
        have hdec : n - (i + 1) < n - i := Nat.sub_lt_sub_left hin (Nat.lt_succ_self i)
        have hU : U64 (who + 2) := u64_small (by clear hlk; omega) (by clear hlk; omega)
        simp only [S.withyref06_Memory_c1_S, lenSl, Option.bind_some, decide_eq_true hini, e1, ptrAt_ptr, Nat.add_zero, d1, eqV]
        cases hq : (nm.toList == ByteArray.toList ⟨⟨[108, 105, 110, 107]⟩⟩) with
        | false =>
          simp only [hw1]
          exact Ev.some (Or.inl ⟨i + 1, rfl, rfl, ⟨hin, ws, rfl, hws, hu⟩, hdec⟩)
        | true =>
          simp only [d2, Option.bind_some, asI_int, Nat.zero_add, d3]
          cases hq2 : decide (wr .i64 (who + 1) < s) with
          | false =>
            simp only [hw1]
            exact Ev.some (Or.inl ⟨i + 1, rfl, rfl, ⟨hin, ws, rfl, hws, hu⟩, hdec⟩)
          | true =>
            simp only [e2, Option.bind_some, hlk, hst, hw1]
            exact Ev.some (Or.inl ⟨i + 1, rfl, rfl, ⟨hin, ws.set i (who + 2), rfl, by rw [List.length_set]; exact hws, ws_set hu hU⟩, hdec⟩)
      · have hini : ¬ (i : Int) < ((n : Nat) : Int) := fun q => hin (Int.ofNat_lt.mp q)
        simp only [S.withyref06_Memory_c1_S, lenSl, Option.bind_some, decide_eq_false hini]
        exact Ev.some (Or.inr ⟨by simp, ws, rfl, hws, hu⟩)
    · rintro r ⟨ws, rfl, hws, hu⟩
      simp only
      rw [S.withyref06_Memory_c1_e0_eq]
      exact Ev.some ⟨ws, rfl, hws, hu⟩
  have hpn : ∀ X, g0.new X = (g0.new (.cells [] .rw)).put g0.next (some X) := fun X => (H.add_put (h := g0) (x := some (.cells [] .rw)) (y := some X)).symm
  have hz : (List.replicate n (0 : Int)).length = n := List.length_replicate
  have hz2 : ((List.replicate n (0 : Int)).set 0 1).length = n := by rw [List.length_set]; exact hz
  have hz3 : (((List.replicate n (0 : Int)).set 0 1).set 3 1).length = n := by rw [List.length_set]; exact hz2
  have hu0 : ∀ w ∈ List.replicate n (0 : Int), U64 w := fun w hw => by
    rw [List.eq_of_mem_replicate hw]; exact u64_small (Int.le_refl _) (by decide)
  have h1u : U64 1 := u64_small (by decide) (by decide)
  obtain ⟨r, er, ws, rfl, hws, hu⟩ := hloop _ hz3 (ws_set (ws_set hu0 h1u) h1u)
  have hmk : g0.mkSl 1 8 [V.int .u64 0] ((n : Nat) : Int) ((n : Nat) : Int) = some (.sl g0.next 0 n (.ex n), g0.new (.cells (repl [V.int .u64 0] n) .rw)) := by
    have := mkSl_ok (h := g0) (e := 1) (b := 8) (z := [V.int .u64 0]) (l := (n : Int)) (c := (n : Int)) (Int.natCast_nonneg n) (Int.le_refl _) (by clear hat hW er; omega) (by clear hat hW er; omega) rfl (by decide)
    rw [Int.toNat_natCast] at this
    exact this
  have x0 : indexAV 1 (.sl g0.next 0 n (.ex n)) (.int .i64 0) = some (.ptr g0.next 0) := by rw [indexAV_in (Int.le_refl _) (by clear hat hW er; omega)]; rfl
  have x3 : indexAV 1 (.sl g0.next 0 n (.ex n)) (.int .i64 3) = some (.ptr g0.next 3) := by rw [indexAV_in (by decide) (by clear hat hW er; omega)]; rfl
  have s0 := row_st (g1 := g0.new (.cells [] .rw)) (b := g0.next) (i := 0) (v := 1) hz (by clear hat hW er; omega)
  have s3 := row_st (g1 := g0.new (.cells [] .rw)) (b := g0.next) (i := 3) (v := 1) hz2 (by clear hat hW er; omega)
  refine ⟨(g0.new (.cells [] .rw)).put g0.next (some (.cells (ws.map (.int .u64)) .rw)), g0.next, ws, ?_, (old0.new _).put old0.1 _, (ok0.new _).put (Nat.lt_succ_self _) _, old0.1, Nat.lt_succ_self _, get_put_self _ _ _, by rw [hws]; exact htot, hu⟩
  rw [hws]
  refine call_open (af := F.withyref06_Memory) (by kernel_rfl) rfl ?_
  have hd6 : (h.ext [(some (Blk.cells [.int .i64 s, .int .i64 a, .int .i64 c, .int .i64 hd, .int .i64 g, .int .i64 st] .rw))]).ldN 6 (.ptr h.next 0) = some (.agg [.int .i64 s, .int .i64 a, .int .i64 c, .int .i64 hd, .int .i64 g, .int .i64 st]) := by rw [H.ext_ldNk_0 ok]; rfl
  unfold cfgV at hW ⊢
  rw [S.withyref06_Memory_eq]
  simp only [S.withyref06_Memory, H.new_ext, hd6, Option.bind_some, W_call, hW, hxw, lenSl]
  rw [hmk]
  simp only [Option.bind_some, x0]
  rw [repl_map, hpn, s0]
  simp only [Option.bind_some, x3]
  rw [s3]
  simp only [Option.bind_some]
  exact er
end Wm
end

section
/- Words of a memory by what they are: all of a config, in their order, and where each stands. -/
namespace Wm

inductive Wd
  | clock | epoch | grays | top
  | pin (k : Nat)
  | entry (k i : Nat)
  | view (k : Nat)
  | start (k : Nat)
  | header (s : Nat)
  | link (s : Nat)
  | body (s i : Nat)
  deriving DecidableEq

def Cfg.S (k : Cfg) : Nat := k.s.toNat
def Cfg.room (k : Cfg) : Nat := (if k.a < 3 then 3 else k.a).toNat
def Cfg.C (k : Cfg) : Nat := k.c.toNat
def Cfg.H (k : Cfg) : Nat := k.hd.toNat
def Cfg.base (k : Cfg) : Nat := 4 + k.C + k.C * k.H + k.C * 2
def Cfg.size (k : Cfg) : Nat := k.base + k.S * (2 + k.room)

def Wd.ok (k : Cfg) : Wd → Prop
  | .clock | .epoch | .grays | .top => True
  | .pin q | .view q | .start q => q < k.C
  | .entry q i => q < k.C ∧ i < k.H
  | .header s | .link s => s < k.S
  | .body s i => s < k.S ∧ i < k.room
instance (k : Cfg) (l : Wd) : Decidable (l.ok k) := by cases l <;> (unfold Wd.ok; infer_instance)

def Wd.pos (k : Cfg) : Wd → Nat
  | .clock => 0
  | .epoch => 1
  | .grays => 2
  | .top => 3
  | .pin q => 4 + q
  | .entry q i => 4 + k.C + q * k.H + i
  | .view q => 4 + k.C + k.C * k.H + q * 2
  | .start q => 4 + k.C + k.C * k.H + q * 2 + 1
  | .header s => k.base + s * (2 + k.room)
  | .link s => k.base + s * (2 + k.room) + 1
  | .body s i => k.base + s * (2 + k.room) + 2 + i

def Wd.name : Wd → ByteArray
  | .clock => ⟨⟨[99, 108, 111, 99, 107]⟩⟩
  | .epoch => ⟨⟨[101, 112, 111, 99, 104]⟩⟩
  | .grays => ⟨⟨[103, 114, 97, 121, 115]⟩⟩
  | .top => ⟨⟨[116, 111, 112]⟩⟩
  | .pin _ => ⟨⟨[112, 105, 110]⟩⟩
  | .entry _ _ => ⟨⟨[101, 110, 116, 114, 121]⟩⟩
  | .view _ => ⟨⟨[118, 105, 101, 119]⟩⟩
  | .start _ => ⟨⟨[115, 116, 97, 114, 116]⟩⟩
  | .header _ => ⟨⟨[104, 101, 97, 100, 101, 114]⟩⟩
  | .link _ => ⟨⟨[108, 105, 110, 107]⟩⟩
  | .body _ _ => ⟨⟨[98, 111, 100, 121]⟩⟩
def Wd.who : Wd → Nat
  | .pin q | .view q | .start q | .entry q _ | .header q | .link q | .body q _ => q
  | _ => 0
def Wd.i : Wd → Nat
  | .entry _ i | .body _ i => i
  | _ => 0
def Wd.cells (l : Wd) : List V := [.str l.name, .int .i64 l.who, .int .i64 l.i]

def slotL (room q : Nat) : List Wd := .header q :: .link q :: (List.range room).map (.body q)
def Cfg.locs (k : Cfg) : List Wd :=
  [.clock, .epoch, .grays, .top] ++ (List.range k.C).map .pin ++ (List.range k.C).flatMap (fun q => (List.range k.H).map (.entry q)) ++ (List.range k.C).flatMap (fun q => [.view q, .start q]) ++ (List.range k.S).flatMap (slotL k.room)

theorem mem_locs {k : Cfg} {l : Wd} : l ∈ k.locs ↔ l.ok k := by
  unfold Cfg.locs slotL
  simp only [List.mem_append, List.mem_cons, List.not_mem_nil, or_false, List.mem_map, List.mem_range, List.mem_flatMap]
  cases l <;> simp [Wd.ok]

theorem range_mul (b m : Nat) : ∀ n, (List.range n).flatMap (fun q => (List.range m).map fun i => b + q * m + i) = (List.range (n * m)).map (b + ·)
  | 0 => by simp
  | n + 1 => by
    rw [List.range_succ, List.flatMap_append, range_mul b m n, List.flatMap_cons, List.flatMap_nil, List.append_nil, Nat.succ_mul, List.range_add, List.map_append, List.map_map]
    congr 1
    apply List.map_congr_left
    intro i _
    simp only [Function.comp]; omega

theorem map_pos (k : Cfg) : k.locs.map (Wd.pos k) = List.range k.size := by
  have e1 : ((List.range k.C).map Wd.pin).map (Wd.pos k) = (List.range k.C).map (4 + ·) := by rw [List.map_map]; rfl
  have e2 : ((List.range k.C).flatMap (fun q => (List.range k.H).map (Wd.entry q))).map (Wd.pos k) = (List.range (k.C * k.H)).map (4 + k.C + ·) := by
    rw [← range_mul, List.map_flatMap]
    congr 1; funext q; rw [List.map_map]; rfl
  have e3 : ((List.range k.C).flatMap (fun q => [Wd.view q, Wd.start q])).map (Wd.pos k) = (List.range (k.C * 2)).map (4 + k.C + k.C * k.H + ·) := by
    rw [← range_mul, List.map_flatMap]
    congr 1
  have e4 : ((List.range k.S).flatMap (slotL k.room)).map (Wd.pos k) = (List.range (k.S * (2 + k.room))).map (k.base + ·) := by
    rw [← range_mul, List.map_flatMap]
    congr 1; funext q
    unfold slotL
    rw [Nat.add_comm 2 k.room, List.range_succ_eq_map, List.range_succ_eq_map]
    simp only [List.map_cons, List.map_map, Wd.pos, Nat.add_zero]
    rw [Nat.add_comm 2 k.room]
    congr 2
    apply List.map_congr_left
    intro i _
    simp only [Function.comp, Wd.pos]
    rw [Nat.add_comm 2 k.room]; omega
  unfold Cfg.locs
  rw [List.map_append, List.map_append, List.map_append, List.map_append, e1, e2, e3, e4]
  unfold Cfg.size Cfg.base
  rw [List.range_add, List.range_add (n := 4 + k.C + k.C * k.H), List.range_add (n := 4 + k.C), List.range_add (n := 4)]
  rfl

theorem locs_length (k : Cfg) : k.locs.length = k.size := by
  have := congrArg List.length (map_pos k)
  simpa using this

theorem locs_at {k : Cfg} {i : Nat} {l : Wd} (h : k.locs[i]? = some l) : l.pos k = i := by
  have h1 : (k.locs.map (Wd.pos k))[i]? = some (l.pos k) := by rw [List.getElem?_map, h]; rfl
  rw [map_pos] at h1
  obtain ⟨h2, h3⟩ := List.getElem?_eq_some_iff.mp h1
  rw [← h3, List.getElem_range]

theorem at_locs {k : Cfg} {l : Wd} (h : l.ok k) : k.locs[l.pos k]? = some l := by
  obtain ⟨i, hi, he⟩ := List.mem_iff_getElem.mp (mem_locs.mpr h)
  have : k.locs[i]? = some l := by rw [List.getElem?_eq_getElem hi, he]
  rw [locs_at this]; exact this

theorem pos_lt {k : Cfg} {l : Wd} (h : l.ok k) : l.pos k < k.size := by
  rw [← locs_length]
  exact lt_of_get (at_locs h)

theorem pos_inj {k : Cfg} {l l' : Wd} (h : l.ok k) (h' : l'.ok k) (e : l.pos k = l'.pos k) : l = l' := by
  have h1 := at_locs h
  have h2 := at_locs h'
  rw [e, h2] at h1; cases h1; rfl

theorem pos_sur {k : Cfg} {i : Nat} (h : i < k.size) : ∃ l : Wd, l.ok k ∧ l.pos k = i := by
  rw [← locs_length] at h
  have h1 : k.locs[i]? = some k.locs[i] := List.getElem?_eq_getElem h
  exact ⟨_, mem_locs.mp (List.mem_of_getElem? h1), locs_at h1⟩

/-! ### As the references' lists -/
theorem locs_elems (k : Cfg) : k.locs.map Wd.cells = elemsW k.S k.room k.C k.H := by
  unfold Cfg.locs elemsW aheadE
  rw [List.map_append, List.map_append, List.map_append, List.map_append, List.map_map, List.map_flatMap, List.map_flatMap, List.map_flatMap]
  congr 1
  · congr 1
    · congr 1
      congr 1; funext q; rw [List.map_map]; rfl
  · congr 1; funext q
    unfold slotL slotE
    rw [List.map_cons, List.map_cons, List.map_map]; rfl

theorem eqW_self (l : Wd) : eqV wordEq (.agg l.cells) (.agg l.cells) = some true := by
  unfold Wd.cells
  exact wordEq_self _ _ _

def Wd.tag : Wd → Nat
  | .clock => 0 | .epoch => 1 | .grays => 2 | .top => 3 | .pin _ => 4 | .entry _ _ => 5 | .view _ => 6 | .start _ => 7 | .header _ => 8 | .link _ => 9 | .body _ _ => 10
def tagName : Nat → ByteArray
  | 0 => ⟨⟨[99, 108, 111, 99, 107]⟩⟩
  | 1 => ⟨⟨[101, 112, 111, 99, 104]⟩⟩
  | 2 => ⟨⟨[103, 114, 97, 121, 115]⟩⟩
  | 3 => ⟨⟨[116, 111, 112]⟩⟩
  | 4 => ⟨⟨[112, 105, 110]⟩⟩
  | 5 => ⟨⟨[101, 110, 116, 114, 121]⟩⟩
  | 6 => ⟨⟨[118, 105, 101, 119]⟩⟩
  | 7 => ⟨⟨[115, 116, 97, 114, 116]⟩⟩
  | 8 => ⟨⟨[104, 101, 97, 100, 101, 114]⟩⟩
  | 9 => ⟨⟨[108, 105, 110, 107]⟩⟩
  | _ => ⟨⟨[98, 111, 100, 121]⟩⟩
theorem name_tag (l : Wd) : l.name = tagName l.tag := by cases l <;> rfl
theorem tag_lt (l : Wd) : l.tag < 11 := by cases l <;> simp [Wd.tag]
theorem tags_all : (List.range 11).all (fun a => (List.range 11).all fun b => ((tagName a).toList == (tagName b).toList) == decide (a = b)) = true := by kernel_rfl
theorem name_eq (l l' : Wd) : (l.name.toList == l'.name.toList) = decide (l.tag = l'.tag) := by
  have h := tags_all
  simp only [List.all_eq_true, List.mem_range, beq_iff_eq] at h
  rw [name_tag l, name_tag l']
  exact h _ (tag_lt l) _ (tag_lt l')
theorem eqW (l l' : Wd) : eqV wordEq (.agg l.cells) (.agg l'.cells) = some (decide (l = l')) := by
  unfold Wd.cells
  simp only [eqV, eqOffs, List.getElem?_cons_zero, List.getElem?_cons_succ, eqCell, decide_true, name_eq]
  by_cases ht : l.tag = l'.tag
  · simp only [decide_eq_true ht]
    by_cases hw : l.who = l'.who
    · have : (l.who : Int) = l'.who := by omega
      simp only [decide_eq_true this]
      by_cases hi : l.i = l'.i
      · have : (l.i : Int) = l'.i := by omega
        simp only [decide_eq_true this]
        have : l = l' := by
          cases l <;> cases l' <;> simp_all [Wd.tag, Wd.who, Wd.i]
        simp [this]
      · have h2 : ¬ (l.i : Int) = l'.i := by omega
        simp only [decide_eq_false h2]
        have : l ≠ l' := by rintro rfl; exact hi rfl
        simp [this]
    · have h2 : ¬ (l.who : Int) = l'.who := by omega
      simp only [decide_eq_false h2]
      have : l ≠ l' := by rintro rfl; exact hw rfl
      simp [this]
  · simp only [decide_eq_false ht]
    have : l ≠ l' := by rintro rfl; exact ht rfl
    simp [this]

theorem Cfg.R_iff {k : Cfg} : k.R = true ↔ (1 ≤ k.s ∧ k.s ≤ 64) ∧ (0 ≤ k.a ∧ k.a ≤ 8) ∧ (1 ≤ k.c ∧ k.c ≤ 8) ∧ (1 ≤ k.hd ∧ k.hd ≤ 16) ∧ (1 ≤ k.g ∧ k.g ≤ 1048576) ∧ (0 ≤ k.st ∧ k.st ≤ 64) := cfgR_iff

theorem Cfg.bounds {k : Cfg} (h : k.R = true) : (1 ≤ k.S ∧ k.S ≤ 64) ∧ (3 ≤ k.room ∧ k.room ≤ 8) ∧ (1 ≤ k.C ∧ k.C ≤ 8) ∧ (1 ≤ k.H ∧ k.H ≤ 16) ∧ k.base ≤ 200 ∧ k.size ≤ 1000 := by
  have := Cfg.R_iff.mp h
  have h1 : 3 ≤ k.room ∧ k.room ≤ 8 := by unfold Cfg.room; split <;> omega
  have h2 : k.C * k.H ≤ 8 * 16 := Nat.mul_le_mul (by unfold Cfg.C; omega) (by unfold Cfg.H; omega)
  have h3 : k.S * (2 + k.room) ≤ 64 * 10 := Nat.mul_le_mul (by unfold Cfg.S; omega) (by omega)
  unfold Cfg.size Cfg.base
  unfold Cfg.S Cfg.C Cfg.H at *
  omega

theorem words_flat (k : Cfg) : wordsW k.S k.room k.C k.H = (k.locs.map Wd.cells).flatten := by rw [locs_elems, elemsW_flatten]

/-- A word's place, as it is told. -/
theorem at_wd {k : Cfg} (hr : k.R = true) {l : Wd} (hl : l.ok k) (h : H) : C 108 [k.v, .agg l.cells] h = some (.int .i64 (l.pos k : Nat), h) := by
  have hlt := pos_lt hl
  have hb := Cfg.bounds hr
  have hn : ((k.locs.take (l.pos k)).map Wd.cells).length = l.pos k := by
    rw [List.length_map, List.length_take, locs_length]; omega
  have hsplit : k.locs = k.locs.take (l.pos k) ++ l :: k.locs.drop (l.pos k + 1) := by
    have h1 := at_locs hl
    obtain ⟨h2, h3⟩ := List.getElem?_eq_some_iff.mp h1
    conv => lhs; rw [← List.take_append_drop (l.pos k) k.locs, List.drop_eq_getElem_cons h2, h3]
  have := at_spec (s := k.s) (a := k.a) (c := k.c) (hd := k.hd) (g := k.g) (st := k.st) hr (nm := l.name) (who := l.who) (k := l.i) (pre := (k.locs.take (l.pos k)).map Wd.cells) (post := ((k.locs.drop (l.pos k + 1)).map Wd.cells).flatten) (by
      show wordsW k.S k.room k.C k.H = _
      rw [words_flat]
      conv => lhs; rw [hsplit, List.map_append, List.flatten_append, List.map_cons, List.flatten_cons]
      rfl) (by
      intro e he
      obtain ⟨l', h1, rfl⟩ := List.mem_map.mp he
      refine ⟨rfl, ?_⟩
      have h2 := eqW l' l
      have hne : l' ≠ l := by
        rintro rfl
        obtain ⟨i, h3, h4⟩ := List.mem_iff_getElem.mp h1
        rw [List.getElem_take] at h4
        have h5 : k.locs[i]? = some l' := by rw [List.getElem?_eq_getElem (by rw [List.length_take] at h3; omega), h4]
        have := locs_at h5
        rw [List.length_take] at h3
        omega
      rw [decide_eq_false hne] at h2
      exact h2) (by rw [hn]; omega) h
  rw [hn] at this
  exact this
end Wm
end

section
/- The program's machines as plain functions: headers, shades. -/
namespace Wm

structure Hdr where
  kind : Int
  mark : Int
  gray : Bool
  arity : Int
  gen : Int
  stamp : Int
def Hdr.cs (x : Hdr) : List V := [.int .i64 x.kind, .int .i64 x.mark, .bool x.gray, .int .i64 x.arity, .int .i64 x.gen, .int .i64 x.stamp]
def Hdr.zero : Hdr := ⟨0, 0, false, 0, 0, 0⟩
/-- A word's header. -/
def unp (w : Int) : Hdr := if okT w then ⟨getT w 0 3, getT w 3 1, decide (getT w 4 1 = 1), getT w 5 4, getT w 16 32, getT w 48 16⟩ else .zero
def Hdr.right (x : Hdr) : Bool := decide (0 ≤ x.kind) && decide (x.kind ≤ 4) && (decide (0 ≤ x.mark) && decide (x.mark ≤ 1)) && (decide (0 ≤ x.arity) && decide (x.arity ≤ 15)) && (decide (0 ≤ x.gen) && decide (x.gen ≤ 4294967295)) && (decide (0 ≤ x.stamp) && decide (x.stamp ≤ 65535))
def Hdr.word (x : Hdr) : Int := x.kind + 8 * x.mark + 16 * (if x.gray then 1 else 0) + 32 * x.arity + 65536 * x.gen + 281474976710656 * x.stamp
def pack (x : Hdr) : Int := if x.right then x.word else 0
def black (e : Int) : Int := (e / 4 + 1) % 2
def lives (w : Int) : Bool := okT w && (decide ((unp w).kind = 1) || decide ((unp w).kind = 2))
/-- May it be shaded? -/
def white (w e : Int) : Bool := lives w && !decide ((unp w).mark = black e)
def shadedH (w e : Int) : Hdr := { unp w with mark := black e, gray := true }
def shaded (w e : Int) : Int := if white w e then (shadedH w e).word else w

/-- A shade. -/
structure Shade where
  grew : Bool
  at' : Int
  e : Int
  next : Int
  was : Int
def Shade.cs (s : Shade) : List V := [.bool s.grew, .int .i64 s.at', .int .u64 s.e, .int .i64 s.next, .int .u64 s.was]
def Shade.step (s : Shade) (m : Mem) : Shade × Mem :=
  if s.next = 0 then ({ s with was := m.val s.at', next := if white (m.val s.at') s.e then 1 else 4 }, m.load s.at')
  else if s.next = 1 then ({ s with next := 2 }, m.add 2 1)
  else if s.next = 2 then (if m.swaps s.at' s.was then { s with grew := true, next := 4 } else { s with next := 3 }, m.swap s.at' s.was (shaded s.was s.e))
  else if s.next = 3 then ({ s with next := 0 }, m.add 2 18446744073709551615)
  else (s, m)
end Wm
end

section
/- What the memory's functions come to. -/
namespace Wm
attribute [local congr] bind_congr1

section
variable {h : H} {b bw : Nat} {m : Mem}

theorem MemAt.size (M : MemAt h b bw m) : C 413 [.ptr b 0] h = some (.int .i64 m.ws.length, h) := by
  obtain ⟨ne, ⟨c, ho⟩, -, -, -⟩ := M
  refine call_open (af := F.mem_Mem_Size) (by kernel_rfl) rfl ?_
  rw [S.mem_Mem_Size_eq]
  simp only [S.mem_Mem_Size, eqV, eqPtr, Option.bind_some, nilc, ptrAt_ptr, ld1_get', ho, ldB_cells, List.getElem?_cons_zero, V.one, lenSl, Nat.add_zero]

theorem MemAt.there (M : MemAt h b bw m) (k : Int) : C 346 [.ptr b 0, .int .i64 k] h = some (.bool (m.there k), h) := by
  refine call_open (af := F.mem_Mem_there) (by kernel_rfl) rfl ?_
  rw [S.mem_Mem_there_eq]
  unfold Mem.there
  cases hk : decide (0 ≤ k) with
  | true => simp only [S.mem_Mem_there, hk, W_call, M.size, Option.bind_some, asI_int, Bool.true_and]
  | false => simp only [S.mem_Mem_there, hk, Bool.false_and]

theorem MemAt.touch (M : MemAt h b bw m) (ok : h.ok) {k now kind : Int} (hk : m.there k = true) (hn : U64 now) :
    ∃ h', C 347 [.ptr b 0, .int .i64 kind, .int .i64 k, .int .u64 now] h = some (.tup [], h') ∧ Fr [b, bw] h h' ∧ MemAt h' b bw (m.touch kind k now) := by
  obtain ⟨ne, ⟨c, ho⟩, ⟨kk, hkk, hr⟩, hu, hs⟩ := M
  unfold Mem.there at hk
  simp only [Bool.and_eq_true, decide_eq_true_eq] at hk
  obtain ⟨k0, k1⟩ := hk
  have hidx : (m.ws.map (V.int .u64))[k.toNat]? = some (.int .u64 (m.w k)) := by
    rw [List.getElem?_map, List.getElem?_eq_getElem (by omega), Option.map_some]
    simp only [Mem.w, List.getD_eq_getElem?_getD]
    rw [List.getElem?_eq_getElem (by omega)]; rfl
  have hro : decide (kk = Bk.ro) = false := decide_eq_false hkk
  have hle : decide (k.toNat + 1 ≤ (m.ws.map (V.int .u64)).length) = true := by rw [decide_eq_true_eq, List.length_map]; omega
  have hix : indexAV 1 (.sl bw 0 m.ws.length c) (.int .i64 k) = some (.ptr bw k.toNat) := by
    simp only [indexAV, indexOf, asIAny, k0, k1, decide_true, Bool.and_self, Nat.mul_one, Nat.zero_add]
  refine ⟨(h.put b (some (.cells [.sl bw 0 m.ws.length c, .int .i64 (wr .i64 (m.n + 1)), .int .i64 kind, .int .i64 k, .int .u64 (m.w k), .int .u64 now] .rw))).put bw (some (.cells ((m.touch kind k now).ws.map (.int .u64)) kk)), call_open (af := F.mem_Mem_touch) (by kernel_rfl) rfl ?_, ?_, ?_⟩
  · rw [S.mem_Mem_touch_eq]
    simp only [S.mem_Mem_touch, nilc_ptr, lenSl_sl, lenSl_nil, eqPtr_ptr, eqPtr_nil, eqPtr_ptr', eqSl_sl, eqSl_nil, ptrAt_ptr, Option.bind_some, Option.map_some, ld1_get', ldN_get', st_get', get_put', get_new', put_put', ldB_cells, ldNB_cells, stB_cells, H.next_new, H.next_put, List.getElem?_cons_zero, List.getElem?_cons_succ, Nat.zero_add, Nat.add_zero, Nat.reduceAdd, Nat.reduceLeDiff, Nat.reduceLT, Nat.reduceMul, Nat.reduceSub, Nat.reduceEqDiff, Int.reduceEq, Int.reduceLT, Int.reduceLE, Int.reduceNeg, V.one, V.cells, V.beq, V.beqs, ckB_some, asI_int, asB_bool, asIAny, asS, List.length_cons, List.length_nil, Nat.beq_refl, List.all_cons, List.all_nil, Bool.and_true, Bool.and_false, Bool.true_and, Bool.false_and, Bool.not_true, Bool.not_false, Bool.or_false, Bool.false_or, Bool.or_self, Bool.and_self, decide_true, decide_false, if_true, if_false, splice, List.take_succ_cons, List.take_zero, List.drop_succ_cons, List.drop_zero, List.cons_append, List.nil_append, List.set_cons_zero, List.set_cons_succ, reduceCtorEq, fill, repl, opd, boxc, finV, resAllV, resOfV, result, eqV, eqIfc, aggCells, part, W_call, Nat.reduceBEq, Nat.beq_eq, ho, hr, ne, ne.symm, hix, hidx, hro, hle]
    have e : (m.touch kind k now).ws.map (V.int .u64) = (m.ws.map (V.int .u64)).take k.toNat ++ V.int .u64 now :: (m.ws.map (V.int .u64)).drop (k.toNat + 1) := by
      simp only [Mem.touch, List.map_set]
      rw [List.set_eq_take_append_cons_drop, if_pos (by rw [List.length_map]; omega)]
    rw [e, List.append_assoc]; rfl
  · exact ((Fr.refl ok).put (.inl (by simp)) (ok.lt ho) _).put (.inl (by simp)) (ok.lt hr) _
  · refine ⟨ne, ⟨c, ?_⟩, ⟨kk, hkk, ?_⟩, ?_, ?_⟩
    · rw [get_put_ne ne, get_put_self]
      simp only [Mem.touch, List.length_set]
    · rw [get_put_self]
    · intro w hw
      rcases List.mem_or_eq_of_mem_set hw with q | rfl
      · exact hu w q
      · exact hn
    · simp only [Mem.touch, List.length_set]; exact hs

theorem MemAt.touches (M : MemAt h b bw m) : C 107 [.ptr b 0] h = some (.int .i64 m.n, h) := by
  obtain ⟨ne, ⟨c, ho⟩, -, -, -⟩ := M
  refine call_open (af := F.mem_Mem_Touches) (by kernel_rfl) rfl ?_
  rw [S.mem_Mem_Touches_eq]
  simp only [S.mem_Mem_Touches, nilc_ptr, lenSl_sl, lenSl_nil, eqPtr_ptr, eqPtr_nil, eqPtr_ptr', eqSl_sl, eqSl_nil, ptrAt_ptr, Option.bind_some, Option.map_some, ld1_get', ldN_get', st_get', get_put', get_new', put_put', ldB_cells, ldNB_cells, stB_cells, H.next_new, H.next_put, List.getElem?_cons_zero, List.getElem?_cons_succ, Nat.zero_add, Nat.add_zero, Nat.reduceAdd, Nat.reduceLeDiff, Nat.reduceLT, Nat.reduceMul, Nat.reduceSub, Nat.reduceEqDiff, Int.reduceEq, Int.reduceLT, Int.reduceLE, Int.reduceNeg, V.one, V.cells, V.beq, V.beqs, ckB_some, asI_int, asB_bool, asIAny, asS, List.length_cons, List.length_nil, Nat.beq_refl, List.all_cons, List.all_nil, Bool.and_true, Bool.and_false, Bool.true_and, Bool.false_and, Bool.not_true, Bool.not_false, Bool.or_false, Bool.false_or, Bool.or_self, Bool.and_self, decide_true, decide_false, if_true, if_false, splice, List.take_succ_cons, List.take_zero, List.drop_succ_cons, List.drop_zero, List.cons_append, List.nil_append, List.set_cons_zero, List.set_cons_succ, reduceCtorEq, fill, repl, opd, boxc, finV, resAllV, resOfV, result, eqV, eqIfc, aggCells, part, W_call, Nat.reduceBEq, Nat.beq_eq, ho]

theorem MemAt.idx (M : MemAt h b bw m) {k : Int} (hk : m.there k = true) {c : Cap} : indexAV 1 (.sl bw 0 m.ws.length c) (.int .i64 k) = some (.ptr bw k.toNat) ∧ h.ld1 (.ptr bw k.toNat) = some (.int .u64 (m.w k)) := by
  obtain ⟨ne, -, ⟨kk, hkk, hr⟩, hu, hs⟩ := M
  unfold Mem.there at hk
  simp only [Bool.and_eq_true, decide_eq_true_eq] at hk
  obtain ⟨k0, k1⟩ := hk
  constructor
  · simp only [indexAV, indexOf, asIAny, k0, k1, decide_true, Bool.and_self, Nat.mul_one, Nat.zero_add]
  · rw [ld1_get', hr, ldB_cells, List.getElem?_map, List.getElem?_eq_getElem (by omega), Option.map_some]
    simp only [Mem.w, List.getD_eq_getElem?_getD]
    rw [List.getElem?_eq_getElem (by omega)]; rfl

theorem MemAt.ldw (M : MemAt h b bw m) : ∃ c, h.ld1 (.ptr b 0) = some (.sl bw 0 m.ws.length c) := by
  obtain ⟨ne, ⟨c, ho⟩, -, -, -⟩ := M
  exact ⟨c, by rw [ld1_get', ho]; rfl⟩

theorem Mem.touch_w {kind k now : Int} (hk : m.there k = true) : (m.touch kind k now).w k = now := by
  unfold Mem.there at hk
  simp only [Bool.and_eq_true, decide_eq_true_eq] at hk
  simp only [Mem.touch, Mem.w, List.getD_eq_getElem?_getD]
  rw [List.getElem?_set_self (by omega)]; rfl
theorem Mem.touch_there {kind k now j : Int} : (m.touch kind k now).there j = m.there j := by
  simp only [Mem.touch, Mem.there, List.length_set]

/-- What a function of the memory comes to. -/
def MemDo (o : Option (V × H)) (h : H) (b bw : Nat) (v : V) (m : Mem) : Prop := ∃ h', o = some (v, h') ∧ Fr [b, bw] h h' ∧ MemAt h' b bw m

theorem MemAt.load (M : MemAt h b bw m) (ok : h.ok) (k : Int) : MemDo (C 266 [.ptr b 0, .int .i64 k] h) h b bw (.int .u64 (m.val k)) (m.load k) := by
  unfold Mem.val Mem.load
  cases hk : m.there k with
  | false =>
    refine ⟨h, call_open (af := F.mem_Mem_Load) (by kernel_rfl) rfl ?_, .refl ok, by simpa using M⟩
    rw [S.mem_Mem_Load_eq]
    simp only [S.mem_Mem_Load, nilc_ptr, lenSl_sl, lenSl_nil, eqPtr_ptr, eqPtr_nil, eqPtr_ptr', eqSl_sl, eqSl_nil, ptrAt_ptr, Option.bind_some, Option.map_some, ld1_get', ldN_get', st_get', get_put', get_new', put_put', ldB_cells, ldNB_cells, stB_cells, H.next_new, H.next_put, List.getElem?_cons_zero, List.getElem?_cons_succ, Nat.zero_add, Nat.add_zero, Nat.reduceAdd, Nat.reduceLeDiff, Nat.reduceLT, Nat.reduceMul, Nat.reduceSub, Nat.reduceEqDiff, Int.reduceEq, Int.reduceLT, Int.reduceLE, Int.reduceNeg, V.one, V.cells, V.beq, V.beqs, ckB_some, asI_int, asB_bool, asIAny, asS, List.length_cons, List.length_nil, Nat.beq_refl, List.all_cons, List.all_nil, Bool.and_true, Bool.and_false, Bool.true_and, Bool.false_and, Bool.not_true, Bool.not_false, Bool.or_false, Bool.false_or, Bool.or_self, Bool.and_self, decide_true, decide_false, if_true, if_false, splice, List.take_succ_cons, List.take_zero, List.drop_succ_cons, List.drop_zero, List.cons_append, List.nil_append, List.set_cons_zero, List.set_cons_succ, reduceCtorEq, fill, repl, opd, boxc, finV, resAllV, resOfV, result, eqV, eqIfc, aggCells, part, W_call, Nat.reduceBEq, Nat.beq_eq, M.there, hk, Bool.false_eq_true]
  | true =>
    obtain ⟨h', e, f, M'⟩ := M.touch ok hk (M.w64 k) (kind := 1)
    obtain ⟨c, el⟩ := M.ldw
    obtain ⟨c', el'⟩ := M'.ldw
    obtain ⟨i1, i2⟩ := M.idx hk (c := c)
    obtain ⟨i3, i4⟩ := M'.idx (k := k) (by rw [Mem.touch_there]; exact hk) (c := c')
    rw [Mem.touch_w hk] at i4
    refine ⟨h', call_open (af := F.mem_Mem_Load) (by kernel_rfl) rfl ?_, f, M'⟩
    rw [S.mem_Mem_Load_eq]
    simp only [S.mem_Mem_Load, nilc, ptrAt_ptr, Nat.zero_add, Option.bind_some, asB_bool, Bool.not_true, W_call, M.there, hk, el, i1, i2, e, el', i3, i4, if_true]

theorem MemAt.store (M : MemAt h b bw m) (ok : h.ok) (k : Int) {v : Int} (hv : U64 v) : MemDo (C 203 [.ptr b 0, .int .i64 k, .int .u64 v] h) h b bw (.bool (m.there k)) (m.store k v) := by
  unfold Mem.store
  cases hk : m.there k with
  | false =>
    refine ⟨h, call_open (af := F.mem_Mem_Store) (by kernel_rfl) rfl ?_, .refl ok, by simpa using M⟩
    rw [S.mem_Mem_Store_eq]
    simp only [S.mem_Mem_Store, nilc_ptr, lenSl_sl, lenSl_nil, eqPtr_ptr, eqPtr_nil, eqPtr_ptr', eqSl_sl, eqSl_nil, ptrAt_ptr, Option.bind_some, Option.map_some, ld1_get', ldN_get', st_get', get_put', get_new', put_put', ldB_cells, ldNB_cells, stB_cells, H.next_new, H.next_put, List.getElem?_cons_zero, List.getElem?_cons_succ, Nat.zero_add, Nat.add_zero, Nat.reduceAdd, Nat.reduceLeDiff, Nat.reduceLT, Nat.reduceMul, Nat.reduceSub, Nat.reduceEqDiff, Int.reduceEq, Int.reduceLT, Int.reduceLE, Int.reduceNeg, V.one, V.cells, V.beq, V.beqs, ckB_some, asI_int, asB_bool, asIAny, asS, List.length_cons, List.length_nil, Nat.beq_refl, List.all_cons, List.all_nil, Bool.and_true, Bool.and_false, Bool.true_and, Bool.false_and, Bool.not_true, Bool.not_false, Bool.or_false, Bool.false_or, Bool.or_self, Bool.and_self, decide_true, decide_false, if_true, if_false, splice, List.take_succ_cons, List.take_zero, List.drop_succ_cons, List.drop_zero, List.cons_append, List.nil_append, List.set_cons_zero, List.set_cons_succ, reduceCtorEq, fill, repl, opd, boxc, finV, resAllV, resOfV, result, eqV, eqIfc, aggCells, part, W_call, Nat.reduceBEq, Nat.beq_eq, M.there, hk]
  | true =>
    obtain ⟨h', e, f, M'⟩ := M.touch ok hk hv (kind := 2)
    refine ⟨h', call_open (af := F.mem_Mem_Store) (by kernel_rfl) rfl ?_, f, M'⟩
    rw [S.mem_Mem_Store_eq]
    simp only [S.mem_Mem_Store, nilc_ptr, lenSl_sl, lenSl_nil, eqPtr_ptr, eqPtr_nil, eqPtr_ptr', eqSl_sl, eqSl_nil, ptrAt_ptr, Option.bind_some, Option.map_some, ld1_get', ldN_get', st_get', get_put', get_new', put_put', ldB_cells, ldNB_cells, stB_cells, H.next_new, H.next_put, List.getElem?_cons_zero, List.getElem?_cons_succ, Nat.zero_add, Nat.add_zero, Nat.reduceAdd, Nat.reduceLeDiff, Nat.reduceLT, Nat.reduceMul, Nat.reduceSub, Nat.reduceEqDiff, Int.reduceEq, Int.reduceLT, Int.reduceLE, Int.reduceNeg, V.one, V.cells, V.beq, V.beqs, ckB_some, asI_int, asB_bool, asIAny, asS, List.length_cons, List.length_nil, Nat.beq_refl, List.all_cons, List.all_nil, Bool.and_true, Bool.and_false, Bool.true_and, Bool.false_and, Bool.not_true, Bool.not_false, Bool.or_false, Bool.false_or, Bool.or_self, Bool.and_self, decide_true, decide_false, if_true, if_false, splice, List.take_succ_cons, List.take_zero, List.drop_succ_cons, List.drop_zero, List.cons_append, List.nil_append, List.set_cons_zero, List.set_cons_succ, reduceCtorEq, fill, repl, opd, boxc, finV, resAllV, resOfV, result, eqV, eqIfc, aggCells, part, W_call, Nat.reduceBEq, Nat.beq_eq, M.there, hk, e]

theorem MemAt.swap (M : MemAt h b bw m) (ok : h.ok) (k old : Int) {v : Int} (hv : U64 v) : MemDo (C 269 [.ptr b 0, .int .i64 k, .int .u64 old, .int .u64 v] h) h b bw (.bool (m.swaps k old)) (m.swap k old v) := by
  unfold Mem.swap Mem.swaps
  cases hk : m.there k with
  | false =>
    refine ⟨h, call_open (af := F.mem_Mem_Swap) (by kernel_rfl) rfl ?_, .refl ok, by simpa using M⟩
    rw [S.mem_Mem_Swap_eq]
    simp only [S.mem_Mem_Swap, nilc_ptr, lenSl_sl, lenSl_nil, eqPtr_ptr, eqPtr_nil, eqPtr_ptr', eqSl_sl, eqSl_nil, ptrAt_ptr, Option.bind_some, Option.map_some, ld1_get', ldN_get', st_get', get_put', get_new', put_put', ldB_cells, ldNB_cells, stB_cells, H.next_new, H.next_put, List.getElem?_cons_zero, List.getElem?_cons_succ, Nat.zero_add, Nat.add_zero, Nat.reduceAdd, Nat.reduceLeDiff, Nat.reduceLT, Nat.reduceMul, Nat.reduceSub, Nat.reduceEqDiff, Int.reduceEq, Int.reduceLT, Int.reduceLE, Int.reduceNeg, V.one, V.cells, V.beq, V.beqs, ckB_some, asI_int, asB_bool, asIAny, asS, List.length_cons, List.length_nil, Nat.beq_refl, List.all_cons, List.all_nil, Bool.and_true, Bool.and_false, Bool.true_and, Bool.false_and, Bool.not_true, Bool.not_false, Bool.or_false, Bool.false_or, Bool.or_self, Bool.and_self, decide_true, decide_false, if_true, if_false, splice, List.take_succ_cons, List.take_zero, List.drop_succ_cons, List.drop_zero, List.cons_append, List.nil_append, List.set_cons_zero, List.set_cons_succ, reduceCtorEq, fill, repl, opd, boxc, finV, resAllV, resOfV, result, eqV, eqIfc, aggCells, part, W_call, Nat.reduceBEq, Nat.beq_eq, M.there, hk]
  | true =>
    obtain ⟨c, el⟩ := M.ldw
    obtain ⟨i1, i2⟩ := M.idx hk (c := c)
    by_cases ho : m.w k = old
    · obtain ⟨h', e, f, M'⟩ := M.touch ok hk hv (kind := 3)
      refine ⟨h', call_open (af := F.mem_Mem_Swap) (by kernel_rfl) rfl ?_, f, by simpa [ho] using M'⟩
      rw [S.mem_Mem_Swap_eq]
      simp only [S.mem_Mem_Swap, nilc, ptrAt_ptr, Nat.zero_add, Option.bind_some, asB_bool, asI_int, Bool.not_true, W_call, M.there, hk, el, i1, i2, e, if_true, decide_eq_true ho, Bool.and_self]
    · obtain ⟨h', e, f, M'⟩ := M.touch ok hk (M.w64 k) (kind := 3)
      refine ⟨h', call_open (af := F.mem_Mem_Swap) (by kernel_rfl) rfl ?_, f, by simpa [ho] using M'⟩
      rw [S.mem_Mem_Swap_eq]
      simp only [S.mem_Mem_Swap, nilc, ptrAt_ptr, Nat.zero_add, Option.bind_some, asB_bool, asI_int, Bool.not_true, Bool.not_false, W_call, M.there, hk, el, i1, i2, e, if_true, decide_eq_false ho, Bool.and_false]

theorem wru64_U64 (n : Int) : U64 (wr .u64 n) := by simp only [wr, U64]; omega

theorem MemAt.add (M : MemAt h b bw m) (ok : h.ok) (k v : Int) : ∃ v', MemDo (C 268 [.ptr b 0, .int .i64 k, .int .u64 v] h) h b bw v' (m.add k v) := by
  unfold Mem.add
  cases hk : m.there k with
  | false =>
    refine ⟨.int .u64 0, h, call_open (af := F.mem_Mem_Add) (by kernel_rfl) rfl ?_, .refl ok, by simpa using M⟩
    rw [S.mem_Mem_Add_eq]
    simp only [S.mem_Mem_Add, nilc_ptr, lenSl_sl, lenSl_nil, eqPtr_ptr, eqPtr_nil, eqPtr_ptr', eqSl_sl, eqSl_nil, ptrAt_ptr, Option.bind_some, Option.map_some, ld1_get', ldN_get', st_get', get_put', get_new', put_put', ldB_cells, ldNB_cells, stB_cells, H.next_new, H.next_put, List.getElem?_cons_zero, List.getElem?_cons_succ, Nat.zero_add, Nat.add_zero, Nat.reduceAdd, Nat.reduceLeDiff, Nat.reduceLT, Nat.reduceMul, Nat.reduceSub, Nat.reduceEqDiff, Int.reduceEq, Int.reduceLT, Int.reduceLE, Int.reduceNeg, V.one, V.cells, V.beq, V.beqs, ckB_some, asI_int, asB_bool, asIAny, asS, List.length_cons, List.length_nil, Nat.beq_refl, List.all_cons, List.all_nil, Bool.and_true, Bool.and_false, Bool.true_and, Bool.false_and, Bool.not_true, Bool.not_false, Bool.or_false, Bool.false_or, Bool.or_self, Bool.and_self, decide_true, decide_false, if_true, if_false, splice, List.take_succ_cons, List.take_zero, List.drop_succ_cons, List.drop_zero, List.cons_append, List.nil_append, List.set_cons_zero, List.set_cons_succ, reduceCtorEq, fill, repl, opd, boxc, finV, resAllV, resOfV, result, eqV, eqIfc, aggCells, part, W_call, Nat.reduceBEq, Nat.beq_eq, M.there, hk]
  | true =>
    obtain ⟨h', e, f, M'⟩ := M.touch ok hk (wru64_U64 (m.w k + v)) (kind := 4)
    obtain ⟨c, el⟩ := M.ldw
    obtain ⟨c', el'⟩ := M'.ldw
    obtain ⟨i1, i2⟩ := M.idx hk (c := c)
    obtain ⟨i3, i4⟩ := M'.idx (k := k) (by rw [Mem.touch_there]; exact hk) (c := c')
    rw [Mem.touch_w hk] at i4
    refine ⟨.int .u64 (wr .u64 (m.w k + v)), h', call_open (af := F.mem_Mem_Add) (by kernel_rfl) rfl ?_, f, M'⟩
    rw [S.mem_Mem_Add_eq]
    simp only [S.mem_Mem_Add, nilc, ptrAt_ptr, Nat.zero_add, Option.bind_some, asB_bool, asI_int, Bool.not_true, W_call, M.there, hk, el, i1, i2, e, el', i3, i4]
end
end Wm
end

section
/- Words of parts, and headers' words: word.Pack, head.Pack. -/
namespace Wm
attribute [local congr] bind_congr1

theorem or64_add {w v : Int} {a n : Nat} (h0 : 0 ≤ w) (h1 : w < 2 ^ a) (h2 : 0 ≤ v) (h3 : v < 2 ^ n) (h4 : a + n ≤ 64) : or64 w (v * 2 ^ a) = w + v * 2 ^ a ∧ w + v * 2 ^ a < 2 ^ (a + n) := by
  obtain ⟨k, rfl⟩ : ∃ k : Nat, w = k := ⟨w.toNat, by omega⟩
  obtain ⟨m, rfl⟩ : ∃ k : Nat, v = k := ⟨v.toNat, by omega⟩
  have hk : k < 2 ^ a := by have : ((k : Nat) : Int) < ((2 ^ a : Nat) : Int) := by simpa using h1
                            omega
  have hm : m < 2 ^ n := by have : ((m : Nat) : Int) < ((2 ^ n : Nat) : Int) := by simpa using h3
                            omega
  have e1 : ((m : Int) * 2 ^ a) = ((m * 2 ^ a : Nat) : Int) := by simp
  have h5 : 2 ^ (a + n) ≤ 2 ^ 64 := Nat.pow_le_pow_right (by omega) h4
  have h6 : k + m * 2 ^ a < 2 ^ (a + n) := by
    have : (m + 1) * 2 ^ a ≤ 2 ^ n * 2 ^ a := Nat.mul_le_mul_right _ hm
    rw [Nat.add_comm a n, Nat.pow_add]
    rw [Nat.add_mul, Nat.one_mul] at this
    omega
  constructor
  · unfold or64
    rw [e1, BitVec.ofInt_natCast, BitVec.ofInt_natCast, BitVec.toNat_or, BitVec.toNat_ofNat, BitVec.toNat_ofNat, Nat.mod_eq_of_lt (by omega), Nat.mod_eq_of_lt (by omega), Nat.or_comm, Nat.mul_comm, ← Nat.two_pow_add_eq_or_of_lt hk]
    rw [Nat.mul_comm]; omega
  · rw [e1]
    have : ((k + m * 2 ^ a : Nat) : Int) < ((2 ^ (a + n) : Nat) : Int) := by omega
    simpa using this

/-- Parts: how many bits, which value. -/
abbrev Parts := List (Nat × Int)
def bitsP (l : Parts) : Nat := (l.map (·.1)).sum
def sumP : Parts → Int
  | [] => 0
  | (n, v) :: l => v + 2 ^ n * sumP l
def fitP (l : Parts) : Bool := l.all fun p => decide (p.2 < 2 ^ p.1)
def cellsP (l : Parts) : List V := (l.map fun p => [V.int .i64 p.1, .int .u64 p.2]).flatten

theorem bitsP_append (l : Parts) (p : Nat × Int) : bitsP (l ++ [p]) = bitsP l + p.1 := by simp [bitsP]
theorem sumP_append : ∀ (l : Parts) (p : Nat × Int), sumP (l ++ [p]) = sumP l + p.2 * 2 ^ bitsP l
  | [], p => by simp [sumP, bitsP]
  | (n, v) :: l, p => by
    simp only [List.cons_append, sumP, sumP_append l p, bitsP, List.map_cons, List.sum_cons]
    rw [Int.mul_add, Int.pow_add, Int.add_assoc, ← Int.mul_assoc, ← Int.mul_assoc, Int.mul_comm (2 ^ n) p.2]
theorem bitsP_take {l : Parts} {i : Nat} {p : Nat × Int} (h : l[i]? = some p) : bitsP (l.take (i + 1)) = bitsP (l.take i) + p.1 ∧ sumP (l.take (i + 1)) = sumP (l.take i) + p.2 * 2 ^ bitsP (l.take i) ∧ fitP (l.take (i + 1)) = (fitP (l.take i) && decide (p.2 < 2 ^ p.1)) := by
  have : l.take (i + 1) = l.take i ++ [p] := by rw [List.take_add_one, h]; rfl
  rw [this]
  exact ⟨bitsP_append _ _, sumP_append _ _, by simp [fitP]⟩
theorem bitsP_le (l : Parts) (i : Nat) : bitsP (l.take i) ≤ bitsP l := by
  induction l generalizing i with
  | nil => simp [bitsP]
  | cons p l ih =>
    cases i with
    | zero => simp [bitsP]
    | succ i => have := ih i; simp only [bitsP, List.take_succ_cons, List.map_cons, List.sum_cons] at this ⊢; omega

theorem fits_spec {v : Int} (h0 : 0 ≤ v) {n : Nat} (hn : n ≤ 63) (h : H) : C 484 [.int .u64 v, .int .i64 n] h = some (.bool (decide (v < 2 ^ n)), h) := by
  refine call_closed (af := F.word_Fits) (by kernel_rfl) rfl (by rfl) (by rfl) h ?_
  rw [S.word_Fits_eq]
  have hs : shiftI false .u64 v (n : Int) = some (v / 2 ^ n) := by
    simp only [shiftI, show decide ((n : Int) < 0) = false from decide_eq_false (by omega), Int.toNat_natCast, show min n (Go.IntKind.bits .u64) = n from by show min n 64 = n; omega]
  have hp : (0 : Int) < 2 ^ n := Int.pow_pos (by omega)
  simp only [S.word_Fits, show decide ((0 : Int) ≤ (n : Int)) = true from decide_eq_true (by omega), show decide ((63 : Int) < (n : Int)) = false from decide_eq_false (by omega), hs, Option.bind_some]
  refine Ev.some (show V.bool _ = V.bool _ from ?_)
  congr 1
  rw [decide_eq_decide]
  constructor
  · intro q
    have := Int.lt_ediv_add_one_mul_self v hp
    rw [q] at this; simpa using this
  · intro q; exact Int.ediv_eq_zero_of_lt h0 q

theorem shl_spec {v : Int} {a : Nat} (ha : a ≤ 63) : shiftI true .u64 v (a : Int) = some (wr .u64 (v * 2 ^ a)) := by
  simp only [shiftI, show decide ((a : Int) < 0) = false from decide_eq_false (by omega), Int.toNat_natCast, show min a (Go.IntKind.bits .u64) = a from by show min a 64 = a; omega]

/-- The parts are such as occur. -/
def okP (l : Parts) : Prop := bitsP l ≤ 64 ∧ ∀ p ∈ l, 1 ≤ p.1 ∧ p.1 ≤ 63 ∧ U64 p.2

theorem wordPack_spec {l : Parts} (hl : okP l) {h : H} (ok : h.ok) {bx : Nat} {k : Bk} (hx : h.get bx = some (.cells (cellsP l) k)) :
    Ev (C 443 [.sl bx 0 l.length (.ex l.length)] h) fun r => r.1 = .tup [.int .u64 (if fitP l then sumP l else 0), .bool (fitP l)] ∧ Fr [] h r.2 := by
  obtain ⟨hb, hp⟩ := hl
  refine call_ev (af := F.word_Pack) (by kernel_rfl) rfl ?_
  rw [S.word_Pack_eq]
  simp only [S.word_Pack, lenSl, Option.bind_some]
  have hlen : l.length ≤ 64 := by
    have : ∀ l : Parts, (∀ p ∈ l, 1 ≤ p.1) → l.length ≤ bitsP l := by
      intro l
      induction l with
      | nil => intro _; simp [bitsP]
      | cons p l ih =>
        intro q
        have h1 := q p (by simp)
        have h2 := ih fun x hx => q x (by simp [hx])
        simp only [bitsP, List.map_cons, List.sum_cons, List.length_cons] at h2 ⊢
        omega
    have := this l fun p q => (hp p q).1
    omega
  refine loop_ev (α := Nat) (fun i => S.word_Pack_c1_E (.int .u64 (sumP (l.take i))) (.int .i64 (bitsP (l.take i) : Nat)) (.sl bx 0 l.length (.ex l.length)) (.int .i64 (l.length : Nat)) (.int .i64 i))
    (fun i g => i ≤ l.length ∧ fitP (l.take i) = true ∧ (0 ≤ sumP (l.take i) ∧ sumP (l.take i) < 2 ^ bitsP (l.take i)) ∧ Fr [] h g)
    (fun i _ => l.length - i) (fun r => Fr [] h r.2.2 ∧ ((r.1 = .ret ∧ fitP l = false ∧ ∃ x, r.2.1 = S.word_Pack_c1_O (.int .u64 0) (.bool false) x) ∨ (r.1 = .exit 0 ∧ fitP l = true ∧ r.2.1 = S.word_Pack_c1_O .dead .dead (.int .u64 (sumP l)))))
    0 rfl ⟨Nat.zero_le _, rfl, ⟨Int.le_refl _, by simp [sumP, bitsP]⟩, .refl ok⟩ ?_ ?_
  · rintro i g ⟨hi, hf, ⟨s0, s1⟩, fr⟩
    rw [S.word_Pack_c1_eq]
    by_cases hic : i < l.length
    · obtain ⟨p, hpi⟩ : ∃ p, l[i]? = some p := ⟨_, List.getElem?_eq_getElem hic⟩
      obtain ⟨e1, e2, e3⟩ := bitsP_take hpi
      obtain ⟨p1, p2, p3⟩ := hp p (List.mem_of_getElem? hpi)
      have hle := bitsP_le l (i + 1)
      have hidx : indexAV 2 (.sl bx 0 l.length (.ex l.length)) (.int .i64 (i : Int)) = some (.ptr bx (i * 2)) := by
        simp only [indexAV, indexOf, asIAny, show decide ((0 : Int) ≤ (i : Int)) = true from decide_eq_true (by omega), show decide ((i : Int) < (l.length : Int)) = true from decide_eq_true (by omega), Bool.and_self, Nat.zero_add, Int.toNat_natCast]
      have hg := fr.get ok hx (by simp)
      have hld : ldNB (g.get bx) (i * 2) 2 = some (.agg [.int .i64 p.1, .int .u64 p.2]) := by
        have hfl : ∀ x ∈ l.map fun p : Nat × Int => [V.int .i64 p.1, .int .u64 p.2], x.length = 2 := fun x hx => by
          obtain ⟨_, _, rfl⟩ := List.mem_map.mp hx; rfl
        have hn : (cellsP l).length = l.length * 2 := by unfold cellsP; rw [flat_length hfl, List.length_map]
        rw [hg, ldNB_cells, decide_eq_true (by rw [hn]; omega)]
        simp only
        unfold cellsP
        rw [flat_part hfl i [.int .i64 p.1, .int .u64 p.2] (by rw [List.getElem?_map, hpi]; rfl)]
      have hsm : ∀ g', C 441 [.int .i64 (bitsP (l.take i) : Nat), .int .i64 p.1] g' = some (.bool true, g') := fun g' => some_spec _ _ (by omega) (by omega) (by omega) g'
      simp only [S.word_Pack_c1_S, decide_eq_true (show (i : Int) < (l.length : Int) by omega), hidx, nilc_ptr, lenSl_sl, lenSl_nil, eqPtr_ptr, eqPtr_nil, eqPtr_ptr', eqSl_sl, eqSl_nil, ptrAt_ptr, Option.bind_some, Option.map_some, ld1_get', ldN_get', st_get', get_put', get_new', put_put', ldB_cells, ldNB_cells, stB_cells, H.next_new, H.next_put, List.getElem?_cons_zero, List.getElem?_cons_succ, Nat.zero_add, Nat.add_zero, Nat.reduceAdd, Nat.reduceLeDiff, Nat.reduceLT, Nat.reduceMul, Nat.reduceSub, Nat.reduceEqDiff, Int.reduceEq, Int.reduceLT, Int.reduceLE, Int.reduceNeg, V.one, V.cells, V.beq, V.beqs, ckB_some, asI_int, asB_bool, asIAny, asS, List.length_cons, List.length_nil, Nat.beq_refl, List.all_cons, List.all_nil, Bool.and_true, Bool.and_false, Bool.true_and, Bool.false_and, Bool.not_true, Bool.not_false, Bool.or_false, Bool.false_or, Bool.or_self, Bool.and_self, decide_true, decide_false, if_true, if_false, splice, List.take_succ_cons, List.take_zero, List.drop_succ_cons, List.drop_zero, List.cons_append, List.nil_append, List.set_cons_zero, List.set_cons_succ, reduceCtorEq, fill, repl, opd, boxc, finV, resAllV, resOfV, result, eqV, eqIfc, aggCells, part, W_call, Nat.reduceBEq, Nat.beq_eq, hld, hsm, fits_spec p3.1 p2]
      cases hc : decide (p.2 < 2 ^ p.1) with
      | false =>
        simp only [nilc_ptr, lenSl_sl, lenSl_nil, eqPtr_ptr, eqPtr_nil, eqPtr_ptr', eqSl_sl, eqSl_nil, ptrAt_ptr, Option.bind_some, Option.map_some, ld1_get', ldN_get', st_get', get_put', get_new', put_put', ldB_cells, ldNB_cells, stB_cells, H.next_new, H.next_put, List.getElem?_cons_zero, List.getElem?_cons_succ, Nat.zero_add, Nat.add_zero, Nat.reduceAdd, Nat.reduceLeDiff, Nat.reduceLT, Nat.reduceMul, Nat.reduceSub, Nat.reduceEqDiff, Int.reduceEq, Int.reduceLT, Int.reduceLE, Int.reduceNeg, V.one, V.cells, V.beq, V.beqs, ckB_some, asI_int, asB_bool, asIAny, asS, List.length_cons, List.length_nil, Nat.beq_refl, List.all_cons, List.all_nil, Bool.and_true, Bool.and_false, Bool.true_and, Bool.false_and, Bool.not_true, Bool.not_false, Bool.or_false, Bool.false_or, Bool.or_self, Bool.and_self, decide_true, decide_false, if_true, if_false, splice, List.take_succ_cons, List.take_zero, List.drop_succ_cons, List.drop_zero, List.cons_append, List.nil_append, List.set_cons_zero, List.set_cons_succ, reduceCtorEq, fill, repl, opd, boxc, finV, resAllV, resOfV, result, eqV, eqIfc, aggCells, part, W_call, Nat.reduceBEq, Nat.beq_eq]
        refine Ev.some (.inr ⟨by simp, (fr.new _).put (.inr (by have := fr.le; omega)) (by simp) _, .inl ⟨rfl, ?_, _, rfl⟩⟩)
        rw [hc, Bool.and_false] at e3
        have : fitP l = true → fitP (l.take (i + 1)) = true := fun q => by
          simp only [fitP, List.all_eq_true] at q ⊢
          exact fun x hx => q x (List.mem_of_mem_take hx)
        cases hq : fitP l with
        | false => rfl
        | true => rw [this hq] at e3; cases e3
      | true =>
        have hc' := of_decide_eq_true hc
        obtain ⟨o1, o2⟩ := or64_add s0 s1 p3.1 hc' (by omega)
        have hpos : (0 : Int) ≤ p.2 * 2 ^ bitsP (l.take i) := Int.mul_nonneg p3.1 (Int.le_of_lt (Int.pow_pos (by omega)))
        have hlt : p.2 * 2 ^ bitsP (l.take i) < 18446744073709551616 := by
          have : (2 : Int) ^ (bitsP (l.take i) + p.1) ≤ 2 ^ 64 := by
            have := Nat.pow_le_pow_right (n := 2) (by omega) (show bitsP (l.take i) + p.1 ≤ 64 by omega)
            have h2 : ((2 ^ (bitsP (l.take i) + p.1) : Nat) : Int) ≤ ((2 ^ 64 : Nat) : Int) := by omega
            simpa using h2
          omega
        simp only [nilc_ptr, lenSl_sl, lenSl_nil, eqPtr_ptr, eqPtr_nil, eqPtr_ptr', eqSl_sl, eqSl_nil, ptrAt_ptr, Option.bind_some, Option.map_some, ld1_get', ldN_get', st_get', get_put', get_new', put_put', ldB_cells, ldNB_cells, stB_cells, H.next_new, H.next_put, List.getElem?_cons_zero, List.getElem?_cons_succ, Nat.zero_add, Nat.add_zero, Nat.reduceAdd, Nat.reduceLeDiff, Nat.reduceLT, Nat.reduceMul, Nat.reduceSub, Nat.reduceEqDiff, Int.reduceEq, Int.reduceLT, Int.reduceLE, Int.reduceNeg, V.one, V.cells, V.beq, V.beqs, ckB_some, asI_int, asB_bool, asIAny, asS, List.length_cons, List.length_nil, Nat.beq_refl, List.all_cons, List.all_nil, Bool.and_true, Bool.and_false, Bool.true_and, Bool.false_and, Bool.not_true, Bool.not_false, Bool.or_false, Bool.false_or, Bool.or_self, Bool.and_self, decide_true, decide_false, if_true, if_false, splice, List.take_succ_cons, List.take_zero, List.drop_succ_cons, List.drop_zero, List.cons_append, List.nil_append, List.set_cons_zero, List.set_cons_succ, reduceCtorEq, fill, repl, opd, boxc, finV, resAllV, resOfV, result, eqV, eqIfc, aggCells, part, W_call, Nat.reduceBEq, Nat.beq_eq, shl_spec (show bitsP (l.take i) ≤ 63 by omega), wru64 hpos (by omega), o1]
        have w1 : wr .i64 (((bitsP (l.take i) : Nat) : Int) + (p.1 : Int)) = ((bitsP (l.take (i + 1)) : Nat) : Int) := by rw [wr64 (by omega) (by omega), e1]; omega
        have w2 : wr .i64 ((i : Int) + 1) = ((i + 1 : Nat) : Int) := by rw [wr64 (by omega) (by omega)]; rfl
        rw [w1, w2, ← e2]
        refine Ev.some (.inl ⟨i + 1, rfl, rfl, ⟨hic, by rw [e3, hf, hc]; rfl, ⟨by rw [e2]; omega, by rw [e2, e1]; exact o2⟩, (fr.new _).put (.inr (by have := fr.le; omega)) (by simp) _⟩, Nat.sub_lt_sub_left hic (Nat.lt_succ_self i)⟩)
    · have : i = l.length := by omega
      subst this
      simp only [S.word_Pack_c1_S, decide_eq_false (show ¬ ((l.length : Nat) : Int) < (l.length : Int) by omega)]
      rw [List.take_length] at hf ⊢
      exact Ev.some (.inr ⟨by simp, fr, .inr ⟨rfl, hf, rfl⟩⟩)
  · rintro ⟨x, env, g⟩ ⟨fr, ⟨rfl, hf, y, hx⟩ | ⟨rfl, hf, hx⟩⟩
    · simp only at hx fr ⊢
      subst hx
      rw [S.word_Pack_c1_r_eq, hf]
      exact Ev.some ⟨rfl, fr⟩
    · simp only at hx fr ⊢
      subst hx
      rw [S.word_Pack_c1_e0_eq, hf]
      exact Ev.some ⟨rfl, fr⟩
end Wm
end

section
/- Headers and their words: what the functions of head come to. -/
namespace Wm
attribute [local congr] bind_congr1

def born (e : Int) : Int := if e % 4 = 0 then 1 - black e else black e
def fenced (e : Int) : Bool := decide (e % 4 = 1) || decide (e % 4 = 2)
def grayW (w : Int) : Bool := okT w && (unp w).gray
def blackened (w : Int) : Int := if grayW w then ({ unp w with gray := false } : Hdr).word else w
def retired (w e : Int) : Int := if white w e then ({ unp w with kind := 3, gray := false, stamp := e % 65536 } : Hdr).word else w
def limbo (w : Int) : Bool := okT w && decide ((unp w).kind = 3)
def freed (w gens : Int) : Int := if limbo w then (if gens ≤ (unp w).gen + 1 ∨ 4294967296 ≤ (unp w).gen + 1 then ({ unp w with kind := 4 } : Hdr).word else (⟨0, 0, false, 0, (unp w).gen + 1, 0⟩ : Hdr).word) else w

theorem unp_right (w : Int) : (unp w).right = true := by
  unfold unp
  cases ho : okT w with
  | false => rfl
  | true =>
    unfold okT at ho
    simp only [Bool.and_eq_true, decide_eq_true_eq] at ho
    simp only [if_true, Hdr.right, Bool.and_eq_true, decide_eq_true_eq]
    unfold getT at ho ⊢
    simp only [Int.reducePow] at ho ⊢
    omega

theorem right_iff (x : Hdr) : x.right = true ↔ (0 ≤ x.kind ∧ x.kind ≤ 4) ∧ (0 ≤ x.mark ∧ x.mark ≤ 1) ∧ (0 ≤ x.arity ∧ x.arity ≤ 15) ∧ (0 ≤ x.gen ∧ x.gen ≤ 4294967295) ∧ (0 ≤ x.stamp ∧ x.stamp ≤ 65535) := by
  simp only [Hdr.right, Bool.and_eq_true, decide_eq_true_eq, and_assoc]

theorem word_U64 {x : Hdr} (h : x.right = true) : U64 x.word := by
  rw [right_iff] at h
  unfold Hdr.word U64
  split <;> omega

theorem okT_word {x : Hdr} (h : x.right = true) : okT x.word = true := by
  rw [right_iff] at h
  unfold okT getT
  simp only [Bool.and_eq_true, decide_eq_true_eq, Int.reducePow]
  unfold Hdr.word
  split <;> omega

theorem unp_word {x : Hdr} (h : x.right = true) : unp x.word = x := by
  unfold unp
  rw [okT_word h, if_pos rfl]
  rw [right_iff] at h
  obtain ⟨k, m, g, a, n, s⟩ := x
  simp only at h
  unfold getT Hdr.word
  simp only [Int.reducePow, Hdr.mk.injEq]
  cases g <;> simp only [if_true, Bool.false_eq_true, if_false, decide_eq_true_eq, decide_eq_false_iff_not] <;> omega

theorem word_unp {w : Int} (hw : U64 w) (ho : okT w = true) : (unp w).word = w := by
  unfold unp
  rw [ho, if_pos rfl]
  unfold okT at ho
  simp only [Bool.and_eq_true, decide_eq_true_eq] at ho
  unfold getT at ho ⊢
  unfold Hdr.word U64 at *
  simp only [Int.reducePow, decide_eq_true_eq] at ho ⊢
  split <;> omega

theorem black_01 (e : Int) : 0 ≤ black e ∧ black e ≤ 1 := by unfold black; omega
theorem born_01 (e : Int) : 0 ≤ born e ∧ born e ≤ 1 := by unfold born black; split <;> omega

theorem unpack_spec {w : Int} (hw : U64 w) (h : H) : C 265 [.int .u64 w] h = some (.tup [.agg (unp w).cs, .bool (okT w)], h) := by
  rw [headUnpack_spec hw h]
  unfold unp
  cases ho : okT w <;> rfl

theorem refUnp_spec {w : Int} (hw : U64 w) (h : H) : C 109 [.int .u64 w] h = some (.tup [.agg (unp w).cs, .bool (okT w)], h) := by
  rw [refUnpack_spec hw h]
  unfold unp
  cases ho : okT w <;> rfl

/-- Numbers as they are in the machine. -/
def Hdr.i64 (x : Hdr) : Prop := x.kind ≤ 9223372036854775807 ∧ x.mark ≤ 9223372036854775807 ∧ x.arity ≤ 9223372036854775807 ∧ x.gen ≤ 9223372036854775807 ∧ x.stamp ≤ 9223372036854775807
theorem right_i64 {x : Hdr} (h : x.right = true) : x.i64 := by
  rw [right_iff] at h
  unfold Hdr.i64; omega

theorem bit_spec (b : Bool) (h : H) : C 444 [.bool b] h = some (.int .u64 (if b then 1 else 0), h) := by
  refine call_closed (af := F.head_bit) (by kernel_rfl) rfl (by rfl) (by rfl) h ?_
  rw [S.head_bit_eq]
  cases b <;> exact Ev.some rfl

theorem headPack_spec {x : Hdr} (hx : x.i64) (h : H) : C 382 [.agg x.cs] h = some (.tup [.int .u64 (pack x), .bool x.right], h) := by
  refine call_closed (af := F.head_Pack) (by kernel_rfl) rfl (by rfl) (by rfl) h ?_
  obtain ⟨k, m, g, a, n, s⟩ := x
  obtain ⟨b1, b2, b3, b4, b5⟩ := hx
  simp only at b1 b2 b3 b4 b5
  unfold Hdr.cs
  rw [S.head_Pack_eq]
  simp only [S.head_Pack, nilc_ptr, lenSl_sl, lenSl_nil, eqPtr_ptr, eqPtr_nil, eqPtr_ptr', eqSl_sl, eqSl_nil, ptrAt_ptr, Option.bind_some, Option.map_some, ld1_get', ldN_get', st_get', get_put', get_new', put_put', ldB_cells, ldNB_cells, stB_cells, H.next_new, H.next_put, List.getElem?_cons_zero, List.getElem?_cons_succ, Nat.zero_add, Nat.add_zero, Nat.reduceAdd, Nat.reduceLeDiff, Nat.reduceLT, Nat.reduceMul, Nat.reduceSub, Nat.reduceEqDiff, Int.reduceEq, Int.reduceLT, Int.reduceLE, Int.reduceNeg, V.one, V.cells, V.beq, V.beqs, ckB_some, asI_int, asB_bool, asIAny, asS, List.length_cons, List.length_nil, Nat.beq_refl, List.all_cons, List.all_nil, Bool.and_true, Bool.and_false, Bool.true_and, Bool.false_and, Bool.not_true, Bool.not_false, Bool.or_false, Bool.false_or, Bool.or_self, Bool.and_self, decide_true, decide_false, if_true, if_false, splice, List.take_succ_cons, List.take_zero, List.drop_succ_cons, List.drop_zero, List.cons_append, List.nil_append, List.set_cons_zero, List.set_cons_succ, reduceCtorEq, fill, repl, opd, boxc, finV, resAllV, resOfV, result, eqV, eqIfc, aggCells, part, W_call, Nat.reduceBEq, Nat.beq_eq]
  generalize hH : H.empty.new (.cells [.int .i64 k, .int .i64 m, .bool g, .int .i64 a, .int .i64 n, .int .i64 s] .rw) = h0
  have g0 : h0.get H.empty.next = some (.cells [.int .i64 k, .int .i64 m, .bool g, .int .i64 a, .int .i64 n, .int .i64 s] .rw) := by rw [← hH]; exact get_new_self _ _
  have ok0 : h0.ok := by rw [← hH]; exact H.ok_empty.new _
  generalize H.empty.next = q at g0 ⊢
  let xs : List Int := [k, m, a, n, s]
  refine loop_ev (α := Nat) (fun i => S.head_Pack_c1_E (.ptr q 0) (.agg [.int .i64 k, .int .i64 m, .int .i64 a, .int .i64 n, .int .i64 s]) (.int .i64 i))
    (fun i g => g = h0 ∧ i ≤ 5 ∧ ∀ j, j < i → ∀ y, xs[j]? = some y → 0 ≤ y) (fun i _ => 5 - i)
    (fun r => r.2.2 = h0 ∧ ((r.1 = .ret ∧ r.2.1 = S.head_Pack_c1_O (.ptr q 0) (.int .u64 0) (.bool false) ∧ ¬ (0 ≤ k ∧ 0 ≤ m ∧ 0 ≤ a ∧ 0 ≤ n ∧ 0 ≤ s)) ∨ (r.1 = .exit 0 ∧ r.2.1 = S.head_Pack_c1_O (.ptr q 0) .dead .dead ∧ (0 ≤ k ∧ 0 ≤ m ∧ 0 ≤ a ∧ 0 ≤ n ∧ 0 ≤ s))))
    0 rfl ⟨rfl, by omega, fun j hj => by omega⟩ ?_ ?_
  · rintro i g' ⟨rfl, hi, hx⟩
    rw [S.head_Pack_c1_eq]
    by_cases hic : i < 5
    · obtain ⟨y, hy⟩ : ∃ y, xs[i]? = some y := ⟨_, List.getElem?_eq_getElem (by simpa [xs] using hic)⟩
      have hp : ([V.int .i64 k, .int .i64 m, .int .i64 a, .int .i64 n, .int .i64 s] : List V)[i]? = some (.int .i64 y) := by
        have : ([V.int .i64 k, .int .i64 m, .int .i64 a, .int .i64 n, .int .i64 s] : List V) = xs.map (.int .i64) := rfl
        rw [this, List.getElem?_map, hy]; rfl
      have hix : indexOf 5 (.int .i64 (i : Int)) = some i := by
        simp only [indexOf, asIAny, show decide ((0 : Int) ≤ (i : Int)) = true from decide_eq_true (by omega), show decide ((i : Int) < ((5 : Nat) : Int)) = true from decide_eq_true (by omega), Bool.and_self, Int.toNat_natCast]
      have w2 : wr .i64 ((i : Int) + 1) = ((i + 1 : Nat) : Int) := by rw [wr64 (by omega) (by omega)]; rfl
      simp only [S.head_Pack_c1_S, decide_eq_true (show (i : Int) < 5 by omega), aggCells, Option.bind_some, hix, part, Nat.mul_one, hp, asI_int, w2]
      by_cases hn : y < 0
      · simp only [decide_eq_true hn]
        refine Ev.some (.inr ⟨by simp, rfl, .inl ⟨rfl, rfl, fun q => ?_⟩⟩)
        have : i = 0 ∨ i = 1 ∨ i = 2 ∨ i = 3 ∨ i = 4 := by omega
        rcases this with rfl | rfl | rfl | rfl | rfl <;> simp [xs] at hy <;> omega
      · simp only [decide_eq_false hn]
        refine Ev.some (.inl ⟨i + 1, rfl, rfl, ⟨rfl, hic, fun j hj z hz => ?_⟩, by omega⟩)
        rcases Nat.lt_or_ge j i with q | q
        · exact hx j q z hz
        · have : j = i := by omega
          subst this
          rw [hy] at hz; cases hz; omega
    · have : i = 5 := by omega
      subst this
      simp only [S.head_Pack_c1_S, show decide (((5 : Nat) : Int) < 5) = false from rfl]
      exact Ev.some (.inr ⟨by simp, rfl, .inr ⟨rfl, rfl, hx 0 (by omega) k rfl, hx 1 (by omega) m rfl, hx 2 (by omega) a rfl, hx 3 (by omega) n rfl, hx 4 (by omega) s rfl⟩⟩)
  · rintro ⟨x, env, g'⟩ ⟨rfl, ⟨rfl, rfl, hn⟩ | ⟨rfl, rfl, p1, p2, p3, p4, p5⟩⟩
    · simp only
      rw [S.head_Pack_c1_r_eq]
      have hr : (⟨k, m, g, a, n, s⟩ : Hdr).right = false := by
        rw [Bool.eq_false_iff, ne_eq, right_iff]; simp only; omega
      unfold pack
      rw [hr]
      exact Ev.some rfl
    · simp only
      rw [S.head_Pack_c1_e0_eq]
      simp only [S.head_Pack_c1_e0, nilc_ptr, lenSl_sl, lenSl_nil, eqPtr_ptr, eqPtr_nil, eqPtr_ptr', eqSl_sl, eqSl_nil, ptrAt_ptr, Option.bind_some, Option.map_some, ld1_get', ldN_get', st_get', get_put', get_new', put_put', ldB_cells, ldNB_cells, stB_cells, H.next_new, H.next_put, List.getElem?_cons_zero, List.getElem?_cons_succ, Nat.zero_add, Nat.add_zero, Nat.reduceAdd, Nat.reduceLeDiff, Nat.reduceLT, Nat.reduceMul, Nat.reduceSub, Nat.reduceEqDiff, Int.reduceEq, Int.reduceLT, Int.reduceLE, Int.reduceNeg, V.one, V.cells, V.beq, V.beqs, ckB_some, asI_int, asB_bool, asIAny, asS, List.length_cons, List.length_nil, Nat.beq_refl, List.all_cons, List.all_nil, Bool.and_true, Bool.and_false, Bool.true_and, Bool.false_and, Bool.not_true, Bool.not_false, Bool.or_false, Bool.false_or, Bool.or_self, Bool.and_self, decide_true, decide_false, if_true, if_false, splice, List.take_succ_cons, List.take_zero, List.drop_succ_cons, List.drop_zero, List.cons_append, List.nil_append, List.set_cons_zero, List.set_cons_succ, reduceCtorEq, fill, repl, opd, boxc, finV, resAllV, resOfV, result, eqV, eqIfc, aggCells, part, W_call, Nat.reduceBEq, Nat.beq_eq, g0, bit_spec]
      rw [wru64 p1 (by omega), wru64 p2 (by omega), wru64 p3 (by omega), wru64 p4 (by omega), wru64 p5 (by omega)]
      let l : Parts := [(3, k), (1, m), (1, if g then 1 else 0), (4, a), (7, 0), (32, n), (16, s)]
      have hok : okP l := ⟨by simp [l, bitsP], by
        intro p hp
        simp only [l, List.mem_cons, List.not_mem_nil, or_false] at hp
        unfold U64
        rcases hp with rfl | rfl | rfl | rfl | rfl | rfl | rfl <;> simp only <;> (try split) <;> omega⟩
      have hcells : cellsP l = [.int .i64 3, .int .u64 k, .int .i64 1, .int .u64 m, .int .i64 1, .int .u64 (if g then 1 else 0), .int .i64 4, .int .u64 a, .int .i64 7, .int .u64 0, .int .i64 32, .int .u64 n, .int .i64 16, .int .u64 s] := rfl
      refine Ev.bind (wordPack_spec (l := l) hok (ok0.new _) (get_new_self _ _)) ?_
      rintro ⟨v, g2⟩ ⟨rfl, fr⟩
      have hg2 : g2.get q = some (.cells [.int .i64 k, .int .i64 m, .bool g, .int .i64 a, .int .i64 n, .int .i64 s] .rw) :=
        fr.get (ok0.new _) (by rw [get_new_ne (ok0.ne0 g0)]; exact g0) (by simp)
      have hfit : fitP l = (decide (k < 8) && (decide (m < 2) && (decide (a < 16) && (decide (n < 4294967296) && decide (s < 65536))))) := by
        have hg1 : decide ((if g = true then (1 : Int) else 0) < 2) = true := by cases g <;> rfl
        cases g <;> simp [l, fitP] <;> rfl
      have hsum : sumP l = (⟨k, m, g, a, n, s⟩ : Hdr).word := by
        simp only [l, sumP, Hdr.word, Int.reducePow]
        cases g <;> simp only [if_true, Bool.false_eq_true, if_false] <;> omega
      cases hfl : fitP l with
      | false =>
        simp only [nilc_ptr, lenSl_sl, lenSl_nil, eqPtr_ptr, eqPtr_nil, eqPtr_ptr', eqSl_sl, eqSl_nil, ptrAt_ptr, Option.bind_some, Option.map_some, ld1_get', ldN_get', st_get', get_put', get_new', put_put', ldB_cells, ldNB_cells, stB_cells, H.next_new, H.next_put, List.getElem?_cons_zero, List.getElem?_cons_succ, Nat.zero_add, Nat.add_zero, Nat.reduceAdd, Nat.reduceLeDiff, Nat.reduceLT, Nat.reduceMul, Nat.reduceSub, Nat.reduceEqDiff, Int.reduceEq, Int.reduceLT, Int.reduceLE, Int.reduceNeg, V.one, V.cells, V.beq, V.beqs, ckB_some, asI_int, asB_bool, asIAny, asS, List.length_cons, List.length_nil, Nat.beq_refl, List.all_cons, List.all_nil, Bool.and_true, Bool.and_false, Bool.true_and, Bool.false_and, Bool.not_true, Bool.not_false, Bool.or_false, Bool.false_or, Bool.or_self, Bool.and_self, decide_true, decide_false, if_true, if_false, splice, List.take_succ_cons, List.take_zero, List.drop_succ_cons, List.drop_zero, List.cons_append, List.nil_append, List.set_cons_zero, List.set_cons_succ, reduceCtorEq, fill, repl, opd, boxc, finV, resAllV, resOfV, result, eqV, eqIfc, aggCells, part, W_call, Nat.reduceBEq, Nat.beq_eq]
        have hr : (⟨k, m, g, a, n, s⟩ : Hdr).right = false := by
          rw [hfit] at hfl
          simp only [Bool.and_eq_false_iff, decide_eq_false_iff_not] at hfl
          rw [Bool.eq_false_iff, ne_eq, right_iff]; simp only; omega
        unfold pack
        rw [hr]
        exact Ev.some rfl
      | true =>
        rw [hfit] at hfl
        simp only [Bool.and_eq_true, decide_eq_true_eq] at hfl
        simp only [nilc_ptr, lenSl_sl, lenSl_nil, eqPtr_ptr, eqPtr_nil, eqPtr_ptr', eqSl_sl, eqSl_nil, ptrAt_ptr, Option.bind_some, Option.map_some, ld1_get', ldN_get', st_get', get_put', get_new', put_put', ldB_cells, ldNB_cells, stB_cells, H.next_new, H.next_put, List.getElem?_cons_zero, List.getElem?_cons_succ, Nat.zero_add, Nat.add_zero, Nat.reduceAdd, Nat.reduceLeDiff, Nat.reduceLT, Nat.reduceMul, Nat.reduceSub, Nat.reduceEqDiff, Int.reduceEq, Int.reduceLT, Int.reduceLE, Int.reduceNeg, V.one, V.cells, V.beq, V.beqs, ckB_some, asI_int, asB_bool, asIAny, asS, List.length_cons, List.length_nil, Nat.beq_refl, List.all_cons, List.all_nil, Bool.and_true, Bool.and_false, Bool.true_and, Bool.false_and, Bool.not_true, Bool.not_false, Bool.or_false, Bool.false_or, Bool.or_self, Bool.and_self, decide_true, decide_false, if_true, if_false, splice, List.take_succ_cons, List.take_zero, List.drop_succ_cons, List.drop_zero, List.cons_append, List.nil_append, List.set_cons_zero, List.set_cons_succ, reduceCtorEq, fill, repl, opd, boxc, finV, resAllV, resOfV, result, eqV, eqIfc, aggCells, part, W_call, Nat.reduceBEq, Nat.beq_eq, hg2]
        by_cases h4 : 4 < k
        · have hr : (⟨k, m, g, a, n, s⟩ : Hdr).right = false := by
            rw [Bool.eq_false_iff, ne_eq, right_iff]; simp only; omega
          unfold pack
          simp only [decide_eq_true h4, hr]
          exact Ev.some rfl
        · have hr : (⟨k, m, g, a, n, s⟩ : Hdr).right = true := by
            rw [right_iff]; simp only; omega
          unfold pack
          simp only [decide_eq_false h4, hr, if_true, hsum]
          exact Ev.some rfl

theorem black_spec {e : Int} (he : U64 e) (h : H) : C 381 [.int .u64 e] h = some (.int .i64 (black e), h) := by
  have hc : ∀ h, C 442 [.int .u64 e] h = some (.int .u64 (e / 4), h) := fun h => by
    refine call_closed (af := F.turn_Cycle) (by kernel_rfl) rfl (by rfl) (by rfl) h ?_
    rw [S.turn_Cycle_eq]
    simp only [S.turn_Cycle, td he.1]
    rw [wru64 (by have := he.1; omega) (by have := he.2; omega)]
    exact Ev.some rfl
  refine call_closed (af := F.turn_Black) (by kernel_rfl) rfl (by rfl) (by rfl) h ?_
  rw [S.turn_Black_eq]
  obtain ⟨h0, h1⟩ := he
  simp only [S.turn_Black, nilc_ptr, lenSl_sl, lenSl_nil, eqPtr_ptr, eqPtr_nil, eqPtr_ptr', eqSl_sl, eqSl_nil, ptrAt_ptr, Option.bind_some, Option.map_some, ld1_get', ldN_get', st_get', get_put', get_new', put_put', ldB_cells, ldNB_cells, stB_cells, H.next_new, H.next_put, List.getElem?_cons_zero, List.getElem?_cons_succ, Nat.zero_add, Nat.add_zero, Nat.reduceAdd, Nat.reduceLeDiff, Nat.reduceLT, Nat.reduceMul, Nat.reduceSub, Nat.reduceEqDiff, Int.reduceEq, Int.reduceLT, Int.reduceLE, Int.reduceNeg, V.one, V.cells, V.beq, V.beqs, ckB_some, asI_int, asB_bool, asIAny, asS, List.length_cons, List.length_nil, Nat.beq_refl, List.all_cons, List.all_nil, Bool.and_true, Bool.and_false, Bool.true_and, Bool.false_and, Bool.not_true, Bool.not_false, Bool.or_false, Bool.false_or, Bool.or_self, Bool.and_self, decide_true, decide_false, if_true, if_false, splice, List.take_succ_cons, List.take_zero, List.drop_succ_cons, List.drop_zero, List.cons_append, List.nil_append, List.set_cons_zero, List.set_cons_succ, reduceCtorEq, fill, repl, opd, boxc, finV, resAllV, resOfV, result, eqV, eqIfc, aggCells, part, W_call, Nat.reduceBEq, Nat.beq_eq, hc]
  rw [wru64 (n := e / 4 + 1) (by omega) (by omega), tm (by omega), wr64 (by omega) (by omega)]
  exact Ev.some rfl

theorem born_spec {e : Int} (he : U64 e) (h : H) : C 557 [.int .u64 e] h = some (.int .i64 (born e), h) := by
  refine call_closed (af := F.turn_Born) (by kernel_rfl) rfl (by rfl) (by rfl) h ?_
  rw [S.turn_Born_eq]
  have hb := black_01 e
  by_cases h4 : e % 4 = 0
  · simp only [S.turn_Born, nilc_ptr, lenSl_sl, lenSl_nil, eqPtr_ptr, eqPtr_nil, eqPtr_ptr', eqSl_sl, eqSl_nil, ptrAt_ptr, Option.bind_some, Option.map_some, ld1_get', ldN_get', st_get', get_put', get_new', put_put', ldB_cells, ldNB_cells, stB_cells, H.next_new, H.next_put, List.getElem?_cons_zero, List.getElem?_cons_succ, Nat.zero_add, Nat.add_zero, Nat.reduceAdd, Nat.reduceLeDiff, Nat.reduceLT, Nat.reduceMul, Nat.reduceSub, Nat.reduceEqDiff, Int.reduceEq, Int.reduceLT, Int.reduceLE, Int.reduceNeg, V.one, V.cells, V.beq, V.beqs, ckB_some, asI_int, asB_bool, asIAny, asS, List.length_cons, List.length_nil, Nat.beq_refl, List.all_cons, List.all_nil, Bool.and_true, Bool.and_false, Bool.true_and, Bool.false_and, Bool.not_true, Bool.not_false, Bool.or_false, Bool.false_or, Bool.or_self, Bool.and_self, decide_true, decide_false, if_true, if_false, splice, List.take_succ_cons, List.take_zero, List.drop_succ_cons, List.drop_zero, List.cons_append, List.nil_append, List.set_cons_zero, List.set_cons_succ, reduceCtorEq, fill, repl, opd, boxc, finV, resAllV, resOfV, result, eqV, eqIfc, aggCells, part, W_call, Nat.reduceBEq, Nat.beq_eq, tm he.1, h4, black_spec he]
    rw [wr64 (by omega) (by omega)]
    unfold born; rw [if_pos h4]
    exact Ev.some rfl
  · simp only [S.turn_Born, nilc_ptr, lenSl_sl, lenSl_nil, eqPtr_ptr, eqPtr_nil, eqPtr_ptr', eqSl_sl, eqSl_nil, ptrAt_ptr, Option.bind_some, Option.map_some, ld1_get', ldN_get', st_get', get_put', get_new', put_put', ldB_cells, ldNB_cells, stB_cells, H.next_new, H.next_put, List.getElem?_cons_zero, List.getElem?_cons_succ, Nat.zero_add, Nat.add_zero, Nat.reduceAdd, Nat.reduceLeDiff, Nat.reduceLT, Nat.reduceMul, Nat.reduceSub, Nat.reduceEqDiff, Int.reduceEq, Int.reduceLT, Int.reduceLE, Int.reduceNeg, V.one, V.cells, V.beq, V.beqs, ckB_some, asI_int, asB_bool, asIAny, asS, List.length_cons, List.length_nil, Nat.beq_refl, List.all_cons, List.all_nil, Bool.and_true, Bool.and_false, Bool.true_and, Bool.false_and, Bool.not_true, Bool.not_false, Bool.or_false, Bool.false_or, Bool.or_self, Bool.and_self, decide_true, decide_false, if_true, if_false, splice, List.take_succ_cons, List.take_zero, List.drop_succ_cons, List.drop_zero, List.cons_append, List.nil_append, List.set_cons_zero, List.set_cons_succ, reduceCtorEq, fill, repl, opd, boxc, finV, resAllV, resOfV, result, eqV, eqIfc, aggCells, part, W_call, Nat.reduceBEq, Nat.beq_eq, tm he.1, h4, black_spec he]
    unfold born; rw [if_neg h4]
    exact Ev.some rfl

theorem fenced_spec {e : Int} (he : U64 e) (h : H) : C 308 [.int .u64 e] h = some (.bool (fenced e), h) := by
  refine call_closed (af := F.turn_Fenced) (by kernel_rfl) rfl (by rfl) (by rfl) h ?_
  rw [S.turn_Fenced_eq]
  unfold fenced
  by_cases h4 : e % 4 = 1
  · simp only [S.turn_Fenced, tm he.1, h4, decide_true, Bool.true_or]
    exact Ev.some rfl
  · simp only [S.turn_Fenced, tm he.1, h4, decide_false, Bool.false_or]
    exact Ev.some rfl

theorem lives_spec {w : Int} (hw : U64 w) (h : H) : C 380 [.int .u64 w] h = some (.tup [.agg (unp w).cs, .bool (lives w)], h) := by
  refine call_closed (af := F.head_lives) (by kernel_rfl) rfl (by rfl) (by rfl) h ?_
  rw [S.head_lives_eq]
  have hl : lives w = (okT w && (decide ((unp w).kind = 1) || decide ((unp w).kind = 2))) := rfl
  rw [hl]
  have n1 : ∀ x : Nat, x ≠ x + 1 := fun x => by omega
  have n2 : ∀ x : Nat, x + 1 ≠ x := fun x => by omega
  cases ho : okT w with
  | false =>
    simp only [S.head_lives, nilc_ptr, lenSl_sl, lenSl_nil, eqPtr_ptr, eqPtr_nil, eqPtr_ptr', eqSl_sl, eqSl_nil, ptrAt_ptr, Option.bind_some, Option.map_some, ld1_get', ldN_get', st_get', get_put', get_new', put_put', ldB_cells, ldNB_cells, stB_cells, H.next_new, H.next_put, List.getElem?_cons_zero, List.getElem?_cons_succ, Nat.zero_add, Nat.add_zero, Nat.reduceAdd, Nat.reduceLeDiff, Nat.reduceLT, Nat.reduceMul, Nat.reduceSub, Nat.reduceEqDiff, Int.reduceEq, Int.reduceLT, Int.reduceLE, Int.reduceNeg, V.one, V.cells, V.beq, V.beqs, ckB_some, asI_int, asB_bool, asIAny, asS, List.length_cons, List.length_nil, Nat.beq_refl, List.all_cons, List.all_nil, Bool.and_true, Bool.and_false, Bool.true_and, Bool.false_and, Bool.not_true, Bool.not_false, Bool.or_false, Bool.false_or, Bool.or_self, Bool.and_self, decide_true, decide_false, if_true, if_false, splice, List.take_succ_cons, List.take_zero, List.drop_succ_cons, List.drop_zero, List.cons_append, List.nil_append, List.set_cons_zero, List.set_cons_succ, reduceCtorEq, fill, repl, opd, boxc, finV, resAllV, resOfV, result, eqV, eqIfc, aggCells, part, W_call, Nat.reduceBEq, Nat.beq_eq, unpack_spec hw, ho, Hdr.cs, n1, n2]
    exact Ev.some rfl
  | true =>
    by_cases k1 : (unp w).kind = 1
    · simp only [S.head_lives, nilc_ptr, lenSl_sl, lenSl_nil, eqPtr_ptr, eqPtr_nil, eqPtr_ptr', eqSl_sl, eqSl_nil, ptrAt_ptr, Option.bind_some, Option.map_some, ld1_get', ldN_get', st_get', get_put', get_new', put_put', ldB_cells, ldNB_cells, stB_cells, H.next_new, H.next_put, List.getElem?_cons_zero, List.getElem?_cons_succ, Nat.zero_add, Nat.add_zero, Nat.reduceAdd, Nat.reduceLeDiff, Nat.reduceLT, Nat.reduceMul, Nat.reduceSub, Nat.reduceEqDiff, Int.reduceEq, Int.reduceLT, Int.reduceLE, Int.reduceNeg, V.one, V.cells, V.beq, V.beqs, ckB_some, asI_int, asB_bool, asIAny, asS, List.length_cons, List.length_nil, Nat.beq_refl, List.all_cons, List.all_nil, Bool.and_true, Bool.and_false, Bool.true_and, Bool.false_and, Bool.not_true, Bool.not_false, Bool.or_false, Bool.false_or, Bool.or_self, Bool.and_self, decide_true, decide_false, if_true, if_false, splice, List.take_succ_cons, List.take_zero, List.drop_succ_cons, List.drop_zero, List.cons_append, List.nil_append, List.set_cons_zero, List.set_cons_succ, reduceCtorEq, fill, repl, opd, boxc, finV, resAllV, resOfV, result, eqV, eqIfc, aggCells, part, W_call, Nat.reduceBEq, Nat.beq_eq, unpack_spec hw, ho, Hdr.cs, n1, n2, k1, Bool.true_or]
      exact Ev.some rfl
    · simp only [S.head_lives, nilc_ptr, lenSl_sl, lenSl_nil, eqPtr_ptr, eqPtr_nil, eqPtr_ptr', eqSl_sl, eqSl_nil, ptrAt_ptr, Option.bind_some, Option.map_some, ld1_get', ldN_get', st_get', get_put', get_new', put_put', ldB_cells, ldNB_cells, stB_cells, H.next_new, H.next_put, List.getElem?_cons_zero, List.getElem?_cons_succ, Nat.zero_add, Nat.add_zero, Nat.reduceAdd, Nat.reduceLeDiff, Nat.reduceLT, Nat.reduceMul, Nat.reduceSub, Nat.reduceEqDiff, Int.reduceEq, Int.reduceLT, Int.reduceLE, Int.reduceNeg, V.one, V.cells, V.beq, V.beqs, ckB_some, asI_int, asB_bool, asIAny, asS, List.length_cons, List.length_nil, Nat.beq_refl, List.all_cons, List.all_nil, Bool.and_true, Bool.and_false, Bool.true_and, Bool.false_and, Bool.not_true, Bool.not_false, Bool.or_false, Bool.false_or, Bool.or_self, Bool.and_self, decide_true, decide_false, if_true, if_false, splice, List.take_succ_cons, List.take_zero, List.drop_succ_cons, List.drop_zero, List.cons_append, List.nil_append, List.set_cons_zero, List.set_cons_succ, reduceCtorEq, fill, repl, opd, boxc, finV, resAllV, resOfV, result, eqV, eqIfc, aggCells, part, W_call, Nat.reduceBEq, Nat.beq_eq, unpack_spec hw, ho, Hdr.cs, n1, n2, k1]
      exact Ev.some rfl

theorem white_iff (w e : Int) : white w e = true ↔ lives w = true ∧ (unp w).mark ≠ black e := by
  simp only [white, Bool.and_eq_true, Bool.not_eq_true', decide_eq_false_iff_not, ne_eq]

theorem shadedH_right (w e : Int) : (shadedH w e).right = true := by
  have h1 := unp_right w
  have h2 := black_01 e
  unfold shadedH
  rw [right_iff] at h1 ⊢
  simp only; omega

theorem shaded_spec {w e : Int} (hw : U64 w) (he : U64 e) (h : H) : C 267 [.int .u64 w, .int .u64 e] h = some (.tup [.int .u64 (shaded w e), .bool (white w e)], h) := by
  refine call_closed (af := F.head_Shaded) (by kernel_rfl) rfl (by rfl) (by rfl) h ?_
  rw [S.head_Shaded_eq]
  unfold shaded
  cases hl : lives w with
  | false =>
    have hwh : white w e = false := by unfold white; rw [hl]; rfl
    simp only [S.head_Shaded, nilc_ptr, lenSl_sl, lenSl_nil, eqPtr_ptr, eqPtr_nil, eqPtr_ptr', eqSl_sl, eqSl_nil, ptrAt_ptr, Option.bind_some, Option.map_some, ld1_get', ldN_get', st_get', get_put', get_new', put_put', ldB_cells, ldNB_cells, stB_cells, H.next_new, H.next_put, List.getElem?_cons_zero, List.getElem?_cons_succ, Nat.zero_add, Nat.add_zero, Nat.reduceAdd, Nat.reduceLeDiff, Nat.reduceLT, Nat.reduceMul, Nat.reduceSub, Nat.reduceEqDiff, Int.reduceEq, Int.reduceLT, Int.reduceLE, Int.reduceNeg, V.one, V.cells, V.beq, V.beqs, ckB_some, asI_int, asB_bool, asIAny, asS, List.length_cons, List.length_nil, Nat.beq_refl, List.all_cons, List.all_nil, Bool.and_true, Bool.and_false, Bool.true_and, Bool.false_and, Bool.not_true, Bool.not_false, Bool.or_false, Bool.false_or, Bool.or_self, Bool.and_self, decide_true, decide_false, if_true, if_false, splice, List.take_succ_cons, List.take_zero, List.drop_succ_cons, List.drop_zero, List.cons_append, List.nil_append, List.set_cons_zero, List.set_cons_succ, reduceCtorEq, fill, repl, opd, boxc, finV, resAllV, resOfV, result, eqV, eqIfc, aggCells, part, W_call, Nat.reduceBEq, Nat.beq_eq, lives_spec hw, hl, Hdr.cs, hwh, Bool.false_eq_true]
    exact Ev.some rfl
  | true =>
    by_cases hm : (unp w).mark = black e
    · have hwh : white w e = false := by unfold white; rw [hl, decide_eq_true hm]; rfl
      simp only [S.head_Shaded, nilc_ptr, lenSl_sl, lenSl_nil, eqPtr_ptr, eqPtr_nil, eqPtr_ptr', eqSl_sl, eqSl_nil, ptrAt_ptr, Option.bind_some, Option.map_some, ld1_get', ldN_get', st_get', get_put', get_new', put_put', ldB_cells, ldNB_cells, stB_cells, H.next_new, H.next_put, List.getElem?_cons_zero, List.getElem?_cons_succ, Nat.zero_add, Nat.add_zero, Nat.reduceAdd, Nat.reduceLeDiff, Nat.reduceLT, Nat.reduceMul, Nat.reduceSub, Nat.reduceEqDiff, Int.reduceEq, Int.reduceLT, Int.reduceLE, Int.reduceNeg, V.one, V.cells, V.beq, V.beqs, ckB_some, asI_int, asB_bool, asIAny, asS, List.length_cons, List.length_nil, Nat.beq_refl, List.all_cons, List.all_nil, Bool.and_true, Bool.and_false, Bool.true_and, Bool.false_and, Bool.not_true, Bool.not_false, Bool.or_false, Bool.false_or, Bool.or_self, Bool.and_self, decide_true, decide_false, if_true, if_false, splice, List.take_succ_cons, List.take_zero, List.drop_succ_cons, List.drop_zero, List.cons_append, List.nil_append, List.set_cons_zero, List.set_cons_succ, reduceCtorEq, fill, repl, opd, boxc, finV, resAllV, resOfV, result, eqV, eqIfc, aggCells, part, W_call, Nat.reduceBEq, Nat.beq_eq, lives_spec hw, hl, Hdr.cs, hwh, black_spec he, hm, Bool.false_eq_true]
      exact Ev.some rfl
    · have hwh : white w e = true := by unfold white; rw [hl, decide_eq_false hm]; rfl
      have hp := headPack_spec (right_i64 (shadedH_right w e))
      unfold shadedH Hdr.cs at hp
      simp only [S.head_Shaded, nilc_ptr, lenSl_sl, lenSl_nil, eqPtr_ptr, eqPtr_nil, eqPtr_ptr', eqSl_sl, eqSl_nil, ptrAt_ptr, Option.bind_some, Option.map_some, ld1_get', ldN_get', st_get', get_put', get_new', put_put', ldB_cells, ldNB_cells, stB_cells, H.next_new, H.next_put, List.getElem?_cons_zero, List.getElem?_cons_succ, Nat.zero_add, Nat.add_zero, Nat.reduceAdd, Nat.reduceLeDiff, Nat.reduceLT, Nat.reduceMul, Nat.reduceSub, Nat.reduceEqDiff, Int.reduceEq, Int.reduceLT, Int.reduceLE, Int.reduceNeg, V.one, V.cells, V.beq, V.beqs, ckB_some, asI_int, asB_bool, asIAny, asS, List.length_cons, List.length_nil, Nat.beq_refl, List.all_cons, List.all_nil, Bool.and_true, Bool.and_false, Bool.true_and, Bool.false_and, Bool.not_true, Bool.not_false, Bool.or_false, Bool.false_or, Bool.or_self, Bool.and_self, decide_true, decide_false, if_true, if_false, splice, List.take_succ_cons, List.take_zero, List.drop_succ_cons, List.drop_zero, List.cons_append, List.nil_append, List.set_cons_zero, List.set_cons_succ, reduceCtorEq, fill, repl, opd, boxc, finV, resAllV, resOfV, result, eqV, eqIfc, aggCells, part, W_call, Nat.reduceBEq, Nat.beq_eq, lives_spec hw, hl, Hdr.cs, hwh, black_spec he, hm, hp]
      have hr := shadedH_right w e
      unfold shadedH at hr
      unfold pack shadedH
      rw [hr]
      exact Ev.some rfl

theorem marked_spec {w e : Int} (hw : U64 w) (he : U64 e) (h : H) : C 317 [.int .u64 w, .int .u64 e] h = some (.bool (lives w && decide ((unp w).mark = black e)), h) := by
  refine call_closed (af := F.head_Marked) (by kernel_rfl) rfl (by rfl) (by rfl) h ?_
  rw [S.head_Marked_eq]
  cases hl : lives w with
  | false =>
    simp only [S.head_Marked, nilc_ptr, lenSl_sl, lenSl_nil, eqPtr_ptr, eqPtr_nil, eqPtr_ptr', eqSl_sl, eqSl_nil, ptrAt_ptr, Option.bind_some, Option.map_some, ld1_get', ldN_get', st_get', get_put', get_new', put_put', ldB_cells, ldNB_cells, stB_cells, H.next_new, H.next_put, List.getElem?_cons_zero, List.getElem?_cons_succ, Nat.zero_add, Nat.add_zero, Nat.reduceAdd, Nat.reduceLeDiff, Nat.reduceLT, Nat.reduceMul, Nat.reduceSub, Nat.reduceEqDiff, Int.reduceEq, Int.reduceLT, Int.reduceLE, Int.reduceNeg, V.one, V.cells, V.beq, V.beqs, ckB_some, asI_int, asB_bool, asIAny, asS, List.length_cons, List.length_nil, Nat.beq_refl, List.all_cons, List.all_nil, Bool.and_true, Bool.and_false, Bool.true_and, Bool.false_and, Bool.not_true, Bool.not_false, Bool.or_false, Bool.false_or, Bool.or_self, Bool.and_self, decide_true, decide_false, if_true, if_false, splice, List.take_succ_cons, List.take_zero, List.drop_succ_cons, List.drop_zero, List.cons_append, List.nil_append, List.set_cons_zero, List.set_cons_succ, reduceCtorEq, fill, repl, opd, boxc, finV, resAllV, resOfV, result, eqV, eqIfc, aggCells, part, W_call, Nat.reduceBEq, Nat.beq_eq, lives_spec hw, hl, Hdr.cs]
    exact Ev.some rfl
  | true =>
    simp only [S.head_Marked, nilc_ptr, lenSl_sl, lenSl_nil, eqPtr_ptr, eqPtr_nil, eqPtr_ptr', eqSl_sl, eqSl_nil, ptrAt_ptr, Option.bind_some, Option.map_some, ld1_get', ldN_get', st_get', get_put', get_new', put_put', ldB_cells, ldNB_cells, stB_cells, H.next_new, H.next_put, List.getElem?_cons_zero, List.getElem?_cons_succ, Nat.zero_add, Nat.add_zero, Nat.reduceAdd, Nat.reduceLeDiff, Nat.reduceLT, Nat.reduceMul, Nat.reduceSub, Nat.reduceEqDiff, Int.reduceEq, Int.reduceLT, Int.reduceLE, Int.reduceNeg, V.one, V.cells, V.beq, V.beqs, ckB_some, asI_int, asB_bool, asIAny, asS, List.length_cons, List.length_nil, Nat.beq_refl, List.all_cons, List.all_nil, Bool.and_true, Bool.and_false, Bool.true_and, Bool.false_and, Bool.not_true, Bool.not_false, Bool.or_false, Bool.false_or, Bool.or_self, Bool.and_self, decide_true, decide_false, if_true, if_false, splice, List.take_succ_cons, List.take_zero, List.drop_succ_cons, List.drop_zero, List.cons_append, List.nil_append, List.set_cons_zero, List.set_cons_succ, reduceCtorEq, fill, repl, opd, boxc, finV, resAllV, resOfV, result, eqV, eqIfc, aggCells, part, W_call, Nat.reduceBEq, Nat.beq_eq, lives_spec hw, hl, Hdr.cs, black_spec he]
    exact Ev.some rfl

theorem blackenedH_right (w : Int) : ({ unp w with gray := false } : Hdr).right = true := by
  have h1 := unp_right w
  rw [right_iff] at h1 ⊢; exact h1

theorem blackened_spec {w : Int} (hw : U64 w) (h : H) : C 402 [.int .u64 w] h = some (.tup [.int .u64 (blackened w), .bool (grayW w)], h) := by
  refine call_closed (af := F.head_Blackened) (by kernel_rfl) rfl (by rfl) (by rfl) h ?_
  rw [S.head_Blackened_eq]
  unfold blackened grayW
  cases ho : okT w with
  | false =>
    simp only [S.head_Blackened, nilc_ptr, lenSl_sl, lenSl_nil, eqPtr_ptr, eqPtr_nil, eqPtr_ptr', eqSl_sl, eqSl_nil, ptrAt_ptr, Option.bind_some, Option.map_some, ld1_get', ldN_get', st_get', get_put', get_new', put_put', ldB_cells, ldNB_cells, stB_cells, H.next_new, H.next_put, List.getElem?_cons_zero, List.getElem?_cons_succ, Nat.zero_add, Nat.add_zero, Nat.reduceAdd, Nat.reduceLeDiff, Nat.reduceLT, Nat.reduceMul, Nat.reduceSub, Nat.reduceEqDiff, Int.reduceEq, Int.reduceLT, Int.reduceLE, Int.reduceNeg, V.one, V.cells, V.beq, V.beqs, ckB_some, asI_int, asB_bool, asIAny, asS, List.length_cons, List.length_nil, Nat.beq_refl, List.all_cons, List.all_nil, Bool.and_true, Bool.and_false, Bool.true_and, Bool.false_and, Bool.not_true, Bool.not_false, Bool.or_false, Bool.false_or, Bool.or_self, Bool.and_self, decide_true, decide_false, if_true, if_false, splice, List.take_succ_cons, List.take_zero, List.drop_succ_cons, List.drop_zero, List.cons_append, List.nil_append, List.set_cons_zero, List.set_cons_succ, reduceCtorEq, fill, repl, opd, boxc, finV, resAllV, resOfV, result, eqV, eqIfc, aggCells, part, W_call, Nat.reduceBEq, Nat.beq_eq, unpack_spec hw, ho, Hdr.cs, Bool.false_eq_true]
    exact Ev.some rfl
  | true =>
    cases hg : (unp w).gray with
    | false =>
      simp only [S.head_Blackened, nilc_ptr, lenSl_sl, lenSl_nil, eqPtr_ptr, eqPtr_nil, eqPtr_ptr', eqSl_sl, eqSl_nil, ptrAt_ptr, Option.bind_some, Option.map_some, ld1_get', ldN_get', st_get', get_put', get_new', put_put', ldB_cells, ldNB_cells, stB_cells, H.next_new, H.next_put, List.getElem?_cons_zero, List.getElem?_cons_succ, Nat.zero_add, Nat.add_zero, Nat.reduceAdd, Nat.reduceLeDiff, Nat.reduceLT, Nat.reduceMul, Nat.reduceSub, Nat.reduceEqDiff, Int.reduceEq, Int.reduceLT, Int.reduceLE, Int.reduceNeg, V.one, V.cells, V.beq, V.beqs, ckB_some, asI_int, asB_bool, asIAny, asS, List.length_cons, List.length_nil, Nat.beq_refl, List.all_cons, List.all_nil, Bool.and_true, Bool.and_false, Bool.true_and, Bool.false_and, Bool.not_true, Bool.not_false, Bool.or_false, Bool.false_or, Bool.or_self, Bool.and_self, decide_true, decide_false, if_true, if_false, splice, List.take_succ_cons, List.take_zero, List.drop_succ_cons, List.drop_zero, List.cons_append, List.nil_append, List.set_cons_zero, List.set_cons_succ, reduceCtorEq, fill, repl, opd, boxc, finV, resAllV, resOfV, result, eqV, eqIfc, aggCells, part, W_call, Nat.reduceBEq, Nat.beq_eq, unpack_spec hw, ho, hg, Hdr.cs, Bool.false_eq_true]
      exact Ev.some rfl
    | true =>
      have hr := blackenedH_right w
      have hp := headPack_spec (right_i64 hr)
      unfold Hdr.cs at hp
      simp only [S.head_Blackened, nilc_ptr, lenSl_sl, lenSl_nil, eqPtr_ptr, eqPtr_nil, eqPtr_ptr', eqSl_sl, eqSl_nil, ptrAt_ptr, Option.bind_some, Option.map_some, ld1_get', ldN_get', st_get', get_put', get_new', put_put', ldB_cells, ldNB_cells, stB_cells, H.next_new, H.next_put, List.getElem?_cons_zero, List.getElem?_cons_succ, Nat.zero_add, Nat.add_zero, Nat.reduceAdd, Nat.reduceLeDiff, Nat.reduceLT, Nat.reduceMul, Nat.reduceSub, Nat.reduceEqDiff, Int.reduceEq, Int.reduceLT, Int.reduceLE, Int.reduceNeg, V.one, V.cells, V.beq, V.beqs, ckB_some, asI_int, asB_bool, asIAny, asS, List.length_cons, List.length_nil, Nat.beq_refl, List.all_cons, List.all_nil, Bool.and_true, Bool.and_false, Bool.true_and, Bool.false_and, Bool.not_true, Bool.not_false, Bool.or_false, Bool.false_or, Bool.or_self, Bool.and_self, decide_true, decide_false, if_true, if_false, splice, List.take_succ_cons, List.take_zero, List.drop_succ_cons, List.drop_zero, List.cons_append, List.nil_append, List.set_cons_zero, List.set_cons_succ, reduceCtorEq, fill, repl, opd, boxc, finV, resAllV, resOfV, result, eqV, eqIfc, aggCells, part, W_call, Nat.reduceBEq, Nat.beq_eq, unpack_spec hw, ho, hg, Hdr.cs, hp]
      unfold pack
      rw [hr]
      exact Ev.some rfl

theorem retiredH_right {w e : Int} : ({ unp w with kind := 3, gray := false, stamp := e % 65536 } : Hdr).right = true := by
  have h1 := unp_right w
  rw [right_iff] at h1 ⊢
  simp only; omega

theorem and_ffff {e : Int} (he : U64 e) : and64 e 65535 = e % 65536 := and64_mask he (n := 16) (by decide)

theorem retired_spec {w e : Int} (hw : U64 w) (he : U64 e) (h : H) : C 340 [.int .u64 w, .int .u64 e] h = some (.tup [.int .u64 (retired w e), .bool (white w e)], h) := by
  refine call_closed (af := F.head_Retired) (by kernel_rfl) rfl (by rfl) (by rfl) h ?_
  rw [S.head_Retired_eq]
  unfold retired
  cases hl : lives w with
  | false =>
    have hwh : white w e = false := by unfold white; rw [hl]; rfl
    simp only [S.head_Retired, nilc_ptr, lenSl_sl, lenSl_nil, eqPtr_ptr, eqPtr_nil, eqPtr_ptr', eqSl_sl, eqSl_nil, ptrAt_ptr, Option.bind_some, Option.map_some, ld1_get', ldN_get', st_get', get_put', get_new', put_put', ldB_cells, ldNB_cells, stB_cells, H.next_new, H.next_put, List.getElem?_cons_zero, List.getElem?_cons_succ, Nat.zero_add, Nat.add_zero, Nat.reduceAdd, Nat.reduceLeDiff, Nat.reduceLT, Nat.reduceMul, Nat.reduceSub, Nat.reduceEqDiff, Int.reduceEq, Int.reduceLT, Int.reduceLE, Int.reduceNeg, V.one, V.cells, V.beq, V.beqs, ckB_some, asI_int, asB_bool, asIAny, asS, List.length_cons, List.length_nil, Nat.beq_refl, List.all_cons, List.all_nil, Bool.and_true, Bool.and_false, Bool.true_and, Bool.false_and, Bool.not_true, Bool.not_false, Bool.or_false, Bool.false_or, Bool.or_self, Bool.and_self, decide_true, decide_false, if_true, if_false, splice, List.take_succ_cons, List.take_zero, List.drop_succ_cons, List.drop_zero, List.cons_append, List.nil_append, List.set_cons_zero, List.set_cons_succ, reduceCtorEq, fill, repl, opd, boxc, finV, resAllV, resOfV, result, eqV, eqIfc, aggCells, part, W_call, Nat.reduceBEq, Nat.beq_eq, lives_spec hw, hl, Hdr.cs, hwh, Bool.false_eq_true]
    exact Ev.some rfl
  | true =>
    by_cases hm : (unp w).mark = black e
    · have hwh : white w e = false := by unfold white; rw [hl, decide_eq_true hm]; rfl
      simp only [S.head_Retired, nilc_ptr, lenSl_sl, lenSl_nil, eqPtr_ptr, eqPtr_nil, eqPtr_ptr', eqSl_sl, eqSl_nil, ptrAt_ptr, Option.bind_some, Option.map_some, ld1_get', ldN_get', st_get', get_put', get_new', put_put', ldB_cells, ldNB_cells, stB_cells, H.next_new, H.next_put, List.getElem?_cons_zero, List.getElem?_cons_succ, Nat.zero_add, Nat.add_zero, Nat.reduceAdd, Nat.reduceLeDiff, Nat.reduceLT, Nat.reduceMul, Nat.reduceSub, Nat.reduceEqDiff, Int.reduceEq, Int.reduceLT, Int.reduceLE, Int.reduceNeg, V.one, V.cells, V.beq, V.beqs, ckB_some, asI_int, asB_bool, asIAny, asS, List.length_cons, List.length_nil, Nat.beq_refl, List.all_cons, List.all_nil, Bool.and_true, Bool.and_false, Bool.true_and, Bool.false_and, Bool.not_true, Bool.not_false, Bool.or_false, Bool.false_or, Bool.or_self, Bool.and_self, decide_true, decide_false, if_true, if_false, splice, List.take_succ_cons, List.take_zero, List.drop_succ_cons, List.drop_zero, List.cons_append, List.nil_append, List.set_cons_zero, List.set_cons_succ, reduceCtorEq, fill, repl, opd, boxc, finV, resAllV, resOfV, result, eqV, eqIfc, aggCells, part, W_call, Nat.reduceBEq, Nat.beq_eq, lives_spec hw, hl, Hdr.cs, hwh, black_spec he, hm, Bool.false_eq_true]
      exact Ev.some rfl
    · have hwh : white w e = true := by unfold white; rw [hl, decide_eq_false hm]; rfl
      have hr := retiredH_right (w := w) (e := e)
      have hp := headPack_spec (right_i64 hr)
      unfold Hdr.cs at hp
      have hw3 : wr .i64 (e % 65536) = e % 65536 := wr64 (by omega) (by omega)
      simp only [S.head_Retired, nilc_ptr, lenSl_sl, lenSl_nil, eqPtr_ptr, eqPtr_nil, eqPtr_ptr', eqSl_sl, eqSl_nil, ptrAt_ptr, Option.bind_some, Option.map_some, ld1_get', ldN_get', st_get', get_put', get_new', put_put', ldB_cells, ldNB_cells, stB_cells, H.next_new, H.next_put, List.getElem?_cons_zero, List.getElem?_cons_succ, Nat.zero_add, Nat.add_zero, Nat.reduceAdd, Nat.reduceLeDiff, Nat.reduceLT, Nat.reduceMul, Nat.reduceSub, Nat.reduceEqDiff, Int.reduceEq, Int.reduceLT, Int.reduceLE, Int.reduceNeg, V.one, V.cells, V.beq, V.beqs, ckB_some, asI_int, asB_bool, asIAny, asS, List.length_cons, List.length_nil, Nat.beq_refl, List.all_cons, List.all_nil, Bool.and_true, Bool.and_false, Bool.true_and, Bool.false_and, Bool.not_true, Bool.not_false, Bool.or_false, Bool.false_or, Bool.or_self, Bool.and_self, decide_true, decide_false, if_true, if_false, splice, List.take_succ_cons, List.take_zero, List.drop_succ_cons, List.drop_zero, List.cons_append, List.nil_append, List.set_cons_zero, List.set_cons_succ, reduceCtorEq, fill, repl, opd, boxc, finV, resAllV, resOfV, result, eqV, eqIfc, aggCells, part, W_call, Nat.reduceBEq, Nat.beq_eq, lives_spec hw, hl, Hdr.cs, hwh, black_spec he, hm, and_ffff he, hw3, hp]
      unfold pack
      rw [hr]
      exact Ev.some rfl

theorem freed_spec {w gens : Int} (hw : U64 w) (h : H) : C 409 [.int .u64 w, .int .i64 gens] h = some (.tup [.int .u64 (freed w gens), .bool (limbo w)], h) := by
  refine call_closed (af := F.head_Freed) (by kernel_rfl) rfl (by rfl) (by rfl) h ?_
  rw [S.head_Freed_eq]
  unfold freed limbo
  cases ho : okT w with
  | false =>
    simp only [S.head_Freed, nilc_ptr, lenSl_sl, lenSl_nil, eqPtr_ptr, eqPtr_nil, eqPtr_ptr', eqSl_sl, eqSl_nil, ptrAt_ptr, Option.bind_some, Option.map_some, ld1_get', ldN_get', st_get', get_put', get_new', put_put', ldB_cells, ldNB_cells, stB_cells, H.next_new, H.next_put, List.getElem?_cons_zero, List.getElem?_cons_succ, Nat.zero_add, Nat.add_zero, Nat.reduceAdd, Nat.reduceLeDiff, Nat.reduceLT, Nat.reduceMul, Nat.reduceSub, Nat.reduceEqDiff, Int.reduceEq, Int.reduceLT, Int.reduceLE, Int.reduceNeg, V.one, V.cells, V.beq, V.beqs, ckB_some, asI_int, asB_bool, asIAny, asS, List.length_cons, List.length_nil, Nat.beq_refl, List.all_cons, List.all_nil, Bool.and_true, Bool.and_false, Bool.true_and, Bool.false_and, Bool.not_true, Bool.not_false, Bool.or_false, Bool.false_or, Bool.or_self, Bool.and_self, decide_true, decide_false, if_true, if_false, splice, List.take_succ_cons, List.take_zero, List.drop_succ_cons, List.drop_zero, List.cons_append, List.nil_append, List.set_cons_zero, List.set_cons_succ, reduceCtorEq, fill, repl, opd, boxc, finV, resAllV, resOfV, result, eqV, eqIfc, aggCells, part, W_call, Nat.reduceBEq, Nat.beq_eq, unpack_spec hw, ho, Hdr.cs, Bool.false_eq_true]
    exact Ev.some rfl
  | true =>
    by_cases hk : (unp w).kind = 3
    · have hu := unp_right w
      rw [right_iff] at hu
      have w1 : wr .i64 ((unp w).gen + 1) = (unp w).gen + 1 := wr64 (by omega) (by omega)
      have hr4 : ({ unp w with kind := 4 } : Hdr).right = true := by rw [right_iff]; simp only; omega
      have hp4 := headPack_spec (right_i64 hr4)
      unfold Hdr.cs at hp4
      by_cases c1 : gens ≤ (unp w).gen + 1
      · simp only [S.head_Freed, nilc_ptr, lenSl_sl, lenSl_nil, eqPtr_ptr, eqPtr_nil, eqPtr_ptr', eqSl_sl, eqSl_nil, ptrAt_ptr, Option.bind_some, Option.map_some, ld1_get', ldN_get', st_get', get_put', get_new', put_put', ldB_cells, ldNB_cells, stB_cells, H.next_new, H.next_put, List.getElem?_cons_zero, List.getElem?_cons_succ, Nat.zero_add, Nat.add_zero, Nat.reduceAdd, Nat.reduceLeDiff, Nat.reduceLT, Nat.reduceMul, Nat.reduceSub, Nat.reduceEqDiff, Int.reduceEq, Int.reduceLT, Int.reduceLE, Int.reduceNeg, V.one, V.cells, V.beq, V.beqs, ckB_some, asI_int, asB_bool, asIAny, asS, List.length_cons, List.length_nil, Nat.beq_refl, List.all_cons, List.all_nil, Bool.and_true, Bool.and_false, Bool.true_and, Bool.false_and, Bool.not_true, Bool.not_false, Bool.or_false, Bool.false_or, Bool.or_self, Bool.and_self, decide_true, decide_false, if_true, if_false, splice, List.take_succ_cons, List.take_zero, List.drop_succ_cons, List.drop_zero, List.cons_append, List.nil_append, List.set_cons_zero, List.set_cons_succ, reduceCtorEq, fill, repl, opd, boxc, finV, resAllV, resOfV, result, eqV, eqIfc, aggCells, part, W_call, Nat.reduceBEq, Nat.beq_eq, unpack_spec hw, ho, Hdr.cs, hk, w1, c1, hp4, true_or]
        unfold pack
        rw [hr4]
        exact Ev.some rfl
      · by_cases c2 : 4294967296 ≤ (unp w).gen + 1
        · simp only [S.head_Freed, nilc_ptr, lenSl_sl, lenSl_nil, eqPtr_ptr, eqPtr_nil, eqPtr_ptr', eqSl_sl, eqSl_nil, ptrAt_ptr, Option.bind_some, Option.map_some, ld1_get', ldN_get', st_get', get_put', get_new', put_put', ldB_cells, ldNB_cells, stB_cells, H.next_new, H.next_put, List.getElem?_cons_zero, List.getElem?_cons_succ, Nat.zero_add, Nat.add_zero, Nat.reduceAdd, Nat.reduceLeDiff, Nat.reduceLT, Nat.reduceMul, Nat.reduceSub, Nat.reduceEqDiff, Int.reduceEq, Int.reduceLT, Int.reduceLE, Int.reduceNeg, V.one, V.cells, V.beq, V.beqs, ckB_some, asI_int, asB_bool, asIAny, asS, List.length_cons, List.length_nil, Nat.beq_refl, List.all_cons, List.all_nil, Bool.and_true, Bool.and_false, Bool.true_and, Bool.false_and, Bool.not_true, Bool.not_false, Bool.or_false, Bool.false_or, Bool.or_self, Bool.and_self, decide_true, decide_false, if_true, if_false, splice, List.take_succ_cons, List.take_zero, List.drop_succ_cons, List.drop_zero, List.cons_append, List.nil_append, List.set_cons_zero, List.set_cons_succ, reduceCtorEq, fill, repl, opd, boxc, finV, resAllV, resOfV, result, eqV, eqIfc, aggCells, part, W_call, Nat.reduceBEq, Nat.beq_eq, unpack_spec hw, ho, Hdr.cs, hk, w1, c1, c2, hp4, or_true]
          unfold pack
          rw [hr4]
          exact Ev.some rfl
        · have hr0 : (⟨0, 0, false, 0, (unp w).gen + 1, 0⟩ : Hdr).right = true := by rw [right_iff]; simp only; omega
          have hp0 := headPack_spec (right_i64 hr0)
          unfold Hdr.cs at hp0
          simp only at hp0
          simp only [S.head_Freed, nilc_ptr, lenSl_sl, lenSl_nil, eqPtr_ptr, eqPtr_nil, eqPtr_ptr', eqSl_sl, eqSl_nil, ptrAt_ptr, Option.bind_some, Option.map_some, ld1_get', ldN_get', st_get', get_put', get_new', put_put', ldB_cells, ldNB_cells, stB_cells, H.next_new, H.next_put, List.getElem?_cons_zero, List.getElem?_cons_succ, Nat.zero_add, Nat.add_zero, Nat.reduceAdd, Nat.reduceLeDiff, Nat.reduceLT, Nat.reduceMul, Nat.reduceSub, Nat.reduceEqDiff, Int.reduceEq, Int.reduceLT, Int.reduceLE, Int.reduceNeg, V.one, V.cells, V.beq, V.beqs, ckB_some, asI_int, asB_bool, asIAny, asS, List.length_cons, List.length_nil, Nat.beq_refl, List.all_cons, List.all_nil, Bool.and_true, Bool.and_false, Bool.true_and, Bool.false_and, Bool.not_true, Bool.not_false, Bool.or_false, Bool.false_or, Bool.or_self, Bool.and_self, decide_true, decide_false, if_true, if_false, splice, List.take_succ_cons, List.take_zero, List.drop_succ_cons, List.drop_zero, List.cons_append, List.nil_append, List.set_cons_zero, List.set_cons_succ, reduceCtorEq, fill, repl, opd, boxc, finV, resAllV, resOfV, result, eqV, eqIfc, aggCells, part, W_call, Nat.reduceBEq, Nat.beq_eq, unpack_spec hw, ho, Hdr.cs, hk, w1, c1, c2, hp0, or_self]
          unfold pack
          rw [hr0]
          exact Ev.some rfl
    · simp only [S.head_Freed, nilc_ptr, lenSl_sl, lenSl_nil, eqPtr_ptr, eqPtr_nil, eqPtr_ptr', eqSl_sl, eqSl_nil, ptrAt_ptr, Option.bind_some, Option.map_some, ld1_get', ldN_get', st_get', get_put', get_new', put_put', ldB_cells, ldNB_cells, stB_cells, H.next_new, H.next_put, List.getElem?_cons_zero, List.getElem?_cons_succ, Nat.zero_add, Nat.add_zero, Nat.reduceAdd, Nat.reduceLeDiff, Nat.reduceLT, Nat.reduceMul, Nat.reduceSub, Nat.reduceEqDiff, Int.reduceEq, Int.reduceLT, Int.reduceLE, Int.reduceNeg, V.one, V.cells, V.beq, V.beqs, ckB_some, asI_int, asB_bool, asIAny, asS, List.length_cons, List.length_nil, Nat.beq_refl, List.all_cons, List.all_nil, Bool.and_true, Bool.and_false, Bool.true_and, Bool.false_and, Bool.not_true, Bool.not_false, Bool.or_false, Bool.false_or, Bool.or_self, Bool.and_self, decide_true, decide_false, if_true, if_false, splice, List.take_succ_cons, List.take_zero, List.drop_succ_cons, List.drop_zero, List.cons_append, List.nil_append, List.set_cons_zero, List.set_cons_succ, reduceCtorEq, fill, repl, opd, boxc, finV, resAllV, resOfV, result, eqV, eqIfc, aggCells, part, W_call, Nat.reduceBEq, Nat.beq_eq, unpack_spec hw, ho, Hdr.cs, hk, Bool.false_eq_true]
      exact Ev.some rfl

/-- The header of what is made. -/
def madeH (kind arity gen e : Int) : Hdr := ⟨kind, born e, false, arity, gen, 0⟩
theorem made_spec {kind arity gen e : Int} (hk : kind = 1 ∨ kind = 2) (ha : arity ≤ 9223372036854775807) (hg : gen ≤ 9223372036854775807) (he : U64 e) (h : H) : C 556 [.int .i64 kind, .int .i64 arity, .int .i64 gen, .int .u64 e] h = some (.tup [.int .u64 (pack (madeH kind arity gen e)), .bool (madeH kind arity gen e).right], h) := by
  refine call_closed (af := F.head_Made) (by kernel_rfl) rfl (by rfl) (by rfl) h ?_
  rw [S.head_Made_eq]
  have hb := born_01 e
  have hp := headPack_spec (x := madeH kind arity gen e) (by unfold madeH Hdr.i64; simp only; omega)
  unfold madeH Hdr.cs at hp
  simp only at hp
  rcases hk with rfl | rfl <;>
  · simp only [S.head_Made, nilc_ptr, lenSl_sl, lenSl_nil, eqPtr_ptr, eqPtr_nil, eqPtr_ptr', eqSl_sl, eqSl_nil, ptrAt_ptr, Option.bind_some, Option.map_some, ld1_get', ldN_get', st_get', get_put', get_new', put_put', ldB_cells, ldNB_cells, stB_cells, H.next_new, H.next_put, List.getElem?_cons_zero, List.getElem?_cons_succ, Nat.zero_add, Nat.add_zero, Nat.reduceAdd, Nat.reduceLeDiff, Nat.reduceLT, Nat.reduceMul, Nat.reduceSub, Nat.reduceEqDiff, Int.reduceEq, Int.reduceLT, Int.reduceLE, Int.reduceNeg, V.one, V.cells, V.beq, V.beqs, ckB_some, asI_int, asB_bool, asIAny, asS, List.length_cons, List.length_nil, Nat.beq_refl, List.all_cons, List.all_nil, Bool.and_true, Bool.and_false, Bool.true_and, Bool.false_and, Bool.not_true, Bool.not_false, Bool.or_false, Bool.false_or, Bool.or_self, Bool.and_self, decide_true, decide_false, if_true, if_false, splice, List.take_succ_cons, List.take_zero, List.drop_succ_cons, List.drop_zero, List.cons_append, List.nil_append, List.set_cons_zero, List.set_cons_succ, reduceCtorEq, fill, repl, opd, boxc, finV, resAllV, resOfV, result, eqV, eqIfc, aggCells, part, W_call, Nat.reduceBEq, Nat.beq_eq, born_spec he, hp]
    exact Ev.some rfl
end Wm
end

