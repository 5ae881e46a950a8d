/- What the functions come to, and the law: of my machine. -/
import Derived.Test.YtbnlhmaedapjlaaGreatWmProgClientNone
import Derived.Test.YtbnlhmaedapjlaaGreatWmTxtClientNoneA
import Derived.Test.YtbnlhmaedapjlaaGreatWmHeap
import Derived.Test.YtbnlhmaedapjlaaGreatWmOpen
import Derived.Test.YtbnlhmaedapjlaaGreatWmPOp0
import Derived.Test.YtbnlhmaedapjlaaGreatWmEv
import Derived.Test.YtbnlhmaedapjlaaGreatWmAw21
set_option linter.all false
section
/- What the functions of plan come to. -/
namespace Wm

theorem between_spec (x lo hi : Int) (h : H) : C 376 [.int .i64 x, .int .i64 lo, .int .i64 hi] h = some (.bool (decide (lo ≤ x) && decide (x ≤ hi)), h) := by
  refine call_closed (af := F.plan_between) (by kernel_rfl) rfl (by rfl) (by rfl) h ?_
  rw [S.plan_between_eq]
  unfold S.plan_between
  by_cases h1 : lo ≤ x <;> simp [h1, Ev.iff_some]

/-- A config, as a value. -/
def cfgV (s a c hd g st : Int) : V := .agg [.int .i64 s, .int .i64 a, .int .i64 c, .int .i64 hd, .int .i64 g, .int .i64 st]
/-- Is it right? -/
def cfgR (s a c hd g st : Int) : Bool := (decide (1 ≤ s) && decide (s ≤ 64)) && (decide (0 ≤ a) && decide (a ≤ 8)) && (decide (1 ≤ c) && decide (c ≤ 8)) && (decide (1 ≤ hd) && decide (hd ≤ 16)) && (decide (1 ≤ g) && decide (g ≤ 1048576)) && (decide (0 ≤ st) && decide (st ≤ 64))

theorem ld1_new {h : H} {cs : List V} {k : Bk} (o : Nat) : (h.new (.cells cs k)).ld1 (.ptr h.next o) = match cs[o]? with
    | some v => match V.one v with
      | true => some v
      | false => none
    | none => none := by
  simp only [H.ld1, get_new_self]; rfl

theorem planRight_spec (s a c hd g st : Int) (h : H) : C 263 [cfgV s a c hd g st] h = some (.bool (cfgR s a c hd g st), h) := by
  refine call_closed (af := F.plan_Right) (by kernel_rfl) rfl (by rfl) (by rfl) h ?_
  unfold cfgV
  rw [S.plan_Right_eq]
  simp only [S.plan_Right, ld1_new, V.one, List.getElem?_cons_zero, List.getElem?_cons_succ, Option.bind_some, W_call, between_spec]
  unfold cfgR
  generalize (decide (1 ≤ s) && decide (s ≤ 64)) = b1
  generalize (decide (0 ≤ a) && decide (a ≤ 8)) = b2
  generalize (decide (1 ≤ c) && decide (c ≤ 8)) = b3
  generalize (decide (1 ≤ hd) && decide (hd ≤ 16)) = b4
  generalize (decide (1 ≤ g) && decide (g ≤ 1048576)) = b5
  cases b1 <;> cases b2 <;> cases b3 <;> cases b4 <;> cases b5 <;> simp [Ev.iff_some]

theorem ref06Right_spec (s a c hd g st : Int) (h : H) : C 85 [cfgV s a c hd g st] h = some (.bool (cfgR s a c hd g st), h) := by
  refine call_closed (af := F.withyref06_Right) (by kernel_rfl) rfl (by rfl) (by rfl) h ?_
  unfold cfgV
  rw [S.withyref06_Right_eq]
  simp only [S.withyref06_Right, ld1_new, V.one, List.getElem?_cons_zero, List.getElem?_cons_succ, Option.bind_some, asI, decide_true]
  unfold cfgR
  by_cases h1 : 1 ≤ s <;> simp only [h1, decide_true, decide_false, Bool.false_and, Bool.true_and, Ev.iff_some]
  by_cases h2 : s ≤ 64 <;> simp only [h2, decide_true, decide_false, Bool.false_and, Bool.true_and, Ev.iff_some]
  by_cases h3 : 0 ≤ a <;> simp only [h3, decide_true, decide_false, Bool.false_and, Bool.true_and, Ev.iff_some]
  by_cases h4 : a ≤ 8 <;> simp only [h4, decide_true, decide_false, Bool.false_and, Bool.true_and, Ev.iff_some]
  by_cases h5 : 1 ≤ c <;> simp only [h5, decide_true, decide_false, Bool.false_and, Bool.true_and, Ev.iff_some]
  by_cases h6 : c ≤ 8 <;> simp only [h6, decide_true, decide_false, Bool.false_and, Bool.true_and, Ev.iff_some]
  by_cases h7 : 1 ≤ hd <;> simp only [h7, decide_true, decide_false, Bool.false_and, Bool.true_and, Ev.iff_some]
  by_cases h8 : hd ≤ 16 <;> simp only [h8, decide_true, decide_false, Bool.false_and, Bool.true_and, Ev.iff_some]
  by_cases h9 : 1 ≤ g <;> simp only [h9, decide_true, decide_false, Bool.false_and, Bool.true_and, Ev.iff_some]
  by_cases h10 : g ≤ 1048576 <;> simp only [h10, decide_true, decide_false, Bool.false_and, Bool.true_and, Ev.iff_some]
  by_cases h11 : 0 ≤ st <;> simp only [h11, decide_true, decide_false, Bool.false_and, Bool.true_and, Ev.iff_some]

end Wm
end

section
/- Machines of a config that isn't right, and of none (Made). -/
namespace Wm

/-- A call that makes something of a config, or nothing. -/
def Made (o : Option (V × H)) (h : H) (b : Bool) : Prop := ∃ l v, o = some (v, h.ext l) ∧ match b with
  | true => ∃ p q, v = .ptr p q
  | false => v = .nilp

theorem Made.call {f : Nat} {af : AFunc} {args : List V} {h : H} {b : Bool} (hf : prog f = some af) (hc : af.closed = false) (he : Made (evalF W af args h) h b) : Made (C f args h) h b := by
  obtain ⟨l, v, h1, h2⟩ := he
  exact ⟨l, v, call_open hf hc h1, h2⟩
end Wm
end

section
/- A config that is right. -/
namespace Wm
theorem cfgR_iff {s a c hd g st : Int} : cfgR s a c hd g st = true ↔ (1 ≤ s ∧ s ≤ 64) ∧ (0 ≤ a ∧ a ≤ 8) ∧ (1 ≤ c ∧ c ≤ 8) ∧ (1 ≤ hd ∧ hd ≤ 16) ∧ (1 ≤ g ∧ g ≤ 1048576) ∧ (0 ≤ st ∧ st ≤ 64) := by
  simp only [cfgR, Bool.and_eq_true, decide_eq_true_eq, and_assoc]

end Wm
end

section
/- Where everything stands in the memory: what the functions of plan come to. -/
namespace Wm

theorem mul_bd {x y X Y : Int} (h0 : 0 ≤ x) (h1 : x ≤ X) (h2 : 0 ≤ y) (h3 : y ≤ Y) : 0 ≤ x * y ∧ x * y ≤ X * Y :=
  ⟨Int.mul_nonneg h0 h2, Int.mul_le_mul h1 h3 h2 (Int.le_trans h0 h1)⟩

def roomT (a : Int) : Int := 2 + max a 3
def slotsT (c hd : Int) : Int := 4 + c * (1 + hd + 2)

theorem room_spec (s a c hd g st : Int) (h0 : 0 ≤ a) (h1 : a ≤ 8) (h : H) : C 378 [cfgV s a c hd g st] h = some (.int .i64 (roomT a), h) := by
  refine call_closed (af := F.plan_room) (by kernel_rfl) rfl (by rfl) (by rfl) h ?_
  have ok := H.ok_empty
  unfold cfgV
  rw [S.plan_room_eq]
  simp only [S.plan_room, H.new_ext, H.ext_ext, H.ext_next, H.ext_ldNk_0, H.ext_ldNk, H.ext_ldk_0, H.ext_ldk, H.ext_stk_0, H.ext_stk, ok, ldB_cells, ldNB_cells, stB_cells, V.one, V.cells, List.length_cons, List.length_nil, List.length_append, List.length_singleton, Nat.zero_add, Nat.add_zero, Nat.reduceAdd, Nat.reduceLeDiff, Nat.reduceLT, Nat.reduceMul, Nat.reduceSub, Int.reduceEq, Int.reduceLT, Int.reduceLE, if_true, if_false, or_self, or_false, false_or, or_true, true_or, Nat.zero_lt_one, Nat.lt_add_one, Nat.zero_lt_succ, Nat.add_assoc, decide_true, decide_false, List.getElem?_cons_zero, List.getElem?_cons_succ, List.cons_append, List.nil_append, List.append_assoc, List.drop_zero, List.drop_succ_cons, List.take_succ_cons, List.take_zero, List.set_cons_zero, List.set_cons_succ, splice, List.all_cons, List.all_nil, Bool.and_true, Bool.not_true, Bool.not_false, Bool.or_false, Option.bind_some, Option.map_some, Option.join_some, ckB_some, V.beq, V.beqs, Nat.beq_refl, BEq.rfl, Bool.and_self, fill, repl, opd, boxc, finV, resAllV, resOfV, result, eqV, aggCells, eqOffs, eqCell, asI_int, asB_bool, ptrAt_ptr, reduceCtorEq, W_call]
  rw [wr64 (by omega) (by omega)]
  exact Ev.some rfl

theorem slots_spec (s a c hd g st : Int) (h0 : 0 ≤ c) (h1 : c ≤ 8) (h2 : 0 ≤ hd) (h3 : hd ≤ 16) (h : H) : C 377 [cfgV s a c hd g st] h = some (.int .i64 (slotsT c hd), h) := by
  refine call_closed (af := F.plan_slots) (by kernel_rfl) rfl (by rfl) (by rfl) h ?_
  have ok := H.ok_empty
  unfold cfgV
  rw [S.plan_slots_eq]
  simp only [S.plan_slots, H.new_ext, H.ext_ext, H.ext_next, H.ext_ldNk_0, H.ext_ldNk, H.ext_ldk_0, H.ext_ldk, H.ext_stk_0, H.ext_stk, ok, ldB_cells, ldNB_cells, stB_cells, V.one, V.cells, List.length_cons, List.length_nil, List.length_append, List.length_singleton, Nat.zero_add, Nat.add_zero, Nat.reduceAdd, Nat.reduceLeDiff, Nat.reduceLT, Nat.reduceMul, Nat.reduceSub, Int.reduceEq, Int.reduceLT, Int.reduceLE, if_true, if_false, or_self, or_false, false_or, or_true, true_or, Nat.zero_lt_one, Nat.lt_add_one, Nat.zero_lt_succ, Nat.add_assoc, decide_true, decide_false, List.getElem?_cons_zero, List.getElem?_cons_succ, List.cons_append, List.nil_append, List.append_assoc, List.drop_zero, List.drop_succ_cons, List.take_succ_cons, List.take_zero, List.set_cons_zero, List.set_cons_succ, splice, List.all_cons, List.all_nil, Bool.and_true, Bool.not_true, Bool.not_false, Bool.or_false, Option.bind_some, Option.map_some, Option.join_some, ckB_some, V.beq, V.beqs, Nat.beq_refl, BEq.rfl, Bool.and_self, fill, repl, opd, boxc, finV, resAllV, resOfV, result, eqV, aggCells, eqOffs, eqCell, asI_int, asB_bool, ptrAt_ptr, reduceCtorEq, W_call]
  rw [wr64 (n := 1 + hd) (by omega) (by omega), wr64 (n := 1 + hd + 2) (by omega) (by omega)]
  obtain ⟨q1, q2⟩ := mul_bd h0 h1 (show 0 ≤ 1 + hd + 2 by omega) (show 1 + hd + 2 ≤ 19 by omega)
  rw [wr64 (n := c * (1 + hd + 2)) (by omega) (by omega), wr64 (by omega) (by omega)]
  exact Ev.some rfl

def withinT (s a c hd g st slot i : Int) : Int :=
  if cfgR s a c hd g st = true ∧ (0 ≤ slot ∧ slot ≤ s - 1) ∧ (0 ≤ i ∧ i ≤ roomT a - 1) then slotsT c hd + slot * roomT a + i else -1

theorem within_spec (s a c hd g st slot i : Int) (h : H) : C 375 [cfgV s a c hd g st, .int .i64 slot, .int .i64 i] h = some (.int .i64 (withinT s a c hd g st slot i), h) := by
  refine call_closed (af := F.plan_within) (by kernel_rfl) rfl (by rfl) (by rfl) h ?_
  have ok := H.ok_empty
  have hR := planRight_spec s a c hd g st
  cases hr : cfgR s a c hd g st with
  | false =>
    rw [hr] at hR
    unfold cfgV at hR ⊢
    rw [S.plan_within_eq]
    simp only [S.plan_within, H.new_ext, H.ext_ext, H.ext_next, H.ext_ldNk_0, H.ext_ldNk, H.ext_ldk_0, H.ext_ldk, H.ext_stk_0, H.ext_stk, ok, ldB_cells, ldNB_cells, stB_cells, V.one, V.cells, List.length_cons, List.length_nil, List.length_append, List.length_singleton, Nat.zero_add, Nat.add_zero, Nat.reduceAdd, Nat.reduceLeDiff, Nat.reduceLT, Nat.reduceMul, Nat.reduceSub, Int.reduceEq, Int.reduceLT, Int.reduceLE, if_true, if_false, or_self, or_false, false_or, or_true, true_or, Nat.zero_lt_one, Nat.lt_add_one, Nat.zero_lt_succ, Nat.add_assoc, decide_true, decide_false, List.getElem?_cons_zero, List.getElem?_cons_succ, List.cons_append, List.nil_append, List.append_assoc, List.drop_zero, List.drop_succ_cons, List.take_succ_cons, List.take_zero, List.set_cons_zero, List.set_cons_succ, splice, List.all_cons, List.all_nil, Bool.and_true, Bool.not_true, Bool.not_false, Bool.or_false, Option.bind_some, Option.map_some, Option.join_some, ckB_some, V.beq, V.beqs, Nat.beq_refl, BEq.rfl, Bool.and_self, fill, repl, opd, boxc, finV, resAllV, resOfV, result, eqV, aggCells, eqOffs, eqCell, asI_int, asB_bool, ptrAt_ptr, reduceCtorEq, W_call, hR]
    exact Ev.some (by simp [withinT, hr])
  | true =>
    obtain ⟨⟨s1, s2⟩, ⟨a1, a2⟩, ⟨c1, c2⟩, ⟨d1, d2⟩, _⟩ := cfgR_iff.mp hr
    rw [hr] at hR
    have h1 := room_spec s a c hd g st (by omega) (by omega)
    have h2 := slots_spec s a c hd g st (by omega) (by omega) (by omega) (by omega)
    unfold cfgV at hR h1 h2 ⊢
    rw [S.plan_within_eq]
    simp only [S.plan_within, H.new_ext, H.ext_ext, H.ext_next, H.ext_ldNk_0, H.ext_ldNk, H.ext_ldk_0, H.ext_ldk, H.ext_stk_0, H.ext_stk, ok, ldB_cells, ldNB_cells, stB_cells, V.one, V.cells, List.length_cons, List.length_nil, List.length_append, List.length_singleton, Nat.zero_add, Nat.add_zero, Nat.reduceAdd, Nat.reduceLeDiff, Nat.reduceLT, Nat.reduceMul, Nat.reduceSub, Int.reduceEq, Int.reduceLT, Int.reduceLE, if_true, if_false, or_self, or_false, false_or, or_true, true_or, Nat.zero_lt_one, Nat.lt_add_one, Nat.zero_lt_succ, Nat.add_assoc, decide_true, decide_false, List.getElem?_cons_zero, List.getElem?_cons_succ, List.cons_append, List.nil_append, List.append_assoc, List.drop_zero, List.drop_succ_cons, List.take_succ_cons, List.take_zero, List.set_cons_zero, List.set_cons_succ, splice, List.all_cons, List.all_nil, Bool.and_true, Bool.not_true, Bool.not_false, Bool.or_false, Option.bind_some, Option.map_some, Option.join_some, ckB_some, V.beq, V.beqs, Nat.beq_refl, BEq.rfl, Bool.and_self, fill, repl, opd, boxc, finV, resAllV, resOfV, result, eqV, aggCells, eqOffs, eqCell, asI_int, asB_bool, ptrAt_ptr, reduceCtorEq, W_call, hR, h1, h2, between_spec]
    have hroom : 5 ≤ roomT a ∧ roomT a ≤ 10 := by unfold roomT; omega
    rw [wr64 (n := s - 1) (by omega) (by omega), wr64 (n := roomT a - 1) (by omega) (by omega)]
    by_cases p1 : 0 ≤ slot ∧ slot ≤ s - 1
    · simp only [decide_eq_true p1.1, decide_eq_true p1.2, H.new_ext, H.ext_ext, H.ext_next, H.ext_ldNk_0, H.ext_ldNk, H.ext_ldk_0, H.ext_ldk, H.ext_stk_0, H.ext_stk, ok, ldB_cells, ldNB_cells, stB_cells, V.one, V.cells, List.length_cons, List.length_nil, List.length_append, List.length_singleton, Nat.zero_add, Nat.add_zero, Nat.reduceAdd, Nat.reduceLeDiff, Nat.reduceLT, Nat.reduceMul, Nat.reduceSub, Int.reduceEq, Int.reduceLT, Int.reduceLE, if_true, if_false, or_self, or_false, false_or, or_true, true_or, Nat.zero_lt_one, Nat.lt_add_one, Nat.zero_lt_succ, Nat.add_assoc, decide_true, decide_false, List.getElem?_cons_zero, List.getElem?_cons_succ, List.cons_append, List.nil_append, List.append_assoc, List.drop_zero, List.drop_succ_cons, List.take_succ_cons, List.take_zero, List.set_cons_zero, List.set_cons_succ, splice, List.all_cons, List.all_nil, Bool.and_true, Bool.not_true, Bool.not_false, Bool.or_false, Option.bind_some, Option.map_some, Option.join_some, ckB_some, V.beq, V.beqs, Nat.beq_refl, BEq.rfl, Bool.and_self, fill, repl, opd, boxc, finV, resAllV, resOfV, result, eqV, aggCells, eqOffs, eqCell, asI_int, asB_bool, ptrAt_ptr, reduceCtorEq]
      by_cases p2 : 0 ≤ i ∧ i ≤ roomT a - 1
      · simp only [decide_eq_true p2.1, decide_eq_true p2.2, H.new_ext, H.ext_ext, H.ext_next, H.ext_ldNk_0, H.ext_ldNk, H.ext_ldk_0, H.ext_ldk, H.ext_stk_0, H.ext_stk, ok, ldB_cells, ldNB_cells, stB_cells, V.one, V.cells, List.length_cons, List.length_nil, List.length_append, List.length_singleton, Nat.zero_add, Nat.add_zero, Nat.reduceAdd, Nat.reduceLeDiff, Nat.reduceLT, Nat.reduceMul, Nat.reduceSub, Int.reduceEq, Int.reduceLT, Int.reduceLE, if_true, if_false, or_self, or_false, false_or, or_true, true_or, Nat.zero_lt_one, Nat.lt_add_one, Nat.zero_lt_succ, Nat.add_assoc, decide_true, decide_false, List.getElem?_cons_zero, List.getElem?_cons_succ, List.cons_append, List.nil_append, List.append_assoc, List.drop_zero, List.drop_succ_cons, List.take_succ_cons, List.take_zero, List.set_cons_zero, List.set_cons_succ, splice, List.all_cons, List.all_nil, Bool.and_true, Bool.not_true, Bool.not_false, Bool.or_false, Option.bind_some, Option.map_some, Option.join_some, ckB_some, V.beq, V.beqs, Nat.beq_refl, BEq.rfl, Bool.and_self, fill, repl, opd, boxc, finV, resAllV, resOfV, result, eqV, aggCells, eqOffs, eqCell, asI_int, asB_bool, ptrAt_ptr, reduceCtorEq]
        obtain ⟨q1, q2⟩ := mul_bd p1.1 (show slot ≤ 63 by omega) (show 0 ≤ roomT a by omega) hroom.2
        obtain ⟨q3, q4⟩ := mul_bd (show 0 ≤ c by omega) c2 (show 0 ≤ 1 + hd + 2 by omega) (show 1 + hd + 2 ≤ 19 by omega)
        have q5 : slotsT c hd = 4 + c * (1 + hd + 2) := rfl
        rw [wr64 (n := slot * roomT a) (by omega) (by omega), wr64 (n := slotsT c hd + slot * roomT a) (by omega) (by omega), wr64 (by omega) (by omega)]
        refine Ev.some ?_
        unfold withinT
        rw [if_pos ⟨hr, p1, p2⟩]
      · have : (decide (0 ≤ i) && decide (i ≤ roomT a - 1)) = false := by
          rw [Bool.eq_false_iff]; intro q
          simp only [Bool.and_eq_true, decide_eq_true_eq] at q
          exact p2 q
        simp only [this, H.new_ext, H.ext_ext, H.ext_next, H.ext_ldNk_0, H.ext_ldNk, H.ext_ldk_0, H.ext_ldk, H.ext_stk_0, H.ext_stk, ok, ldB_cells, ldNB_cells, stB_cells, V.one, V.cells, List.length_cons, List.length_nil, List.length_append, List.length_singleton, Nat.zero_add, Nat.add_zero, Nat.reduceAdd, Nat.reduceLeDiff, Nat.reduceLT, Nat.reduceMul, Nat.reduceSub, Int.reduceEq, Int.reduceLT, Int.reduceLE, if_true, if_false, or_self, or_false, false_or, or_true, true_or, Nat.zero_lt_one, Nat.lt_add_one, Nat.zero_lt_succ, Nat.add_assoc, decide_true, decide_false, List.getElem?_cons_zero, List.getElem?_cons_succ, List.cons_append, List.nil_append, List.append_assoc, List.drop_zero, List.drop_succ_cons, List.take_succ_cons, List.take_zero, List.set_cons_zero, List.set_cons_succ, splice, List.all_cons, List.all_nil, Bool.and_true, Bool.not_true, Bool.not_false, Bool.or_false, Option.bind_some, Option.map_some, Option.join_some, ckB_some, V.beq, V.beqs, Nat.beq_refl, BEq.rfl, Bool.and_self, fill, repl, opd, boxc, finV, resAllV, resOfV, result, eqV, aggCells, eqOffs, eqCell, asI_int, asB_bool, ptrAt_ptr, reduceCtorEq]
        refine Ev.some ?_
        unfold withinT
        rw [if_neg (fun q => p2 q.2.2)]
    · have : (decide (0 ≤ slot) && decide (slot ≤ s - 1)) = false := by
        rw [Bool.eq_false_iff]; intro q
        simp only [Bool.and_eq_true, decide_eq_true_eq] at q
        exact p1 q
      simp only [this, H.new_ext, H.ext_ext, H.ext_next, H.ext_ldNk_0, H.ext_ldNk, H.ext_ldk_0, H.ext_ldk, H.ext_stk_0, H.ext_stk, ok, ldB_cells, ldNB_cells, stB_cells, V.one, V.cells, List.length_cons, List.length_nil, List.length_append, List.length_singleton, Nat.zero_add, Nat.add_zero, Nat.reduceAdd, Nat.reduceLeDiff, Nat.reduceLT, Nat.reduceMul, Nat.reduceSub, Int.reduceEq, Int.reduceLT, Int.reduceLE, if_true, if_false, or_self, or_false, false_or, or_true, true_or, Nat.zero_lt_one, Nat.lt_add_one, Nat.zero_lt_succ, Nat.add_assoc, decide_true, decide_false, List.getElem?_cons_zero, List.getElem?_cons_succ, List.cons_append, List.nil_append, List.append_assoc, List.drop_zero, List.drop_succ_cons, List.take_succ_cons, List.take_zero, List.set_cons_zero, List.set_cons_succ, splice, List.all_cons, List.all_nil, Bool.and_true, Bool.not_true, Bool.not_false, Bool.or_false, Option.bind_some, Option.map_some, Option.join_some, ckB_some, V.beq, V.beqs, Nat.beq_refl, BEq.rfl, Bool.and_self, fill, repl, opd, boxc, finV, resAllV, resOfV, result, eqV, aggCells, eqOffs, eqCell, asI_int, asB_bool, ptrAt_ptr, reduceCtorEq]
      refine Ev.some ?_
      unfold withinT
      rw [if_neg (fun q => p1 q.2.1)]

theorem header_spec (s a c hd g st slot : Int) (h : H) : C 261 [cfgV s a c hd g st, .int .i64 slot] h = some (.int .i64 (withinT s a c hd g st slot 0), h) := by
  refine call_closed (af := F.plan_Header) (by kernel_rfl) rfl (by rfl) (by rfl) h ?_
  have ok := H.ok_empty
  have hW := within_spec s a c hd g st slot 0
  unfold cfgV at hW ⊢
  rw [S.plan_Header_eq]
  simp only [S.plan_Header, H.new_ext, H.ext_ext, H.ext_next, H.ext_ldNk_0, H.ext_ldNk, H.ext_ldk_0, H.ext_ldk, H.ext_stk_0, H.ext_stk, ok, ldB_cells, ldNB_cells, stB_cells, V.one, V.cells, List.length_cons, List.length_nil, List.length_append, List.length_singleton, Nat.zero_add, Nat.add_zero, Nat.reduceAdd, Nat.reduceLeDiff, Nat.reduceLT, Nat.reduceMul, Nat.reduceSub, Int.reduceEq, Int.reduceLT, Int.reduceLE, if_true, if_false, or_self, or_false, false_or, or_true, true_or, Nat.zero_lt_one, Nat.lt_add_one, Nat.zero_lt_succ, Nat.add_assoc, decide_true, decide_false, List.getElem?_cons_zero, List.getElem?_cons_succ, List.cons_append, List.nil_append, List.append_assoc, List.drop_zero, List.drop_succ_cons, List.take_succ_cons, List.take_zero, List.set_cons_zero, List.set_cons_succ, splice, List.all_cons, List.all_nil, Bool.and_true, Bool.not_true, Bool.not_false, Bool.or_false, Option.bind_some, Option.map_some, Option.join_some, ckB_some, V.beq, V.beqs, Nat.beq_refl, BEq.rfl, Bool.and_self, fill, repl, opd, boxc, finV, resAllV, resOfV, result, eqV, aggCells, eqOffs, eqCell, asI_int, asB_bool, ptrAt_ptr, reduceCtorEq, W_call, hW]
  exact Ev.some rfl

/-- Is there such a slot? -/
theorem header_neg (s a c hd g st slot : Int) : withinT s a c hd g st slot 0 < 0 ↔ ¬(cfgR s a c hd g st = true ∧ 0 ≤ slot ∧ slot < s) := by
  unfold withinT
  constructor
  · intro h q
    have hr : (0 : Int) ≤ 0 ∧ (0 : Int) ≤ roomT a - 1 := by unfold roomT; omega
    rw [if_pos ⟨q.1, ⟨q.2.1, by omega⟩, hr⟩] at h
    obtain ⟨_, _, ⟨c1, c2⟩, ⟨d1, d2⟩, _⟩ := cfgR_iff.mp q.1
    have q3 := Int.mul_nonneg (show 0 ≤ c by omega) (show 0 ≤ 1 + hd + 2 by omega)
    have q4 := Int.mul_nonneg q.2.1 (show 0 ≤ roomT a by unfold roomT; omega)
    unfold slotsT at h
    omega
  · intro h
    rw [if_neg (fun q => h ⟨q.1, q.2.1.1, by omega⟩)]
    omega
end Wm
end

section
/- Slices that grow, and loops. -/
namespace Wm
theorem ldN_new {h : H} {cs : List V} {k : Bk} {o n : Nat} (hl : o + n ≤ cs.length) : (h.new (.cells cs k)).ldN n (.ptr h.next o) = some (.agg ((cs.drop o).take n)) := ldN_get (get_new_self _ _) hl

theorem mkSl_ok {h : H} {e b : Nat} {z : List V} {l c : Int} (h1 : 0 ≤ l) (h2 : l ≤ c) (h3 : c * b ≤ 140737488355328) (h4 : c ≤ 9223372036854775807) (h5 : z.length = e) (h6 : 0 < e) :
    h.mkSl e b z l c = some (.sl h.next 0 l.toNat (.ex c.toNat), h.new (.cells (repl z c.toNat) .rw)) := by
  subst h5
  simp [H.mkSl, h1, h2, h3, h4, h6]

theorem ld1_new_ne {h : H} {x : Blk} {b o : Nat} (hb : b ≠ h.next) : (h.new x).ld1 (.ptr b o) = h.ld1 (.ptr b o) := by
  simp only [H.ld1, get_new_ne hb]

theorem append_op {h : H} {e b bb o len n : Nat} {x : V} {new old cs : List V} (hx : lenSl x = some n) (hn : h.slc e x = some new) (ho : h.slc e (.sl bb o len (.op e)) = some old) (hg : h.get bb = some (.cells cs (.gr e))) (h1 : new.all V.one = true) (h2 : (len + n + (len + n) / 2 + 1000) * b ≤ 281474976710656) (he : 0 < e) (hb : 0 < b) :
    h.append e b (.sl bb o len (.op e)) x = some (.sl h.next 0 (len + n) (.op e), (h.put bb none).new (.cells (old ++ new) (.gr e))) := by
  have h3 : lenSl (.sl bb o len (.op e)) = some len := rfl
  simp only [H.append, hx, hn, h3, ho, h1, h2, he, hb, decide_true, Bool.and_self, hg, Nat.beq_refl]

theorem append_nil {h : H} {e b n : Nat} {x : V} {new : List V} (hx : lenSl x = some n) (hn : h.slc e x = some new) (h0 : n ≠ 0) (h1 : new.all V.one = true) (h2 : (n + n / 2 + 1000) * b ≤ 281474976710656) (he : 0 < e) (hb : 0 < b) :
    h.append e b .nilsl x = some (.sl h.next 0 n (.op e), h.new (.cells new (.gr e))) := by
  have h3 : lenSl .nilsl = some 0 := rfl
  have h4 : h.slc e .nilsl = some [] := rfl
  have h5 : Nat.beq n 0 = false := by cases n with
    | zero => exact absurd rfl h0
    | succ n => rfl
  simp only [H.append, hx, hn, h3, h4, h1, h2, he, hb, decide_true, Bool.and_self, Nat.zero_add, h5, List.nil_append]

theorem slc_get {h : H} {e bb o len : Nat} {cap : Cap} {cs : List V} {k : Bk} (hg : h.get bb = some (.cells cs k)) (hl : o + len * e ≤ cs.length) : h.slc e (.sl bb o len cap) = some ((cs.drop o).take (len * e)) := by
  simp only [H.slc, ldc_get hg hl]

theorem st1_get {h : H} {b o : Nat} {cs : List V} {k : Bk} {v : V} (hb : h.get b = some (.cells cs k)) (hk : k ≠ .ro) (hv : v.one = true) (hl : o < cs.length) : h.st 1 (.ptr b o) v = some (h.put b (some (.cells (cs.set o v) k))) := by
  have hc : v.cells = [v] := by cases v <;> first | rfl | simp [V.one] at hv
  have hs : splice cs o [v] = cs.set o v := by
    simp only [splice, List.length_singleton]
    rw [List.set_eq_take_append_cons_drop, if_pos hl]
    simp
  have h6 := stc_get hb hk (vs := [v]) (by simp [hv]) (show o + [v].length ≤ cs.length by simp; omega)
  rw [hs] at h6
  simp only [H.st, hc, List.length_singleton, Nat.beq, h6]

theorem loop_ev {α : Type} {call : Nat → List V → H → Option (V × H)} {meth : Nat → Nat → Option Nat} {b : List V → H → Option (AX × List V × H)} {R : Type} {k : AX × List V × H → Option R} {Q : R → Prop} {e : List V} {h : H} (enc : α → List V) (I : α → H → Prop) (μ : α → H → Nat) (P : AX × List V × H → Prop) (a : α) (he : e = enc a) (h0 : I a h)
    (step : ∀ a h, I a h → Ev (b (enc a) h) fun r => (∃ a', r.1 = .normal ∧ r.2.1 = enc a' ∧ I a' r.2.2 ∧ μ a' r.2.2 < μ a h) ∨ (r.1 ≠ .normal ∧ P r)) (out : ∀ r, P r → Ev (k r) Q) : Ev (((envW meth call).loop b e h).bind k) Q := by
  subst he
  exact Ev.bind (loopW_ev enc I μ step a h h0) out

end Wm
end

section
/- A client's table that holds nothing. -/
namespace Wm

/-- A client's place. -/
def placeT (s a c hd g st who behind each i : Int) : Int :=
  if cfgR s a c hd g st = true ∧ (0 ≤ who ∧ who ≤ c - 1) ∧ (0 ≤ i ∧ i ≤ each - 1) then 4 + behind * c + who * each + i else -1

theorem place_spec (s a c hd g st who behind each i : Int) (hb : 0 ≤ behind ∧ behind ≤ 17) (he : 1 ≤ each ∧ each ≤ 16) (h : H) :
    C 397 [cfgV s a c hd g st, .int .i64 who, .int .i64 behind, .int .i64 each, .int .i64 i] h = some (.int .i64 (placeT s a c hd g st who behind each i), h) := by
  refine call_closed (af := F.plan_place) (by kernel_rfl) rfl (by rfl) (by rfl) h ?_
  have ok := H.ok_empty
  have hR := planRight_spec s a c hd g st
  cases hr : cfgR s a c hd g st with
  | false =>
    rw [hr] at hR
    unfold cfgV at hR ⊢
    rw [S.plan_place_eq]
    simp only [S.plan_place, H.new_ext, H.ext_ext, H.ext_next, H.ext_ldNk_0, H.ext_ldNk, H.ext_ldk_0, H.ext_ldk, H.ext_stk_0, H.ext_stk, ok, ldB_cells, ldNB_cells, stB_cells, V.one, V.cells, List.length_cons, List.length_nil, List.length_append, List.length_singleton, Nat.zero_add, Nat.add_zero, Nat.reduceAdd, Nat.reduceLeDiff, Nat.reduceLT, Nat.reduceMul, Nat.reduceSub, Int.reduceEq, Int.reduceLT, Int.reduceLE, if_true, if_false, or_self, or_false, false_or, or_true, true_or, Nat.zero_lt_one, Nat.lt_add_one, Nat.zero_lt_succ, Nat.add_assoc, decide_true, decide_false, List.getElem?_cons_zero, List.getElem?_cons_succ, List.cons_append, List.nil_append, List.append_assoc, List.drop_zero, List.drop_succ_cons, List.take_succ_cons, List.take_zero, List.set_cons_zero, List.set_cons_succ, splice, List.all_cons, List.all_nil, Bool.and_true, Bool.not_true, Bool.not_false, Bool.or_false, Option.bind_some, Option.map_some, Option.join_some, ckB_some, V.beq, V.beqs, Nat.beq_refl, BEq.rfl, Bool.and_self, fill, repl, opd, boxc, finV, resAllV, resOfV, result, eqV, aggCells, eqOffs, eqCell, asI_int, asB_bool, ptrAt_ptr, reduceCtorEq, W_call, hR]
    exact Ev.some (by simp [placeT, hr])
  | true =>
    obtain ⟨⟨s1, s2⟩, ⟨a1, a2⟩, ⟨c1, c2⟩, ⟨d1, d2⟩, _⟩ := cfgR_iff.mp hr
    rw [hr] at hR
    unfold cfgV at hR ⊢
    rw [S.plan_place_eq]
    simp only [S.plan_place, H.new_ext, H.ext_ext, H.ext_next, H.ext_ldNk_0, H.ext_ldNk, H.ext_ldk_0, H.ext_ldk, H.ext_stk_0, H.ext_stk, ok, ldB_cells, ldNB_cells, stB_cells, V.one, V.cells, List.length_cons, List.length_nil, List.length_append, List.length_singleton, Nat.zero_add, Nat.add_zero, Nat.reduceAdd, Nat.reduceLeDiff, Nat.reduceLT, Nat.reduceMul, Nat.reduceSub, Int.reduceEq, Int.reduceLT, Int.reduceLE, if_true, if_false, or_self, or_false, false_or, or_true, true_or, Nat.zero_lt_one, Nat.lt_add_one, Nat.zero_lt_succ, Nat.add_assoc, decide_true, decide_false, List.getElem?_cons_zero, List.getElem?_cons_succ, List.cons_append, List.nil_append, List.append_assoc, List.drop_zero, List.drop_succ_cons, List.take_succ_cons, List.take_zero, List.set_cons_zero, List.set_cons_succ, splice, List.all_cons, List.all_nil, Bool.and_true, Bool.not_true, Bool.not_false, Bool.or_false, Option.bind_some, Option.map_some, Option.join_some, ckB_some, V.beq, V.beqs, Nat.beq_refl, BEq.rfl, Bool.and_self, fill, repl, opd, boxc, finV, resAllV, resOfV, result, eqV, aggCells, eqOffs, eqCell, asI_int, asB_bool, ptrAt_ptr, reduceCtorEq, W_call, hR, between_spec]
    rw [wr64 (n := c - 1) (by omega) (by omega), wr64 (n := each - 1) (by omega) (by omega)]
    by_cases p1 : 0 ≤ who ∧ who ≤ c - 1
    · simp only [decide_eq_true p1.1, decide_eq_true p1.2, H.new_ext, H.ext_ext, H.ext_next, H.ext_ldNk_0, H.ext_ldNk, H.ext_ldk_0, H.ext_ldk, H.ext_stk_0, H.ext_stk, ok, ldB_cells, ldNB_cells, stB_cells, V.one, V.cells, List.length_cons, List.length_nil, List.length_append, List.length_singleton, Nat.zero_add, Nat.add_zero, Nat.reduceAdd, Nat.reduceLeDiff, Nat.reduceLT, Nat.reduceMul, Nat.reduceSub, Int.reduceEq, Int.reduceLT, Int.reduceLE, if_true, if_false, or_self, or_false, false_or, or_true, true_or, Nat.zero_lt_one, Nat.lt_add_one, Nat.zero_lt_succ, Nat.add_assoc, decide_true, decide_false, List.getElem?_cons_zero, List.getElem?_cons_succ, List.cons_append, List.nil_append, List.append_assoc, List.drop_zero, List.drop_succ_cons, List.take_succ_cons, List.take_zero, List.set_cons_zero, List.set_cons_succ, splice, List.all_cons, List.all_nil, Bool.and_true, Bool.not_true, Bool.not_false, Bool.or_false, Option.bind_some, Option.map_some, Option.join_some, ckB_some, V.beq, V.beqs, Nat.beq_refl, BEq.rfl, Bool.and_self, fill, repl, opd, boxc, finV, resAllV, resOfV, result, eqV, aggCells, eqOffs, eqCell, asI_int, asB_bool, ptrAt_ptr, reduceCtorEq]
      by_cases p2 : 0 ≤ i ∧ i ≤ each - 1
      · simp only [decide_eq_true p2.1, decide_eq_true p2.2, H.new_ext, H.ext_ext, H.ext_next, H.ext_ldNk_0, H.ext_ldNk, H.ext_ldk_0, H.ext_ldk, H.ext_stk_0, H.ext_stk, ok, ldB_cells, ldNB_cells, stB_cells, V.one, V.cells, List.length_cons, List.length_nil, List.length_append, List.length_singleton, Nat.zero_add, Nat.add_zero, Nat.reduceAdd, Nat.reduceLeDiff, Nat.reduceLT, Nat.reduceMul, Nat.reduceSub, Int.reduceEq, Int.reduceLT, Int.reduceLE, if_true, if_false, or_self, or_false, false_or, or_true, true_or, Nat.zero_lt_one, Nat.lt_add_one, Nat.zero_lt_succ, Nat.add_assoc, decide_true, decide_false, List.getElem?_cons_zero, List.getElem?_cons_succ, List.cons_append, List.nil_append, List.append_assoc, List.drop_zero, List.drop_succ_cons, List.take_succ_cons, List.take_zero, List.set_cons_zero, List.set_cons_succ, splice, List.all_cons, List.all_nil, Bool.and_true, Bool.not_true, Bool.not_false, Bool.or_false, Option.bind_some, Option.map_some, Option.join_some, ckB_some, V.beq, V.beqs, Nat.beq_refl, BEq.rfl, Bool.and_self, fill, repl, opd, boxc, finV, resAllV, resOfV, result, eqV, aggCells, eqOffs, eqCell, asI_int, asB_bool, ptrAt_ptr, reduceCtorEq]
        obtain ⟨q1, q2⟩ := mul_bd hb.1 hb.2 (show 0 ≤ c by omega) c2
        obtain ⟨q3, q4⟩ := mul_bd p1.1 (show who ≤ 7 by omega) (show 0 ≤ each by omega) he.2
        rw [wr64 (n := behind * c) (by omega) (by omega), wr64 (n := 4 + behind * c) (by omega) (by omega), wr64 (n := who * each) (by omega) (by omega), wr64 (n := 4 + behind * c + who * each) (by omega) (by omega), wr64 (by omega) (by omega)]
        refine Ev.some ?_
        unfold placeT
        rw [if_pos ⟨hr, p1, p2⟩]
      · have : (decide (0 ≤ i) && decide (i ≤ each - 1)) = false := by
          rw [Bool.eq_false_iff]; intro q
          simp only [Bool.and_eq_true, decide_eq_true_eq] at q
          exact p2 q
        simp only [this, H.new_ext, H.ext_ext, H.ext_next, H.ext_ldNk_0, H.ext_ldNk, H.ext_ldk_0, H.ext_ldk, H.ext_stk_0, H.ext_stk, ok, ldB_cells, ldNB_cells, stB_cells, V.one, V.cells, List.length_cons, List.length_nil, List.length_append, List.length_singleton, Nat.zero_add, Nat.add_zero, Nat.reduceAdd, Nat.reduceLeDiff, Nat.reduceLT, Nat.reduceMul, Nat.reduceSub, Int.reduceEq, Int.reduceLT, Int.reduceLE, if_true, if_false, or_self, or_false, false_or, or_true, true_or, Nat.zero_lt_one, Nat.lt_add_one, Nat.zero_lt_succ, Nat.add_assoc, decide_true, decide_false, List.getElem?_cons_zero, List.getElem?_cons_succ, List.cons_append, List.nil_append, List.append_assoc, List.drop_zero, List.drop_succ_cons, List.take_succ_cons, List.take_zero, List.set_cons_zero, List.set_cons_succ, splice, List.all_cons, List.all_nil, Bool.and_true, Bool.not_true, Bool.not_false, Bool.or_false, Option.bind_some, Option.map_some, Option.join_some, ckB_some, V.beq, V.beqs, Nat.beq_refl, BEq.rfl, Bool.and_self, fill, repl, opd, boxc, finV, resAllV, resOfV, result, eqV, aggCells, eqOffs, eqCell, asI_int, asB_bool, ptrAt_ptr, reduceCtorEq]
        refine Ev.some ?_
        unfold placeT
        rw [if_neg (fun q => p2 q.2.2)]
    · have : (decide (0 ≤ who) && decide (who ≤ c - 1)) = false := by
        rw [Bool.eq_false_iff]; intro q
        simp only [Bool.and_eq_true, decide_eq_true_eq] at q
        exact p1 q
      simp only [this, H.new_ext, H.ext_ext, H.ext_next, H.ext_ldNk_0, H.ext_ldNk, H.ext_ldk_0, H.ext_ldk, H.ext_stk_0, H.ext_stk, ok, ldB_cells, ldNB_cells, stB_cells, V.one, V.cells, List.length_cons, List.length_nil, List.length_append, List.length_singleton, Nat.zero_add, Nat.add_zero, Nat.reduceAdd, Nat.reduceLeDiff, Nat.reduceLT, Nat.reduceMul, Nat.reduceSub, Int.reduceEq, Int.reduceLT, Int.reduceLE, if_true, if_false, or_self, or_false, false_or, or_true, true_or, Nat.zero_lt_one, Nat.lt_add_one, Nat.zero_lt_succ, Nat.add_assoc, decide_true, decide_false, List.getElem?_cons_zero, List.getElem?_cons_succ, List.cons_append, List.nil_append, List.append_assoc, List.drop_zero, List.drop_succ_cons, List.take_succ_cons, List.take_zero, List.set_cons_zero, List.set_cons_succ, splice, List.all_cons, List.all_nil, Bool.and_true, Bool.not_true, Bool.not_false, Bool.or_false, Option.bind_some, Option.map_some, Option.join_some, ckB_some, V.beq, V.beqs, Nat.beq_refl, BEq.rfl, Bool.and_self, fill, repl, opd, boxc, finV, resAllV, resOfV, result, eqV, aggCells, eqOffs, eqCell, asI_int, asB_bool, ptrAt_ptr, reduceCtorEq]
      refine Ev.some ?_
      unfold placeT
      rw [if_neg (fun q => p1 q.2.1)]

theorem pin_spec (s a c hd g st who : Int) (h : H) : C 416 [cfgV s a c hd g st, .int .i64 who] h = some (.int .i64 (placeT s a c hd g st who 0 1 0), h) := by
  refine call_closed (af := F.plan_Pin) (by kernel_rfl) rfl (by rfl) (by rfl) h ?_
  have ok := H.ok_empty
  have hW := place_spec s a c hd g st who 0 1 0 (by omega) (by omega)
  unfold cfgV at hW ⊢
  rw [S.plan_Pin_eq]
  simp only [S.plan_Pin, H.new_ext, H.ext_ext, H.ext_next, H.ext_ldNk_0, H.ext_ldNk, H.ext_ldk_0, H.ext_ldk, H.ext_stk_0, H.ext_stk, ok, ldB_cells, ldNB_cells, stB_cells, V.one, V.cells, List.length_cons, List.length_nil, List.length_append, List.length_singleton, Nat.zero_add, Nat.add_zero, Nat.reduceAdd, Nat.reduceLeDiff, Nat.reduceLT, Nat.reduceMul, Nat.reduceSub, Int.reduceEq, Int.reduceLT, Int.reduceLE, if_true, if_false, or_self, or_false, false_or, or_true, true_or, Nat.zero_lt_one, Nat.lt_add_one, Nat.zero_lt_succ, Nat.add_assoc, decide_true, decide_false, List.getElem?_cons_zero, List.getElem?_cons_succ, List.cons_append, List.nil_append, List.append_assoc, List.drop_zero, List.drop_succ_cons, List.take_succ_cons, List.take_zero, List.set_cons_zero, List.set_cons_succ, splice, List.all_cons, List.all_nil, Bool.and_true, Bool.not_true, Bool.not_false, Bool.or_false, Option.bind_some, Option.map_some, Option.join_some, ckB_some, V.beq, V.beqs, Nat.beq_refl, BEq.rfl, Bool.and_self, fill, repl, opd, boxc, finV, resAllV, resOfV, result, eqV, aggCells, eqOffs, eqCell, asI_int, asB_bool, ptrAt_ptr, reduceCtorEq, W_call, hW]
  exact Ev.some rfl

theorem pin_neg (s a c hd g st who : Int) : placeT s a c hd g st who 0 1 0 < 0 ↔ ¬(cfgR s a c hd g st = true ∧ 0 ≤ who ∧ who < c) := by
  unfold placeT
  constructor
  · intro h q
    rw [if_pos ⟨q.1, ⟨q.2.1, by omega⟩, by omega⟩] at h
    omega
  · intro h
    rw [if_neg (fun q => h ⟨q.1, q.2.1.1, by omega⟩)]
    omega

theorem grow_ext {h : H} {F T E : Option Blk} {L : List (Option Blk)} {j i : Nat} {cs new : List V} (hb : (h.ext (F :: T :: (L ++ [E]))).get (h.next + (j + 2)) = some (.cells cs (.gr 2))) (hc : cs.length = i * 2) (hn : (h.ext (F :: T :: (L ++ [E]))).slc 2 (.sl (h.next + (L.length + 2)) 0 1 (.ex 1)) = some new)
    (hi : i ≤ 1000 ∧ j < L.length) (h1 : new.all V.one = true) :
    (h.ext (F :: T :: (L ++ [E]))).append 2 16 (.sl (h.next + (j + 2)) 0 i (.op 2)) (.sl (h.next + (L.length + 2)) 0 1 (.ex 1)) =
      some (.sl (h.next + (L.length + 1 + 2)) 0 (i + 1) (.op 2), h.ext (F :: T :: ((L ++ [E]).set j none ++ [some (.cells (cs ++ new) (.gr 2))]))) := by
  obtain ⟨h2, h3⟩ := hi
  have hs : (h.ext (F :: T :: (L ++ [E]))).slc 2 (.sl (h.next + (j + 2)) 0 i (.op 2)) = some cs := by
    rw [slc_get hb (by omega), List.drop_zero, List.take_of_length_le (by omega)]
  have hl : j + 2 < (F :: T :: (L ++ [E])).length := by
    simp only [List.length_cons, List.length_append, List.length_nil]; omega
  rw [append_op (n := 1) rfl hn hs hb h1 (by omega) (by omega) (by omega), H.ext_put hl, H.new_ext, H.ext_ext, H.ext_next]
  have e1 : (F :: T :: (L ++ [E])).length = L.length + 1 + 2 := by simp only [List.length_cons, List.length_append, List.length_nil]
  rw [e1]
  rfl

theorem newTable_made (s a c hd g st who tag : Int) (ht : tag ≤ 4294967295) {h : H} (ok : h.ok) : Made (C 354 [cfgV s a c hd g st, .int .i64 who, .int .u64 tag] h) h (!decide (placeT s a c hd g st who 0 1 0 < 0)) := by
  refine Made.call (af := F.root_NewTable) (by kernel_rfl) rfl ?_
  have hP := pin_spec s a c hd g st who
  unfold cfgV at hP ⊢
  rw [S.root_NewTable_eq]
  simp only [S.root_NewTable, H.new_ext, H.ext_ext, H.ext_next, H.ext_ldNk_0, H.ext_ldNk, H.ext_ldk_0, H.ext_ldk, H.ext_stk_0, H.ext_stk, ok, ldB_cells, ldNB_cells, stB_cells, V.one, V.cells, List.length_cons, List.length_nil, List.length_append, List.length_singleton, Nat.zero_add, Nat.add_zero, Nat.reduceAdd, Nat.reduceLeDiff, Nat.reduceLT, Nat.reduceMul, Nat.reduceSub, Int.reduceEq, Int.reduceLT, Int.reduceLE, if_true, if_false, or_self, or_false, false_or, or_true, true_or, Nat.zero_lt_one, Nat.lt_add_one, Nat.zero_lt_succ, Nat.add_assoc, decide_true, decide_false, List.getElem?_cons_zero, List.getElem?_cons_succ, List.cons_append, List.nil_append, List.append_assoc, List.drop_zero, List.drop_succ_cons, List.take_succ_cons, List.take_zero, List.set_cons_zero, List.set_cons_succ, splice, List.all_cons, List.all_nil, Bool.and_true, Bool.not_true, Bool.not_false, Bool.or_false, Option.bind_some, Option.map_some, Option.join_some, ckB_some, V.beq, V.beqs, Nat.beq_refl, BEq.rfl, Bool.and_self, fill, repl, opd, boxc, finV, resAllV, resOfV, result, eqV, aggCells, eqOffs, eqCell, asI_int, asB_bool, ptrAt_ptr, reduceCtorEq, W_call, hP]
  by_cases h0 : placeT s a c hd g st who 0 1 0 < 0
  · simp only [decide_eq_true h0, H.new_ext, H.ext_ext, H.ext_next, H.ext_ldNk_0, H.ext_ldNk, H.ext_ldk_0, H.ext_ldk, H.ext_stk_0, H.ext_stk, ok, ldB_cells, ldNB_cells, stB_cells, V.one, V.cells, List.length_cons, List.length_nil, List.length_append, List.length_singleton, Nat.zero_add, Nat.add_zero, Nat.reduceAdd, Nat.reduceLeDiff, Nat.reduceLT, Nat.reduceMul, Nat.reduceSub, Int.reduceEq, Int.reduceLT, Int.reduceLE, if_true, if_false, or_self, or_false, false_or, or_true, true_or, Nat.zero_lt_one, Nat.lt_add_one, Nat.zero_lt_succ, Nat.add_assoc, decide_true, decide_false, List.getElem?_cons_zero, List.getElem?_cons_succ, List.cons_append, List.nil_append, List.append_assoc, List.drop_zero, List.drop_succ_cons, List.take_succ_cons, List.take_zero, List.set_cons_zero, List.set_cons_succ, splice, List.all_cons, List.all_nil, Bool.and_true, Bool.not_true, Bool.not_false, Bool.or_false, Option.bind_some, Option.map_some, Option.join_some, ckB_some, V.beq, V.beqs, Nat.beq_refl, BEq.rfl, Bool.and_self, fill, repl, opd, boxc, finV, resAllV, resOfV, result, eqV, aggCells, eqOffs, eqCell, asI_int, asB_bool, ptrAt_ptr, reduceCtorEq]
    exact ⟨_, _, rfl, rfl⟩
  · have hr : cfgR s a c hd g st = true := by
      cases hr : cfgR s a c hd g st with
      | true => rfl
      | false => exact absurd ((pin_neg s a c hd g st who).mpr (by simp [hr])) h0
    obtain ⟨_, _, _, ⟨d1, d2⟩, _⟩ := cfgR_iff.mp hr
    simp only [decide_eq_false h0, show ¬ 4294967295 < tag by omega, H.new_ext, H.ext_ext, H.ext_next, H.ext_ldNk_0, H.ext_ldNk, H.ext_ldk_0, H.ext_ldk, H.ext_stk_0, H.ext_stk, ok, ldB_cells, ldNB_cells, stB_cells, V.one, V.cells, List.length_cons, List.length_nil, List.length_append, List.length_singleton, Nat.zero_add, Nat.add_zero, Nat.reduceAdd, Nat.reduceLeDiff, Nat.reduceLT, Nat.reduceMul, Nat.reduceSub, Int.reduceEq, Int.reduceLT, Int.reduceLE, if_true, if_false, or_self, or_false, false_or, or_true, true_or, Nat.zero_lt_one, Nat.lt_add_one, Nat.zero_lt_succ, Nat.add_assoc, decide_true, decide_false, List.getElem?_cons_zero, List.getElem?_cons_succ, List.cons_append, List.nil_append, List.append_assoc, List.drop_zero, List.drop_succ_cons, List.take_succ_cons, List.take_zero, List.set_cons_zero, List.set_cons_succ, splice, List.all_cons, List.all_nil, Bool.and_true, Bool.not_true, Bool.not_false, Bool.or_false, Option.bind_some, Option.map_some, Option.join_some, ckB_some, V.beq, V.beqs, Nat.beq_refl, BEq.rfl, Bool.and_self, fill, repl, opd, boxc, finV, resAllV, resOfV, result, eqV, aggCells, eqOffs, eqCell, asI_int, asB_bool, ptrAt_ptr, reduceCtorEq]
    suffices hh : Ev ((W.loop (S.root_NewTable_c1_B W) (S.root_NewTable_c1_E (.int .u64 tag) (.ptr (h.next + 1) 0) (.int .i64 hd) (.int .i64 0)) (h.ext [some (.cells [.int .i64 s, .int .i64 a, .int .i64 c, .int .i64 hd, .int .i64 g, .int .i64 st] .rw), some (.cells [.int .i64 s, .int .i64 a, .int .i64 c, .int .i64 hd, .int .i64 g, .int .i64 st, .int .i64 who, .nilsl] .rw)])).bind fun p9 => S.root_NewTable_K2 W p9.1 p9.2.1 p9.2.2) fun r => ∃ l, r = (.ptr (h.next + 1) 0, h.ext l) by
      obtain ⟨r, e, l, rfl⟩ := hh
      exact ⟨l, _, e, _, _, rfl⟩
    refine loop_ev (fun i : Nat => S.root_NewTable_c1_E (.int .u64 tag) (.ptr (h.next + 1) 0) (.int .i64 hd) (.int .i64 i))
      (fun i g' => i ≤ hd.toNat ∧ ∃ x L, g' = h.ext (some (.cells [.int .i64 s, .int .i64 a, .int .i64 c, .int .i64 hd, .int .i64 g, .int .i64 st] .rw) :: some (.cells [.int .i64 s, .int .i64 a, .int .i64 c, .int .i64 hd, .int .i64 g, .int .i64 st, .int .i64 who, x] .rw) :: L) ∧
        ((i = 0 ∧ x = .nilsl) ∨ ∃ j cs, x = .sl (h.next + (j + 2)) 0 i (.op 2) ∧ j < L.length ∧ L[j]? = some (some (.cells cs (.gr 2))) ∧ cs.length = i * 2 ∧ cs.all V.one = true))
      (fun i _ => hd.toNat - i) (fun r => ∃ l, r = (.exit 0, S.root_NewTable_c1_O (.ptr (h.next + 1) 0), h.ext l)) 0 rfl ⟨Nat.zero_le _, .nilsl, [], rfl, .inl ⟨rfl, rfl⟩⟩ ?_ ?_
    · rintro i g' ⟨hi, x, L, rfl, hx⟩
      rw [S.root_NewTable_c1_eq]
      simp only [S.root_NewTable_c1_S]
      by_cases hic : (i : Int) < hd
      · have hx1 : x.one = true := by rcases hx with ⟨_, rfl⟩ | ⟨j, cs, rfl, _⟩ <;> rfl
        have q5 : i + 1 ≤ hd.toNat := by clear hx; omega
        have q7 : i ≤ 1000 := by clear hx; omega
        have q6 : hd.toNat - (i + 1) < hd.toNat - i := by clear hx; omega
        generalize hF : (some (Blk.cells [.int .i64 s, .int .i64 a, .int .i64 c, .int .i64 hd, .int .i64 g, .int .i64 st] .rw)) = F
        generalize hE : (some (Blk.cells [.int .u64 tag, .int .i64 (-1)] .rw)) = E
        have hnew : ∀ X, (h.ext (F :: X :: (L ++ [E]))).slc 2 (.sl (h.next + (L.length + 2)) 0 1 (.ex 1)) = some [.int .u64 tag, .int .i64 (-1)] := fun X => by
          rw [slc_get (cs := [.int .u64 tag, .int .i64 (-1)]) (k := .rw) ?_ (by simp)]
          · rfl
          · rw [H.ext_get (by simp)]
            simp [← hE]
        have hstep : ∃ j' cs' L', (h.ext (F :: some (.cells [.int .i64 s, .int .i64 a, .int .i64 c, .int .i64 hd, .int .i64 g, .int .i64 st, .int .i64 who, x] .rw) :: (L ++ [E]))).append 2 16 x (.sl (h.next + (L.length + 2)) 0 1 (.ex 1)) =
            some (.sl (h.next + (j' + 2)) 0 (i + 1) (.op 2), h.ext (F :: some (.cells [.int .i64 s, .int .i64 a, .int .i64 c, .int .i64 hd, .int .i64 g, .int .i64 st, .int .i64 who, x] .rw) :: L')) ∧ j' < L'.length ∧ L'[j']? = some (some (.cells cs' (.gr 2))) ∧ cs'.length = (i + 1) * 2 ∧ cs'.all V.one = true := by
          rcases hx with ⟨rfl, rfl⟩ | ⟨j, cs, rfl, hj, hjb, hcl, hca⟩
          · refine ⟨L.length + 1, [.int .u64 tag, .int .i64 (-1)], L ++ [E] ++ [some (.cells [.int .u64 tag, .int .i64 (-1)] (.gr 2))], ?_, by simp, by simp, rfl, rfl⟩
            rw [append_nil rfl (hnew _) (by omega) rfl (by omega) (by omega) (by omega), H.new_ext, H.ext_ext, H.ext_next]
            simp only [List.length_cons, List.length_append, List.length_nil, List.cons_append, Nat.zero_add, Nat.add_assoc, Nat.reduceAdd]
          · have hb : (h.ext (F :: some (.cells [.int .i64 s, .int .i64 a, .int .i64 c, .int .i64 hd, .int .i64 g, .int .i64 st, .int .i64 who, .sl (h.next + (j + 2)) 0 i (.op 2)] .rw) :: (L ++ [E]))).get (h.next + (j + 2)) = some (.cells cs (.gr 2)) := by
              rw [H.ext_get (by simp only [List.length_cons, List.length_append]; omega)]
              simp only [List.getElem?_cons_succ]
              rw [List.getElem?_append_left hj, hjb]; rfl
            refine ⟨L.length + 1, cs ++ [.int .u64 tag, .int .i64 (-1)], (L ++ [E]).set j none ++ [some (.cells (cs ++ [.int .u64 tag, .int .i64 (-1)]) (.gr 2))], grow_ext hb hcl (hnew _) ⟨q7, hj⟩ rfl, ?_, ?_, ?_, ?_⟩
            · rw [List.length_append, List.length_set, List.length_append]; exact Nat.lt_succ_self _
            · rw [List.getElem?_append_right (by rw [List.length_set, List.length_append]; exact Nat.le_refl _), List.length_set, List.length_append]
              simp only [List.length_singleton, Nat.sub_self, List.getElem?_cons_zero]
            · rw [List.length_append, hcl, Nat.add_mul]; rfl
            · rw [List.all_append, hca]; rfl
        obtain ⟨j', cs', L', ha, q1, q2, q3, q4⟩ := hstep
        have hwr : wr .i64 ((i : Int) + 1) = ((i + 1 : Nat) : Int) := by rw [wr64 (by clear hx q1; omega) (by clear hx q1; omega)]; rfl
        have hld : ldB (some (.cells [.int .i64 s, .int .i64 a, .int .i64 c, .int .i64 hd, .int .i64 g, .int .i64 st, .int .i64 who, x] .rw)) 7 = some x := by
          show (match V.one x with | true => some x | false => none) = some x
          rw [hx1]
        simp only [decide_eq_true hic, nilc, H.new_ext, H.ext_ext, H.ext_next, H.ext_ldk, H.ext_stk, ok, List.length_cons, List.length_append, List.length_nil, Nat.zero_add, Nat.add_assoc, Nat.reduceAdd, List.cons_append, List.getElem?_cons_succ, List.getElem?_cons_zero, Option.join_some, Option.bind_some, ptrAt_ptr, hld, hE, ha, V.cells, stB_cells, V.one, List.all_cons, List.all_nil, splice,
          List.take_succ_cons, List.take_zero, List.drop_succ_cons, List.drop_zero, List.nil_append, Bool.and_true, Bool.not_true, Bool.or_false, decide_true, Nat.reduceLeDiff, List.set_cons_succ, List.set_cons_zero, Option.map_some, reduceCtorEq, decide_false, hwr]
        exact Ev.some (Or.inl ⟨i + 1, rfl, rfl, ⟨q5, .sl (h.next + (j' + 2)) 0 (i + 1) (.op 2), L', rfl, Or.inr ⟨j', cs', rfl, q1, q2, q3, q4⟩⟩, q6⟩)
      · simp only [decide_eq_false hic]
        exact Ev.some (.inr ⟨by simp, _, rfl⟩)
    · rintro r ⟨l, rfl⟩
      simp only
      rw [S.root_NewTable_c1_e0_eq]
      exact Ev.some ⟨l, rfl⟩
end Wm
end

section
/- The law ClientNone, of my machine. -/
namespace Wm

theorem newBook_spec {h : H} (ok : h.ok) : C 148 [] h = some (.ptr (h.next + 2) 0, h.ext [some (.map []), some (.map []), some (.cells [.int .i64 0, .map h.next, .map (h.next + 1)] .rw)]) := by
  refine call_open (af := F.field_NewBook) (by kernel_rfl) rfl ?_
  rw [S.field_NewBook_eq]
  simp only [S.field_NewBook, H.new_ext, H.ext_ext, H.ext_next, H.ext_ldNk_0, H.ext_ldNk, H.ext_ldk_0, H.ext_ldk, H.ext_stk_0, H.ext_stk, ok, ldB_cells, ldNB_cells, stB_cells, V.one, V.cells, List.length_cons, List.length_nil, List.length_append, List.length_singleton, Nat.zero_add, Nat.add_zero, Nat.reduceAdd, Nat.reduceLeDiff, Nat.reduceLT, Nat.reduceMul, Nat.reduceSub, Int.reduceEq, Int.reduceLT, Int.reduceLE, if_true, if_false, or_self, or_false, false_or, or_true, true_or, Nat.zero_lt_one, Nat.lt_add_one, Nat.zero_lt_succ, Nat.add_assoc, decide_true, decide_false, List.getElem?_cons_zero, List.getElem?_cons_succ, List.cons_append, List.nil_append, List.append_assoc, List.drop_zero, List.drop_succ_cons, List.take_succ_cons, List.take_zero, List.set_cons_zero, List.set_cons_succ, splice, List.all_cons, List.all_nil, Bool.and_true, Bool.not_true, Bool.not_false, Bool.or_false, Option.bind_some, Option.map_some, Option.join_some, ckB_some, V.beq, V.beqs, Nat.beq_refl, BEq.rfl, Bool.and_self, fill, repl, opd, boxc, finV, resAllV, resOfV, result, eqV, aggCells, eqOffs, eqCell, asI_int, asB_bool, ptrAt_ptr, reduceCtorEq]

theorem clientPoint_nil (h : H) : C 232 [.nilp] h = some (.tup [.int .i64 0, .bool false], h) := by
  refine call_open (af := F.client_Client_Point) (by kernel_rfl) rfl ?_
  rw [S.client_Client_Point_eq]
  simp only [S.client_Client_Point, eqV, eqPtr, Option.bind_some]

theorem clientBegin_nil (x0 x1 x2 x3 x4 : Int) (h : H) : C 223 [.nilp, .agg [.int .i64 x0, .int .i64 x1, .int .u64 x2, .int .u64 x3, .int .u64 x4]] h = some (.bool false, h.ext [some (.cells [.int .i64 x0, .int .i64 x1, .int .u64 x2, .int .u64 x3, .int .u64 x4] .rw)]) := by
  refine call_open (af := F.client_Client_Begin) (by kernel_rfl) rfl ?_
  rw [S.client_Client_Begin_eq]
  simp only [S.client_Client_Begin, eqV, eqPtr, Option.bind_some]
  rfl

theorem clientBusy_nil (h : H) : C 233 [.nilp] h = some (.bool false, h) := by
  refine call_open (af := F.client_Client_Busy) (by kernel_rfl) rfl ?_
  rw [S.client_Client_Busy_eq]
  simp only [S.client_Client_Busy, eqV, eqPtr, Option.bind_some, Bool.not_true]

theorem clientStep_nil (m : V) (h : H) : C 224 [.nilp, m] h = some (.bool true, h) := by
  refine call_open (af := F.client_Client_Step) (by kernel_rfl) rfl ?_
  rw [S.client_Client_Step_eq]
  simp only [S.client_Client_Step, W_call, clientBusy_nil, asB_bool, Option.bind_some, Bool.not_false]

theorem clientAnswer_nil {h : H} (ok : h.ok) : C 225 [.nilp] h = some (.agg [.int .i64 0, .int .u64 0, .bool false], h.ext [some (.cells [.int .i64 0, .int .u64 0, .bool false] .rw)]) := by
  refine call_open (af := F.client_Client_Answer) (by kernel_rfl) rfl ?_
  rw [S.client_Client_Answer_eq]
  simp only [S.client_Client_Answer, eqV, eqPtr, H.new_ext, H.ext_ext, H.ext_next, H.ext_ldNk_0, H.ext_ldNk, H.ext_ldk_0, H.ext_ldk, H.ext_stk_0, H.ext_stk, ok, ldB_cells, ldNB_cells, stB_cells, V.one, V.cells, List.length_cons, List.length_nil, List.length_append, List.length_singleton, Nat.zero_add, Nat.add_zero, Nat.reduceAdd, Nat.reduceLeDiff, Nat.reduceLT, Nat.reduceMul, Nat.reduceSub, Int.reduceEq, Int.reduceLT, Int.reduceLE, if_true, if_false, or_self, or_false, false_or, or_true, true_or, Nat.zero_lt_one, Nat.lt_add_one, Nat.zero_lt_succ, Nat.add_assoc, decide_true, decide_false, List.getElem?_cons_zero, List.getElem?_cons_succ, List.cons_append, List.nil_append, List.append_assoc, List.drop_zero, List.drop_succ_cons, List.take_succ_cons, List.take_zero, List.set_cons_zero, List.set_cons_succ, splice, List.all_cons, List.all_nil, Bool.and_true, Bool.not_true, Bool.not_false, Bool.or_false, Option.bind_some, Option.map_some, Option.join_some, ckB_some, V.beq, V.beqs, Nat.beq_refl, BEq.rfl, Bool.and_self, fill, repl, opd, boxc, finV, resAllV, resOfV, result, eqV, aggCells, eqOffs, eqCell, asI_int, asB_bool, ptrAt_ptr, reduceCtorEq]

theorem clientHolds_nil (x : Int) (h : H) : C 226 [.nilp, .int .u64 x] h = some (.int .i64 (-1), h) := by
  refine call_open (af := F.client_Client_Holds) (by kernel_rfl) rfl ?_
  rw [S.client_Client_Holds_eq]
  simp only [S.client_Client_Holds, eqV, eqPtr, Option.bind_some, Bool.not_true]

theorem newClient_made (s a c hd g st who : Int) (bk : Bool) (p q : Nat) {h : H} (ok : h.ok) : Made (C 220 [cfgV s a c hd g st, .int .i64 who, match bk with | true => .ptr p q | false => .nilp] h) h (!decide (placeT s a c hd g st who 0 1 0 < 0) && bk) := by
  refine Made.call (af := F.client_New) (by kernel_rfl) rfl ?_
  obtain ⟨l, v, h1, h2⟩ := newTable_made s a c hd g st who 0 (by omega) (ok.ext [some (.cells [.int .i64 s, .int .i64 a, .int .i64 c, .int .i64 hd, .int .i64 g, .int .i64 st] .rw)])
  unfold cfgV at h1 ⊢
  cases bk with
  | true =>
    rw [S.client_New_eq]
    by_cases h0 : placeT s a c hd g st who 0 1 0 < 0
    · simp only [decide_eq_true h0, Bool.not_true] at h2
      subst h2
      simp only [S.client_New, H.new_ext, H.ext_ext, H.ext_next, H.ext_ldNk_0, H.ext_ldNk, H.ext_ldk_0, H.ext_ldk, H.ext_stk_0, H.ext_stk, ok, ldB_cells, ldNB_cells, stB_cells, V.one, V.cells, List.length_cons, List.length_nil, List.length_append, List.length_singleton, Nat.zero_add, Nat.add_zero, Nat.reduceAdd, Nat.reduceLeDiff, Nat.reduceLT, Nat.reduceMul, Nat.reduceSub, Int.reduceEq, Int.reduceLT, Int.reduceLE, if_true, if_false, or_self, or_false, false_or, or_true, true_or, Nat.zero_lt_one, Nat.lt_add_one, Nat.zero_lt_succ, Nat.add_assoc, decide_true, decide_false, List.getElem?_cons_zero, List.getElem?_cons_succ, List.cons_append, List.nil_append, List.append_assoc, List.drop_zero, List.drop_succ_cons, List.take_succ_cons, List.take_zero, List.set_cons_zero, List.set_cons_succ, splice, List.all_cons, List.all_nil, Bool.and_true, Bool.not_true, Bool.not_false, Bool.or_false, Option.bind_some, Option.map_some, Option.join_some, ckB_some, V.beq, V.beqs, Nat.beq_refl, BEq.rfl, Bool.and_self, fill, repl, opd, boxc, finV, resAllV, resOfV, result, eqV, aggCells, eqOffs, eqCell, asI_int, asB_bool, ptrAt_ptr, reduceCtorEq, W_call, h1, eqPtr, decide_eq_true h0, Bool.false_and]
      exact ⟨_, _, rfl, rfl⟩
    · simp only [decide_eq_false h0, Bool.not_false] at h2
      obtain ⟨p', q', rfl⟩ := h2
      simp only [S.client_New, H.new_ext, H.ext_ext, H.ext_next, H.ext_ldNk_0, H.ext_ldNk, H.ext_ldk_0, H.ext_ldk, H.ext_stk_0, H.ext_stk, ok, ldB_cells, ldNB_cells, stB_cells, V.one, V.cells, List.length_cons, List.length_nil, List.length_append, List.length_singleton, Nat.zero_add, Nat.add_zero, Nat.reduceAdd, Nat.reduceLeDiff, Nat.reduceLT, Nat.reduceMul, Nat.reduceSub, Int.reduceEq, Int.reduceLT, Int.reduceLE, if_true, if_false, or_self, or_false, false_or, or_true, true_or, Nat.zero_lt_one, Nat.lt_add_one, Nat.zero_lt_succ, Nat.add_assoc, decide_true, decide_false, List.getElem?_cons_zero, List.getElem?_cons_succ, List.cons_append, List.nil_append, List.append_assoc, List.drop_zero, List.drop_succ_cons, List.take_succ_cons, List.take_zero, List.set_cons_zero, List.set_cons_succ, splice, List.all_cons, List.all_nil, Bool.and_true, Bool.not_true, Bool.not_false, Bool.or_false, Option.bind_some, Option.map_some, Option.join_some, ckB_some, V.beq, V.beqs, Nat.beq_refl, BEq.rfl, Bool.and_self, fill, repl, opd, boxc, finV, resAllV, resOfV, result, eqV, aggCells, eqOffs, eqCell, asI_int, asB_bool, ptrAt_ptr, reduceCtorEq, W_call, h1, eqPtr, decide_eq_false h0, Bool.and_self]
      exact ⟨_, _, rfl, _, _, rfl⟩
  | false =>
    rw [S.client_New_eq]
    by_cases h0 : placeT s a c hd g st who 0 1 0 < 0
    · simp only [decide_eq_true h0, Bool.not_true] at h2
      subst h2
      simp only [S.client_New, H.new_ext, H.ext_ext, H.ext_next, H.ext_ldNk_0, H.ext_ldNk, H.ext_ldk_0, H.ext_ldk, H.ext_stk_0, H.ext_stk, ok, ldB_cells, ldNB_cells, stB_cells, V.one, V.cells, List.length_cons, List.length_nil, List.length_append, List.length_singleton, Nat.zero_add, Nat.add_zero, Nat.reduceAdd, Nat.reduceLeDiff, Nat.reduceLT, Nat.reduceMul, Nat.reduceSub, Int.reduceEq, Int.reduceLT, Int.reduceLE, if_true, if_false, or_self, or_false, false_or, or_true, true_or, Nat.zero_lt_one, Nat.lt_add_one, Nat.zero_lt_succ, Nat.add_assoc, decide_true, decide_false, List.getElem?_cons_zero, List.getElem?_cons_succ, List.cons_append, List.nil_append, List.append_assoc, List.drop_zero, List.drop_succ_cons, List.take_succ_cons, List.take_zero, List.set_cons_zero, List.set_cons_succ, splice, List.all_cons, List.all_nil, Bool.and_true, Bool.not_true, Bool.not_false, Bool.or_false, Option.bind_some, Option.map_some, Option.join_some, ckB_some, V.beq, V.beqs, Nat.beq_refl, BEq.rfl, Bool.and_self, fill, repl, opd, boxc, finV, resAllV, resOfV, result, eqV, aggCells, eqOffs, eqCell, asI_int, asB_bool, ptrAt_ptr, reduceCtorEq, W_call, h1, eqPtr, Bool.and_false]
      exact ⟨_, _, rfl, rfl⟩
    · simp only [decide_eq_false h0, Bool.not_false] at h2
      obtain ⟨p', q', rfl⟩ := h2
      simp only [S.client_New, H.new_ext, H.ext_ext, H.ext_next, H.ext_ldNk_0, H.ext_ldNk, H.ext_ldk_0, H.ext_ldk, H.ext_stk_0, H.ext_stk, ok, ldB_cells, ldNB_cells, stB_cells, V.one, V.cells, List.length_cons, List.length_nil, List.length_append, List.length_singleton, Nat.zero_add, Nat.add_zero, Nat.reduceAdd, Nat.reduceLeDiff, Nat.reduceLT, Nat.reduceMul, Nat.reduceSub, Int.reduceEq, Int.reduceLT, Int.reduceLE, if_true, if_false, or_self, or_false, false_or, or_true, true_or, Nat.zero_lt_one, Nat.lt_add_one, Nat.zero_lt_succ, Nat.add_assoc, decide_true, decide_false, List.getElem?_cons_zero, List.getElem?_cons_succ, List.cons_append, List.nil_append, List.append_assoc, List.drop_zero, List.drop_succ_cons, List.take_succ_cons, List.take_zero, List.set_cons_zero, List.set_cons_succ, splice, List.all_cons, List.all_nil, Bool.and_true, Bool.not_true, Bool.not_false, Bool.or_false, Option.bind_some, Option.map_some, Option.join_some, ckB_some, V.beq, V.beqs, Nat.beq_refl, BEq.rfl, Bool.and_self, fill, repl, opd, boxc, finV, resAllV, resOfV, result, eqV, aggCells, eqOffs, eqCell, asI_int, asB_bool, ptrAt_ptr, reduceCtorEq, W_call, h1, eqPtr, Bool.and_false]
      exact ⟨_, _, rfl, rfl⟩

def shClientNone : List (Bool × List CSh) := [(true, [.int .i64, .int .i64, .int .i64, .int .i64, .int .i64, .int .i64]), (false, [.int .i64]), (false, [.bool]), (true, [.int .i64, .int .i64, .int .u64, .int .u64, .int .u64])]

theorem lawClientNone (h : H) (us : List V) (_ : h.ok) (ha : ArgsOk h.get shClientNone us) : Ev (C 57 us h) fun r => r.1 = .bool true := by
  obtain ⟨_, _, rfl, ⟨_, rfl, _, _, rfl, ⟨s, rfl, _⟩, _, _, rfl, ⟨a, rfl, _⟩, _, _, rfl, ⟨c, rfl, _⟩, _, _, rfl, ⟨hd, rfl, _⟩, _, _, rfl, ⟨g, rfl, _⟩, _, _, rfl, ⟨st, rfl, _⟩, rfl⟩, _, _, rfl, ⟨_, _, hwho, ⟨who, rfl, _⟩, rfl⟩, _, _, rfl, ⟨_, _, hbk, ⟨bk, rfl⟩, rfl⟩, _, _, rfl, ⟨_, rfl, _, _, rfl, ⟨x0, rfl, _⟩, _, _, rfl, ⟨x1, rfl, _⟩, _, _, rfl, ⟨x2, rfl, _⟩, _, _, rfl, ⟨x3, rfl, _⟩, _, _, rfl, ⟨x4, rfl, _⟩, rfl⟩, rfl⟩ := ha
  cases hwho; cases hbk
  refine ⟨_, call_closed (v := .bool true) (af := F.withylaw21_ClientNone) (by kernel_rfl) rfl (by rfl) (by rfl) h ?_, rfl⟩
  rw [S.withylaw21_ClientNone_eq]
  have ok := H.ok_empty
  generalize H.empty = h at ok
  have hR := ref06Right_spec s a c hd g st
  have hn := pin_neg s a c hd g st who
  have hB := fun l => newBook_spec (ok.ext l)
  have hA := fun l => clientAnswer_nil (ok.ext l)
  cases bk with
  | true =>
    obtain ⟨l, v, h1, h2⟩ := newClient_made s a c hd g st who true (h.next + 4) 0 (ok.ext [some (.cells [.int .i64 s, .int .i64 a, .int .i64 c, .int .i64 hd, .int .i64 g, .int .i64 st] .rw), some (.cells [.int .i64 x0, .int .i64 x1, .int .u64 x2, .int .u64 x3, .int .u64 x4] .rw), some (.map []), some (.map []), some (.cells [.int .i64 0, .map (h.next + 2), .map (h.next + 3)] .rw)])
    simp only [Bool.and_true] at h2
    unfold cfgV at hR h1
    cases hr : cfgR s a c hd g st with
    | false =>
      rw [hr] at hR hn
      have hneg : placeT s a c hd g st who 0 1 0 < 0 := hn.mpr (by simp)
      simp only [decide_eq_true hneg, Bool.not_true] at h2
      subst h2
      simp only [S.withylaw21_ClientNone, S.withylaw21_ClientNone_c1_S, S.withylaw21_ClientNone_c1_n, S.withylaw21_ClientNone_c3_S, S.withylaw21_ClientNone_c3_n, S.withylaw21_ClientNone_c1_eq, S.withylaw21_ClientNone_c1_n_eq, S.withylaw21_ClientNone_c3_eq, S.withylaw21_ClientNone_c3_n_eq, H.new_ext, H.ext_ext, H.ext_next, H.ext_ldNk_0, H.ext_ldNk, H.ext_ldk_0, H.ext_ldk, H.ext_stk_0, H.ext_stk, ok, ldB_cells, ldNB_cells, stB_cells, V.one, V.cells, List.length_cons, List.length_nil, List.length_append, List.length_singleton, Nat.zero_add, Nat.add_zero, Nat.reduceAdd, Nat.reduceLeDiff, Nat.reduceLT, Nat.reduceMul, Nat.reduceSub, Int.reduceEq, Int.reduceLT, Int.reduceLE, if_true, if_false, or_self, or_false, false_or, or_true, true_or, Nat.zero_lt_one, Nat.lt_add_one, Nat.zero_lt_succ, Nat.add_assoc, decide_true, decide_false, List.getElem?_cons_zero, List.getElem?_cons_succ, List.cons_append, List.nil_append, List.append_assoc, List.drop_zero, List.drop_succ_cons, List.take_succ_cons, List.take_zero, List.set_cons_zero, List.set_cons_succ, splice, List.all_cons, List.all_nil, Bool.and_true, Bool.not_true, Bool.not_false, Bool.or_false, Option.bind_some, Option.map_some, Option.join_some, ckB_some, V.beq, V.beqs, Nat.beq_refl, BEq.rfl, Bool.and_self, fill, repl, opd, boxc, finV, resAllV, resOfV, result, eqV, aggCells, eqOffs, eqCell, asI_int, asB_bool, ptrAt_ptr, reduceCtorEq, W_call, hB, hR, h1, eqPtr, clientPoint_nil, clientBegin_nil, clientBusy_nil, clientStep_nil, hA, clientHolds_nil, awake21]
      exact Ev.some rfl
    | true =>
      rw [hr] at hR hn
      by_cases p1 : 0 ≤ who
      · by_cases p2 : who < c
        · have hneg : ¬ placeT s a c hd g st who 0 1 0 < 0 := fun q => hn.mp q ⟨rfl, p1, p2⟩
          simp only [decide_eq_false hneg, Bool.not_false] at h2
          obtain ⟨p, q, rfl⟩ := h2
          simp only [S.withylaw21_ClientNone, S.withylaw21_ClientNone_c1_S, S.withylaw21_ClientNone_c1_n, S.withylaw21_ClientNone_c3_S, S.withylaw21_ClientNone_c3_n, S.withylaw21_ClientNone_c1_eq, S.withylaw21_ClientNone_c1_n_eq, S.withylaw21_ClientNone_c3_eq, S.withylaw21_ClientNone_c3_n_eq, H.new_ext, H.ext_ext, H.ext_next, H.ext_ldNk_0, H.ext_ldNk, H.ext_ldk_0, H.ext_ldk, H.ext_stk_0, H.ext_stk, ok, ldB_cells, ldNB_cells, stB_cells, V.one, V.cells, List.length_cons, List.length_nil, List.length_append, List.length_singleton, Nat.zero_add, Nat.add_zero, Nat.reduceAdd, Nat.reduceLeDiff, Nat.reduceLT, Nat.reduceMul, Nat.reduceSub, Int.reduceEq, Int.reduceLT, Int.reduceLE, if_true, if_false, or_self, or_false, false_or, or_true, true_or, Nat.zero_lt_one, Nat.lt_add_one, Nat.zero_lt_succ, Nat.add_assoc, decide_true, decide_false, List.getElem?_cons_zero, List.getElem?_cons_succ, List.cons_append, List.nil_append, List.append_assoc, List.drop_zero, List.drop_succ_cons, List.take_succ_cons, List.take_zero, List.set_cons_zero, List.set_cons_succ, splice, List.all_cons, List.all_nil, Bool.and_true, Bool.not_true, Bool.not_false, Bool.or_false, Option.bind_some, Option.map_some, Option.join_some, ckB_some, V.beq, V.beqs, Nat.beq_refl, BEq.rfl, Bool.and_self, fill, repl, opd, boxc, finV, resAllV, resOfV, result, eqV, aggCells, eqOffs, eqCell, asI_int, asB_bool, ptrAt_ptr, reduceCtorEq, W_call, hB, hR, h1, eqPtr, decide_eq_true p1, decide_eq_true p2, clientPoint_nil, clientBegin_nil, clientBusy_nil, clientStep_nil, hA, clientHolds_nil, awake21]
          exact Ev.some rfl
        · have hneg : placeT s a c hd g st who 0 1 0 < 0 := hn.mpr fun q => p2 q.2.2
          simp only [decide_eq_true hneg, Bool.not_true] at h2
          subst h2
          simp only [S.withylaw21_ClientNone, S.withylaw21_ClientNone_c1_S, S.withylaw21_ClientNone_c1_n, S.withylaw21_ClientNone_c3_S, S.withylaw21_ClientNone_c3_n, S.withylaw21_ClientNone_c1_eq, S.withylaw21_ClientNone_c1_n_eq, S.withylaw21_ClientNone_c3_eq, S.withylaw21_ClientNone_c3_n_eq, H.new_ext, H.ext_ext, H.ext_next, H.ext_ldNk_0, H.ext_ldNk, H.ext_ldk_0, H.ext_ldk, H.ext_stk_0, H.ext_stk, ok, ldB_cells, ldNB_cells, stB_cells, V.one, V.cells, List.length_cons, List.length_nil, List.length_append, List.length_singleton, Nat.zero_add, Nat.add_zero, Nat.reduceAdd, Nat.reduceLeDiff, Nat.reduceLT, Nat.reduceMul, Nat.reduceSub, Int.reduceEq, Int.reduceLT, Int.reduceLE, if_true, if_false, or_self, or_false, false_or, or_true, true_or, Nat.zero_lt_one, Nat.lt_add_one, Nat.zero_lt_succ, Nat.add_assoc, decide_true, decide_false, List.getElem?_cons_zero, List.getElem?_cons_succ, List.cons_append, List.nil_append, List.append_assoc, List.drop_zero, List.drop_succ_cons, List.take_succ_cons, List.take_zero, List.set_cons_zero, List.set_cons_succ, splice, List.all_cons, List.all_nil, Bool.and_true, Bool.not_true, Bool.not_false, Bool.or_false, Option.bind_some, Option.map_some, Option.join_some, ckB_some, V.beq, V.beqs, Nat.beq_refl, BEq.rfl, Bool.and_self, fill, repl, opd, boxc, finV, resAllV, resOfV, result, eqV, aggCells, eqOffs, eqCell, asI_int, asB_bool, ptrAt_ptr, reduceCtorEq, W_call, hB, hR, h1, eqPtr, decide_eq_true p1, decide_eq_false p2, clientPoint_nil, clientBegin_nil, clientBusy_nil, clientStep_nil, hA, clientHolds_nil, awake21]
          exact Ev.some rfl
      · have hneg : placeT s a c hd g st who 0 1 0 < 0 := hn.mpr fun q => p1 q.2.1
        simp only [decide_eq_true hneg, Bool.not_true] at h2
        subst h2
        simp only [S.withylaw21_ClientNone, S.withylaw21_ClientNone_c1_S, S.withylaw21_ClientNone_c1_n, S.withylaw21_ClientNone_c3_S, S.withylaw21_ClientNone_c3_n, S.withylaw21_ClientNone_c1_eq, S.withylaw21_ClientNone_c1_n_eq, S.withylaw21_ClientNone_c3_eq, S.withylaw21_ClientNone_c3_n_eq, H.new_ext, H.ext_ext, H.ext_next, H.ext_ldNk_0, H.ext_ldNk, H.ext_ldk_0, H.ext_ldk, H.ext_stk_0, H.ext_stk, ok, ldB_cells, ldNB_cells, stB_cells, V.one, V.cells, List.length_cons, List.length_nil, List.length_append, List.length_singleton, Nat.zero_add, Nat.add_zero, Nat.reduceAdd, Nat.reduceLeDiff, Nat.reduceLT, Nat.reduceMul, Nat.reduceSub, Int.reduceEq, Int.reduceLT, Int.reduceLE, if_true, if_false, or_self, or_false, false_or, or_true, true_or, Nat.zero_lt_one, Nat.lt_add_one, Nat.zero_lt_succ, Nat.add_assoc, decide_true, decide_false, List.getElem?_cons_zero, List.getElem?_cons_succ, List.cons_append, List.nil_append, List.append_assoc, List.drop_zero, List.drop_succ_cons, List.take_succ_cons, List.take_zero, List.set_cons_zero, List.set_cons_succ, splice, List.all_cons, List.all_nil, Bool.and_true, Bool.not_true, Bool.not_false, Bool.or_false, Option.bind_some, Option.map_some, Option.join_some, ckB_some, V.beq, V.beqs, Nat.beq_refl, BEq.rfl, Bool.and_self, fill, repl, opd, boxc, finV, resAllV, resOfV, result, eqV, aggCells, eqOffs, eqCell, asI_int, asB_bool, ptrAt_ptr, reduceCtorEq, W_call, hB, hR, h1, eqPtr, decide_eq_false p1, clientPoint_nil, clientBegin_nil, clientBusy_nil, clientStep_nil, hA, clientHolds_nil, awake21]
        exact Ev.some rfl
  | false =>
    obtain ⟨l, v, h1, h2⟩ := newClient_made s a c hd g st who false 0 0 (ok.ext [some (.cells [.int .i64 s, .int .i64 a, .int .i64 c, .int .i64 hd, .int .i64 g, .int .i64 st] .rw), some (.cells [.int .i64 x0, .int .i64 x1, .int .u64 x2, .int .u64 x3, .int .u64 x4] .rw)])
    simp only [Bool.and_false] at h2
    subst h2
    unfold cfgV at hR h1
    cases hr : cfgR s a c hd g st with
    | false =>
      rw [hr] at hR
      simp only [S.withylaw21_ClientNone, S.withylaw21_ClientNone_c1_S, S.withylaw21_ClientNone_c1_n, S.withylaw21_ClientNone_c3_S, S.withylaw21_ClientNone_c3_n, S.withylaw21_ClientNone_c1_eq, S.withylaw21_ClientNone_c1_n_eq, S.withylaw21_ClientNone_c3_eq, S.withylaw21_ClientNone_c3_n_eq, H.new_ext, H.ext_ext, H.ext_next, H.ext_ldNk_0, H.ext_ldNk, H.ext_ldk_0, H.ext_ldk, H.ext_stk_0, H.ext_stk, ok, ldB_cells, ldNB_cells, stB_cells, V.one, V.cells, List.length_cons, List.length_nil, List.length_append, List.length_singleton, Nat.zero_add, Nat.add_zero, Nat.reduceAdd, Nat.reduceLeDiff, Nat.reduceLT, Nat.reduceMul, Nat.reduceSub, Int.reduceEq, Int.reduceLT, Int.reduceLE, if_true, if_false, or_self, or_false, false_or, or_true, true_or, Nat.zero_lt_one, Nat.lt_add_one, Nat.zero_lt_succ, Nat.add_assoc, decide_true, decide_false, List.getElem?_cons_zero, List.getElem?_cons_succ, List.cons_append, List.nil_append, List.append_assoc, List.drop_zero, List.drop_succ_cons, List.take_succ_cons, List.take_zero, List.set_cons_zero, List.set_cons_succ, splice, List.all_cons, List.all_nil, Bool.and_true, Bool.not_true, Bool.not_false, Bool.or_false, Option.bind_some, Option.map_some, Option.join_some, ckB_some, V.beq, V.beqs, Nat.beq_refl, BEq.rfl, Bool.and_self, fill, repl, opd, boxc, finV, resAllV, resOfV, result, eqV, aggCells, eqOffs, eqCell, asI_int, asB_bool, ptrAt_ptr, reduceCtorEq, W_call, hR, h1, eqPtr, clientPoint_nil, clientBegin_nil, clientBusy_nil, clientStep_nil, hA, clientHolds_nil, awake21]
      exact Ev.some rfl
    | true =>
      rw [hr] at hR
      by_cases p1 : 0 ≤ who
      · by_cases p2 : who < c
        · simp only [S.withylaw21_ClientNone, S.withylaw21_ClientNone_c1_S, S.withylaw21_ClientNone_c1_n, S.withylaw21_ClientNone_c3_S, S.withylaw21_ClientNone_c3_n, S.withylaw21_ClientNone_c1_eq, S.withylaw21_ClientNone_c1_n_eq, S.withylaw21_ClientNone_c3_eq, S.withylaw21_ClientNone_c3_n_eq, H.new_ext, H.ext_ext, H.ext_next, H.ext_ldNk_0, H.ext_ldNk, H.ext_ldk_0, H.ext_ldk, H.ext_stk_0, H.ext_stk, ok, ldB_cells, ldNB_cells, stB_cells, V.one, V.cells, List.length_cons, List.length_nil, List.length_append, List.length_singleton, Nat.zero_add, Nat.add_zero, Nat.reduceAdd, Nat.reduceLeDiff, Nat.reduceLT, Nat.reduceMul, Nat.reduceSub, Int.reduceEq, Int.reduceLT, Int.reduceLE, if_true, if_false, or_self, or_false, false_or, or_true, true_or, Nat.zero_lt_one, Nat.lt_add_one, Nat.zero_lt_succ, Nat.add_assoc, decide_true, decide_false, List.getElem?_cons_zero, List.getElem?_cons_succ, List.cons_append, List.nil_append, List.append_assoc, List.drop_zero, List.drop_succ_cons, List.take_succ_cons, List.take_zero, List.set_cons_zero, List.set_cons_succ, splice, List.all_cons, List.all_nil, Bool.and_true, Bool.not_true, Bool.not_false, Bool.or_false, Option.bind_some, Option.map_some, Option.join_some, ckB_some, V.beq, V.beqs, Nat.beq_refl, BEq.rfl, Bool.and_self, fill, repl, opd, boxc, finV, resAllV, resOfV, result, eqV, aggCells, eqOffs, eqCell, asI_int, asB_bool, ptrAt_ptr, reduceCtorEq, W_call, hR, h1, eqPtr, decide_eq_true p1, decide_eq_true p2, clientPoint_nil, clientBegin_nil, clientBusy_nil, clientStep_nil, hA, clientHolds_nil, awake21]
          exact Ev.some rfl
        · simp only [S.withylaw21_ClientNone, S.withylaw21_ClientNone_c1_S, S.withylaw21_ClientNone_c1_n, S.withylaw21_ClientNone_c3_S, S.withylaw21_ClientNone_c3_n, S.withylaw21_ClientNone_c1_eq, S.withylaw21_ClientNone_c1_n_eq, S.withylaw21_ClientNone_c3_eq, S.withylaw21_ClientNone_c3_n_eq, H.new_ext, H.ext_ext, H.ext_next, H.ext_ldNk_0, H.ext_ldNk, H.ext_ldk_0, H.ext_ldk, H.ext_stk_0, H.ext_stk, ok, ldB_cells, ldNB_cells, stB_cells, V.one, V.cells, List.length_cons, List.length_nil, List.length_append, List.length_singleton, Nat.zero_add, Nat.add_zero, Nat.reduceAdd, Nat.reduceLeDiff, Nat.reduceLT, Nat.reduceMul, Nat.reduceSub, Int.reduceEq, Int.reduceLT, Int.reduceLE, if_true, if_false, or_self, or_false, false_or, or_true, true_or, Nat.zero_lt_one, Nat.lt_add_one, Nat.zero_lt_succ, Nat.add_assoc, decide_true, decide_false, List.getElem?_cons_zero, List.getElem?_cons_succ, List.cons_append, List.nil_append, List.append_assoc, List.drop_zero, List.drop_succ_cons, List.take_succ_cons, List.take_zero, List.set_cons_zero, List.set_cons_succ, splice, List.all_cons, List.all_nil, Bool.and_true, Bool.not_true, Bool.not_false, Bool.or_false, Option.bind_some, Option.map_some, Option.join_some, ckB_some, V.beq, V.beqs, Nat.beq_refl, BEq.rfl, Bool.and_self, fill, repl, opd, boxc, finV, resAllV, resOfV, result, eqV, aggCells, eqOffs, eqCell, asI_int, asB_bool, ptrAt_ptr, reduceCtorEq, W_call, hR, h1, eqPtr, decide_eq_true p1, decide_eq_false p2, clientPoint_nil, clientBegin_nil, clientBusy_nil, clientStep_nil, hA, clientHolds_nil, awake21]
          exact Ev.some rfl
      · simp only [S.withylaw21_ClientNone, S.withylaw21_ClientNone_c1_S, S.withylaw21_ClientNone_c1_n, S.withylaw21_ClientNone_c3_S, S.withylaw21_ClientNone_c3_n, S.withylaw21_ClientNone_c1_eq, S.withylaw21_ClientNone_c1_n_eq, S.withylaw21_ClientNone_c3_eq, S.withylaw21_ClientNone_c3_n_eq, H.new_ext, H.ext_ext, H.ext_next, H.ext_ldNk_0, H.ext_ldNk, H.ext_ldk_0, H.ext_ldk, H.ext_stk_0, H.ext_stk, ok, ldB_cells, ldNB_cells, stB_cells, V.one, V.cells, List.length_cons, List.length_nil, List.length_append, List.length_singleton, Nat.zero_add, Nat.add_zero, Nat.reduceAdd, Nat.reduceLeDiff, Nat.reduceLT, Nat.reduceMul, Nat.reduceSub, Int.reduceEq, Int.reduceLT, Int.reduceLE, if_true, if_false, or_self, or_false, false_or, or_true, true_or, Nat.zero_lt_one, Nat.lt_add_one, Nat.zero_lt_succ, Nat.add_assoc, decide_true, decide_false, List.getElem?_cons_zero, List.getElem?_cons_succ, List.cons_append, List.nil_append, List.append_assoc, List.drop_zero, List.drop_succ_cons, List.take_succ_cons, List.take_zero, List.set_cons_zero, List.set_cons_succ, splice, List.all_cons, List.all_nil, Bool.and_true, Bool.not_true, Bool.not_false, Bool.or_false, Option.bind_some, Option.map_some, Option.join_some, ckB_some, V.beq, V.beqs, Nat.beq_refl, BEq.rfl, Bool.and_self, fill, repl, opd, boxc, finV, resAllV, resOfV, result, eqV, aggCells, eqOffs, eqCell, asI_int, asB_bool, ptrAt_ptr, reduceCtorEq, W_call, hR, h1, eqPtr, decide_eq_false p1, clientPoint_nil, clientBegin_nil, clientBusy_nil, clientStep_nil, hA, clientHolds_nil, awake21]
        exact Ev.some rfl
end Wm
end

