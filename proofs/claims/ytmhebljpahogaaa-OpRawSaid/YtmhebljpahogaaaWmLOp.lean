/- The laws of layer 16, of my machine. -/
import Derived.Test.YtmhebljpahogaaaWmPOp
import Derived.Test.YtmhebljpahogaaaWmPOp0
import Derived.Test.YtmhebljpahogaaaWmTxtOpRawA
set_option linter.all false
namespace Wm

theorem row_of {g : Nat → Option Blk} {v : V} (h : CellOk g (.sl 8 [.int .u64]) v) : ∃ x, RowIs g v x := by
  unfold CellOk at h
  rcases h with rfl | ⟨b, n, cs, rfl, ⟨hn, _⟩, hb, hl, hc⟩
  · exact ⟨[], by simp, .inl ⟨rfl, rfl⟩⟩
  · have : ∀ i, i < n → ∃ m, cs[i]? = some (.int .u64 m) := by
      intro i hi
      have := hc i hi
      simp only [List.length_singleton, Nat.mul_one] at this
      obtain ⟨u, us, h1, h2, _⟩ := this
      unfold CellOk at h2
      obtain ⟨m, rfl, _⟩ := h2
      refine ⟨m, ?_⟩
      have h3 := congrArg (fun l => l[0]?) h1
      simpa using h3
    obtain ⟨x, hx, hxs⟩ := list_of n this
    have hcs : cs = x.map (.int .u64) := by
      apply List.ext_getElem?
      intro i
      by_cases hi : i < n
      · have h1 : x[i]? = some (x[i]'(by omega)) := List.getElem?_eq_getElem (by omega)
        rw [hxs i _ h1, List.getElem?_map, h1]; rfl
      · simp only [List.length_singleton, Nat.mul_one] at hl
        rw [List.getElem?_eq_none (by omega), List.getElem?_eq_none (by simp; omega)]
    refine ⟨x, by have : n ≤ 9223372036854775807 := hn; omega, .inr ⟨b, .op 1, .ro, ?_, ?_⟩⟩
    · rw [hx]; rfl
    · rw [hb, hcs]

theorem told_of {g : Nat → Option Blk} {v : V} (h : CellOk g (.sl 24 [.sl 8 [.int .u64]]) v) : ∃ T, ToldIs g v T := by
  unfold CellOk at h
  rcases h with rfl | ⟨b, n, cs, rfl, ⟨hn, _⟩, hb, hl, hc⟩
  · exact ⟨[], by simp, .inl ⟨rfl, rfl⟩⟩
  · simp only [List.length_singleton, Nat.mul_one] at hl hc
    have : ∀ i, i < n → ∃ x u, cs[i]? = some u ∧ RowIs g u x := by
      intro i hi
      obtain ⟨u, us, h1, h2, _⟩ := hc i hi
      obtain ⟨x, hx⟩ := row_of h2
      have h3 := congrArg (fun l => l[0]?) h1
      exact ⟨x, u, by simpa using h3, hx⟩
    obtain ⟨T, hT, hTs⟩ := list_of n this
    refine ⟨T, by have : n ≤ 9223372036854775807 := hn; omega, .inr ⟨b, cs, .op 1, .ro, ?_, hb, by omega, fun i x hx => hTs i x hx⟩⟩
    rw [hT]; rfl

set_option maxRecDepth 100000 in
theorem awake16_run : run prog meth 200 60 80 [] .empty = some (.bool true, .empty) := by kernel_rfl
theorem awake16 (h : H) : C 80 [] h = some (.bool true, h) := call_closed_run (af := F.withylaw16_awake) (by kernel_rfl) rfl awake16_run h

def shOpValues : List (Bool × List CSh) := [(true, [.int .i64, .int .i64, .int .u64]), (false, [.int .i64]), (false, [.sl 24 [.sl 8 [.int .u64]]])]

theorem lawOpValues (h : H) (us : List V) (ok : h.ok) (ha : ArgsOk h.get shOpValues us) : Ev (C 3 us h) fun r => r.1 = .bool true := by
  obtain ⟨_, _, rfl, ⟨_, rfl, _, _, rfl, ⟨of, rfl, _⟩, _, _, rfl, ⟨cl, rfl, _⟩, _, _, rfl, ⟨raw, rfl, _⟩, rfl⟩, _, _, rfl, ⟨_, _, hs, ⟨self, rfl, _⟩, rfl⟩, v, _, rfl, ⟨_, _, hv, ht, rfl⟩, rfl⟩ := ha
  cases hs; cases hv
  obtain ⟨T, ht⟩ := told_of ht
  refine call_ev (af := F.withylaw16_OpValues) (by kernel_rfl) rfl ?_
  rw [S.withylaw16_OpValues_eq]
  simp only [S.withylaw16_OpValues, W_call, H.new_ext, H.ext_ext, H.ext_next, H.ext_ldNk_0, H.ext_ldNk, H.ext_ldk_0, H.ext_ldk, H.ext_stk_0, H.ext_stk, ok, ldB_cells, ldNB_cells, stB_cells, V.one, V.cells, List.length_cons, List.length_nil, List.length_append, List.length_singleton, Nat.zero_add, Nat.add_zero, Nat.reduceAdd, Nat.reduceLeDiff, Nat.reduceLT, Nat.reduceMul, Nat.reduceSub, Int.reduceEq, Int.reduceLT, Int.reduceLE, if_true, if_false, or_self, or_false, false_or, or_true, true_or, Nat.zero_lt_one, Nat.lt_add_one, Nat.zero_lt_succ, Nat.add_assoc, decide_true, decide_false, List.getElem?_cons_zero, List.getElem?_cons_succ, List.cons_append, List.nil_append, List.append_assoc, List.drop_zero, List.drop_succ_cons, List.take_succ_cons, List.take_zero, List.set_cons_zero, List.set_cons_succ, splice, List.all_cons, List.all_nil, Bool.and_true, Bool.not_true, Bool.not_false, Bool.or_false, Option.bind_some, Option.map_some, Option.join_some, ckB_some, V.beq, V.beqs, Nat.beq_refl, BEq.rfl, Bool.and_self, fill, opd, boxc, finV, resAllV, resOfV, result, eqV, aggCells, eqOffs, eqCell, asI_int, asB_bool, ptrAt_ptr, reduceCtorEq]
  rw [opValue_spec (ok.ext _) (ht.mono (GExt.ext ok _))]
  simp only [H.new_ext, H.ext_ext, H.ext_next, H.ext_ldNk_0, H.ext_ldNk, H.ext_ldk_0, H.ext_ldk, H.ext_stk_0, H.ext_stk, ok, ldB_cells, ldNB_cells, stB_cells, V.one, V.cells, List.length_cons, List.length_nil, List.length_append, List.length_singleton, Nat.zero_add, Nat.add_zero, Nat.reduceAdd, Nat.reduceLeDiff, Nat.reduceLT, Nat.reduceMul, Nat.reduceSub, Int.reduceEq, Int.reduceLT, Int.reduceLE, if_true, if_false, or_self, or_false, false_or, or_true, true_or, Nat.zero_lt_one, Nat.lt_add_one, Nat.zero_lt_succ, Nat.add_assoc, decide_true, decide_false, List.getElem?_cons_zero, List.getElem?_cons_succ, List.cons_append, List.nil_append, List.append_assoc, List.drop_zero, List.drop_succ_cons, List.take_succ_cons, List.take_zero, List.set_cons_zero, List.set_cons_succ, splice, List.all_cons, List.all_nil, Bool.and_true, Bool.not_true, Bool.not_false, Bool.or_false, Option.bind_some, Option.map_some, Option.join_some, ckB_some, V.beq, V.beqs, Nat.beq_refl, BEq.rfl, Bool.and_self, fill, opd, boxc, finV, resAllV, resOfV, result, eqV, aggCells, eqOffs, eqCell, asI_int, asB_bool, ptrAt_ptr, reduceCtorEq]
  rw [value16_spec (ok.ext _) (ht.mono (GExt.ext ok _))]
  simp only [H.new_ext, H.ext_ext, H.ext_next, H.ext_ldNk_0, H.ext_ldNk, H.ext_ldk_0, H.ext_ldk, H.ext_stk_0, H.ext_stk, ok, ldB_cells, ldNB_cells, stB_cells, V.one, V.cells, List.length_cons, List.length_nil, List.length_append, List.length_singleton, Nat.zero_add, Nat.add_zero, Nat.reduceAdd, Nat.reduceLeDiff, Nat.reduceLT, Nat.reduceMul, Nat.reduceSub, Int.reduceEq, Int.reduceLT, Int.reduceLE, if_true, if_false, or_self, or_false, false_or, or_true, true_or, Nat.zero_lt_one, Nat.lt_add_one, Nat.zero_lt_succ, Nat.add_assoc, decide_true, decide_false, List.getElem?_cons_zero, List.getElem?_cons_succ, List.cons_append, List.nil_append, List.append_assoc, List.drop_zero, List.drop_succ_cons, List.take_succ_cons, List.take_zero, List.set_cons_zero, List.set_cons_succ, splice, List.all_cons, List.all_nil, Bool.and_true, Bool.not_true, Bool.not_false, Bool.or_false, Option.bind_some, Option.map_some, Option.join_some, ckB_some, V.beq, V.beqs, Nat.beq_refl, BEq.rfl, Bool.and_self, fill, opd, boxc, finV, resAllV, resOfV, result, eqV, aggCells, eqOffs, eqCell, asI_int, asB_bool, ptrAt_ptr, reduceCtorEq, awake16]
  exact Ev.some rfl
def shOpCalls : List (Bool × List CSh) := [(true, [.int .i64, .int .i64, .int .i64, .int .i64, .int .u64, .int .i64, .int .i64, .int .u64, .int .i64, .int .i64, .int .u64]), (false, [.int .i64]), (false, [.sl 24 [.sl 8 [.int .u64]]])]

set_option maxRecDepth 20000 in
theorem lawOpCalls (h : H) (us : List V) (ok : h.ok) (ha : ArgsOk h.get shOpCalls us) : Ev (C 4 us h) fun r => r.1 = .bool true := by
  obtain ⟨_, _, rfl, ⟨_, rfl, _, _, rfl, ⟨kind, rfl, _⟩, _, _, rfl, ⟨n, rfl, _⟩, _, _, rfl, ⟨a1, rfl, _⟩, _, _, rfl, ⟨a2, rfl, _⟩, _, _, rfl, ⟨a3, rfl, _⟩, _, _, rfl, ⟨b1, rfl, _⟩, _, _, rfl, ⟨b2, rfl, _⟩, _, _, rfl, ⟨b3, rfl, _⟩, _, _, rfl, ⟨c1, rfl, _⟩, _, _, rfl, ⟨c2, rfl, _⟩, _, _, rfl, ⟨c3, rfl, _⟩, rfl⟩, _, _, rfl, ⟨_, _, hs, ⟨self, rfl, _⟩, rfl⟩, v, _, rfl, ⟨_, _, hv, ht, rfl⟩, rfl⟩ := ha
  cases hs; cases hv
  obtain ⟨T, ht⟩ := told_of ht
  refine call_ev (af := F.withylaw16_OpCalls) (by kernel_rfl) rfl ?_
  rw [S.withylaw16_OpCalls_eq]
  have ht' : ∀ l, ToldIs (h.ext l).get v T := fun l => ht.mono (GExt.ext ok _)
  obtain ⟨G, hC⟩ : ∃ G : List (Option Blk) → List (Option Blk), ∀ l, C 81 [.agg [.int .i64 kind, .int .i64 n, .int .i64 a1, .int .i64 a2, .int .u64 a3, .int .i64 b1, .int .i64 b2, .int .u64 b3, .int .i64 c1, .int .i64 c2, .int .u64 c3], .int .i64 self, v] (h.ext l) = some (.agg (callT kind n (valT T a1 a2 a3 self) (valT T b1 b2 b3 self) (valT T c1 c2 c3 self)), h.ext (l ++ G l)) :=
    ⟨fun l => Classical.choose (opCall_spec (ok.ext l) (ht' l) ..), fun l => by rw [← H.ext_ext]; exact Classical.choose_spec (opCall_spec (ok.ext l) (ht' l) ..)⟩
  have hV := fun l a b c => value16_spec (ok.ext l) (ht' l) a b c self
  by_cases h0 : 1 ≤ kind
  · by_cases h1 : kind ≤ 10
    · have h2 : ¬(kind < 1 ∨ 10 < kind) := by omega
      have hk : kind = 1 ∨ kind = 3 ∨ kind = 5 ∨ kind = 7 ∨ (1 < kind ∧ kind ≠ 1 ∧ kind ≠ 3 ∧ kind ≠ 5 ∧ kind ≠ 7) := by omega
      rcases hk with rfl | rfl | rfl | rfl | ⟨k1, k2, k3, k4, k5⟩
      · simp only [S.withylaw16_OpCalls, H.new_ext, H.ext_ext, H.ext_next, H.ext_ldNk_0, H.ext_ldNk, H.ext_ldk_0, H.ext_ldk, H.ext_stk_0, H.ext_stk, ok, ldB_cells, ldNB_cells, stB_cells, V.one, V.cells, List.length_cons, List.length_nil, List.length_append, List.length_singleton, Nat.zero_add, Nat.add_zero, Nat.reduceAdd, Nat.reduceLeDiff, Nat.reduceLT, Nat.reduceMul, Nat.reduceSub, Int.reduceEq, Int.reduceLT, Int.reduceLE, if_true, if_false, or_self, or_false, false_or, or_true, true_or, Nat.zero_lt_one, Nat.lt_add_one, Nat.zero_lt_succ, Nat.add_assoc, decide_true, decide_false, List.getElem?_cons_zero, List.getElem?_cons_succ, List.cons_append, List.nil_append, List.append_assoc, List.drop_zero, List.drop_succ_cons, List.take_succ_cons, List.take_zero, List.set_cons_zero, List.set_cons_succ, splice, List.all_cons, List.all_nil, Bool.and_true, Bool.not_true, Bool.not_false, Bool.or_false, Option.bind_some, Option.map_some, Option.join_some, ckB_some, V.beq, V.beqs, Nat.beq_refl, BEq.rfl, Bool.and_self, fill, opd, boxc, finV, resAllV, resOfV, result, eqV, aggCells, eqOffs, eqCell, asI_int, asB_bool, ptrAt_ptr, reduceCtorEq, W_call, hV, hC, callT, awake16]
        exact Ev.some rfl
      · simp only [S.withylaw16_OpCalls, H.new_ext, H.ext_ext, H.ext_next, H.ext_ldNk_0, H.ext_ldNk, H.ext_ldk_0, H.ext_ldk, H.ext_stk_0, H.ext_stk, ok, ldB_cells, ldNB_cells, stB_cells, V.one, V.cells, List.length_cons, List.length_nil, List.length_append, List.length_singleton, Nat.zero_add, Nat.add_zero, Nat.reduceAdd, Nat.reduceLeDiff, Nat.reduceLT, Nat.reduceMul, Nat.reduceSub, Int.reduceEq, Int.reduceLT, Int.reduceLE, if_true, if_false, or_self, or_false, false_or, or_true, true_or, Nat.zero_lt_one, Nat.lt_add_one, Nat.zero_lt_succ, Nat.add_assoc, decide_true, decide_false, List.getElem?_cons_zero, List.getElem?_cons_succ, List.cons_append, List.nil_append, List.append_assoc, List.drop_zero, List.drop_succ_cons, List.take_succ_cons, List.take_zero, List.set_cons_zero, List.set_cons_succ, splice, List.all_cons, List.all_nil, Bool.and_true, Bool.not_true, Bool.not_false, Bool.or_false, Option.bind_some, Option.map_some, Option.join_some, ckB_some, V.beq, V.beqs, Nat.beq_refl, BEq.rfl, Bool.and_self, fill, opd, boxc, finV, resAllV, resOfV, result, eqV, aggCells, eqOffs, eqCell, asI_int, asB_bool, ptrAt_ptr, reduceCtorEq, W_call, hV, hC, callT, awake16]
        exact Ev.some rfl
      · simp only [S.withylaw16_OpCalls, H.new_ext, H.ext_ext, H.ext_next, H.ext_ldNk_0, H.ext_ldNk, H.ext_ldk_0, H.ext_ldk, H.ext_stk_0, H.ext_stk, ok, ldB_cells, ldNB_cells, stB_cells, V.one, V.cells, List.length_cons, List.length_nil, List.length_append, List.length_singleton, Nat.zero_add, Nat.add_zero, Nat.reduceAdd, Nat.reduceLeDiff, Nat.reduceLT, Nat.reduceMul, Nat.reduceSub, Int.reduceEq, Int.reduceLT, Int.reduceLE, if_true, if_false, or_self, or_false, false_or, or_true, true_or, Nat.zero_lt_one, Nat.lt_add_one, Nat.zero_lt_succ, Nat.add_assoc, decide_true, decide_false, List.getElem?_cons_zero, List.getElem?_cons_succ, List.cons_append, List.nil_append, List.append_assoc, List.drop_zero, List.drop_succ_cons, List.take_succ_cons, List.take_zero, List.set_cons_zero, List.set_cons_succ, splice, List.all_cons, List.all_nil, Bool.and_true, Bool.not_true, Bool.not_false, Bool.or_false, Option.bind_some, Option.map_some, Option.join_some, ckB_some, V.beq, V.beqs, Nat.beq_refl, BEq.rfl, Bool.and_self, fill, opd, boxc, finV, resAllV, resOfV, result, eqV, aggCells, eqOffs, eqCell, asI_int, asB_bool, ptrAt_ptr, reduceCtorEq, W_call, hV, hC, callT, awake16]
        exact Ev.some rfl
      · simp only [S.withylaw16_OpCalls, H.new_ext, H.ext_ext, H.ext_next, H.ext_ldNk_0, H.ext_ldNk, H.ext_ldk_0, H.ext_ldk, H.ext_stk_0, H.ext_stk, ok, ldB_cells, ldNB_cells, stB_cells, V.one, V.cells, List.length_cons, List.length_nil, List.length_append, List.length_singleton, Nat.zero_add, Nat.add_zero, Nat.reduceAdd, Nat.reduceLeDiff, Nat.reduceLT, Nat.reduceMul, Nat.reduceSub, Int.reduceEq, Int.reduceLT, Int.reduceLE, if_true, if_false, or_self, or_false, false_or, or_true, true_or, Nat.zero_lt_one, Nat.lt_add_one, Nat.zero_lt_succ, Nat.add_assoc, decide_true, decide_false, List.getElem?_cons_zero, List.getElem?_cons_succ, List.cons_append, List.nil_append, List.append_assoc, List.drop_zero, List.drop_succ_cons, List.take_succ_cons, List.take_zero, List.set_cons_zero, List.set_cons_succ, splice, List.all_cons, List.all_nil, Bool.and_true, Bool.not_true, Bool.not_false, Bool.or_false, Option.bind_some, Option.map_some, Option.join_some, ckB_some, V.beq, V.beqs, Nat.beq_refl, BEq.rfl, Bool.and_self, fill, opd, boxc, finV, resAllV, resOfV, result, eqV, aggCells, eqOffs, eqCell, asI_int, asB_bool, ptrAt_ptr, reduceCtorEq, W_call, hV, hC, callT, awake16]
        exact Ev.some rfl
      · simp only [S.withylaw16_OpCalls, H.new_ext, H.ext_ext, H.ext_next, H.ext_ldNk_0, H.ext_ldNk, H.ext_ldk_0, H.ext_ldk, H.ext_stk_0, H.ext_stk, ok, ldB_cells, ldNB_cells, stB_cells, V.one, V.cells, List.length_cons, List.length_nil, List.length_append, List.length_singleton, Nat.zero_add, Nat.add_zero, Nat.reduceAdd, Nat.reduceLeDiff, Nat.reduceLT, Nat.reduceMul, Nat.reduceSub, Int.reduceEq, Int.reduceLT, Int.reduceLE, if_true, if_false, or_self, or_false, false_or, or_true, true_or, Nat.zero_lt_one, Nat.lt_add_one, Nat.zero_lt_succ, Nat.add_assoc, decide_true, decide_false, List.getElem?_cons_zero, List.getElem?_cons_succ, List.cons_append, List.nil_append, List.append_assoc, List.drop_zero, List.drop_succ_cons, List.take_succ_cons, List.take_zero, List.set_cons_zero, List.set_cons_succ, splice, List.all_cons, List.all_nil, Bool.and_true, Bool.not_true, Bool.not_false, Bool.or_false, Option.bind_some, Option.map_some, Option.join_some, ckB_some, V.beq, V.beqs, Nat.beq_refl, BEq.rfl, Bool.and_self, fill, opd, boxc, finV, resAllV, resOfV, result, eqV, aggCells, eqOffs, eqCell, asI_int, asB_bool, ptrAt_ptr, reduceCtorEq, W_call, h0, h1, h2, k1, k2, k3, k4, k5, hV, hC, callT, awake16]
        exact Ev.some rfl
    · have h2 : kind < 1 ∨ 10 < kind := by omega
      simp only [S.withylaw16_OpCalls, H.new_ext, H.ext_ext, H.ext_next, H.ext_ldNk_0, H.ext_ldNk, H.ext_ldk_0, H.ext_ldk, H.ext_stk_0, H.ext_stk, ok, ldB_cells, ldNB_cells, stB_cells, V.one, V.cells, List.length_cons, List.length_nil, List.length_append, List.length_singleton, Nat.zero_add, Nat.add_zero, Nat.reduceAdd, Nat.reduceLeDiff, Nat.reduceLT, Nat.reduceMul, Nat.reduceSub, Int.reduceEq, Int.reduceLT, Int.reduceLE, if_true, if_false, or_self, or_false, false_or, or_true, true_or, Nat.zero_lt_one, Nat.lt_add_one, Nat.zero_lt_succ, Nat.add_assoc, decide_true, decide_false, List.getElem?_cons_zero, List.getElem?_cons_succ, List.cons_append, List.nil_append, List.append_assoc, List.drop_zero, List.drop_succ_cons, List.take_succ_cons, List.take_zero, List.set_cons_zero, List.set_cons_succ, splice, List.all_cons, List.all_nil, Bool.and_true, Bool.not_true, Bool.not_false, Bool.or_false, Option.bind_some, Option.map_some, Option.join_some, ckB_some, V.beq, V.beqs, Nat.beq_refl, BEq.rfl, Bool.and_self, fill, opd, boxc, finV, resAllV, resOfV, result, eqV, aggCells, eqOffs, eqCell, asI_int, asB_bool, ptrAt_ptr, reduceCtorEq, W_call, h0, h1, h2, hV, hC, callT, awake16]
      exact Ev.some rfl
  · have h2 : kind < 1 ∨ 10 < kind := by omega
    simp only [S.withylaw16_OpCalls, H.new_ext, H.ext_ext, H.ext_next, H.ext_ldNk_0, H.ext_ldNk, H.ext_ldk_0, H.ext_ldk, H.ext_stk_0, H.ext_stk, ok, ldB_cells, ldNB_cells, stB_cells, V.one, V.cells, List.length_cons, List.length_nil, List.length_append, List.length_singleton, Nat.zero_add, Nat.add_zero, Nat.reduceAdd, Nat.reduceLeDiff, Nat.reduceLT, Nat.reduceMul, Nat.reduceSub, Int.reduceEq, Int.reduceLT, Int.reduceLE, if_true, if_false, or_self, or_false, false_or, or_true, true_or, Nat.zero_lt_one, Nat.lt_add_one, Nat.zero_lt_succ, Nat.add_assoc, decide_true, decide_false, List.getElem?_cons_zero, List.getElem?_cons_succ, List.cons_append, List.nil_append, List.append_assoc, List.drop_zero, List.drop_succ_cons, List.take_succ_cons, List.take_zero, List.set_cons_zero, List.set_cons_succ, splice, List.all_cons, List.all_nil, Bool.and_true, Bool.not_true, Bool.not_false, Bool.or_false, Option.bind_some, Option.map_some, Option.join_some, ckB_some, V.beq, V.beqs, Nat.beq_refl, BEq.rfl, Bool.and_self, fill, opd, boxc, finV, resAllV, resOfV, result, eqV, aggCells, eqOffs, eqCell, asI_int, asB_bool, ptrAt_ptr, reduceCtorEq, W_call, h0, h2, hV, hC, callT, awake16]
    exact Ev.some rfl
def shOpSelf : List (Bool × List CSh) := [(false, [.int .i64]), (false, [.int .i64]), (false, [.int .i64]), (false, [.sl 24 [.sl 8 [.int .u64]]])]

theorem lawOpSelf (h : H) (us : List V) (ok : h.ok) (ha : ArgsOk h.get shOpSelf us) : Ev (C 6 us h) fun r => r.1 = .bool true := by
  obtain ⟨_, _, rfl, ⟨_, _, h1, ⟨of, rfl, _⟩, rfl⟩, _, _, rfl, ⟨_, _, h2, ⟨self, rfl, _⟩, rfl⟩, _, _, rfl, ⟨_, _, h3, ⟨other, rfl, _⟩, rfl⟩, v, _, rfl, ⟨_, _, hv, ht, rfl⟩, rfl⟩ := ha
  cases h1; cases h2; cases h3; cases hv
  obtain ⟨T, ht⟩ := told_of ht
  refine call_ev (af := F.withylaw16_OpSelf) (by kernel_rfl) rfl ?_
  rw [S.withylaw16_OpSelf_eq]
  have ht' : ∀ l, ToldIs (h.ext l).get v T := fun l => ht.mono (GExt.ext ok _)
  simp only [S.withylaw16_OpSelf, W_call]
  by_cases h0 : self < 0
  · simp only [h0, H.new_ext, H.ext_ext, H.ext_next, H.ext_ldNk_0, H.ext_ldNk, H.ext_ldk_0, H.ext_ldk, H.ext_stk_0, H.ext_stk, ok, ldB_cells, ldNB_cells, stB_cells, V.one, V.cells, List.length_cons, List.length_nil, List.length_append, List.length_singleton, Nat.zero_add, Nat.add_zero, Nat.reduceAdd, Nat.reduceLeDiff, Nat.reduceLT, Nat.reduceMul, Nat.reduceSub, Int.reduceEq, Int.reduceLT, Int.reduceLE, if_true, if_false, or_self, or_false, false_or, or_true, true_or, Nat.zero_lt_one, Nat.lt_add_one, Nat.zero_lt_succ, Nat.add_assoc, decide_true, decide_false, List.getElem?_cons_zero, List.getElem?_cons_succ, List.cons_append, List.nil_append, List.append_assoc, List.drop_zero, List.drop_succ_cons, List.take_succ_cons, List.take_zero, List.set_cons_zero, List.set_cons_succ, splice, List.all_cons, List.all_nil, Bool.and_true, Bool.not_true, Bool.not_false, Bool.or_false, Option.bind_some, Option.map_some, Option.join_some, ckB_some, V.beq, V.beqs, Nat.beq_refl, BEq.rfl, Bool.and_self, fill, opd, boxc, finV, resAllV, resOfV, result, eqV, aggCells, eqOffs, eqCell, asI_int, asB_bool, ptrAt_ptr, reduceCtorEq, awake16]
    exact Ev.some rfl
  · have he : valT T of self 0 other = valT T of (-1) 0 self := by simp [valT, h0]
    simp only [h0, H.new_ext, H.ext_ext, H.ext_next, H.ext_ldNk_0, H.ext_ldNk, H.ext_ldk_0, H.ext_ldk, H.ext_stk_0, H.ext_stk, ok, ldB_cells, ldNB_cells, stB_cells, V.one, V.cells, List.length_cons, List.length_nil, List.length_append, List.length_singleton, Nat.zero_add, Nat.add_zero, Nat.reduceAdd, Nat.reduceLeDiff, Nat.reduceLT, Nat.reduceMul, Nat.reduceSub, Int.reduceEq, Int.reduceLT, Int.reduceLE, if_true, if_false, or_self, or_false, false_or, or_true, true_or, Nat.zero_lt_one, Nat.lt_add_one, Nat.zero_lt_succ, Nat.add_assoc, decide_true, decide_false, List.getElem?_cons_zero, List.getElem?_cons_succ, List.cons_append, List.nil_append, List.append_assoc, List.drop_zero, List.drop_succ_cons, List.take_succ_cons, List.take_zero, List.set_cons_zero, List.set_cons_succ, splice, List.all_cons, List.all_nil, Bool.and_true, Bool.not_true, Bool.not_false, Bool.or_false, Option.bind_some, Option.map_some, Option.join_some, ckB_some, V.beq, V.beqs, Nat.beq_refl, BEq.rfl, Bool.and_self, fill, opd, boxc, finV, resAllV, resOfV, result, eqV, aggCells, eqOffs, eqCell, asI_int, asB_bool, ptrAt_ptr, reduceCtorEq, opValue_spec ok ht, opValue_spec (ok.ext _) (ht' _), he, awake16]
    exact Ev.some rfl
end Wm
