/- The law CollectBounds, of my machine. -/
import Derived.Test.YtbnlhmaedapjlaaWmPNCollect
import Derived.Test.YtbnlhmaedapjlaaWmAw15
import Derived.Test.YtbnlhmaedapjlaaWmTxtCollectBoundsA
set_option linter.all false
namespace Wm
def shCollectBounds : List (Bool × List CSh) := [(true, [.int .i64, .int .i64, .int .i64, .int .i64, .int .i64, .int .i64])]

theorem lawCollectBounds (h : H) (us : List V) (_ : h.ok) (ha : ArgsOk h.get shCollectBounds us) : Ev (C 49 us h) fun r => r.1 = .bool true := by
  obtain ⟨_, _, rfl, ⟨_, rfl, _, _, rfl, ⟨s, rfl, _⟩, _, _, rfl, ⟨a, rfl, _⟩, _, _, rfl, ⟨c, rfl, _⟩, _, _, rfl, ⟨hd, rfl, _⟩, _, _, rfl, ⟨g, rfl, _⟩, _, _, rfl, ⟨st, rfl, _⟩, rfl⟩, rfl⟩ := ha
  skip
  refine ⟨_, call_closed (v := .bool true) (af := F.withylaw15_CollectBounds) (by kernel_rfl) rfl (by rfl) (by rfl) h ?_, rfl⟩
  rw [S.withylaw15_CollectBounds_eq]
  have ok := H.ok_empty
  have hR := ref06Right_spec s a c hd g st
  unfold cfgV at hR
  have h1 := collectBound_spec s a c hd g st
  have h2 := refBound_spec s a c hd g st
  unfold cfgV at h1 h2
  simp only [S.withylaw15_CollectBounds, H.new_ext, H.ext_ext, H.ext_next, H.ext_ldNk_0, H.ext_ldNk, H.ext_ldk_0, H.ext_ldk, H.ext_stk_0, H.ext_stk, ok, ldB_cells, ldNB_cells, stB_cells, V.one, V.cells, List.length_cons, List.length_nil, List.length_append, List.length_singleton, Nat.zero_add, Nat.add_zero, Nat.reduceAdd, Nat.reduceLeDiff, Nat.reduceLT, Nat.reduceMul, Nat.reduceSub, Int.reduceEq, Int.reduceLT, Int.reduceLE, if_true, if_false, or_self, or_false, false_or, or_true, true_or, Nat.zero_lt_one, Nat.lt_add_one, Nat.zero_lt_succ, Nat.add_assoc, decide_true, decide_false, List.getElem?_cons_zero, List.getElem?_cons_succ, List.cons_append, List.nil_append, List.append_assoc, List.drop_zero, List.drop_succ_cons, List.take_succ_cons, List.take_zero, List.set_cons_zero, List.set_cons_succ, splice, List.all_cons, List.all_nil, Bool.and_true, Bool.not_true, Bool.not_false, Bool.or_false, Option.bind_some, Option.map_some, Option.join_some, ckB_some, V.beq, V.beqs, Nat.beq_refl, BEq.rfl, Bool.and_self, fill, opd, boxc, finV, resAllV, resOfV, result, eqV, aggCells, eqOffs, eqCell, asI_int, asB_bool, ptrAt_ptr, reduceCtorEq, W_call, h1, h2, awake15]
  exact Ev.some rfl
end Wm
