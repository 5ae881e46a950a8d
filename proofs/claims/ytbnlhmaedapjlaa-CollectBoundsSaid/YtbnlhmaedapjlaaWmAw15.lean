/- The example of layer 15. -/
import Derived.Test.YtbnlhmaedapjlaaWmAw15a
import Derived.Test.YtbnlhmaedapjlaaWmAw15b
import Derived.Test.YtbnlhmaedapjlaaWmAw15c
import Derived.Test.YtbnlhmaedapjlaaWmAw15d
import Derived.Test.YtbnlhmaedapjlaaWmPNCollect
import Derived.Test.YtbnlhmaedapjlaaWmTxtCollectBoundsA
set_option linter.all false
namespace Wm

theorem ckB_eq {o : Option V} {u : V} (h : ckB o u = true) : o = some u := by
  cases o with
  | none => cases h
  | some v => rw [V.beq_eq v u h]

theorem runF_call {r n f : Nat} {args : List V} {h h' : H} {v : V} (e : runF prog meth r n f args h = some (v, h')) : C f args h = some (v, h') := by
  rw [runF_eq] at e
  exact callW_run e

set_option maxRecDepth 100000 in
theorem aw15_pre1 : runF prog meth 2000 200 213 [cfg15] (H.empty.ext [some (.cells [.int .i64 3, .int .i64 1, .int .i64 1, .int .i64 1, .int .i64 9, .int .i64 0] .rw)]) = some (.ptr 5 0, aw15_m) := by kernel_rfl
set_option maxRecDepth 100000 in
theorem aw15_pre2 : runF prog meth 2000 200 214 [cfg15] aw15_m = some (.ptr 7 0, aw15_0) := by kernel_rfl

theorem bound15 (h : H) : C 210 [cfg15] h = some (.int .i64 134, h) := collectBound_spec 3 1 1 1 9 0 h

theorem aw15_loop : ∀ (n i : Nat) (h h' : H), itF 215 [.ptr 7 0, .ptr 5 0] 0 cfg15 n h = some h' → i + n ≤ 134 → ∀ r, loopW (S.withylaw15_awake_c1_B W) (S.withylaw15_awake_c1_E (.ptr 0 0) (.ptr 5 0) (.ptr 7 0) (.int .i64 ((i + n : Nat) : Int))) h' = some r →
    loopW (S.withylaw15_awake_c1_B W) (S.withylaw15_awake_c1_E (.ptr 0 0) (.ptr 5 0) (.ptr 7 0) (.int .i64 (i : Int))) h = some r
  | 0, i, h, h', e, _, r, hr => by cases e; exact hr
  | n + 1, i, h, h', e, hn, r, hr => by
    unfold itF at e
    split at e
    · rename_i hc
      split at e
      · rename_i h2 e2
        have ih := aw15_loop n (i + 1) h2 h' e (by omega) r (by rw [show i + 1 + n = i + (n + 1) by omega]; exact hr)
        refine loopW_next ?_ ih
        rw [S.withylaw15_awake_c1_eq]
        have hb := bound15
        unfold cfg15 at hb hc
        simp only [S.withylaw15_awake_c1_S, ckB_eq hc, Option.bind_some, W_call, hb, asI_int, show (i : Int) < 134 by omega, decide_true, runF_call e2, asB_bool]
        rw [wr64 (by omega) (by omega), show (i : Int) + 1 = ((i + 1 : Nat) : Int) by omega]
      · cases e
    · cases e

set_option maxRecDepth 100000 in
theorem aw15_end : aw15_4.ldN 6 (.ptr 0 0) = some cfg15 := by kernel_rfl
set_option maxRecDepth 100000 in
theorem aw15_fin : S.withylaw15_awake_c1_e0 W .dead (.ptr 7 0) aw15_4 = some (.bool true, aw15_4) := by kernel_rfl

theorem awake15 (h : H) : C 212 [] h = some (.bool true, h) := by
  refine call_closed (af := F.withylaw15_awake) (by kernel_rfl) rfl (by rfl) (by rfl) h ?_
  rw [S.withylaw15_awake_eq]
  have ok := H.ok_empty
  have h1 := runF_call aw15_pre1
  have h2 := runF_call aw15_pre2
  have hc : aw15_m.ldN 6 (.ptr 0 0) = some cfg15 := by kernel_rfl
  have hn : H.empty.next = 0 := rfl
  have hs : (H.empty.ext [some (.cells [.int .i64 0, .int .i64 0, .int .i64 0, .int .i64 0, .int .i64 0, .int .i64 0] .rw)]).st 6 (.ptr 0 0) (.agg [.int .i64 3, .int .i64 1, .int .i64 1, .int .i64 1, .int .i64 9, .int .i64 0]) = some (H.empty.ext [some (.cells [.int .i64 3, .int .i64 1, .int .i64 1, .int .i64 1, .int .i64 9, .int .i64 0] .rw)]) := by kernel_rfl
  have hd : (H.empty.ext [some (.cells [.int .i64 3, .int .i64 1, .int .i64 1, .int .i64 1, .int .i64 9, .int .i64 0] .rw)]).ldN 6 (.ptr 0 0) = some (.agg [.int .i64 3, .int .i64 1, .int .i64 1, .int .i64 1, .int .i64 9, .int .i64 0]) := by kernel_rfl
  unfold cfg15 at h1 h2 hc
  simp only [S.withylaw15_awake, H.new_ext, H.ext_ext, H.ext_next, H.ext_ldNk_0, H.ext_ldNk, H.ext_ldk_0, H.ext_ldk, H.ext_stk_0, H.ext_stk, ok, ldB_cells, ldNB_cells, stB_cells, V.one, V.cells, List.length_cons, List.length_nil, List.length_append, List.length_singleton, Nat.zero_add, Nat.add_zero, Nat.reduceAdd, Nat.reduceLeDiff, Nat.reduceLT, Nat.reduceMul, Nat.reduceSub, Int.reduceEq, Int.reduceLT, Int.reduceLE, if_true, if_false, or_self, or_false, false_or, or_true, true_or, Nat.zero_lt_one, Nat.lt_add_one, Nat.zero_lt_succ, Nat.add_assoc, decide_true, decide_false, List.getElem?_cons_zero, List.getElem?_cons_succ, List.cons_append, List.nil_append, List.append_assoc, List.drop_zero, List.drop_succ_cons, List.take_succ_cons, List.take_zero, List.set_cons_zero, List.set_cons_succ, splice, List.all_cons, List.all_nil, Bool.and_true, Bool.not_true, Bool.not_false, Bool.or_false, Option.bind_some, Option.map_some, Option.join_some, ckB_some, V.beq, V.beqs, Nat.beq_refl, BEq.rfl, Bool.and_self, fill, opd, boxc, finV, resAllV, resOfV, result, eqV, aggCells, eqOffs, eqCell, asI_int, asB_bool, ptrAt_ptr, reduceCtorEq, W_call, hn] at h1 h2 hc ⊢
  have hl : W.loop (S.withylaw15_awake_c1_B W) (S.withylaw15_awake_c1_E (.ptr 0 0) (.ptr 5 0) (.ptr 7 0) (.int .i64 0)) aw15_0 = some (.exit 0, S.withylaw15_awake_c1_O .dead (.ptr 7 0), aw15_4) := by
    refine aw15_loop 34 0 _ _ aw15_it0 (by omega) _ (aw15_loop 34 34 _ _ aw15_it1 (by omega) _ (aw15_loop 33 68 _ _ aw15_it2 (by omega) _ (aw15_loop 33 101 _ _ aw15_it3 (by omega) _ (loopW_out ?_ (by simp)))))
    rw [show ((101 + 33 : Nat) : Int) = 134 from rfl, S.withylaw15_awake_c1_eq]
    have hb := bound15
    simp only [S.withylaw15_awake_c1_S, aw15_end, Option.bind_some, W_call, hb, asI_int, Int.reduceLT, decide_false]
  simp only [hs, hd, h1, h2, hc, Option.bind_some, eqV, eqPtr, hl, W_call]
  rw [S.withylaw15_awake_c1_e0_eq, aw15_fin]
  exact Ev.some rfl
end Wm
