/- What the functions come to, and the law: of my machine. -/
import Derived.Test.YtbnlhmaedapjlaaWmOwnIterNoneA
import Derived.Test.YtbnlhmaedapjlaaWmTxtIterNoneA
import Derived.Test.YtbnlhmaedapjlaaWmAw20
set_option linter.all false
section
/- What the references' functions of the first layers come to. -/
namespace Wm
attribute [local congr] bind_congr1

theorem refBlack_spec {e : Int} (he : U64 e) (h : H) : C 110 [.int .u64 e] h = some (.int .i64 (black e), h) := by
  refine call_closed (af := F.withyref03_Black) (by kernel_rfl) rfl (by rfl) (by rfl) h ?_
  rw [S.withyref03_Black_eq]
  obtain ⟨h0, h1⟩ := he
  unfold black
  simp only [S.withyref03_Black, td h0]
  rw [wru64 (by omega) (by omega), tm (by omega)]
  by_cases h2 : e / 4 % 2 = 0
  · simp only [h2, decide_true]; exact Ev.some (show V.int _ _ = V.int _ _ by congr 1; omega)
  · simp only [h2, decide_false]; exact Ev.some (show V.int _ _ = V.int _ _ by congr 1; omega)

theorem refPack_spec {x : Hdr} (hx : x.right = true) (h : H) : C 111 [.agg x.cs] h = some (.int .u64 x.word, h) := by
  refine call_closed (af := F.withyref04_Pack) (by kernel_rfl) rfl (by rfl) (by rfl) h ?_
  rw [right_iff] at hx
  obtain ⟨k, m, g, a, n, s⟩ := x
  simp only at hx
  unfold Hdr.cs
  rw [S.withyref04_Pack_eq]
  simp only [S.withyref04_Pack, nilc_ptr, lenSl_sl, lenSl_nil, eqPtr_ptr, eqPtr_nil, eqPtr_ptr', eqSl_sl, eqSl_nil, ptrAt_ptr, Option.bind_some, Option.map_some, ld1_get', ldN_get', st_get', get_put', get_new', put_put', ldB_cells, ldNB_cells, stB_cells, H.next_new, H.next_put, List.getElem?_cons_zero, List.getElem?_cons_succ, Nat.zero_add, Nat.add_zero, Nat.reduceAdd, Nat.reduceLeDiff, Nat.reduceLT, Nat.reduceMul, Nat.reduceSub, Nat.reduceEqDiff, Int.reduceEq, Int.reduceLT, Int.reduceLE, Int.reduceNeg, V.one, V.cells, V.beq, V.beqs, ckB_some, asI_int, asB_bool, asIAny, asS, List.length_cons, List.length_nil, Nat.beq_refl, List.all_cons, List.all_nil, Bool.and_true, Bool.and_false, Bool.true_and, Bool.false_and, Bool.not_true, Bool.not_false, Bool.or_false, Bool.false_or, Bool.or_self, Bool.and_self, decide_true, decide_false, if_true, if_false, splice, List.take_succ_cons, List.take_zero, List.drop_succ_cons, List.drop_zero, List.cons_append, List.nil_append, List.set_cons_zero, List.set_cons_succ, reduceCtorEq, fill, repl, opd, boxc, finV, resAllV, resOfV, result, eqV, eqIfc, aggCells, part, W_call, Nat.reduceBEq, Nat.beq_eq]
  rw [wru64 (n := k) (by omega) (by omega), wru64 (n := m) (by omega) (by omega), wru64 (n := a) (by omega) (by omega), wru64 (n := n) (by omega) (by omega), wru64 (n := s) (by omega) (by omega), wru64 (n := 8 * m) (by omega) (by omega), wru64 (n := 32 * a) (by omega) (by omega), wru64 (n := 65536 * n) (by omega) (by omega), wru64 (n := 281474976710656 * s) (by omega) (by omega), wru64 (n := k + 8 * m) (by omega) (by omega), wru64 (n := k + 8 * m + 32 * a) (by omega) (by omega), wru64 (n := k + 8 * m + 32 * a + 65536 * n) (by omega) (by omega), wru64 (n := k + 8 * m + 32 * a + 65536 * n + 281474976710656 * s) (by omega) (by omega)]
  cases g with
  | true =>
    simp only
    rw [wru64 (by omega) (by omega)]
    exact Ev.some (show V.int _ _ = V.int _ _ by unfold Hdr.word; simp only [if_true]; congr 1; omega)
  | false =>
    exact Ev.some (show V.int _ _ = V.int _ _ by unfold Hdr.word; simp only [Bool.false_eq_true, if_false]; congr 1; omega)

theorem refRight_spec (x : Hdr) (h : H) : C 202 [.agg x.cs] h = some (.bool x.right, h) := by
  refine call_closed (af := F.withyref04_Right) (by kernel_rfl) rfl (by rfl) (by rfl) h ?_
  have e := right_iff x
  generalize x.right = r at e
  obtain ⟨k, m, g, a, n, s⟩ := x
  simp only at e
  unfold Hdr.cs
  rw [S.withyref04_Right_eq]
  simp only [S.withyref04_Right, nilc_ptr, lenSl_sl, lenSl_nil, eqPtr_ptr, eqPtr_nil, eqPtr_ptr', eqSl_sl, eqSl_nil, ptrAt_ptr, Option.bind_some, Option.map_some, ld1_get', ldN_get', st_get', get_put', get_new', put_put', ldB_cells, ldNB_cells, stB_cells, H.next_new, H.next_put, List.getElem?_cons_zero, List.getElem?_cons_succ, Nat.zero_add, Nat.add_zero, Nat.reduceAdd, Nat.reduceLeDiff, Nat.reduceLT, Nat.reduceMul, Nat.reduceSub, Nat.reduceEqDiff, Int.reduceEq, Int.reduceLT, Int.reduceLE, Int.reduceNeg, V.one, V.cells, V.beq, V.beqs, ckB_some, asI_int, asB_bool, asIAny, asS, List.length_cons, List.length_nil, Nat.beq_refl, List.all_cons, List.all_nil, Bool.and_true, Bool.and_false, Bool.true_and, Bool.false_and, Bool.not_true, Bool.not_false, Bool.or_false, Bool.false_or, Bool.or_self, Bool.and_self, decide_true, decide_false, if_true, if_false, splice, List.take_succ_cons, List.take_zero, List.drop_succ_cons, List.drop_zero, List.cons_append, List.nil_append, List.set_cons_zero, List.set_cons_succ, reduceCtorEq, fill, repl, opd, boxc, finV, resAllV, resOfV, result, eqV, eqIfc, aggCells, part, W_call, Nat.reduceBEq, Nat.beq_eq]
  have key : ∀ b : Bool, (b = true ↔ r = true) → (V.bool b, (h : H)).1 = V.bool r := fun b hb => by
    cases b <;> cases r <;> simp_all
  by_cases c1 : 0 ≤ k
  · by_cases c2 : k ≤ 4
    · by_cases c3 : m = 0
      · by_cases c4 : 0 ≤ a
        · by_cases c5 : a ≤ 15
          · by_cases c6 : 0 ≤ n
            · by_cases c7 : n ≤ 4294967295
              · by_cases c8 : 0 ≤ s
                · simp only [c1, c2, c3, c4, c5, c6, c7, c8, decide_true]; exact Ev.some (key _ (by rw [e, decide_eq_true_eq]; omega))
                · simp only [c1, c2, c3, c4, c5, c6, c7, c8, decide_true, decide_false]; exact Ev.some (key _ (by rw [e]; simp; omega))
              · simp only [c1, c2, c3, c4, c5, c6, c7, decide_true, decide_false]; exact Ev.some (key _ (by rw [e]; simp; omega))
            · simp only [c1, c2, c3, c4, c5, c6, decide_true, decide_false]; exact Ev.some (key _ (by rw [e]; simp; omega))
          · simp only [c1, c2, c3, c4, c5, decide_true, decide_false]; exact Ev.some (key _ (by rw [e]; simp; omega))
        · simp only [c1, c2, c3, c4, decide_true, decide_false]; exact Ev.some (key _ (by rw [e]; simp; omega))
      · by_cases c3' : m = 1
        · by_cases c4 : 0 ≤ a
          · by_cases c5 : a ≤ 15
            · by_cases c6 : 0 ≤ n
              · by_cases c7 : n ≤ 4294967295
                · by_cases c8 : 0 ≤ s
                  · simp only [c1, c2, c3, c3', c4, c5, c6, c7, c8, decide_true, decide_false, Int.reduceEq]; exact Ev.some (key _ (by rw [e, decide_eq_true_eq]; omega))
                  · simp only [c1, c2, c3, c3', c4, c5, c6, c7, c8, decide_true, decide_false, Int.reduceEq]; exact Ev.some (key _ (by rw [e]; simp; omega))
                · simp only [c1, c2, c3, c3', c4, c5, c6, c7, decide_true, decide_false, Int.reduceEq]; exact Ev.some (key _ (by rw [e]; simp; omega))
              · simp only [c1, c2, c3, c3', c4, c5, c6, decide_true, decide_false, Int.reduceEq]; exact Ev.some (key _ (by rw [e]; simp; omega))
            · simp only [c1, c2, c3, c3', c4, c5, decide_true, decide_false, Int.reduceEq]; exact Ev.some (key _ (by rw [e]; simp; omega))
          · simp only [c1, c2, c3, c3', c4, decide_true, decide_false, Int.reduceEq]; exact Ev.some (key _ (by rw [e]; simp; omega))
        · simp only [c1, c2, c3, c3', decide_true, decide_false]; exact Ev.some (key _ (by rw [e]; simp; omega))
    · simp only [c1, c2, decide_true, decide_false]; exact Ev.some (key _ (by rw [e]; simp; omega))
  · simp only [c1, decide_false]; exact Ev.some (key _ (by rw [e]; simp; omega))

theorem refLives_spec {w : Int} (hw : U64 w) (h : H) : C 112 [.int .u64 w] h = some (.bool (lives w), h) := by
  refine call_closed (af := F.withyref04_Lives) (by kernel_rfl) rfl (by rfl) (by rfl) h ?_
  rw [S.withyref04_Lives_eq]
  unfold lives
  cases ho : okT w with
  | false =>
    simp only [S.withyref04_Lives, nilc_ptr, lenSl_sl, lenSl_nil, eqPtr_ptr, eqPtr_nil, eqPtr_ptr', eqSl_sl, eqSl_nil, ptrAt_ptr, Option.bind_some, Option.map_some, ld1_get', ldN_get', st_get', get_put', get_new', put_put', ldB_cells, ldNB_cells, stB_cells, H.next_new, H.next_put, List.getElem?_cons_zero, List.getElem?_cons_succ, Nat.zero_add, Nat.add_zero, Nat.reduceAdd, Nat.reduceLeDiff, Nat.reduceLT, Nat.reduceMul, Nat.reduceSub, Nat.reduceEqDiff, Int.reduceEq, Int.reduceLT, Int.reduceLE, Int.reduceNeg, V.one, V.cells, V.beq, V.beqs, ckB_some, asI_int, asB_bool, asIAny, asS, List.length_cons, List.length_nil, Nat.beq_refl, List.all_cons, List.all_nil, Bool.and_true, Bool.and_false, Bool.true_and, Bool.false_and, Bool.not_true, Bool.not_false, Bool.or_false, Bool.false_or, Bool.or_self, Bool.and_self, decide_true, decide_false, if_true, if_false, splice, List.take_succ_cons, List.take_zero, List.drop_succ_cons, List.drop_zero, List.cons_append, List.nil_append, List.set_cons_zero, List.set_cons_succ, reduceCtorEq, fill, repl, opd, boxc, finV, resAllV, resOfV, result, eqV, eqIfc, aggCells, part, W_call, Nat.reduceBEq, Nat.beq_eq, refUnp_spec hw, ho, Hdr.cs]
    exact Ev.some rfl
  | true =>
    by_cases k1 : (unp w).kind = 1
    · simp only [S.withyref04_Lives, nilc_ptr, lenSl_sl, lenSl_nil, eqPtr_ptr, eqPtr_nil, eqPtr_ptr', eqSl_sl, eqSl_nil, ptrAt_ptr, Option.bind_some, Option.map_some, ld1_get', ldN_get', st_get', get_put', get_new', put_put', ldB_cells, ldNB_cells, stB_cells, H.next_new, H.next_put, List.getElem?_cons_zero, List.getElem?_cons_succ, Nat.zero_add, Nat.add_zero, Nat.reduceAdd, Nat.reduceLeDiff, Nat.reduceLT, Nat.reduceMul, Nat.reduceSub, Nat.reduceEqDiff, Int.reduceEq, Int.reduceLT, Int.reduceLE, Int.reduceNeg, V.one, V.cells, V.beq, V.beqs, ckB_some, asI_int, asB_bool, asIAny, asS, List.length_cons, List.length_nil, Nat.beq_refl, List.all_cons, List.all_nil, Bool.and_true, Bool.and_false, Bool.true_and, Bool.false_and, Bool.not_true, Bool.not_false, Bool.or_false, Bool.false_or, Bool.or_self, Bool.and_self, decide_true, decide_false, if_true, if_false, splice, List.take_succ_cons, List.take_zero, List.drop_succ_cons, List.drop_zero, List.cons_append, List.nil_append, List.set_cons_zero, List.set_cons_succ, reduceCtorEq, fill, repl, opd, boxc, finV, resAllV, resOfV, result, eqV, eqIfc, aggCells, part, W_call, Nat.reduceBEq, Nat.beq_eq, refUnp_spec hw, ho, Hdr.cs, k1, Bool.true_or]
      exact Ev.some rfl
    · simp only [S.withyref04_Lives, nilc_ptr, lenSl_sl, lenSl_nil, eqPtr_ptr, eqPtr_nil, eqPtr_ptr', eqSl_sl, eqSl_nil, ptrAt_ptr, Option.bind_some, Option.map_some, ld1_get', ldN_get', st_get', get_put', get_new', put_put', ldB_cells, ldNB_cells, stB_cells, H.next_new, H.next_put, List.getElem?_cons_zero, List.getElem?_cons_succ, Nat.zero_add, Nat.add_zero, Nat.reduceAdd, Nat.reduceLeDiff, Nat.reduceLT, Nat.reduceMul, Nat.reduceSub, Nat.reduceEqDiff, Int.reduceEq, Int.reduceLT, Int.reduceLE, Int.reduceNeg, V.one, V.cells, V.beq, V.beqs, ckB_some, asI_int, asB_bool, asIAny, asS, List.length_cons, List.length_nil, Nat.beq_refl, List.all_cons, List.all_nil, Bool.and_true, Bool.and_false, Bool.true_and, Bool.false_and, Bool.not_true, Bool.not_false, Bool.or_false, Bool.false_or, Bool.or_self, Bool.and_self, decide_true, decide_false, if_true, if_false, splice, List.take_succ_cons, List.take_zero, List.drop_succ_cons, List.drop_zero, List.cons_append, List.nil_append, List.set_cons_zero, List.set_cons_succ, reduceCtorEq, fill, repl, opd, boxc, finV, resAllV, resOfV, result, eqV, eqIfc, aggCells, part, W_call, Nat.reduceBEq, Nat.beq_eq, refUnp_spec hw, ho, Hdr.cs, k1]
      exact Ev.some rfl

def markedW (w e : Int) : Bool := lives w && decide ((unp w).mark = black e)
theorem refMarked_spec {w e : Int} (hw : U64 w) (he : U64 e) (h : H) : C 113 [.int .u64 w, .int .u64 e] h = some (.bool (markedW w e), h) := by
  refine call_closed (af := F.withyref04_Marked) (by kernel_rfl) rfl (by rfl) (by rfl) h ?_
  rw [S.withyref04_Marked_eq]
  unfold markedW
  cases hl : lives w with
  | false =>
    simp only [S.withyref04_Marked, nilc_ptr, lenSl_sl, lenSl_nil, eqPtr_ptr, eqPtr_nil, eqPtr_ptr', eqSl_sl, eqSl_nil, ptrAt_ptr, Option.bind_some, Option.map_some, ld1_get', ldN_get', st_get', get_put', get_new', put_put', ldB_cells, ldNB_cells, stB_cells, H.next_new, H.next_put, List.getElem?_cons_zero, List.getElem?_cons_succ, Nat.zero_add, Nat.add_zero, Nat.reduceAdd, Nat.reduceLeDiff, Nat.reduceLT, Nat.reduceMul, Nat.reduceSub, Nat.reduceEqDiff, Int.reduceEq, Int.reduceLT, Int.reduceLE, Int.reduceNeg, V.one, V.cells, V.beq, V.beqs, ckB_some, asI_int, asB_bool, asIAny, asS, List.length_cons, List.length_nil, Nat.beq_refl, List.all_cons, List.all_nil, Bool.and_true, Bool.and_false, Bool.true_and, Bool.false_and, Bool.not_true, Bool.not_false, Bool.or_false, Bool.false_or, Bool.or_self, Bool.and_self, decide_true, decide_false, if_true, if_false, splice, List.take_succ_cons, List.take_zero, List.drop_succ_cons, List.drop_zero, List.cons_append, List.nil_append, List.set_cons_zero, List.set_cons_succ, reduceCtorEq, fill, repl, opd, boxc, finV, resAllV, resOfV, result, eqV, eqIfc, aggCells, part, W_call, Nat.reduceBEq, Nat.beq_eq, refUnp_spec hw, Hdr.cs, refLives_spec hw, hl]
    exact Ev.some rfl
  | true =>
    simp only [S.withyref04_Marked, nilc_ptr, lenSl_sl, lenSl_nil, eqPtr_ptr, eqPtr_nil, eqPtr_ptr', eqSl_sl, eqSl_nil, ptrAt_ptr, Option.bind_some, Option.map_some, ld1_get', ldN_get', st_get', get_put', get_new', put_put', ldB_cells, ldNB_cells, stB_cells, H.next_new, H.next_put, List.getElem?_cons_zero, List.getElem?_cons_succ, Nat.zero_add, Nat.add_zero, Nat.reduceAdd, Nat.reduceLeDiff, Nat.reduceLT, Nat.reduceMul, Nat.reduceSub, Nat.reduceEqDiff, Int.reduceEq, Int.reduceLT, Int.reduceLE, Int.reduceNeg, V.one, V.cells, V.beq, V.beqs, ckB_some, asI_int, asB_bool, asIAny, asS, List.length_cons, List.length_nil, Nat.beq_refl, List.all_cons, List.all_nil, Bool.and_true, Bool.and_false, Bool.true_and, Bool.false_and, Bool.not_true, Bool.not_false, Bool.or_false, Bool.false_or, Bool.or_self, Bool.and_self, decide_true, decide_false, if_true, if_false, splice, List.take_succ_cons, List.take_zero, List.drop_succ_cons, List.drop_zero, List.cons_append, List.nil_append, List.set_cons_zero, List.set_cons_succ, reduceCtorEq, fill, repl, opd, boxc, finV, resAllV, resOfV, result, eqV, eqIfc, aggCells, part, W_call, Nat.reduceBEq, Nat.beq_eq, refUnp_spec hw, Hdr.cs, refLives_spec hw, hl, refBlack_spec he]
    exact Ev.some rfl

/-! ### A config made right -/
def fitT (n lo hi : Int) : Int := lo + n % 18446744073709551616 % (hi - lo + 1)
def Cfg.fit (k : Cfg) : Cfg := ⟨fitT k.s 1 12, fitT k.a 0 4, fitT k.c 1 4, fitT k.hd 1 4, fitT k.g 1 40, fitT k.st 0 6⟩

theorem fit_spec (n : Int) {lo hi : Int} (h0 : 0 ≤ lo) (h1 : lo ≤ hi) (h2 : hi ≤ 1000) (h : H) : C 270 [.int .i64 n, .int .i64 lo, .int .i64 hi] h = some (.int .i64 (fitT n lo hi), h) := by
  refine call_closed (af := F.withyref06_fit) (by kernel_rfl) rfl (by rfl) (by rfl) h ?_
  rw [S.withyref06_fit_eq]
  have e1 : wr .u64 n = n % 18446744073709551616 := rfl
  have hb := Int.emod_nonneg (n % 18446744073709551616) (show hi - lo + 1 ≠ 0 by omega)
  have hl := Int.emod_lt_of_pos (n % 18446744073709551616) (show 0 < hi - lo + 1 by omega)
  have hne : ¬ (hi - lo + 1 = 0) := by omega
  simp only [S.withyref06_fit]
  rw [wr64 (n := hi - lo) (by omega) (by omega), wr64 (n := hi - lo + 1) (by omega) (by omega), wru64 (n := hi - lo + 1) (by omega) (by omega)]
  simp only [arith, decide_eq_false hne, Option.bind_some, e1]
  rw [tm (by omega), wr64 (n := _ % (hi - lo + 1)) (by omega) (by omega), wr64 (by omega) (by omega)]
  exact Ev.some rfl

theorem Cfg.fit_R (k : Cfg) : k.fit.R = true := by
  rw [Cfg.R_iff]
  unfold Cfg.fit fitT
  simp only
  omega
theorem Cfg.fit_bd (k : Cfg) : k.fit.S ≤ 12 ∧ k.fit.room ≤ 4 ∧ k.fit.C ≤ 4 ∧ k.fit.H ≤ 4 ∧ k.fit.base ≤ 32 ∧ k.fit.size ≤ 104 := by
  have h1 : k.fit.S ≤ 12 := by unfold Cfg.fit Cfg.S fitT; simp only; omega
  have h2 : k.fit.room ≤ 4 := by unfold Cfg.fit Cfg.room fitT; simp only; split <;> omega
  have h3 : k.fit.C ≤ 4 := by unfold Cfg.fit Cfg.C fitT; simp only; omega
  have h4 : k.fit.H ≤ 4 := by unfold Cfg.fit Cfg.H fitT; simp only; omega
  have h5 : k.fit.C * k.fit.H ≤ 4 * 4 := Nat.mul_le_mul h3 h4
  have h6 : k.fit.S * (2 + k.fit.room) ≤ 12 * 6 := Nat.mul_le_mul h1 (by omega)
  unfold Cfg.size Cfg.base
  omega

theorem Fit_spec (k : Cfg) (h : H) : C 92 [k.v] h = some (k.fit.v, h) := by
  refine call_closed (af := F.withyref06_Fit) (by kernel_rfl) rfl (by rfl) (by rfl) h ?_
  obtain ⟨s, a, c, hd, g, st⟩ := k
  unfold Cfg.v cfgV
  rw [S.withyref06_Fit_eq]
  have n1 : ∀ x : Nat, x ≠ x + 1 := fun x => by omega
  have n2 : ∀ x : Nat, x + 1 ≠ x := fun x => by omega
  simp only [S.withyref06_Fit, nilc_ptr, lenSl_sl, lenSl_nil, eqPtr_ptr, eqPtr_nil, eqPtr_ptr', eqSl_sl, eqSl_nil, ptrAt_ptr, Option.bind_some, Option.map_some, ld1_get', ldN_get', st_get', get_put', get_new', put_put', ldB_cells, ldNB_cells, stB_cells, H.next_new, H.next_put, List.getElem?_cons_zero, List.getElem?_cons_succ, Nat.zero_add, Nat.add_zero, Nat.reduceAdd, Nat.reduceLeDiff, Nat.reduceLT, Nat.reduceMul, Nat.reduceSub, Nat.reduceEqDiff, Int.reduceEq, Int.reduceLT, Int.reduceLE, Int.reduceNeg, V.one, V.cells, V.beq, V.beqs, ckB_some, asI_int, asB_bool, asIAny, asS, List.length_cons, List.length_nil, Nat.beq_refl, List.all_cons, List.all_nil, Bool.and_true, Bool.and_false, Bool.true_and, Bool.false_and, Bool.not_true, Bool.not_false, Bool.or_false, Bool.false_or, Bool.or_self, Bool.and_self, decide_true, decide_false, if_true, if_false, splice, List.take_succ_cons, List.take_zero, List.drop_succ_cons, List.drop_zero, List.cons_append, List.nil_append, List.set_cons_zero, List.set_cons_succ, reduceCtorEq, fill, repl, opd, boxc, finV, resAllV, resOfV, result, eqV, eqIfc, aggCells, part, W_call, Nat.reduceBEq, Nat.beq_eq, n1, n2, fit_spec s (lo := 1) (hi := 12) (by decide) (by decide) (by decide), fit_spec a (lo := 0) (hi := 4) (by decide) (by decide) (by decide), fit_spec c (lo := 1) (hi := 4) (by decide) (by decide) (by decide), fit_spec hd (lo := 1) (hi := 4) (by decide) (by decide) (by decide), fit_spec g (lo := 1) (hi := 40) (by decide) (by decide) (by decide), fit_spec st (lo := 0) (hi := 6) (by decide) (by decide) (by decide)]
  exact Ev.some rfl
end Wm
end

section
/- All words of a config, and those of a memory in which nothing was done: withyref06.Words, Memory. -/
namespace Wm
attribute [local congr] bind_congr1
attribute [local irreducible] wr

theorem Words_spec {k : Cfg} (hr : k.R = true) {h : H} (ok : h.ok) : ∃ (g : H) (b : Nat) (c : Cap) (kk : Bk), C 87 [k.v] h = some (.sl b 0 k.size c, g) ∧ Fr [] h g ∧ h.next ≤ b ∧ g.get b = some (.cells (k.locs.map Wd.cells).flatten kk) := by
  obtain ⟨x, L, hW, hA⟩ := words_spec (s := k.s) (a := k.a) (c := k.c) (hd := k.hd) (g := k.g) (st := k.st) hr ok
  have hn : sizeW k.S k.room k.C k.H = k.size := by unfold sizeW Cfg.size Cfg.base; omega
  change Acc h L x 3 (sizeW k.S k.room k.C k.H) (wordsW k.S k.room k.C k.H) at hA
  rw [hn, words_flat] at hA
  have hfr : ∀ l, Fr [] h (h.ext l) := fun l => ⟨by rw [H.ext_next]; omega, ok.ext l, fun b hb _ => H.ext_old hb⟩
  obtain ⟨_, _, j, ⟨rfl, hj⟩ | ⟨rfl, hj⟩⟩ := hA
  · exact ⟨_, _, _, _, hW, hfr _, by omega, by rw [H.ext_get' ok, List.getElem?_cons_succ, hj]; rfl⟩
  · exact ⟨_, _, _, _, hW, hfr _, by omega, by rw [H.ext_get' ok, List.getElem?_cons_succ, hj]; rfl⟩

theorem locs3 (k : Cfg) : ∀ x ∈ k.locs.map Wd.cells, x.length = 3 := fun x hx => by
  obtain ⟨l, _, rfl⟩ := List.mem_map.mp hx; rfl
theorem locs_cells {k : Cfg} {i : Nat} {l : Wd} (hl : k.locs[i]? = some l) (r : Nat) (hr : r < 3) : ((k.locs.map Wd.cells).flatten)[i * 3 + r]? = l.cells[r]? := by
  have h1 := flat_part (locs3 k) i l.cells (by rw [List.getElem?_map, hl]; rfl)
  have h2 := congrArg (fun x => x[r]?) h1
  simp only [List.getElem?_take, List.getElem?_drop, if_pos hr] at h2
  exact h2

/-- The words of a memory in which nothing was done. -/
def mem0 (k : Cfg) : Wd → Int
  | .clock => 1
  | .top => 1
  | .link q => if (q : Int) + 1 < k.s then q + 2 else 0
  | _ => 0
def mem00 : Wd → Int
  | .clock => 1
  | .top => 1
  | _ => 0

/-- The words, as a list, of what each word is. -/
def Cfg.row (k : Cfg) (f : Wd → Int) : List Int := k.locs.map f
theorem row_length (k : Cfg) (f : Wd → Int) : (k.row f).length = k.size := by unfold Cfg.row; rw [List.length_map, locs_length]
theorem row_at {k : Cfg} {f : Wd → Int} {l : Wd} (hl : l.ok k) : (k.row f)[l.pos k]? = some (f l) := by unfold Cfg.row; rw [List.getElem?_map, at_locs hl]; rfl
theorem row_getD {k : Cfg} {f : Wd → Int} {l : Wd} (hl : l.ok k) : (k.row f).getD (l.pos k) 0 = f l := by rw [List.getD_eq_getElem?_getD, row_at hl]; rfl
/-- A word is another one. -/
def wset (f : Wd → Int) (l : Wd) (v : Int) : Wd → Int := fun m => if m = l then v else f m
theorem wset_same (f : Wd → Int) (l : Wd) (v : Int) : wset f l v l = v := if_pos rfl
theorem wset_ne {f : Wd → Int} {l m : Wd} {v : Int} (h : m ≠ l) : wset f l v m = f m := if_neg h
theorem row_set {k : Cfg} {f : Wd → Int} {l : Wd} {v : Int} (hl : l.ok k) : (k.row f).set (l.pos k) v = k.row (wset f l v) := by
  apply List.ext_getElem?
  intro i
  unfold Cfg.row
  rw [List.getElem?_set, List.getElem?_map, List.getElem?_map]
  by_cases hi : l.pos k = i
  · subst hi
    rw [if_pos rfl, if_pos (by rw [List.length_map, locs_length]; exact pos_lt hl), at_locs hl]
    simp only [Option.map_some, wset_same]
  · rw [if_neg hi]
    cases hx : k.locs[i]? with
    | none => rfl
    | some m =>
      simp only [Option.map_some]
      rw [wset_ne]
      rintro rfl
      exact hi (locs_at hx)
theorem row_congr {k : Cfg} {f g : Wd → Int} (h : ∀ l, l.ok k → f l = g l) : k.row f = k.row g := List.map_congr_left fun l hl => h l (mem_locs.mp hl)

theorem row_st2 {g : H} {b : Nat} {ws : List Int} {kk : Bk} (hk : kk ≠ .ro) (hg : g.get b = some (.cells (ws.map (.int .u64)) kk)) {i : Nat} (hi : i < ws.length) (v : Int) : g.st 1 (.ptr b i) (.int .u64 v) = some (g.put b (some (.cells ((ws.set i v).map (.int .u64)) kk))) := by
  rw [st1_get hg hk rfl (by rw [List.length_map]; exact hi), List.map_set]

theorem sl_idx {b n i e : Nat} {c : Cap} (hi : i < n) : indexAV e (.sl b 0 n c) (.int .i64 (i : Int)) = some (.ptr b (i * e)) := by
  simp only [indexAV, indexOf, asIAny, show decide ((0 : Int) ≤ (i : Int)) = true from decide_eq_true (by omega), show decide ((i : Int) < (n : Int)) = true from decide_eq_true (by omega), Bool.and_self, Nat.zero_add, Int.toNat_natCast]
theorem sl_idx1 {b n i : Nat} {c : Cap} (hi : i < n) : indexAV 1 (.sl b 0 n c) (.int .i64 (i : Int)) = some (.ptr b i) := by rw [sl_idx hi, Nat.mul_one]

def memF (k : Cfg) (i : Nat) (l : Wd) : Int := if l.pos k < i then mem0 k l else mem00 l

theorem memF_set {k : Cfg} {l : Wd} (hlo : l.ok k) : k.row (memF k (l.pos k + 1)) = (k.row (memF k (l.pos k))).set (l.pos k) (mem0 k l) := by
  rw [row_set hlo]
  apply row_congr
  intro m hm
  simp only [memF, wset]
  by_cases he : m = l
  · subst he; rw [if_pos (Nat.lt_succ_self _), if_pos rfl]
  · rw [if_neg he]
    have hne : m.pos k ≠ l.pos k := fun q => he (pos_inj hm hlo q)
    clear he hm hlo
    by_cases hq : m.pos k < l.pos k
    · rw [if_pos (Nat.lt_succ_of_lt hq), if_pos hq]
    · rw [if_neg (by omega), if_neg hq]
theorem memF_same {k : Cfg} {l : Wd} (hlo : l.ok k) (hl : mem0 k l = mem00 l) : k.row (memF k (l.pos k + 1)) = k.row (memF k (l.pos k)) := by
  apply row_congr
  intro m hm
  simp only [memF]
  by_cases he : m = l
  · subst he; rw [if_pos (Nat.lt_succ_self _), if_neg (Nat.lt_irrefl _), hl]
  · have hne : m.pos k ≠ l.pos k := fun q => he (pos_inj hm hlo q)
    clear he hm hlo
    by_cases hq : m.pos k < l.pos k
    · rw [if_pos (Nat.lt_succ_of_lt hq), if_pos hq]
    · rw [if_neg (by omega), if_neg hq]
theorem who_le {k : Cfg} (hr : k.R = true) {l : Wd} (hl : l.ok k) : l.who ≤ 64 := by
  have hb := Cfg.bounds hr
  cases l <;> simp only [Wd.ok, Wd.who] at hl ⊢ <;> omega
theorem natlt {i n : Nat} (h : i < n) : decide ((i : Int) < (n : Int)) = true := decide_eq_true (Int.ofNat_lt.mpr h)
theorem link_name (l : Wd) : (l.name.toList == (⟨⟨[108, 105, 110, 107]⟩⟩ : ByteArray).toList) = decide (l.tag = 9) := by
  have h := name_eq l (.link 0)
  have e : (Wd.link 0).name = (⟨⟨[108, 105, 110, 107]⟩⟩ : ByteArray) := rfl
  rw [e] at h
  exact h

theorem Memory_spec {k : Cfg} (hr : k.R = true) {h : H} (ok : h.ok) : ∃ (g : H) (b : Nat), C 86 [k.v] h = some (.sl b 0 k.size (.ex k.size), g) ∧ Fr [] h g ∧ h.next ≤ b ∧ b < g.next ∧ g.get b = some (.cells ((k.row (mem0 k)).map (.int .u64)) .rw) := by
  have hb := Cfg.bounds hr
  have hsz : 4 ≤ k.size := by unfold Cfg.size Cfg.base; omega
  have hev : Ev (C 86 [k.v] h) fun r => ∃ b, r.1 = .sl b 0 k.size (.ex k.size) ∧ Fr [] h r.2 ∧ h.next ≤ b ∧ b < r.2.next ∧ r.2.get b = some (.cells ((k.row (mem0 k)).map (.int .u64)) .rw) := by
    refine call_ev (af := F.withyref06_Memory) (by kernel_rfl) rfl ?_
    obtain ⟨g0, bw, cw, kw, e0, f0, n0, w0⟩ := Words_spec hr (ok.new (.cells k.cs .rw))
    have hcs : (Blk.cells k.cs .rw) = .cells [.int .i64 k.s, .int .i64 k.a, .int .i64 k.c, .int .i64 k.hd, .int .i64 k.g, .int .i64 k.st] .rw := rfl
    have hv : k.v = .agg [.int .i64 k.s, .int .i64 k.a, .int .i64 k.c, .int .i64 k.hd, .int .i64 k.g, .int .i64 k.st] := rfl
    rw [hv, S.withyref06_Memory_eq]
    rw [hv, hcs] at e0
    have hcfg : g0.get h.next = some (.cells [.int .i64 k.s, .int .i64 k.a, .int .i64 k.c, .int .i64 k.hd, .int .i64 k.g, .int .i64 k.st] .rw) := f0.get (ok.new _) (get_new_self _ _) (by simp)
    rw [H.next_new] at n0
    have hmk : g0.mkSl 1 8 [V.int .u64 0] (k.size : Int) (k.size : Int) = some (.sl g0.next 0 k.size (.ex k.size), g0.new (.cells (repl [V.int .u64 0] k.size) .rw)) := by
      rw [mkSl_ok (e := 1) (b := 8) (z := [V.int .u64 0]) (l := (k.size : Int)) (c := (k.size : Int)) (by omega) (by omega) (by omega) (by omega) rfl (by omega)]
      simp only [Int.toNat_natCast]
    simp only [S.withyref06_Memory, nilc_ptr, lenSl_sl, lenSl_nil, eqPtr_ptr, eqPtr_nil, eqPtr_ptr', eqSl_sl, eqSl_nil, ptrAt_ptr, Option.bind_some, Option.map_some, ld1_get', ldN_get', st_get', get_put', get_new', put_put', ldB_cells, ldNB_cells, stB_cells, H.next_new, H.next_put, List.getElem?_cons_zero, List.getElem?_cons_succ, Nat.zero_add, Nat.add_zero, Nat.reduceAdd, Nat.reduceLeDiff, Nat.reduceLT, Nat.reduceMul, Nat.reduceSub, Nat.reduceEqDiff, Int.reduceEq, Int.reduceLT, Int.reduceLE, Int.reduceNeg, V.one, V.cells, V.beq, V.beqs, ckB_some, asI_int, asB_bool, asIAny, asS, List.length_cons, List.length_nil, Nat.beq_refl, List.all_cons, List.all_nil, Bool.and_true, Bool.and_false, Bool.true_and, Bool.false_and, Bool.not_true, Bool.not_false, Bool.or_false, Bool.false_or, Bool.or_self, Bool.and_self, decide_true, decide_false, if_true, if_false, splice, List.take_succ_cons, List.take_zero, List.drop_succ_cons, List.drop_zero, List.cons_append, List.nil_append, List.set_cons_zero, List.set_cons_succ, reduceCtorEq, fill, repl, opd, boxc, finV, resAllV, resOfV, result, eqV, eqIfc, aggCells, part, W_call, Nat.reduceBEq, Nat.beq_eq, e0, hmk]
    have hrep : (repl [V.int .u64 0] k.size) = (List.replicate k.size (0 : Int)).map (.int .u64) := repl_map _
    rw [hrep]
    generalize hg1 : g0.new (.cells ((List.replicate k.size (0 : Int)).map (V.int .u64)) .rw) = g1
    have hg1g : g1.get g0.next = some (.cells ((List.replicate k.size (0 : Int)).map (V.int .u64)) .rw) := by rw [← hg1]; exact get_new_self _ _
    have hfr1 : Fr [] h g1 := by rw [← hg1]; exact (((Fr.refl ok).new _).trans' f0).new _
    have hw1 : g1.get bw = some (.cells (k.locs.map Wd.cells).flatten kw) := by rw [← hg1, get_new_ne (f0.ok.ne0 w0)]; exact w0
    have hcfg1 : g1.get h.next = some (.cells [.int .i64 k.s, .int .i64 k.a, .int .i64 k.c, .int .i64 k.hd, .int .i64 k.g, .int .i64 k.st] .rw) := by rw [← hg1, get_new_ne (f0.ok.ne0 hcfg)]; exact hcfg
    have hbwne : bw ≠ g0.next := f0.ok.ne0 w0
    have hcne : h.next ≠ g0.next := f0.ok.ne0 hcfg
    have hle : h.next < g0.next := by have := f0.le; rw [H.next_new] at this; omega
    generalize hz : g0.next = z at hg1g hbwne hcne hle ⊢
    have hzn : z < g1.next := by rw [← hg1, H.next_new]; omega
    clear hg1 hmk e0 f0
    have i0 := sl_idx1 (b := z) (n := k.size) (i := 0) (c := .ex k.size) (by omega)
    have i3 := sl_idx1 (b := z) (n := k.size) (i := 3) (c := .ex k.size) (by omega)
    rw [show indexAV 1 (.sl z 0 k.size (.ex k.size)) (.int .i64 0) = some (.ptr z 0) from i0]
    simp only [Option.bind_some]
    rw [row_st2 (by decide) hg1g (by rw [List.length_replicate]; omega)]
    simp only [Option.bind_some]
    rw [show indexAV 1 (.sl z 0 k.size (.ex k.size)) (.int .i64 3) = some (.ptr z 3) from i3]
    simp only [Option.bind_some]
    rw [row_st2 (by decide) (get_put_self _ _ _) (by rw [List.length_set, List.length_replicate]; omega), put_put']
    simp only [Option.bind_some]
    have hinit : ((List.replicate k.size (0 : Int)).set 0 1).set 3 1 = k.row mem00 := by
      have e : List.replicate k.size (0 : Int) = k.row (fun _ => 0) := by
        unfold Cfg.row; rw [← locs_length]; rw [List.map_const']
      rw [e]
      have h1 := row_set (k := k) (f := fun _ => 0) (l := .clock) (v := 1) trivial
      have h2 := row_set (k := k) (f := wset (fun _ => 0) .clock 1) (l := .top) (v := 1) trivial
      change (k.row _).set 0 1 = _ at h1
      change (k.row _).set 3 1 = _ at h2
      rw [h1, h2]
      apply row_congr
      intro l _
      cases l <;> simp [wset, mem00]
    rw [hinit]
    -- what stands behind so many rounds
    have hF0 : memF k 0 = mem00 := by funext l; simp [memF]
    refine loop_ev (α := Nat) (fun i => S.withyref06_Memory_c1_E (.ptr h.next 0) (.sl bw 0 k.size cw) (.sl z 0 k.size (.ex k.size)) (.int .i64 i))
      (fun i g => i ≤ k.size ∧ g = g1.put z (some (.cells ((k.row (memF k i)).map (.int .u64)) .rw))) (fun i _ => k.size - i)
      (fun r => r = (.exit 0, S.withyref06_Memory_c1_O (.sl z 0 k.size (.ex k.size)), g1.put z (some (.cells ((k.row (memF k k.size)).map (.int .u64)) .rw)))) 0 rfl ⟨by omega, by rw [hF0]⟩ ?_ ?_
    · rintro i g ⟨hi, rfl⟩
      rw [S.withyref06_Memory_c1_eq]
      by_cases hic : i < k.size
      · obtain ⟨l, hl⟩ : ∃ l, k.locs[i]? = some l := ⟨_, List.getElem?_eq_getElem (by rw [locs_length]; exact hic)⟩
        have hlo := mem_locs.mp (List.mem_of_getElem? hl)
        have hlp := locs_at hl
        have ix := sl_idx (b := bw) (n := k.size) (i := i) (e := 3) (c := cw) hic
        have ix2 := sl_idx1 (b := z) (n := k.size) (i := i) (c := .ex k.size) hic
        have c0 := locs_cells hl 0 (by omega)
        have c1 := locs_cells hl 1 (by omega)
        simp only [Nat.add_zero] at c0
        have w1 : wr .i64 ((i : Int) + 1) = ((i + 1 : Nat) : Int) := by rw [wr64 (by omega) (by omega)]; rfl
        have hwho : (l.who : Int) ≤ 64 := by
          have := who_le hr hlo
          omega
        have w2 : wr .i64 ((l.who : Int) + 1) = (l.who : Int) + 1 := wr64 (by omega) (by omega)
        have w3 : wr .u64 (wr .i64 ((l.who : Int) + 2)) = (l.who : Int) + 2 := ar_link (Int.natCast_nonneg _) hwho
        have hmu : k.size - (i + 1) < k.size - i := Nat.sub_lt_sub_left hic (Nat.lt_succ_self i)
        have hFs : ∀ v, mem0 k l = v → k.row (memF k (i + 1)) = (k.row (memF k i)).set i v := by
          rintro v rfl
          rw [← hlp]; exact memF_set hlo
        have hFsame : mem0 k l = mem00 l → k.row (memF k (i + 1)) = k.row (memF k i) := fun he => by
          rw [← hlp]; exact memF_same hlo he
        have hnm' := link_name l
        rw [show l.cells[0]? = some (.str l.name) from rfl] at c0
        rw [show l.cells[1]? = some (.int .i64 l.who) from rfl] at c1
        generalize l.name = nm at c0 hnm'
        generalize hB : (nm.toList == (⟨⟨[108, 105, 110, 107]⟩⟩ : ByteArray).toList) = B at hnm'
        generalize (k.locs.map Wd.cells).flatten = W3 at hw1 c0 c1
        generalize hwh : (l.who : Int) = who at c1 w1 w2 w3 hwho
        have hlt : decide ((i : Int) < (k.size : Int)) = true := natlt hic
        simp only [S.withyref06_Memory_c1_S, nilc_ptr, lenSl_sl, lenSl_nil, eqPtr_ptr, eqPtr_nil, eqPtr_ptr', eqSl_sl, eqSl_nil, ptrAt_ptr, Option.bind_some, Option.map_some, ld1_get', ldN_get', st_get', get_put', get_new', put_put', ldB_cells, ldNB_cells, stB_cells, H.next_new, H.next_put, List.getElem?_cons_zero, List.getElem?_cons_succ, Nat.zero_add, Nat.add_zero, Nat.reduceAdd, Nat.reduceLeDiff, Nat.reduceLT, Nat.reduceMul, Nat.reduceSub, Nat.reduceEqDiff, Int.reduceEq, Int.reduceLT, Int.reduceLE, Int.reduceNeg, V.one, V.cells, V.beq, V.beqs, ckB_some, asI_int, asB_bool, asIAny, asS, List.length_cons, List.length_nil, Nat.beq_refl, List.all_cons, List.all_nil, Bool.and_true, Bool.and_false, Bool.true_and, Bool.false_and, Bool.not_true, Bool.not_false, Bool.or_false, Bool.false_or, Bool.or_self, Bool.and_self, decide_true, decide_false, if_true, if_false, splice, List.take_succ_cons, List.take_zero, List.drop_succ_cons, List.drop_zero, List.cons_append, List.nil_append, List.set_cons_zero, List.set_cons_succ, reduceCtorEq, fill, repl, opd, boxc, finV, resAllV, resOfV, result, eqV, eqIfc, aggCells, part, W_call, Nat.reduceBEq, Nat.beq_eq, hlt, ix, hbwne, hcne, hw1, hcfg1, c0, c1, hB, w1, w2]
        subst hnm'
        by_cases ht : l.tag = 9
        · obtain ⟨q, rfl⟩ : ∃ q, l = .link q := by cases l <;> simp [Wd.tag] at ht; exact ⟨_, rfl⟩
          simp only [ht, decide_true]
          by_cases hc : who + 1 < k.s
          · simp only [hc, decide_true, ix2, Option.bind_some]
            rw [w3, row_st2 (by decide) (get_put_self _ _ _) (by rw [row_length]; exact hic), put_put', ← hFs _ (by simp only [mem0]; rw [← hwh] at hc ⊢; exact if_pos hc)]
            exact Ev.some (.inl ⟨i + 1, rfl, rfl, ⟨hic, rfl⟩, hmu⟩)
          · simp only [hc, decide_false]
            rw [← hFsame (by simp only [mem0, mem00]; rw [← hwh] at hc; exact if_neg hc)]
            exact Ev.some (.inl ⟨i + 1, rfl, rfl, ⟨hic, rfl⟩, hmu⟩)
        · simp only [ht, decide_false]
          rw [← hFsame (by cases l <;> first | rfl | (exfalso; exact ht rfl))]
          exact Ev.some (.inl ⟨i + 1, rfl, rfl, ⟨hic, rfl⟩, hmu⟩)
      · have : i = k.size := Nat.le_antisymm hi (Nat.le_of_not_lt hic)
        subst this
        simp only [S.withyref06_Memory_c1_S, lenSl, Option.bind_some, Int.lt_irrefl, decide_false]
        exact Ev.some (.inr ⟨by simp, rfl⟩)
    · rintro r rfl
      simp only
      rw [S.withyref06_Memory_c1_e0_eq]
      refine Ev.some ⟨z, rfl, hfr1.put (.inr (Nat.le_of_lt hle)) hzn _, Nat.le_of_lt hle, hzn, ?_⟩
      rw [get_put_self]
      congr 3
      apply row_congr
      intro l hl
      simp only [memF]
      rw [if_pos (pos_lt hl)]
  obtain ⟨⟨v, g⟩, e, b, rfl, f, n, n', w⟩ := hev
  exact ⟨g, b, e, f, n, n', w⟩
end Wm
end

section
/- The machine that makes a slot gray: shade.NewShade, Step. -/
namespace Wm
attribute [local congr] bind_congr1
attribute [local irreducible] wr

theorem headerP_at {k : Cfg} (hr : k.R = true) {q : Nat} (hq : q < k.S) : withinT k.s k.a k.c k.hd k.g k.st (q : Int) 0 = ((Wd.header q).pos k : Nat) := by
  have hb := Cfg.R_iff.mp hr
  have hq' : (q : Int) ≤ k.s - 1 := by unfold Cfg.S at hq; omega
  have hroom : (k.room : Int) = max k.a 3 := by unfold Cfg.room; split <;> omega
  have hc : (k.C : Int) = k.c := by unfold Cfg.C; omega
  have hh : (k.H : Int) = k.hd := by unfold Cfg.H; omega
  unfold withinT
  rw [if_pos ⟨hr, ⟨Int.natCast_nonneg _, hq'⟩, Int.le_refl _, by unfold roomT; omega⟩]
  unfold slotsT roomT Wd.pos Cfg.base
  rw [← hroom, ← hc, ← hh, Int.mul_add, Int.mul_add, Int.mul_one]
  have e2 : ((2 : Nat) : Int) = 2 := rfl
  simp only [Int.natCast_add, Int.natCast_mul, e2]
  omega

theorem header_at {k : Cfg} (hr : k.R = true) {q : Nat} (hq : q < k.S) (h : H) : C 261 [k.v, .int .i64 (q : Int)] h = some (.int .i64 ((Wd.header q).pos k : Nat), h) := by
  rw [← headerP_at hr hq]; exact header_spec _ _ _ _ _ _ _ h

theorem newShade_spec {k : Cfg} (hr : k.R = true) {q : Nat} (hq : q < k.S) (e : Int) {h : H} (ok : h.ok) :
    Ev (C 90 [k.v, .int .i64 (q : Int), .int .u64 e] h) fun r => ∃ b, r.1 = .ptr b 0 ∧ Fr [] h r.2 ∧ h.next ≤ b ∧ r.2.get b = some (.cells (Shade.cs ⟨false, ((Wd.header q).pos k : Nat), e, 0, 0⟩) .rw) := by
  refine call_ev (af := F.shade_NewShade) (by kernel_rfl) rfl ?_
  have hH := header_at hr hq
  have hv : k.v = .agg [.int .i64 k.s, .int .i64 k.a, .int .i64 k.c, .int .i64 k.hd, .int .i64 k.g, .int .i64 k.st] := rfl
  rw [hv] at hH ⊢
  rw [S.shade_NewShade_eq]
  have hn : ¬ ((((Wd.header q).pos k : Nat) : Int) < 0) := by omega
  simp only [S.shade_NewShade, nilc_ptr, lenSl_sl, lenSl_nil, eqPtr_ptr, eqPtr_nil, eqPtr_ptr', eqSl_sl, eqSl_nil, ptrAt_ptr, Option.bind_some, Option.map_some, ld1_get', ldN_get', st_get', get_put', get_new', put_put', ldB_cells, ldNB_cells, stB_cells, H.next_new, H.next_put, List.getElem?_cons_zero, List.getElem?_cons_succ, Nat.zero_add, Nat.add_zero, Nat.reduceAdd, Nat.reduceLeDiff, Nat.reduceLT, Nat.reduceMul, Nat.reduceSub, Nat.reduceEqDiff, Int.reduceEq, Int.reduceLT, Int.reduceLE, Int.reduceNeg, V.one, V.cells, V.beq, V.beqs, ckB_some, asI_int, asB_bool, asIAny, asS, List.length_cons, List.length_nil, Nat.beq_refl, List.all_cons, List.all_nil, Bool.and_true, Bool.and_false, Bool.true_and, Bool.false_and, Bool.not_true, Bool.not_false, Bool.or_false, Bool.false_or, Bool.or_self, Bool.and_self, decide_true, decide_false, if_true, if_false, splice, List.take_succ_cons, List.take_zero, List.drop_succ_cons, List.drop_zero, List.cons_append, List.nil_append, List.set_cons_zero, List.set_cons_succ, reduceCtorEq, fill, repl, opd, boxc, finV, resAllV, resOfV, result, eqV, eqIfc, aggCells, part, W_call, Nat.reduceBEq, Nat.beq_eq, hH, hn]
  exact Ev.some ⟨_, rfl, ((Fr.refl ok).new _).new _, by omega, get_new_self _ _⟩

/-- A step of a shade; what the block holds behind it. -/
theorem shadeStep_spec {h : H} (ok : h.ok) {b m bw : Nat} {s : Shade} {M : Mem} (hs : h.get b = some (.cells s.cs .rw)) (hM : MemAt h m bw M) (h1 : b ≠ m) (h2 : b ≠ bw) (he : U64 s.e) (hw : U64 s.was) :
    Ev (C 91 [.ptr b 0, .ptr m 0] h) fun r => r.1 = .bool (decide ((s.step M).1.next = 4)) ∧ Fr [b, m, bw] h r.2 ∧ r.2.get b = some (.cells (s.step M).1.cs .rw) ∧ MemAt r.2 m bw (s.step M).2 := by
  refine call_ev (af := F.shade_Shade_Step) (by kernel_rfl) rfl ?_
  rw [S.shade_Shade_Step_eq]
  have hbl := ok.lt hs
  have hF : ∀ {h' : H}, Fr [m, bw] h h' → Fr [b, m, bw] h h' := fun f => f.mono (by simp)
  have hnot : b ∉ [m, bw] := by simp [h1, h2]
  obtain ⟨grew, at', e, next, was⟩ := s
  unfold Shade.step
  unfold Shade.cs at hs
  simp only at hs he hw ⊢
  by_cases c0 : next = 0
  · subst c0
    obtain ⟨h', e1, f1, M1⟩ := hM.load ok at'
    have hb := f1.get ok hs hnot
    have hv := hM.val64 at'
    have hM2 : ∀ x, MemAt (h'.put b x) m bw (M.load at') := fun x => M1.fr (L := [b]) f1.ok ((Fr.refl f1.ok).put (.inl (by simp)) (f1.lt hbl) _) (by simp [h1.symm]) (by simp [h2.symm])
    simp only [S.shade_Shade_Step, nilc_ptr, lenSl_sl, lenSl_nil, eqPtr_ptr, eqPtr_nil, eqPtr_ptr', eqSl_sl, eqSl_nil, ptrAt_ptr, Option.bind_some, Option.map_some, ld1_get', ldN_get', st_get', get_put', get_new', put_put', ldB_cells, ldNB_cells, stB_cells, H.next_new, H.next_put, List.getElem?_cons_zero, List.getElem?_cons_succ, Nat.zero_add, Nat.add_zero, Nat.reduceAdd, Nat.reduceLeDiff, Nat.reduceLT, Nat.reduceMul, Nat.reduceSub, Nat.reduceEqDiff, Int.reduceEq, Int.reduceLT, Int.reduceLE, Int.reduceNeg, V.one, V.cells, V.beq, V.beqs, ckB_some, asI_int, asB_bool, asIAny, asS, List.length_cons, List.length_nil, Nat.beq_refl, List.all_cons, List.all_nil, Bool.and_true, Bool.and_false, Bool.true_and, Bool.false_and, Bool.not_true, Bool.not_false, Bool.or_false, Bool.false_or, Bool.or_self, Bool.and_self, decide_true, decide_false, if_true, if_false, splice, List.take_succ_cons, List.take_zero, List.drop_succ_cons, List.drop_zero, List.cons_append, List.nil_append, List.set_cons_zero, List.set_cons_succ, reduceCtorEq, fill, repl, opd, boxc, finV, resAllV, resOfV, result, eqV, eqIfc, aggCells, part, W_call, Nat.reduceBEq, Nat.beq_eq, hs, e1, hb, shaded_spec hv he]
    cases hw1 : white (M.val at') e with
    | false =>
      simp only [nilc_ptr, lenSl_sl, lenSl_nil, eqPtr_ptr, eqPtr_nil, eqPtr_ptr', eqSl_sl, eqSl_nil, ptrAt_ptr, Option.bind_some, Option.map_some, ld1_get', ldN_get', st_get', get_put', get_new', put_put', ldB_cells, ldNB_cells, stB_cells, H.next_new, H.next_put, List.getElem?_cons_zero, List.getElem?_cons_succ, Nat.zero_add, Nat.add_zero, Nat.reduceAdd, Nat.reduceLeDiff, Nat.reduceLT, Nat.reduceMul, Nat.reduceSub, Nat.reduceEqDiff, Int.reduceEq, Int.reduceLT, Int.reduceLE, Int.reduceNeg, V.one, V.cells, V.beq, V.beqs, ckB_some, asI_int, asB_bool, asIAny, asS, List.length_cons, List.length_nil, Nat.beq_refl, List.all_cons, List.all_nil, Bool.and_true, Bool.and_false, Bool.true_and, Bool.false_and, Bool.not_true, Bool.not_false, Bool.or_false, Bool.false_or, Bool.or_self, Bool.and_self, decide_true, decide_false, if_true, if_false, splice, List.take_succ_cons, List.take_zero, List.drop_succ_cons, List.drop_zero, List.cons_append, List.nil_append, List.set_cons_zero, List.set_cons_succ, reduceCtorEq, fill, repl, opd, boxc, finV, resAllV, resOfV, result, eqV, eqIfc, aggCells, part, W_call, Nat.reduceBEq, Nat.beq_eq]
      exact Ev.some ⟨rfl, (hF f1).put (.inl (by simp)) (f1.lt hbl) _, by simp [get_put', Shade.cs], hM2 _⟩
    | true =>
      simp only [nilc_ptr, lenSl_sl, lenSl_nil, eqPtr_ptr, eqPtr_nil, eqPtr_ptr', eqSl_sl, eqSl_nil, ptrAt_ptr, Option.bind_some, Option.map_some, ld1_get', ldN_get', st_get', get_put', get_new', put_put', ldB_cells, ldNB_cells, stB_cells, H.next_new, H.next_put, List.getElem?_cons_zero, List.getElem?_cons_succ, Nat.zero_add, Nat.add_zero, Nat.reduceAdd, Nat.reduceLeDiff, Nat.reduceLT, Nat.reduceMul, Nat.reduceSub, Nat.reduceEqDiff, Int.reduceEq, Int.reduceLT, Int.reduceLE, Int.reduceNeg, V.one, V.cells, V.beq, V.beqs, ckB_some, asI_int, asB_bool, asIAny, asS, List.length_cons, List.length_nil, Nat.beq_refl, List.all_cons, List.all_nil, Bool.and_true, Bool.and_false, Bool.true_and, Bool.false_and, Bool.not_true, Bool.not_false, Bool.or_false, Bool.false_or, Bool.or_self, Bool.and_self, decide_true, decide_false, if_true, if_false, splice, List.take_succ_cons, List.take_zero, List.drop_succ_cons, List.drop_zero, List.cons_append, List.nil_append, List.set_cons_zero, List.set_cons_succ, reduceCtorEq, fill, repl, opd, boxc, finV, resAllV, resOfV, result, eqV, eqIfc, aggCells, part, W_call, Nat.reduceBEq, Nat.beq_eq]
      exact Ev.some ⟨rfl, (hF f1).put (.inl (by simp)) (f1.lt hbl) _, by simp [get_put', Shade.cs], hM2 _⟩
  · by_cases c1 : next = 1
    · subst c1
      obtain ⟨v, h', e1, f1, M1⟩ := hM.add ok 2 1
      have hb := f1.get ok hs hnot
      simp only [S.shade_Shade_Step, nilc_ptr, lenSl_sl, lenSl_nil, eqPtr_ptr, eqPtr_nil, eqPtr_ptr', eqSl_sl, eqSl_nil, ptrAt_ptr, Option.bind_some, Option.map_some, ld1_get', ldN_get', st_get', get_put', get_new', put_put', ldB_cells, ldNB_cells, stB_cells, H.next_new, H.next_put, List.getElem?_cons_zero, List.getElem?_cons_succ, Nat.zero_add, Nat.add_zero, Nat.reduceAdd, Nat.reduceLeDiff, Nat.reduceLT, Nat.reduceMul, Nat.reduceSub, Nat.reduceEqDiff, Int.reduceEq, Int.reduceLT, Int.reduceLE, Int.reduceNeg, V.one, V.cells, V.beq, V.beqs, ckB_some, asI_int, asB_bool, asIAny, asS, List.length_cons, List.length_nil, Nat.beq_refl, List.all_cons, List.all_nil, Bool.and_true, Bool.and_false, Bool.true_and, Bool.false_and, Bool.not_true, Bool.not_false, Bool.or_false, Bool.false_or, Bool.or_self, Bool.and_self, decide_true, decide_false, if_true, if_false, splice, List.take_succ_cons, List.take_zero, List.drop_succ_cons, List.drop_zero, List.cons_append, List.nil_append, List.set_cons_zero, List.set_cons_succ, reduceCtorEq, fill, repl, opd, boxc, finV, resAllV, resOfV, result, eqV, eqIfc, aggCells, part, W_call, Nat.reduceBEq, Nat.beq_eq, hs, e1, hb]
      exact Ev.some ⟨rfl, (hF f1).put (.inl (by simp)) (f1.lt hbl) _, by simp [get_put', Shade.cs], M1.fr (L := [b]) f1.ok ((Fr.refl f1.ok).put (.inl (by simp)) (f1.lt hbl) _) (by simp [h1.symm]) (by simp [h2.symm])⟩
    · by_cases c2 : next = 2
      · subst c2
        have hsw : U64 (shaded was e) := by
          unfold shaded; split
          · exact word_U64 (shadedH_right _ _)
          · exact hw
        generalize hh1 : h.put b (some (.cells [.bool grew, .int .i64 at', .int .u64 e, .int .i64 3, .int .u64 was] .rw)) = h1'
        have fp : Fr [b] h h1' := by rw [← hh1]; exact (Fr.refl ok).put (.inl (by simp)) hbl _
        have hb1 : h1'.get b = some (.cells [.bool grew, .int .i64 at', .int .u64 e, .int .i64 3, .int .u64 was] .rw) := by rw [← hh1]; exact get_put_self _ _ _
        have hM1 := hM.fr ok fp (by simp [h1.symm]) (by simp [h2.symm])
        obtain ⟨h', e1, f1, M1⟩ := hM1.swap fp.ok at' was hsw
        have hb := f1.get fp.ok hb1 hnot
        have hfr : Fr [b, m, bw] h h' := (fp.mono (by simp)).trans' (f1.mono (by simp))
        have hb' : b < h'.next := f1.lt (fp.lt hbl)
        simp only [S.shade_Shade_Step, nilc_ptr, lenSl_sl, lenSl_nil, eqPtr_ptr, eqPtr_nil, eqPtr_ptr', eqSl_sl, eqSl_nil, ptrAt_ptr, Option.bind_some, Option.map_some, ld1_get', ldN_get', st_get', get_put', get_new', put_put', ldB_cells, ldNB_cells, stB_cells, H.next_new, H.next_put, List.getElem?_cons_zero, List.getElem?_cons_succ, Nat.zero_add, Nat.add_zero, Nat.reduceAdd, Nat.reduceLeDiff, Nat.reduceLT, Nat.reduceMul, Nat.reduceSub, Nat.reduceEqDiff, Int.reduceEq, Int.reduceLT, Int.reduceLE, Int.reduceNeg, V.one, V.cells, V.beq, V.beqs, ckB_some, asI_int, asB_bool, asIAny, asS, List.length_cons, List.length_nil, Nat.beq_refl, List.all_cons, List.all_nil, Bool.and_true, Bool.and_false, Bool.true_and, Bool.false_and, Bool.not_true, Bool.not_false, Bool.or_false, Bool.false_or, Bool.or_self, Bool.and_self, decide_true, decide_false, if_true, if_false, splice, List.take_succ_cons, List.take_zero, List.drop_succ_cons, List.drop_zero, List.cons_append, List.nil_append, List.set_cons_zero, List.set_cons_succ, reduceCtorEq, fill, repl, opd, boxc, finV, resAllV, resOfV, result, eqV, eqIfc, aggCells, part, W_call, Nat.reduceBEq, Nat.beq_eq, hs, c0, c1, shaded_spec hw he, hh1, hb1, e1, hb]
        cases hsp : M.swaps at' was with
        | true =>
          simp only [nilc_ptr, lenSl_sl, lenSl_nil, eqPtr_ptr, eqPtr_nil, eqPtr_ptr', eqSl_sl, eqSl_nil, ptrAt_ptr, Option.bind_some, Option.map_some, ld1_get', ldN_get', st_get', get_put', get_new', put_put', ldB_cells, ldNB_cells, stB_cells, H.next_new, H.next_put, List.getElem?_cons_zero, List.getElem?_cons_succ, Nat.zero_add, Nat.add_zero, Nat.reduceAdd, Nat.reduceLeDiff, Nat.reduceLT, Nat.reduceMul, Nat.reduceSub, Nat.reduceEqDiff, Int.reduceEq, Int.reduceLT, Int.reduceLE, Int.reduceNeg, V.one, V.cells, V.beq, V.beqs, ckB_some, asI_int, asB_bool, asIAny, asS, List.length_cons, List.length_nil, Nat.beq_refl, List.all_cons, List.all_nil, Bool.and_true, Bool.and_false, Bool.true_and, Bool.false_and, Bool.not_true, Bool.not_false, Bool.or_false, Bool.false_or, Bool.or_self, Bool.and_self, decide_true, decide_false, if_true, if_false, splice, List.take_succ_cons, List.take_zero, List.drop_succ_cons, List.drop_zero, List.cons_append, List.nil_append, List.set_cons_zero, List.set_cons_succ, reduceCtorEq, fill, repl, opd, boxc, finV, resAllV, resOfV, result, eqV, eqIfc, aggCells, part, W_call, Nat.reduceBEq, Nat.beq_eq]
          exact Ev.some ⟨rfl, hfr.put (.inl (by simp)) hb' _, by simp [get_put', Shade.cs], M1.fr (L := [b]) f1.ok ((Fr.refl f1.ok).put (.inl (by simp)) hb' _) (by simp [h1.symm]) (by simp [h2.symm])⟩
        | false =>
          simp only [nilc_ptr, lenSl_sl, lenSl_nil, eqPtr_ptr, eqPtr_nil, eqPtr_ptr', eqSl_sl, eqSl_nil, ptrAt_ptr, Option.bind_some, Option.map_some, ld1_get', ldN_get', st_get', get_put', get_new', put_put', ldB_cells, ldNB_cells, stB_cells, H.next_new, H.next_put, List.getElem?_cons_zero, List.getElem?_cons_succ, Nat.zero_add, Nat.add_zero, Nat.reduceAdd, Nat.reduceLeDiff, Nat.reduceLT, Nat.reduceMul, Nat.reduceSub, Nat.reduceEqDiff, Int.reduceEq, Int.reduceLT, Int.reduceLE, Int.reduceNeg, V.one, V.cells, V.beq, V.beqs, ckB_some, asI_int, asB_bool, asIAny, asS, List.length_cons, List.length_nil, Nat.beq_refl, List.all_cons, List.all_nil, Bool.and_true, Bool.and_false, Bool.true_and, Bool.false_and, Bool.not_true, Bool.not_false, Bool.or_false, Bool.false_or, Bool.or_self, Bool.and_self, decide_true, decide_false, if_true, if_false, splice, List.take_succ_cons, List.take_zero, List.drop_succ_cons, List.drop_zero, List.cons_append, List.nil_append, List.set_cons_zero, List.set_cons_succ, reduceCtorEq, fill, repl, opd, boxc, finV, resAllV, resOfV, result, eqV, eqIfc, aggCells, part, W_call, Nat.reduceBEq, Nat.beq_eq, hb]
          exact Ev.some ⟨rfl, hfr, hb, M1⟩
      · by_cases c3 : next = 3
        · subst c3
          obtain ⟨v, h', e1, f1, M1⟩ := hM.add ok 2 18446744073709551615
          have hb := f1.get ok hs hnot
          simp only [S.shade_Shade_Step, nilc_ptr, lenSl_sl, lenSl_nil, eqPtr_ptr, eqPtr_nil, eqPtr_ptr', eqSl_sl, eqSl_nil, ptrAt_ptr, Option.bind_some, Option.map_some, ld1_get', ldN_get', st_get', get_put', get_new', put_put', ldB_cells, ldNB_cells, stB_cells, H.next_new, H.next_put, List.getElem?_cons_zero, List.getElem?_cons_succ, Nat.zero_add, Nat.add_zero, Nat.reduceAdd, Nat.reduceLeDiff, Nat.reduceLT, Nat.reduceMul, Nat.reduceSub, Nat.reduceEqDiff, Int.reduceEq, Int.reduceLT, Int.reduceLE, Int.reduceNeg, V.one, V.cells, V.beq, V.beqs, ckB_some, asI_int, asB_bool, asIAny, asS, List.length_cons, List.length_nil, Nat.beq_refl, List.all_cons, List.all_nil, Bool.and_true, Bool.and_false, Bool.true_and, Bool.false_and, Bool.not_true, Bool.not_false, Bool.or_false, Bool.false_or, Bool.or_self, Bool.and_self, decide_true, decide_false, if_true, if_false, splice, List.take_succ_cons, List.take_zero, List.drop_succ_cons, List.drop_zero, List.cons_append, List.nil_append, List.set_cons_zero, List.set_cons_succ, reduceCtorEq, fill, repl, opd, boxc, finV, resAllV, resOfV, result, eqV, eqIfc, aggCells, part, W_call, Nat.reduceBEq, Nat.beq_eq, hs, e1, hb]
          exact Ev.some ⟨rfl, (hF f1).put (.inl (by simp)) (f1.lt hbl) _, by simp [get_put', Shade.cs], M1.fr (L := [b]) f1.ok ((Fr.refl f1.ok).put (.inl (by simp)) (f1.lt hbl) _) (by simp [h1.symm]) (by simp [h2.symm])⟩
        · simp only [S.shade_Shade_Step, nilc_ptr, lenSl_sl, lenSl_nil, eqPtr_ptr, eqPtr_nil, eqPtr_ptr', eqSl_sl, eqSl_nil, ptrAt_ptr, Option.bind_some, Option.map_some, ld1_get', ldN_get', st_get', get_put', get_new', put_put', ldB_cells, ldNB_cells, stB_cells, H.next_new, H.next_put, List.getElem?_cons_zero, List.getElem?_cons_succ, Nat.zero_add, Nat.add_zero, Nat.reduceAdd, Nat.reduceLeDiff, Nat.reduceLT, Nat.reduceMul, Nat.reduceSub, Nat.reduceEqDiff, Int.reduceEq, Int.reduceLT, Int.reduceLE, Int.reduceNeg, V.one, V.cells, V.beq, V.beqs, ckB_some, asI_int, asB_bool, asIAny, asS, List.length_cons, List.length_nil, Nat.beq_refl, List.all_cons, List.all_nil, Bool.and_true, Bool.and_false, Bool.true_and, Bool.false_and, Bool.not_true, Bool.not_false, Bool.or_false, Bool.false_or, Bool.or_self, Bool.and_self, decide_true, decide_false, if_true, if_false, splice, List.take_succ_cons, List.take_zero, List.drop_succ_cons, List.drop_zero, List.cons_append, List.nil_append, List.set_cons_zero, List.set_cons_succ, reduceCtorEq, fill, repl, opd, boxc, finV, resAllV, resOfV, result, eqV, eqIfc, aggCells, part, W_call, Nat.reduceBEq, Nat.beq_eq, hs, c0, c1, c2, c3]
          exact Ev.some ⟨rfl, .refl ok, hs, hM⟩
end Wm
end

section
/- Rows of numbers, and memories of them: slices.Clone, mem.Of, mem.Words. -/
namespace Wm
attribute [local congr] bind_congr1
attribute [local irreducible] wr

theorem app_new {h : H} {e b bb o c : Nat} {x : V} {new : List V} {n : Nat} (hx : lenSl x = some n) (hn : h.slc e x = some new) (ho : h.slc e (.sl bb o 0 (.ex c)) = some []) (h1 : new.all V.one = true) (h2 : (n + n / 2 + 1000) * b ≤ 281474976710656) (he : 0 < e) (hb : 0 < b) (hc : c < n) :
    h.append e b (.sl bb o 0 (.ex c)) x = some (.sl h.next 0 n (.op e), h.new (.cells new (.gr e))) := by
  have := append_ex' (len := 0) (bb := bb) (o := o) (c := c) hx hn ho h1 (by simpa using h2) he hb (by omega)
  rw [this]; simp

theorem slc_zero {h : H} {e b o : Nat} {c : Cap} {cs : List V} {k : Bk} (hg : h.get b = some (.cells cs k)) (ho : o ≤ cs.length) : h.slc e (.sl b o 0 c) = some [] := by
  rw [slc_get hg (by simpa using ho)]; simp

theorem RowIs.slc {g : H} {x : V} {ws : List Int} (h : RowIs g.get x ws) (hne : ws ≠ []) : lenSl x = some ws.length ∧ g.slc 1 x = some (ws.map (.int .u64)) := by
  obtain ⟨_, ⟨_, rfl⟩ | ⟨b, c, k, rfl, hb⟩⟩ := h
  · exact absurd rfl hne
  · refine ⟨rfl, ?_⟩
    rw [slc_get hb (by rw [List.length_map]; omega), List.drop_zero, List.take_of_length_le (by rw [List.length_map]; omega)]
theorem ones_u64 (ws : List Int) : (ws.map (V.int .u64)).all V.one = true := by
  rw [List.all_map, List.all_eq_true]; intro _ _; rfl
theorem RowIs.fr {g g' : H} {L : List Nat} {x : V} {ws : List Int} (h : RowIs g.get x ws) (ok : g.ok) (f : Fr L g g') (hL : ∀ b c, x = .sl b 0 ws.length c → b ∉ L) : RowIs g'.get x ws := by
  obtain ⟨q, h1 | ⟨b, c, k, rfl, hb⟩⟩ := h
  · exact ⟨q, .inl h1⟩
  · exact ⟨q, .inr ⟨b, c, k, rfl, f.get ok hb (hL b c rfl)⟩⟩

theorem clone_spec {h : H} (ok : h.ok) {x : V} {ws : List Int} (hx : RowIs h.get x ws) (hne : ws ≠ []) (hl : ws.length ≤ 65536) :
    Ev (C 271 [x] h) fun r => ∃ q, r.1 = .sl q 0 ws.length (.op 1) ∧ Fr [] h r.2 ∧ h.next ≤ q ∧ r.2.get q = some (.cells (ws.map (.int .u64)) (.gr 1)) := by
  refine call_ev (af := F.slices_Clone___uint64_uint64_) (by kernel_rfl) rfl ?_
  rw [S.slices_Clone___uint64_uint64__eq]
  have hns : eqSl x .nilsl = some false := by
    obtain ⟨_, ⟨_, rfl⟩ | ⟨b, c, k, rfl, hb⟩⟩ := hx
    · exact absurd rfl hne
    · rfl
  have ok1 := ok.new (.cells [] .rw)
  obtain ⟨e1, e2⟩ := (RowIs.fr hx ok ((Fr.refl (L := []) ok).new (.cells [] .rw)) (by simp)).slc hne
  have hpos : 0 < ws.length := List.length_pos_iff.mpr hne
  have ha := app_new (e := 1) (b := 8) (bb := h.next) (o := 0) (c := 0) e1 e2 (slc_zero (get_new_self h _) (by simp)) (ones_u64 ws) (by omega) (by omega) (by omega) hpos
  simp only [S.slices_Clone___uint64_uint64_, eqV, hns, Option.bind_some, ha]
  exact Ev.some ⟨_, rfl, ((Fr.refl ok).new _).new _, by rw [H.next_new]; omega, get_new_self _ _⟩

theorem memOf_spec {h : H} (ok : h.ok) {x : V} {ws : List Int} (hx : RowIs h.get x ws) (hne : ws ≠ []) (hl : ws.length ≤ 65536) (hu : ∀ w ∈ ws, U64 w) :
    Ev (C 198 [x] h) fun r => ∃ p q, r.1 = .ptr p 0 ∧ Fr [] h r.2 ∧ h.next ≤ p ∧ h.next ≤ q ∧ MemAt r.2 p q ⟨ws, 0, ⟨0, 0, 0, 0⟩⟩ := by
  refine call_ev (af := F.mem_Of) (by kernel_rfl) rfl ?_
  rw [S.mem_Of_eq]
  obtain ⟨⟨v, g⟩, e, q, rfl, f, hq, hg⟩ := clone_spec ok hx hne hl
  have hl' : ¬ (65536 < ((ws.length : Nat) : Int)) := by omega
  simp only [S.mem_Of, hx.len, Option.bind_some, hl', decide_false, W_call, e, nilc_ptr, lenSl_sl, lenSl_nil, eqPtr_ptr, eqPtr_nil, eqPtr_ptr', eqSl_sl, eqSl_nil, ptrAt_ptr, Option.bind_some, Option.map_some, ld1_get', ldN_get', st_get', get_put', get_new', put_put', ldB_cells, ldNB_cells, stB_cells, H.next_new, H.next_put, List.getElem?_cons_zero, List.getElem?_cons_succ, Nat.zero_add, Nat.add_zero, Nat.reduceAdd, Nat.reduceLeDiff, Nat.reduceLT, Nat.reduceMul, Nat.reduceSub, Nat.reduceEqDiff, Int.reduceEq, Int.reduceLT, Int.reduceLE, Int.reduceNeg, V.one, V.cells, V.beq, V.beqs, ckB_some, asI_int, asB_bool, asIAny, asS, List.length_cons, List.length_nil, Nat.beq_refl, List.all_cons, List.all_nil, Bool.and_true, Bool.and_false, Bool.true_and, Bool.false_and, Bool.not_true, Bool.not_false, Bool.or_false, Bool.false_or, Bool.or_self, Bool.and_self, decide_true, decide_false, if_true, if_false, splice, List.take_succ_cons, List.take_zero, List.drop_succ_cons, List.drop_zero, List.cons_append, List.nil_append, List.set_cons_zero, List.set_cons_succ, reduceCtorEq, fill, repl, opd, boxc, finV, resAllV, resOfV, result, eqV, eqIfc, aggCells, part, W_call, Nat.reduceBEq, Nat.beq_eq]
  have hqn : q ≠ g.next := f.ok.ne0 hg
  exact Ev.some ⟨g.next, q, rfl, f.new _, f.le, hq, ⟨hqn.symm, ⟨.op 1, get_new_self _ _⟩, ⟨.gr 1, by simp, by rw [get_new_ne hqn]; exact hg⟩, hu, hl⟩⟩

theorem MemAt.words {h : H} {b bw : Nat} {m : Mem} (M : MemAt h b bw m) (ok : h.ok) (hne : m.ws ≠ []) :
    Ev (C 94 [.ptr b 0] h) fun r => ∃ q, r.1 = .sl q 0 m.ws.length (.op 1) ∧ Fr [] h r.2 ∧ h.next ≤ q ∧ r.2.get q = some (.cells (m.ws.map (.int .u64)) (.gr 1)) := by
  obtain ⟨ne, ⟨c, ho⟩, ⟨k, hk, hr⟩, hu, hs⟩ := M
  refine call_ev (af := F.mem_Mem_Words) (by kernel_rfl) rfl ?_
  rw [S.mem_Mem_Words_eq]
  have hx : RowIs h.get (.sl bw 0 m.ws.length c) m.ws := ⟨by omega, .inr ⟨bw, c, k, rfl, hr⟩⟩
  obtain ⟨⟨v, g⟩, e, q, rfl, f, hq, hg⟩ := clone_spec ok hx hne hs
  simp only [S.mem_Mem_Words, nilc_ptr, lenSl_sl, lenSl_nil, eqPtr_ptr, eqPtr_nil, eqPtr_ptr', eqSl_sl, eqSl_nil, ptrAt_ptr, Option.bind_some, Option.map_some, ld1_get', ldN_get', st_get', get_put', get_new', put_put', ldB_cells, ldNB_cells, stB_cells, H.next_new, H.next_put, List.getElem?_cons_zero, List.getElem?_cons_succ, Nat.zero_add, Nat.add_zero, Nat.reduceAdd, Nat.reduceLeDiff, Nat.reduceLT, Nat.reduceMul, Nat.reduceSub, Nat.reduceEqDiff, Int.reduceEq, Int.reduceLT, Int.reduceLE, Int.reduceNeg, V.one, V.cells, V.beq, V.beqs, ckB_some, asI_int, asB_bool, asIAny, asS, List.length_cons, List.length_nil, Nat.beq_refl, List.all_cons, List.all_nil, Bool.and_true, Bool.and_false, Bool.true_and, Bool.false_and, Bool.not_true, Bool.not_false, Bool.or_false, Bool.false_or, Bool.or_self, Bool.and_self, decide_true, decide_false, if_true, if_false, splice, List.take_succ_cons, List.take_zero, List.drop_succ_cons, List.drop_zero, List.cons_append, List.nil_append, List.set_cons_zero, List.set_cons_succ, reduceCtorEq, fill, repl, opd, boxc, finV, resAllV, resOfV, result, eqV, eqIfc, aggCells, part, W_call, Nat.reduceBEq, Nat.beq_eq, ho, e]
  exact Ev.some ⟨q, rfl, f, hq, hg⟩

/-- How many headers are gray. -/
def graysN (k : Cfg) (f : Wd → Int) : Nat := ((List.range k.S).filter fun q => grayW (f (.header q))).length
theorem grayOf_eq (w : Int) : grayOf w = grayW w := by
  unfold grayOf grayW unp
  cases ho : okT w <;> simp
theorem cntT_row {k : Cfg} (hr : k.R = true) (f : Wd → Int) : ∀ n, n ≤ k.S → cntT k.s k.a k.c k.hd k.g k.st (k.row f) n = (((List.range n).filter fun q => grayW (f (.header q))).length : Int)
  | 0, _ => rfl
  | n + 1, hn => by
    rw [cntT, cntT_row hr f n (by omega), headerP_at hr (show n < k.S by omega), List.range_succ, List.filter_append, List.length_append]
    have hw : wAt (k.row f) (((Wd.header n).pos k : Nat) : Int) = f (.header n) := by
      unfold wAt
      rw [Int.toNat_natCast, row_at (show (Wd.header n).ok k from hn)]; rfl
    rw [hw, grayOf_eq]
    cases hg : grayW (f (.header n)) <;> simp [hg]
theorem totT_eq {k : Cfg} (hr : k.R = true) : totT k.s k.a k.c k.hd = (k.size : Int) := by
  have := sizeW_tot (s := k.s) (a := k.a) (c := k.c) (hd := k.hd) (g := k.g) (st := k.st) hr
  rw [← this]
  have hn : sizeW k.S k.room k.C k.H = k.size := by unfold sizeW Cfg.size Cfg.base; omega
  exact congrArg _ hn
theorem Fr.ext {h : H} (ok : h.ok) (l : List (Option Blk)) : Fr [] h (h.ext l) := ⟨by rw [H.ext_next]; omega, ok.ext l, fun b hb _ => H.ext_old hb⟩
theorem refGrays_spec {k : Cfg} (hr : k.R = true) {h : H} (ok : h.ok) {x : V} {f : Wd → Int} (hx : RowIs h.get x (k.row f)) (hu : ∀ w ∈ k.row f, U64 w) :
    Ev (C 88 [k.v, x] h) fun r => r.1 = .int .i64 (graysN k f : Nat) ∧ Fr [] h r.2 := by
  obtain ⟨L, e⟩ := grays_spec (s := k.s) (a := k.a) (c := k.c) (hd := k.hd) (g := k.g) (st := k.st) hr ok hx hu (by rw [row_length, totT_eq hr])
  refine ⟨_, e, ?_, Fr.ext ok L⟩
  show V.int _ _ = V.int _ _
  congr 1
  exact cntT_row hr f k.S (Nat.le_refl _)
end Wm
end

section
/- Shades over words by what they are. -/
namespace Wm
attribute [local congr] bind_congr1
attribute [local irreducible] wr

section
variable {k : Cfg} {f : Wd → Int} {n : Int} {t : Touch} {l : Wd}
theorem Mem.there_row (hl : l.ok k) : (⟨k.row f, n, t⟩ : Mem).there (l.pos k : Nat) = true := by
  unfold Mem.there
  simp only [row_length, natlt (pos_lt hl), Bool.and_true]
  exact decide_eq_true (Int.natCast_nonneg _)
theorem Mem.w_row (hl : l.ok k) : (⟨k.row f, n, t⟩ : Mem).w (l.pos k : Nat) = f l := by
  unfold Mem.w; rw [Int.toNat_natCast, row_getD hl]
theorem Mem.touch_row (hl : l.ok k) (kd v : Int) : (⟨k.row f, n, t⟩ : Mem).touch kd (l.pos k : Nat) v = ⟨k.row (wset f l v), wr .i64 (n + 1), ⟨kd, (l.pos k : Nat), f l, v⟩⟩ := by
  unfold Mem.touch; rw [Mem.w_row hl, Int.toNat_natCast, row_set hl]
theorem wset_self : wset f l (f l) = f := by funext m; unfold wset; split; subst_vars; rfl; rfl
theorem Mem.val_row (hl : l.ok k) : (⟨k.row f, n, t⟩ : Mem).val (l.pos k : Nat) = f l := by
  unfold Mem.val; rw [Mem.there_row hl, if_pos rfl, Mem.w_row hl]
theorem Mem.load_row (hl : l.ok k) : (⟨k.row f, n, t⟩ : Mem).load (l.pos k : Nat) = ⟨k.row f, wr .i64 (n + 1), ⟨1, (l.pos k : Nat), f l, f l⟩⟩ := by
  unfold Mem.load; rw [Mem.there_row hl, if_pos rfl, Mem.w_row hl, Mem.touch_row hl, wset_self]
theorem Mem.store_row (hl : l.ok k) (v : Int) : (⟨k.row f, n, t⟩ : Mem).store (l.pos k : Nat) v = ⟨k.row (wset f l v), wr .i64 (n + 1), ⟨2, (l.pos k : Nat), f l, v⟩⟩ := by
  unfold Mem.store; rw [Mem.there_row hl, if_pos rfl, Mem.touch_row hl]
theorem Mem.add_row (hl : l.ok k) (v : Int) : (⟨k.row f, n, t⟩ : Mem).add (l.pos k : Nat) v = ⟨k.row (wset f l (wr .u64 (f l + v))), wr .i64 (n + 1), ⟨4, (l.pos k : Nat), f l, wr .u64 (f l + v)⟩⟩ := by
  unfold Mem.add; rw [Mem.there_row hl, if_pos rfl, Mem.w_row hl, Mem.touch_row hl]
theorem Mem.swaps_row (hl : l.ok k) (old : Int) : (⟨k.row f, n, t⟩ : Mem).swaps (l.pos k : Nat) old = decide (f l = old) := by
  unfold Mem.swaps; rw [Mem.there_row hl, Mem.w_row hl, Bool.true_and]
theorem Mem.swap_row (hl : l.ok k) (old now : Int) : (⟨k.row f, n, t⟩ : Mem).swap (l.pos k : Nat) old now = ⟨k.row (if f l = old then wset f l now else f), wr .i64 (n + 1), ⟨3, (l.pos k : Nat), f l, if f l = old then now else f l⟩⟩ := by
  unfold Mem.swap; rw [Mem.there_row hl, if_pos rfl, Mem.w_row hl, Mem.touch_row hl]
  split
  · rfl
  · rw [wset_self]
end

/-- A memory whose words are these. -/
def MemF (h : H) (p pw : Nat) (k : Cfg) (f : Wd → Int) (n : Int) : Prop := ∃ t, MemAt h p pw ⟨k.row f, n, t⟩
theorem MemF.fr {h h' : H} {L : List Nat} {p pw : Nat} {k : Cfg} {f : Wd → Int} {n : Int} (M : MemF h p pw k f n) (ok : h.ok) (F : Fr L h h') (h1 : p ∉ L) (h2 : pw ∉ L) : MemF h' p pw k f n :=
  let ⟨t, m⟩ := M; ⟨t, m.fr ok F h1 h2⟩
theorem MemF.u64 {h : H} {p pw : Nat} {k : Cfg} {f : Wd → Int} {n : Int} (M : MemF h p pw k f n) {l : Wd} (hl : l.ok k) : U64 (f l) := by
  obtain ⟨t, m⟩ := M
  exact m.u64 _ (List.mem_of_getElem? (row_at hl))
theorem MemF.pos {h : H} {p pw : Nat} {k : Cfg} {f : Wd → Int} {n : Int} (M : MemF h p pw k f n) : k.row f ≠ [] := by
  intro q; have := row_length k f; rw [q] at this; unfold Cfg.size Cfg.base at this; simp only [List.length_nil] at this; omega
theorem MemF.lt {h : H} {p pw : Nat} {k : Cfg} {f : Wd → Int} {n : Int} (M : MemF h p pw k f n) (ok : h.ok) : p < h.next ∧ pw < h.next ∧ p ≠ pw := by
  obtain ⟨t, ne, ⟨c, ho⟩, ⟨kk, _, hr⟩, _, _⟩ := M
  exact ⟨ok.lt ho, ok.lt hr, ne⟩

theorem MemF.touches {h : H} {p pw : Nat} {k : Cfg} {f : Wd → Int} {n : Int} (M : MemF h p pw k f n) : C 107 [.ptr p 0] h = some (.int .i64 n, h) := by
  obtain ⟨t, m⟩ := M; exact m.touches
theorem MemF.words {h : H} {p pw : Nat} {k : Cfg} {f : Wd → Int} {n : Int} (M : MemF h p pw k f n) (ok : h.ok) :
    Ev (C 94 [.ptr p 0] h) fun r => ∃ q, r.1 = .sl q 0 k.size (.op 1) ∧ Fr [] h r.2 ∧ h.next ≤ q ∧ r.2.get q = some (.cells ((k.row f).map (.int .u64)) (.gr 1)) := by
  have hne := M.pos
  obtain ⟨t, m⟩ := M
  have := m.words ok hne
  simp only [row_length] at this
  exact this

/-- A shade's state. -/
structure Sh where
  grew : Bool
  next : Int
  was : Int
def Sh.step (q : Nat) (e : Int) (s : Sh) (f : Wd → Int) : Sh × (Wd → Int) :=
  if s.next = 0 then (⟨s.grew, if white (f (.header q)) e then 1 else 4, f (.header q)⟩, f)
  else if s.next = 1 then (⟨s.grew, 2, s.was⟩, wset f .grays (wr .u64 (f .grays + 1)))
  else if s.next = 2 then (if f (.header q) = s.was then (⟨true, 4, s.was⟩, wset f (.header q) (shaded s.was e)) else (⟨s.grew, 3, s.was⟩, f))
  else if s.next = 3 then (⟨s.grew, 0, s.was⟩, wset f .grays (wr .u64 (f .grays + 18446744073709551615)))
  else (s, f)
/-- Does it touch the memory? -/
def Sh.works (s : Sh) : Bool := decide (s.next = 0) || decide (s.next = 1) || decide (s.next = 2) || decide (s.next = 3)

def ShAt (h : H) (b : Nat) (k : Cfg) (q : Nat) (e : Int) (s : Sh) : Prop := h.get b = some (.cells (Shade.cs ⟨s.grew, ((Wd.header q).pos k : Nat), e, s.next, s.was⟩) .rw) ∧ U64 s.was
theorem ShAt.fr {h h' : H} {L : List Nat} {b : Nat} {k : Cfg} {q : Nat} {e : Int} {s : Sh} (S : ShAt h b k q e s) (ok : h.ok) (F : Fr L h h') (h1 : b ∉ L) : ShAt h' b k q e s := ⟨F.get ok S.1 h1, S.2⟩

theorem shade_abs {k : Cfg} {q : Nat} (hq : q < k.S) (e : Int) (s : Sh) (f : Wd → Int) (n : Int) (t : Touch) :
    ∃ t', Shade.step ⟨s.grew, ((Wd.header q).pos k : Nat), e, s.next, s.was⟩ ⟨k.row f, n, t⟩ = (⟨(s.step q e f).1.grew, ((Wd.header q).pos k : Nat), e, (s.step q e f).1.next, (s.step q e f).1.was⟩, ⟨k.row (s.step q e f).2, if s.works then wr .i64 (n + 1) else n, t'⟩) := by
  have hl : (Wd.header q).ok k := hq
  have h2 : (2 : Int) = ((Wd.grays.pos k : Nat) : Int) := rfl
  obtain ⟨grew, next, was⟩ := s
  unfold Shade.step Sh.step Sh.works
  simp only
  by_cases c0 : next = 0
  · subst c0
    simp only [if_true, decide_true, Bool.true_or, Mem.val_row hl, Mem.load_row hl]
    exact ⟨_, rfl⟩
  · by_cases c1 : next = 1
    · subst c1
      simp only [if_true, Int.reduceEq, if_false, decide_true, decide_false, Bool.true_or, Bool.or_true, Bool.false_or]
      rw [show (Mem.add ⟨k.row f, n, t⟩ 2 1) = _ from Mem.add_row (l := .grays) trivial 1]
      exact ⟨_, rfl⟩
    · by_cases c2 : next = 2
      · subst c2
        simp only [if_true, Int.reduceEq, if_false, decide_true, decide_false, Bool.true_or, Bool.or_true, Bool.false_or, Mem.swaps_row hl, Mem.swap_row hl]
        by_cases hw : f (.header q) = was
        · simp only [hw, decide_true, if_true]; exact ⟨_, rfl⟩
        · simp only [hw, decide_false, Bool.false_eq_true, if_false]; exact ⟨_, rfl⟩
      · by_cases c3 : next = 3
        · subst c3
          simp only [if_true, Int.reduceEq, if_false, decide_true, decide_false, Bool.true_or, Bool.or_true, Bool.false_or]
          rw [show (Mem.add ⟨k.row f, n, t⟩ 2 18446744073709551615) = _ from Mem.add_row (l := .grays) trivial _]
          exact ⟨_, rfl⟩
        · simp only [c0, c1, c2, c3, if_false, decide_false, Bool.false_or, Bool.false_eq_true]
          exact ⟨_, rfl⟩

theorem ShAt.step {h : H} (ok : h.ok) {b p pw : Nat} {k : Cfg} {q : Nat} (hq : q < k.S) {e : Int} (he : U64 e) {s : Sh} {f : Wd → Int} {n : Int} (S : ShAt h b k q e s) (M : MemF h p pw k f n) (h1 : b ≠ p) (h2 : b ≠ pw) :
    Ev (C 91 [.ptr b 0, .ptr p 0] h) fun r => r.1 = .bool (decide ((s.step q e f).1.next = 4)) ∧ Fr [b, p, pw] h r.2 ∧ ShAt r.2 b k q e (s.step q e f).1 ∧ MemF r.2 p pw k (s.step q e f).2 (if s.works then wr .i64 (n + 1) else n) := by
  have hu := M.u64 (show (Wd.header q).ok k from hq)
  obtain ⟨t, m⟩ := M
  obtain ⟨S1, S2⟩ := S
  obtain ⟨t', e'⟩ := shade_abs hq e s f n t
  have := shadeStep_spec ok S1 m h1 h2 he S2
  rw [e'] at this
  refine this.mono fun r ⟨r1, r2, r3, r4⟩ => ⟨r1, r2, ⟨r3, ?_⟩, ⟨_, r4⟩⟩
  unfold Sh.step
  split
  · exact hu
  · split
    · exact S2
    · split
      · split <;> exact S2
      · split <;> exact S2

theorem NewShade_spec {k : Cfg} (hr : k.R = true) {q : Nat} (hq : q < k.S) (e : Int) {h : H} (ok : h.ok) :
    Ev (C 90 [k.v, .int .i64 (q : Int), .int .u64 e] h) fun r => ∃ b, r.1 = .ptr b 0 ∧ Fr [] h r.2 ∧ h.next ≤ b ∧ ShAt r.2 b k q e ⟨false, 0, 0⟩ :=
  (newShade_spec hr hq e ok).mono fun _ ⟨b, h1, h2, h3, h4⟩ => ⟨b, h1, h2, h3, h4, ⟨by decide, by decide⟩⟩

theorem Same_spec {h : H} {x y : V} {a b : List Int} (hx : RowIs h.get x a) (hy : RowIs h.get y b) (hla : a.length ≤ 65536) (hlb : b.length ≤ 65536) : C 95 [x, y] h = some (.bool (decide (a = b)), h) := by
  have hev : Ev (C 95 [x, y] h) fun r => r = (.bool (decide (a = b)), h) := by
    refine call_ev (af := F.withyref06_Same) (by kernel_rfl) rfl ?_
    rw [S.withyref06_Same_eq]
    simp only [S.withyref06_Same, hx.len, hy.len, Option.bind_some]
    by_cases hl : a.length = b.length
    · simp only [hl, decide_true, Bool.not_true]
      refine loop_ev (α := Nat) (fun i => S.withyref06_Same_c1_E x y (.int .i64 i)) (fun i g => g = h ∧ i ≤ a.length ∧ ∀ j, j < i → a[j]? = b[j]?) (fun i _ => a.length - i)
        (fun r => r.2.2 = h ∧ ((r.1 = .exit 0 ∧ r.2.1 = S.withyref06_Same_c1_O .dead ∧ a = b) ∨ (r.1 = .ret ∧ r.2.1 = S.withyref06_Same_c1_O (.bool false) ∧ a ≠ b))) 0 rfl ⟨rfl, Nat.zero_le _, fun j hj => absurd hj (Nat.not_lt_zero _)⟩ ?_ ?_
      · rintro i g ⟨rfl, hi, hj⟩
        rw [S.withyref06_Same_c1_eq]
        by_cases hic : i < a.length
        · have e1 := natlt hic
          obtain ⟨p1, x1, x2⟩ := hx.at (i := (i : Int)) (by omega) (by omega)
          obtain ⟨p2, y1, y2⟩ := hy.at (i := (i : Int)) (by omega) (by omega)
          have w1 : wr .i64 ((i : Int) + 1) = ((i + 1 : Nat) : Int) := by rw [wr64 (by omega) (by omega)]; rfl
          have ha : a[i]? = some a[i] := List.getElem?_eq_getElem hic
          have hb : b[i]? = some (b[i]'(hl ▸ hic)) := List.getElem?_eq_getElem (hl ▸ hic)
          simp only [Int.toNat_natCast, ha, hb, Option.getD_some] at x2 y2
          simp only [S.withyref06_Same_c1_S, hx.len, Option.bind_some, e1, x1, x2, y1, y2, asI_int, w1]
          by_cases he : a[i] = b[i]'(hl ▸ hic)
          · simp only [he, decide_true, Bool.not_true]
            refine Ev.some (.inl ⟨i + 1, rfl, rfl, ⟨rfl, hic, fun j hj' => ?_⟩, Nat.sub_lt_sub_left hic (Nat.lt_succ_self i)⟩)
            rcases Nat.lt_succ_iff_lt_or_eq.mp hj' with q | rfl
            · exact hj j q
            · rw [ha, hb, he]
          · simp only [he, decide_false, Bool.not_false]
            refine Ev.some (.inr ⟨by simp, rfl, .inr ⟨rfl, rfl, fun q => he ?_⟩⟩)
            subst q; rfl
        · have e1 : decide ((i : Int) < (a.length : Int)) = false := decide_eq_false (by omega)
          simp only [S.withyref06_Same_c1_S, hx.len, Option.bind_some, e1]
          refine Ev.some (.inr ⟨by simp, rfl, .inl ⟨rfl, rfl, List.ext_getElem? fun j => ?_⟩⟩)
          by_cases hjl : j < i
          · exact hj j hjl
          · rw [List.getElem?_eq_none (by omega), List.getElem?_eq_none (by omega)]
      · rintro ⟨x', env, g⟩ ⟨rfl, ⟨rfl, rfl, rfl⟩ | ⟨rfl, rfl, hne⟩⟩
        · simp only; rw [S.withyref06_Same_c1_e0_eq]; simp only [decide_true]; exact Ev.some rfl
        · simp only; rw [S.withyref06_Same_c1_r_eq, decide_eq_false hne]; exact Ev.some rfl
    · have hne : a ≠ b := fun q => hl (by rw [q])
      have : ¬ ((a.length : Int) = (b.length : Int)) := by omega
      simp only [this, hne, decide_false, Bool.not_false]
      exact Ev.some rfl
  obtain ⟨r, e, rfl⟩ := hev
  exact e
end Wm
end

section
/- The memory and the book of when things took effect: what stands in them, and their functions. -/
namespace Wm
attribute [local congr] bind_congr1
attribute [local irreducible] wr

/-! ### Maps from numbers to numbers -/
/-- A map's entries, as what they tell. -/
def Tells (kd : Go.IntKind) (es : List (V × V)) (f : Int → Option Int) : Prop := ∀ j, findKey .int (.int kd j) es = some ((f j).map (.int .i64))
def mset (f : Int → Option Int) (k v : Int) : Int → Option Int := fun j => if j = k then some v else f j

theorem findKey_nil (kd : Go.IntKind) : Tells kd [] fun _ => none := fun _ => rfl
theorem setKey_find {kd : Go.IntKind} (k v : Int) : ∀ {es : List (V × V)} {f : Int → Option Int}, Tells kd es f → ∃ es', setKey .int (.int kd k) (.int .i64 v) es = some es' ∧ Tells kd es' (mset f k v)
  | [], f, h => by
    refine ⟨[(.int kd k, .int .i64 v)], rfl, fun j => ?_⟩
    have h1 : f j = none := by
      have := h j
      simp only [findKey, Option.some.injEq] at this
      cases hf : f j with
      | none => rfl
      | some x => rw [hf] at this; cases this
    by_cases hj : j = k
    · subst hj; simp [findKey, eqCell, mset]
    · simp [findKey, eqCell, mset, hj, h1]
  | (a, w) :: es, f, h => by
    -- the head is of the kind
    obtain ⟨b, rfl⟩ : ∃ b, a = .int kd b := by
      have := h k
      simp only [findKey] at this
      cases a <;> simp only [eqCell] at this <;> (try cases this)
      rename_i kd' b
      by_cases hk : kd = kd'
      · subst hk; exact ⟨b, rfl⟩
      · simp [hk] at this
    have hhead : some w = (f b).map (.int .i64) := by
      have := h b
      simp only [findKey, eqCell, decide_true, Option.some.injEq] at this
      exact this
    have htail : ∀ j, j ≠ b → findKey .int (.int kd j) es = some ((f j).map (.int .i64)) := fun j hj => by
      have := h j
      simp only [findKey, eqCell, decide_true, hj, decide_false] at this
      exact this
    by_cases hk : k = b
    · subst hk
      refine ⟨(.int kd k, .int .i64 v) :: es, by simp only [setKey, eqCell, decide_true], fun j => ?_⟩
      by_cases hj : j = k
      · subst hj; simp [findKey, eqCell, mset]
      · simp only [findKey, eqCell, decide_true, hj, decide_false, mset, if_false]; exact htail j hj
    · -- the rest tells all but the head's key; the head's key it need not know
      have key : ∀ (es : List (V × V)) (g : Int → Option Int), (∀ j, j ≠ b → findKey .int (.int kd j) es = some ((g j).map (.int .i64))) → ∃ es', setKey .int (.int kd k) (.int .i64 v) es = some es' ∧ ∀ j, j ≠ b → findKey .int (.int kd j) es' = some ((mset g k v j).map (.int .i64)) := by
        intro es
        induction es with
        | nil =>
          intro g hg
          refine ⟨[(.int kd k, .int .i64 v)], rfl, fun j hj => ?_⟩
          have h1 : g j = none := by
            have := hg j hj
            simp only [findKey, Option.some.injEq] at this
            cases hf : g j with
            | none => rfl
            | some x => rw [hf] at this; cases this
          by_cases hjk : j = k
          · subst hjk; simp [findKey, eqCell, mset]
          · simp [findKey, eqCell, mset, hjk, h1]
        | cons p es ih =>
          obtain ⟨a2, w2⟩ := p
          intro g hg
          obtain ⟨b2, rfl⟩ : ∃ b2, a2 = .int kd b2 := by
            have := hg k hk
            simp only [findKey] at this
            cases a2 <;> simp only [eqCell] at this <;> (try cases this)
            rename_i kd' b2
            by_cases hkk : kd = kd'
            · subst hkk; exact ⟨b2, rfl⟩
            · simp [hkk] at this
          by_cases hk2 : k = b2
          · subst hk2
            refine ⟨(.int kd k, .int .i64 v) :: es, by simp only [setKey, eqCell, decide_true], fun j hj => ?_⟩
            by_cases hjk : j = k
            · subst hjk; simp [findKey, eqCell, mset]
            · have := hg j hj
              simp only [findKey, eqCell, decide_true, hjk, decide_false] at this ⊢
              simp only [mset, hjk, if_false]; exact this
          · let g2 : Int → Option Int := fun j => g j
            have hg' : ∀ j, j ≠ b → j ≠ b2 → findKey .int (.int kd j) es = some ((g j).map (.int .i64)) := fun j hj hj2 => by
              have := hg j hj
              simp only [findKey, eqCell, decide_true, hj2, decide_false] at this
              exact this
            -- the rest, where b2 is known no more: by what it tells itself
            have hdef : ∀ (es : List (V × V)), (∃ o, findKey .int (.int kd k) es = some o) → ∃ es', setKey .int (.int kd k) (.int .i64 v) es = some es' ∧ ∀ j, j ≠ k → findKey .int (.int kd j) es' = findKey .int (.int kd j) es := by
              intro es
              induction es with
              | nil => intro _; exact ⟨[(.int kd k, .int .i64 v)], rfl, fun j hj => by simp [findKey, eqCell, hj]⟩
              | cons p es ih2 =>
                obtain ⟨a3, w3⟩ := p
                rintro ⟨o, ho⟩
                simp only [findKey] at ho
                cases he : eqCell .int (.int kd k) a3 with
                | none => rw [he] at ho; cases ho
                | some t =>
                  cases t with
                  | true =>
                    refine ⟨(.int kd k, .int .i64 v) :: es, by simp only [setKey, he], fun j hj => ?_⟩
                    have ha3 : a3 = .int kd k := by
                      cases a3 <;> simp only [eqCell] at he <;> (try cases he)
                      rename_i kd' b3
                      by_cases hkk : kd = kd'
                      · subst hkk; simp at he; rw [he]
                      · simp [hkk] at he
                    subst ha3
                    simp only [findKey, eqCell, decide_true, hj, decide_false]
                  | false =>
                    rw [he] at ho
                    obtain ⟨es', e1, e2⟩ := ih2 ⟨o, ho⟩
                    refine ⟨(a3, w3) :: es', by simp only [setKey, he, e1], fun j hj => ?_⟩
                    simp only [findKey, e2 j hj]
            obtain ⟨es', e1, e2⟩ := hdef es ⟨_, hg' k hk hk2⟩
            refine ⟨(.int kd b2, w2) :: es', ?_, fun j hj => ?_⟩
            · simp only [setKey, eqCell, decide_true, hk2, decide_false, e1]
            · by_cases hjk : j = k
              · subst hjk
                -- it was laid there
                have hs : ∀ (es es' : List (V × V)), setKey .int (.int kd j) (.int .i64 v) es = some es' → findKey .int (.int kd j) es' = some (some (.int .i64 v)) := by
                  intro es
                  induction es with
                  | nil => intro es' h; simp only [setKey, Option.some.injEq] at h; subst h; simp [findKey, eqCell]
                  | cons p es ih3 =>
                    obtain ⟨a3, w3⟩ := p
                    intro es' h
                    simp only [setKey] at h
                    cases he : eqCell .int (.int kd j) a3 with
                    | none => rw [he] at h; cases h
                    | some t =>
                      rw [he] at h
                      cases t with
                      | true => simp only [Option.some.injEq] at h; subst h; simp [findKey, eqCell]
                      | false =>
                        simp only at h
                        cases hr : setKey .int (.int kd j) (.int .i64 v) es with
                        | none => rw [hr] at h; cases h
                        | some es2 =>
                          rw [hr] at h
                          simp only [Option.some.injEq] at h; subst h
                          simp only [findKey, he]; exact ih3 es2 hr
                have := hs es es' e1
                simp only [findKey, eqCell, decide_true, hk2, decide_false, this, mset, if_true, Option.map_some]
              · have := hg j hj
                simp only [findKey, eqCell, decide_true] at this ⊢
                simp only [mset, hjk, if_false, e2 j hjk]; exact this
      obtain ⟨es', e1, e2⟩ := key es f htail
      refine ⟨(.int kd b, w) :: es', by simp only [setKey, eqCell, decide_true, hk, decide_false, e1], fun j => ?_⟩
      by_cases hj : j = b
      · subst hj
        have hjk : ¬ j = k := fun h => hk h.symm
        simp only [findKey, eqCell, decide_true, mset, hjk, if_false, hhead]
      · simp only [findKey, eqCell, decide_true, hj, decide_false]; exact e2 j hj

/-! ### The book -/
structure BookT where
  now : Int
  born : Int → Option Int
  turned : Int → Option Int
def BookT.at' (f : Int → Option Int) (k : Int) : Int := (f k).getD (-1)

structure BkAt (h : H) (b m1 m2 : Nat) (B : BookT) : Prop where
  own : h.get b = some (.cells [.int .i64 B.now, .map m1, .map m2] .rw)
  born : ∃ es, h.get m1 = some (.map es) ∧ Tells .i64 es B.born
  turned : ∃ es, h.get m2 = some (.map es) ∧ Tells .u64 es B.turned
theorem BkAt.fr {h h' : H} {L : List Nat} {b m1 m2 : Nat} {B : BookT} (K : BkAt h b m1 m2 B) (ok : h.ok) (F : Fr L h h') (h1 : b ∉ L) (h2 : m1 ∉ L) (h3 : m2 ∉ L) : BkAt h' b m1 m2 B := by
  obtain ⟨o, ⟨e1, g1, t1⟩, ⟨e2, g2, t2⟩⟩ := K
  exact ⟨F.get ok o h1, ⟨e1, F.get ok g1 h2, t1⟩, ⟨e2, F.get ok g2 h3, t2⟩⟩

theorem look_map {h : H} {m : Nat} {kd : Go.IntKind} {es : List (V × V)} {f : Int → Option Int} (g : h.get m = some (.map es)) (t : Tells kd es f) (z : V) (k : Int) :
    h.look .int z true (.map m) (.int kd k) = some (match f k with | some v => .tup [.int .i64 v, .bool true] | none => .tup [z, .bool false]) := by
  simp only [H.look, isKey, H.entries, g, t k]
  cases f k <;> rfl

theorem BkAt.bornS {h : H} {b m1 m2 : Nat} {B : BookT} (K : BkAt h b m1 m2 B) (k : Int) : C 152 [.ptr b 0, .int .i64 k] h = some (.int .i64 (BookT.at' B.born k), h) := by
  obtain ⟨o, ⟨e1, g1, t1⟩, _⟩ := K
  refine call_open (af := F.field_Book_Born) (by kernel_rfl) rfl ?_
  rw [S.field_Book_Born_eq]
  have hl := look_map g1 t1 (.int .i64 0) k
  unfold BookT.at'
  cases hb : B.born k with
  | none => rw [hb] at hl; simp only [S.field_Book_Born, nilc_ptr, lenSl_sl, lenSl_nil, eqPtr_ptr, eqPtr_nil, eqPtr_ptr', eqSl_sl, eqSl_nil, ptrAt_ptr, Option.bind_some, Option.map_some, ld1_get', ldN_get', st_get', get_put', get_new', put_put', ldB_cells, ldNB_cells, stB_cells, H.next_new, H.next_put, List.getElem?_cons_zero, List.getElem?_cons_succ, Nat.zero_add, Nat.add_zero, Nat.reduceAdd, Nat.reduceLeDiff, Nat.reduceLT, Nat.reduceMul, Nat.reduceSub, Nat.reduceEqDiff, Int.reduceEq, Int.reduceLT, Int.reduceLE, Int.reduceNeg, V.one, V.cells, V.beq, V.beqs, ckB_some, asI_int, asB_bool, asIAny, asS, List.length_cons, List.length_nil, Nat.beq_refl, List.all_cons, List.all_nil, Bool.and_true, Bool.and_false, Bool.true_and, Bool.false_and, Bool.not_true, Bool.not_false, Bool.or_false, Bool.false_or, Bool.or_self, Bool.and_self, decide_true, decide_false, if_true, if_false, splice, List.take_succ_cons, List.take_zero, List.drop_succ_cons, List.drop_zero, List.cons_append, List.nil_append, List.set_cons_zero, List.set_cons_succ, reduceCtorEq, fill, repl, opd, boxc, finV, resAllV, resOfV, result, eqV, eqIfc, aggCells, part, W_call, Nat.reduceBEq, Nat.beq_eq, o, hl]; rfl
  | some v => rw [hb] at hl; simp only [S.field_Book_Born, nilc_ptr, lenSl_sl, lenSl_nil, eqPtr_ptr, eqPtr_nil, eqPtr_ptr', eqSl_sl, eqSl_nil, ptrAt_ptr, Option.bind_some, Option.map_some, ld1_get', ldN_get', st_get', get_put', get_new', put_put', ldB_cells, ldNB_cells, stB_cells, H.next_new, H.next_put, List.getElem?_cons_zero, List.getElem?_cons_succ, Nat.zero_add, Nat.add_zero, Nat.reduceAdd, Nat.reduceLeDiff, Nat.reduceLT, Nat.reduceMul, Nat.reduceSub, Nat.reduceEqDiff, Int.reduceEq, Int.reduceLT, Int.reduceLE, Int.reduceNeg, V.one, V.cells, V.beq, V.beqs, ckB_some, asI_int, asB_bool, asIAny, asS, List.length_cons, List.length_nil, Nat.beq_refl, List.all_cons, List.all_nil, Bool.and_true, Bool.and_false, Bool.true_and, Bool.false_and, Bool.not_true, Bool.not_false, Bool.or_false, Bool.false_or, Bool.or_self, Bool.and_self, decide_true, decide_false, if_true, if_false, splice, List.take_succ_cons, List.take_zero, List.drop_succ_cons, List.drop_zero, List.cons_append, List.nil_append, List.set_cons_zero, List.set_cons_succ, reduceCtorEq, fill, repl, opd, boxc, finV, resAllV, resOfV, result, eqV, eqIfc, aggCells, part, W_call, Nat.reduceBEq, Nat.beq_eq, o, hl]; rfl

theorem BkAt.turnedS {h : H} {b m1 m2 : Nat} {B : BookT} (K : BkAt h b m1 m2 B) (k : Int) : C 153 [.ptr b 0, .int .u64 k] h = some (.int .i64 (BookT.at' B.turned k), h) := by
  obtain ⟨o, _, ⟨e1, g1, t1⟩⟩ := K
  refine call_open (af := F.field_Book_Turned) (by kernel_rfl) rfl ?_
  rw [S.field_Book_Turned_eq]
  have hl := look_map g1 t1 (.int .i64 0) k
  unfold BookT.at'
  cases hb : B.turned k with
  | none => rw [hb] at hl; simp only [S.field_Book_Turned, nilc_ptr, lenSl_sl, lenSl_nil, eqPtr_ptr, eqPtr_nil, eqPtr_ptr', eqSl_sl, eqSl_nil, ptrAt_ptr, Option.bind_some, Option.map_some, ld1_get', ldN_get', st_get', get_put', get_new', put_put', ldB_cells, ldNB_cells, stB_cells, H.next_new, H.next_put, List.getElem?_cons_zero, List.getElem?_cons_succ, Nat.zero_add, Nat.add_zero, Nat.reduceAdd, Nat.reduceLeDiff, Nat.reduceLT, Nat.reduceMul, Nat.reduceSub, Nat.reduceEqDiff, Int.reduceEq, Int.reduceLT, Int.reduceLE, Int.reduceNeg, V.one, V.cells, V.beq, V.beqs, ckB_some, asI_int, asB_bool, asIAny, asS, List.length_cons, List.length_nil, Nat.beq_refl, List.all_cons, List.all_nil, Bool.and_true, Bool.and_false, Bool.true_and, Bool.false_and, Bool.not_true, Bool.not_false, Bool.or_false, Bool.false_or, Bool.or_self, Bool.and_self, decide_true, decide_false, if_true, if_false, splice, List.take_succ_cons, List.take_zero, List.drop_succ_cons, List.drop_zero, List.cons_append, List.nil_append, List.set_cons_zero, List.set_cons_succ, reduceCtorEq, fill, repl, opd, boxc, finV, resAllV, resOfV, result, eqV, eqIfc, aggCells, part, W_call, Nat.reduceBEq, Nat.beq_eq, o, hl]; rfl
  | some v => rw [hb] at hl; simp only [S.field_Book_Turned, nilc_ptr, lenSl_sl, lenSl_nil, eqPtr_ptr, eqPtr_nil, eqPtr_ptr', eqSl_sl, eqSl_nil, ptrAt_ptr, Option.bind_some, Option.map_some, ld1_get', ldN_get', st_get', get_put', get_new', put_put', ldB_cells, ldNB_cells, stB_cells, H.next_new, H.next_put, List.getElem?_cons_zero, List.getElem?_cons_succ, Nat.zero_add, Nat.add_zero, Nat.reduceAdd, Nat.reduceLeDiff, Nat.reduceLT, Nat.reduceMul, Nat.reduceSub, Nat.reduceEqDiff, Int.reduceEq, Int.reduceLT, Int.reduceLE, Int.reduceNeg, V.one, V.cells, V.beq, V.beqs, ckB_some, asI_int, asB_bool, asIAny, asS, List.length_cons, List.length_nil, Nat.beq_refl, List.all_cons, List.all_nil, Bool.and_true, Bool.and_false, Bool.true_and, Bool.false_and, Bool.not_true, Bool.not_false, Bool.or_false, Bool.false_or, Bool.or_self, Bool.and_self, decide_true, decide_false, if_true, if_false, splice, List.take_succ_cons, List.take_zero, List.drop_succ_cons, List.drop_zero, List.cons_append, List.nil_append, List.set_cons_zero, List.set_cons_succ, reduceCtorEq, fill, repl, opd, boxc, finV, resAllV, resOfV, result, eqV, eqIfc, aggCells, part, W_call, Nat.reduceBEq, Nat.beq_eq, o, hl]; rfl
end Wm
end

section
/- Fields' machines of any arguments: is there one? And the steps of none. -/
namespace Wm
attribute [local congr] bind_congr1
attribute [local irreducible] wr

def bookV : Option Nat → V
  | none => .nilp
  | some b => .ptr b 0
def Got : Bool → V → Prop
  | true, v => ∃ b, v = .ptr b 0
  | false, v => v = .nilp
def slotB (k : Cfg) (q : Int) : Bool := k.R && (decide (0 ≤ q) && decide (q < k.s))
def wordB (k : Cfg) (q i : Int) : Bool := k.R && (decide (0 ≤ q) && (decide (q < k.s) && (decide (0 ≤ i) && decide (i < if k.a < 3 then 3 else k.a))))

theorem slotB_iff {k : Cfg} {q : Int} : slotB k q = true ↔ k.R = true ∧ 0 ≤ q ∧ q < k.s := by
  unfold slotB; simp only [Bool.and_eq_true, decide_eq_true_eq]
theorem wordB_iff {k : Cfg} {q i : Int} : wordB k q i = true ↔ k.R = true ∧ 0 ≤ q ∧ q < k.s ∧ 0 ≤ i ∧ i < (if k.a < 3 then 3 else k.a) := by
  unfold wordB; simp only [Bool.and_eq_true, decide_eq_true_eq]

theorem header_any (k : Cfg) (q : Int) : ∃ n : Int, (∀ h, C 261 [k.v, .int .i64 q] h = some (.int .i64 n, h)) ∧ (n < 0 ↔ slotB k q = false) := by
  refine ⟨_, fun h => header_spec k.s k.a k.c k.hd k.g k.st q h, ?_⟩
  rw [header_neg, ← Bool.not_eq_true, slotB_iff]
  rfl

theorem nn_slots {c hd q r : Int} (hc : 0 ≤ c) (hh : 0 ≤ hd) (hq : 0 ≤ q) (hr : 0 ≤ r) : 0 ≤ slotsT c hd + q * r := by
  have q3 := Int.mul_nonneg hc (show 0 ≤ 1 + hd + 2 by omega)
  have q4 := Int.mul_nonneg hq hr
  unfold slotsT
  omega

theorem within_neg (s a c hd g st q j : Int) : withinT s a c hd g st q j < 0 ↔ ¬(cfgR s a c hd g st = true ∧ (0 ≤ q ∧ q ≤ s - 1) ∧ 0 ≤ j ∧ j ≤ roomT a - 1) := by
  unfold withinT
  constructor
  · intro h p
    rw [if_pos p] at h
    obtain ⟨_, _, ⟨c1, c2⟩, ⟨d1, d2⟩, _⟩ := cfgR_iff.mp p.1
    have := nn_slots (c := c) (hd := hd) (q := q) (r := roomT a) (by omega) (by omega) p.2.1.1 (by unfold roomT; omega)
    have := p.2.2.1
    omega
  · intro h
    rw [if_neg h]
    decide

theorem wr_two {i : Int} (h0 : 0 ≤ i) (h1 : i ≤ 8) : wr .i64 (2 + i) = 2 + i := wr64 (by omega) (by omega)

theorem body_any (k : Cfg) (q i : Int) : ∃ n : Int, (∀ h, C 305 [k.v, .int .i64 q, .int .i64 i] h = some (.int .i64 n, h)) ∧ (n < 0 ↔ wordB k q i = false) := by
  have hv : k.v = .agg [.int .i64 k.s, .int .i64 k.a, .int .i64 k.c, .int .i64 k.hd, .int .i64 k.g, .int .i64 k.st] := rfl
  by_cases h0 : i < 0
  · refine ⟨-1, fun h => ?_, ?_⟩
    · refine call_closed (af := F.plan_Body) (by kernel_rfl) rfl (by rfl) (by rfl) h ?_
      rw [hv, S.plan_Body_eq]
      simp only [S.plan_Body, nilc_ptr, lenSl_sl, lenSl_nil, eqPtr_ptr, eqPtr_nil, eqPtr_ptr', eqSl_sl, eqSl_nil, ptrAt_ptr, Option.bind_some, Option.map_some, ld1_get', ldN_get', st_get', get_put', get_new', put_put', ldB_cells, ldNB_cells, stB_cells, H.next_new, H.next_put, List.getElem?_cons_zero, List.getElem?_cons_succ, Nat.zero_add, Nat.add_zero, Nat.reduceAdd, Nat.reduceLeDiff, Nat.reduceLT, Nat.reduceMul, Nat.reduceSub, Nat.reduceEqDiff, Int.reduceEq, Int.reduceLT, Int.reduceLE, Int.reduceNeg, V.one, V.cells, V.beq, V.beqs, ckB_some, asI_int, asB_bool, asIAny, asS, List.length_cons, List.length_nil, Nat.beq_refl, List.all_cons, List.all_nil, Bool.and_true, Bool.and_false, Bool.true_and, Bool.false_and, Bool.not_true, Bool.not_false, Bool.or_false, Bool.false_or, Bool.or_self, Bool.and_self, decide_true, decide_false, if_true, if_false, splice, List.take_succ_cons, List.take_zero, List.drop_succ_cons, List.drop_zero, List.cons_append, List.nil_append, List.set_cons_zero, List.set_cons_succ, reduceCtorEq, fill, repl, opd, boxc, finV, resAllV, resOfV, result, eqV, eqIfc, aggCells, part, W_call, Nat.reduceBEq, Nat.beq_eq, h0]
      exact Ev.some rfl
    · rw [← Bool.not_eq_true, wordB_iff]
      exact ⟨fun _ p => by have := p.2.2.2.1; omega, fun _ => by decide⟩
  · by_cases h8 : 8 < i
    · refine ⟨-1, fun h => ?_, ?_⟩
      · refine call_closed (af := F.plan_Body) (by kernel_rfl) rfl (by rfl) (by rfl) h ?_
        rw [hv, S.plan_Body_eq]
        simp only [S.plan_Body, nilc_ptr, lenSl_sl, lenSl_nil, eqPtr_ptr, eqPtr_nil, eqPtr_ptr', eqSl_sl, eqSl_nil, ptrAt_ptr, Option.bind_some, Option.map_some, ld1_get', ldN_get', st_get', get_put', get_new', put_put', ldB_cells, ldNB_cells, stB_cells, H.next_new, H.next_put, List.getElem?_cons_zero, List.getElem?_cons_succ, Nat.zero_add, Nat.add_zero, Nat.reduceAdd, Nat.reduceLeDiff, Nat.reduceLT, Nat.reduceMul, Nat.reduceSub, Nat.reduceEqDiff, Int.reduceEq, Int.reduceLT, Int.reduceLE, Int.reduceNeg, V.one, V.cells, V.beq, V.beqs, ckB_some, asI_int, asB_bool, asIAny, asS, List.length_cons, List.length_nil, Nat.beq_refl, List.all_cons, List.all_nil, Bool.and_true, Bool.and_false, Bool.true_and, Bool.false_and, Bool.not_true, Bool.not_false, Bool.or_false, Bool.false_or, Bool.or_self, Bool.and_self, decide_true, decide_false, if_true, if_false, splice, List.take_succ_cons, List.take_zero, List.drop_succ_cons, List.drop_zero, List.cons_append, List.nil_append, List.set_cons_zero, List.set_cons_succ, reduceCtorEq, fill, repl, opd, boxc, finV, resAllV, resOfV, result, eqV, eqIfc, aggCells, part, W_call, Nat.reduceBEq, Nat.beq_eq, h0, h8]
        exact Ev.some rfl
      · rw [← Bool.not_eq_true, wordB_iff]
        refine ⟨fun _ p => ?_, fun _ => by decide⟩
        obtain ⟨_, ⟨a1, a2⟩, _⟩ := cfgR_iff.mp (show cfgR k.s k.a k.c k.hd k.g k.st = true from p.1)
        have := p.2.2.2.2
        split at this <;> omega
    · refine ⟨withinT k.s k.a k.c k.hd k.g k.st q (2 + i), fun h => ?_, ?_⟩
      · refine call_closed (af := F.plan_Body) (by kernel_rfl) rfl (by rfl) (by rfl) h ?_
        have hw := fun h => within_spec k.s k.a k.c k.hd k.g k.st q (2 + i) h
        have e3 := wr_two (i := i) (by omega) (by omega)
        rw [hv, S.plan_Body_eq]
        simp only [S.plan_Body, nilc_ptr, lenSl_sl, lenSl_nil, eqPtr_ptr, eqPtr_nil, eqPtr_ptr', eqSl_sl, eqSl_nil, ptrAt_ptr, Option.bind_some, Option.map_some, ld1_get', ldN_get', st_get', get_put', get_new', put_put', ldB_cells, ldNB_cells, stB_cells, H.next_new, H.next_put, List.getElem?_cons_zero, List.getElem?_cons_succ, Nat.zero_add, Nat.add_zero, Nat.reduceAdd, Nat.reduceLeDiff, Nat.reduceLT, Nat.reduceMul, Nat.reduceSub, Nat.reduceEqDiff, Int.reduceEq, Int.reduceLT, Int.reduceLE, Int.reduceNeg, V.one, V.cells, V.beq, V.beqs, ckB_some, asI_int, asB_bool, asIAny, asS, List.length_cons, List.length_nil, Nat.beq_refl, List.all_cons, List.all_nil, Bool.and_true, Bool.and_false, Bool.true_and, Bool.false_and, Bool.not_true, Bool.not_false, Bool.or_false, Bool.false_or, Bool.or_self, Bool.and_self, decide_true, decide_false, if_true, if_false, splice, List.take_succ_cons, List.take_zero, List.drop_succ_cons, List.drop_zero, List.cons_append, List.nil_append, List.set_cons_zero, List.set_cons_succ, reduceCtorEq, fill, repl, opd, boxc, finV, resAllV, resOfV, result, eqV, eqIfc, aggCells, part, W_call, Nat.reduceBEq, Nat.beq_eq, h0, h8]
        rw [e3, show (V.agg [.int .i64 k.s, .int .i64 k.a, .int .i64 k.c, .int .i64 k.hd, .int .i64 k.g, .int .i64 k.st]) = cfgV k.s k.a k.c k.hd k.g k.st from rfl, hw]
        exact Ev.some rfl
      · rw [within_neg, ← Bool.not_eq_true, wordB_iff]
        have e : roomT k.a - 1 = 1 + (if k.a < 3 then 3 else k.a) := by unfold roomT; split <;> omega
        rw [e]
        refine not_congr ⟨fun p => ⟨p.1, p.2.1.1, by have := p.2.1.2; omega, by omega, by have := p.2.2.2; omega⟩, fun p => ⟨p.1, ⟨p.2.1, by have := p.2.2.1; omega⟩, by omega, by have := p.2.2.2.2; omega⟩⟩

theorem fresh_any (k : Cfg) (q i : Int) (bk : Option Nat) {h : H} (ok : h.ok) :
    Ev (C 302 [k.v, .int .i64 q, .int .i64 i, bookV bk] h) fun r => Got (wordB k q i && bk.isSome) r.1 ∧ Fr [] h r.2 := by
  refine call_ev (af := F.field_fresh) (by kernel_rfl) rfl ?_
  obtain ⟨n, hB, hn⟩ := body_any k q i
  have hv : k.v = .agg [.int .i64 k.s, .int .i64 k.a, .int .i64 k.c, .int .i64 k.hd, .int .i64 k.g, .int .i64 k.st] := rfl
  rw [hv] at hB ⊢
  rw [S.field_fresh_eq]
  cases hw : wordB k q i with
  | false =>
    have h0 := hn.mpr hw
    simp only [S.field_fresh, nilc_ptr, lenSl_sl, lenSl_nil, eqPtr_ptr, eqPtr_nil, eqPtr_ptr', eqSl_sl, eqSl_nil, ptrAt_ptr, Option.bind_some, Option.map_some, ld1_get', ldN_get', st_get', get_put', get_new', put_put', ldB_cells, ldNB_cells, stB_cells, H.next_new, H.next_put, List.getElem?_cons_zero, List.getElem?_cons_succ, Nat.zero_add, Nat.add_zero, Nat.reduceAdd, Nat.reduceLeDiff, Nat.reduceLT, Nat.reduceMul, Nat.reduceSub, Nat.reduceEqDiff, Int.reduceEq, Int.reduceLT, Int.reduceLE, Int.reduceNeg, V.one, V.cells, V.beq, V.beqs, ckB_some, asI_int, asB_bool, asIAny, asS, List.length_cons, List.length_nil, Nat.beq_refl, List.all_cons, List.all_nil, Bool.and_true, Bool.and_false, Bool.true_and, Bool.false_and, Bool.not_true, Bool.not_false, Bool.or_false, Bool.false_or, Bool.or_self, Bool.and_self, decide_true, decide_false, if_true, if_false, splice, List.take_succ_cons, List.take_zero, List.drop_succ_cons, List.drop_zero, List.cons_append, List.nil_append, List.set_cons_zero, List.set_cons_succ, reduceCtorEq, fill, repl, opd, boxc, finV, resAllV, resOfV, result, eqV, eqIfc, aggCells, part, W_call, Nat.reduceBEq, Nat.beq_eq, hB, h0]
    exact Ev.some ⟨rfl, (Fr.refl ok).new _⟩
  | true =>
    have h0 : ¬ n < 0 := fun p => by rw [hn.mp p] at hw; cases hw
    cases bk with
    | none =>
      simp only [S.field_fresh, bookV, nilc_ptr, lenSl_sl, lenSl_nil, eqPtr_ptr, eqPtr_nil, eqPtr_ptr', eqSl_sl, eqSl_nil, ptrAt_ptr, Option.bind_some, Option.map_some, ld1_get', ldN_get', st_get', get_put', get_new', put_put', ldB_cells, ldNB_cells, stB_cells, H.next_new, H.next_put, List.getElem?_cons_zero, List.getElem?_cons_succ, Nat.zero_add, Nat.add_zero, Nat.reduceAdd, Nat.reduceLeDiff, Nat.reduceLT, Nat.reduceMul, Nat.reduceSub, Nat.reduceEqDiff, Int.reduceEq, Int.reduceLT, Int.reduceLE, Int.reduceNeg, V.one, V.cells, V.beq, V.beqs, ckB_some, asI_int, asB_bool, asIAny, asS, List.length_cons, List.length_nil, Nat.beq_refl, List.all_cons, List.all_nil, Bool.and_true, Bool.and_false, Bool.true_and, Bool.false_and, Bool.not_true, Bool.not_false, Bool.or_false, Bool.false_or, Bool.or_self, Bool.and_self, decide_true, decide_false, if_true, if_false, splice, List.take_succ_cons, List.take_zero, List.drop_succ_cons, List.drop_zero, List.cons_append, List.nil_append, List.set_cons_zero, List.set_cons_succ, reduceCtorEq, fill, repl, opd, boxc, finV, resAllV, resOfV, result, eqV, eqIfc, aggCells, part, W_call, Nat.reduceBEq, Nat.beq_eq, hB, h0]
      exact Ev.some ⟨rfl, (Fr.refl ok).new _⟩
    | some b =>
      simp only [S.field_fresh, bookV, nilc_ptr, lenSl_sl, lenSl_nil, eqPtr_ptr, eqPtr_nil, eqPtr_ptr', eqSl_sl, eqSl_nil, ptrAt_ptr, Option.bind_some, Option.map_some, ld1_get', ldN_get', st_get', get_put', get_new', put_put', ldB_cells, ldNB_cells, stB_cells, H.next_new, H.next_put, List.getElem?_cons_zero, List.getElem?_cons_succ, Nat.zero_add, Nat.add_zero, Nat.reduceAdd, Nat.reduceLeDiff, Nat.reduceLT, Nat.reduceMul, Nat.reduceSub, Nat.reduceEqDiff, Int.reduceEq, Int.reduceLT, Int.reduceLE, Int.reduceNeg, V.one, V.cells, V.beq, V.beqs, ckB_some, asI_int, asB_bool, asIAny, asS, List.length_cons, List.length_nil, Nat.beq_refl, List.all_cons, List.all_nil, Bool.and_true, Bool.and_false, Bool.true_and, Bool.false_and, Bool.not_true, Bool.not_false, Bool.or_false, Bool.false_or, Bool.or_self, Bool.and_self, decide_true, decide_false, if_true, if_false, splice, List.take_succ_cons, List.take_zero, List.drop_succ_cons, List.drop_zero, List.cons_append, List.nil_append, List.set_cons_zero, List.set_cons_succ, reduceCtorEq, fill, repl, opd, boxc, finV, resAllV, resOfV, result, eqV, eqIfc, aggCells, part, W_call, Nat.reduceBEq, Nat.beq_eq, hB, h0]
      exact Ev.some ⟨⟨_, rfl⟩, ((Fr.refl ok).new _).new _⟩

theorem newRead_any (k : Cfg) (q i : Int) (bk : Option Nat) {h : H} (ok : h.ok) :
    Ev (C 127 [k.v, .int .i64 q, .int .i64 i, bookV bk] h) fun r => Got (wordB k q i && bk.isSome) r.1 ∧ Fr [] h r.2 := by
  refine call_ev (af := F.field_NewRead) (by kernel_rfl) rfl ?_
  have hv : k.v = .agg [.int .i64 k.s, .int .i64 k.a, .int .i64 k.c, .int .i64 k.hd, .int .i64 k.g, .int .i64 k.st] := rfl
  have hf := fresh_any k q i bk (ok.new (.cells [.int .i64 k.s, .int .i64 k.a, .int .i64 k.c, .int .i64 k.hd, .int .i64 k.g, .int .i64 k.st] .rw))
  rw [hv] at hf ⊢
  rw [S.field_NewRead_eq]
  simp only [S.field_NewRead, nilc_ptr, lenSl_sl, lenSl_nil, eqPtr_ptr, eqPtr_nil, eqPtr_ptr', eqSl_sl, eqSl_nil, ptrAt_ptr, Option.bind_some, Option.map_some, ld1_get', ldN_get', st_get', get_put', get_new', put_put', ldB_cells, ldNB_cells, stB_cells, H.next_new, H.next_put, List.getElem?_cons_zero, List.getElem?_cons_succ, Nat.zero_add, Nat.add_zero, Nat.reduceAdd, Nat.reduceLeDiff, Nat.reduceLT, Nat.reduceMul, Nat.reduceSub, Nat.reduceEqDiff, Int.reduceEq, Int.reduceLT, Int.reduceLE, Int.reduceNeg, V.one, V.cells, V.beq, V.beqs, ckB_some, asI_int, asB_bool, asIAny, asS, List.length_cons, List.length_nil, Nat.beq_refl, List.all_cons, List.all_nil, Bool.and_true, Bool.and_false, Bool.true_and, Bool.false_and, Bool.not_true, Bool.not_false, Bool.or_false, Bool.false_or, Bool.or_self, Bool.and_self, decide_true, decide_false, if_true, if_false, splice, List.take_succ_cons, List.take_zero, List.drop_succ_cons, List.drop_zero, List.cons_append, List.nil_append, List.set_cons_zero, List.set_cons_succ, reduceCtorEq, fill, repl, opd, boxc, finV, resAllV, resOfV, result, eqV, eqIfc, aggCells, part, W_call, Nat.reduceBEq, Nat.beq_eq]
  refine Ev.bind hf ?_
  rintro ⟨v, g⟩ ⟨G, F1⟩
  dsimp only at G F1 ⊢
  have F2 := ((Fr.refl (L := []) ok).new (.cells [.int .i64 k.s, .int .i64 k.a, .int .i64 k.c, .int .i64 k.hd, .int .i64 k.g, .int .i64 k.st] .rw)).trans F1 (by simp)
  cases hc : (wordB k q i && bk.isSome) with
  | false =>
    rw [hc] at G
    cases G
    simp only [nilc_ptr, lenSl_sl, lenSl_nil, eqPtr_ptr, eqPtr_nil, eqPtr_ptr', eqSl_sl, eqSl_nil, ptrAt_ptr, Option.bind_some, Option.map_some, ld1_get', ldN_get', st_get', get_put', get_new', put_put', ldB_cells, ldNB_cells, stB_cells, H.next_new, H.next_put, List.getElem?_cons_zero, List.getElem?_cons_succ, Nat.zero_add, Nat.add_zero, Nat.reduceAdd, Nat.reduceLeDiff, Nat.reduceLT, Nat.reduceMul, Nat.reduceSub, Nat.reduceEqDiff, Int.reduceEq, Int.reduceLT, Int.reduceLE, Int.reduceNeg, V.one, V.cells, V.beq, V.beqs, ckB_some, asI_int, asB_bool, asIAny, asS, List.length_cons, List.length_nil, Nat.beq_refl, List.all_cons, List.all_nil, Bool.and_true, Bool.and_false, Bool.true_and, Bool.false_and, Bool.not_true, Bool.not_false, Bool.or_false, Bool.false_or, Bool.or_self, Bool.and_self, decide_true, decide_false, if_true, if_false, splice, List.take_succ_cons, List.take_zero, List.drop_succ_cons, List.drop_zero, List.cons_append, List.nil_append, List.set_cons_zero, List.set_cons_succ, reduceCtorEq, fill, repl, opd, boxc, finV, resAllV, resOfV, result, eqV, eqIfc, aggCells, part, W_call, Nat.reduceBEq, Nat.beq_eq]
    exact Ev.some ⟨rfl, F2⟩
  | true =>
    rw [hc] at G
    obtain ⟨b, rfl⟩ := G
    simp only [nilc_ptr, lenSl_sl, lenSl_nil, eqPtr_ptr, eqPtr_nil, eqPtr_ptr', eqSl_sl, eqSl_nil, ptrAt_ptr, Option.bind_some, Option.map_some, ld1_get', ldN_get', st_get', get_put', get_new', put_put', ldB_cells, ldNB_cells, stB_cells, H.next_new, H.next_put, List.getElem?_cons_zero, List.getElem?_cons_succ, Nat.zero_add, Nat.add_zero, Nat.reduceAdd, Nat.reduceLeDiff, Nat.reduceLT, Nat.reduceMul, Nat.reduceSub, Nat.reduceEqDiff, Int.reduceEq, Int.reduceLT, Int.reduceLE, Int.reduceNeg, V.one, V.cells, V.beq, V.beqs, ckB_some, asI_int, asB_bool, asIAny, asS, List.length_cons, List.length_nil, Nat.beq_refl, List.all_cons, List.all_nil, Bool.and_true, Bool.and_false, Bool.true_and, Bool.false_and, Bool.not_true, Bool.not_false, Bool.or_false, Bool.false_or, Bool.or_self, Bool.and_self, decide_true, decide_false, if_true, if_false, splice, List.take_succ_cons, List.take_zero, List.drop_succ_cons, List.drop_zero, List.cons_append, List.nil_append, List.set_cons_zero, List.set_cons_succ, reduceCtorEq, fill, repl, opd, boxc, finV, resAllV, resOfV, result, eqV, eqIfc, aggCells, part, W_call, Nat.reduceBEq, Nat.beq_eq]
    exact Ev.some ⟨⟨_, rfl⟩, F2.new _⟩

theorem newSee_any (k : Cfg) (q i e : Int) (bk : Option Nat) {h : H} (ok : h.ok) :
    Ev (C 146 [k.v, .int .i64 q, .int .i64 i, .int .u64 e, bookV bk] h) fun r => Got (wordB k q i && bk.isSome) r.1 ∧ Fr [] h r.2 := by
  refine call_ev (af := F.field_NewSee) (by kernel_rfl) rfl ?_
  have hv : k.v = .agg [.int .i64 k.s, .int .i64 k.a, .int .i64 k.c, .int .i64 k.hd, .int .i64 k.g, .int .i64 k.st] := rfl
  have hf := fresh_any k q i bk (ok.new (.cells [.int .i64 k.s, .int .i64 k.a, .int .i64 k.c, .int .i64 k.hd, .int .i64 k.g, .int .i64 k.st] .rw))
  rw [hv] at hf ⊢
  rw [S.field_NewSee_eq]
  simp only [S.field_NewSee, nilc_ptr, lenSl_sl, lenSl_nil, eqPtr_ptr, eqPtr_nil, eqPtr_ptr', eqSl_sl, eqSl_nil, ptrAt_ptr, Option.bind_some, Option.map_some, ld1_get', ldN_get', st_get', get_put', get_new', put_put', ldB_cells, ldNB_cells, stB_cells, H.next_new, H.next_put, List.getElem?_cons_zero, List.getElem?_cons_succ, Nat.zero_add, Nat.add_zero, Nat.reduceAdd, Nat.reduceLeDiff, Nat.reduceLT, Nat.reduceMul, Nat.reduceSub, Nat.reduceEqDiff, Int.reduceEq, Int.reduceLT, Int.reduceLE, Int.reduceNeg, V.one, V.cells, V.beq, V.beqs, ckB_some, asI_int, asB_bool, asIAny, asS, List.length_cons, List.length_nil, Nat.beq_refl, List.all_cons, List.all_nil, Bool.and_true, Bool.and_false, Bool.true_and, Bool.false_and, Bool.not_true, Bool.not_false, Bool.or_false, Bool.false_or, Bool.or_self, Bool.and_self, decide_true, decide_false, if_true, if_false, splice, List.take_succ_cons, List.take_zero, List.drop_succ_cons, List.drop_zero, List.cons_append, List.nil_append, List.set_cons_zero, List.set_cons_succ, reduceCtorEq, fill, repl, opd, boxc, finV, resAllV, resOfV, result, eqV, eqIfc, aggCells, part, W_call, Nat.reduceBEq, Nat.beq_eq]
  refine Ev.bind hf ?_
  rintro ⟨v, g⟩ ⟨G, F1⟩
  dsimp only at G F1 ⊢
  have F2 := ((Fr.refl (L := []) ok).new (.cells [.int .i64 k.s, .int .i64 k.a, .int .i64 k.c, .int .i64 k.hd, .int .i64 k.g, .int .i64 k.st] .rw)).trans F1 (by simp)
  cases hc : (wordB k q i && bk.isSome) with
  | false =>
    rw [hc] at G
    cases G
    simp only [nilc_ptr, lenSl_sl, lenSl_nil, eqPtr_ptr, eqPtr_nil, eqPtr_ptr', eqSl_sl, eqSl_nil, ptrAt_ptr, Option.bind_some, Option.map_some, ld1_get', ldN_get', st_get', get_put', get_new', put_put', ldB_cells, ldNB_cells, stB_cells, H.next_new, H.next_put, List.getElem?_cons_zero, List.getElem?_cons_succ, Nat.zero_add, Nat.add_zero, Nat.reduceAdd, Nat.reduceLeDiff, Nat.reduceLT, Nat.reduceMul, Nat.reduceSub, Nat.reduceEqDiff, Int.reduceEq, Int.reduceLT, Int.reduceLE, Int.reduceNeg, V.one, V.cells, V.beq, V.beqs, ckB_some, asI_int, asB_bool, asIAny, asS, List.length_cons, List.length_nil, Nat.beq_refl, List.all_cons, List.all_nil, Bool.and_true, Bool.and_false, Bool.true_and, Bool.false_and, Bool.not_true, Bool.not_false, Bool.or_false, Bool.false_or, Bool.or_self, Bool.and_self, decide_true, decide_false, if_true, if_false, splice, List.take_succ_cons, List.take_zero, List.drop_succ_cons, List.drop_zero, List.cons_append, List.nil_append, List.set_cons_zero, List.set_cons_succ, reduceCtorEq, fill, repl, opd, boxc, finV, resAllV, resOfV, result, eqV, eqIfc, aggCells, part, W_call, Nat.reduceBEq, Nat.beq_eq]
    exact Ev.some ⟨rfl, F2⟩
  | true =>
    rw [hc] at G
    obtain ⟨b, rfl⟩ := G
    simp only [nilc_ptr, lenSl_sl, lenSl_nil, eqPtr_ptr, eqPtr_nil, eqPtr_ptr', eqSl_sl, eqSl_nil, ptrAt_ptr, Option.bind_some, Option.map_some, ld1_get', ldN_get', st_get', get_put', get_new', put_put', ldB_cells, ldNB_cells, stB_cells, H.next_new, H.next_put, List.getElem?_cons_zero, List.getElem?_cons_succ, Nat.zero_add, Nat.add_zero, Nat.reduceAdd, Nat.reduceLeDiff, Nat.reduceLT, Nat.reduceMul, Nat.reduceSub, Nat.reduceEqDiff, Int.reduceEq, Int.reduceLT, Int.reduceLE, Int.reduceNeg, V.one, V.cells, V.beq, V.beqs, ckB_some, asI_int, asB_bool, asIAny, asS, List.length_cons, List.length_nil, Nat.beq_refl, List.all_cons, List.all_nil, Bool.and_true, Bool.and_false, Bool.true_and, Bool.false_and, Bool.not_true, Bool.not_false, Bool.or_false, Bool.false_or, Bool.or_self, Bool.and_self, decide_true, decide_false, if_true, if_false, splice, List.take_succ_cons, List.take_zero, List.drop_succ_cons, List.drop_zero, List.cons_append, List.nil_append, List.set_cons_zero, List.set_cons_succ, reduceCtorEq, fill, repl, opd, boxc, finV, resAllV, resOfV, result, eqV, eqIfc, aggCells, part, W_call, Nat.reduceBEq, Nat.beq_eq]
    exact Ev.some ⟨⟨_, rfl⟩, F2.new _⟩

theorem newLay_any (k : Cfg) (q i rec x e : Int) (bk : Option Nat) {h : H} (ok : h.ok) :
    Ev (C 132 [k.v, .int .i64 q, .int .i64 i, .int .i64 rec, .int .i64 x, .int .u64 e, bookV bk] h) fun r => Got ((wordB k q i && bk.isSome) && slotB k rec) r.1 ∧ Fr [] h r.2 := by
  refine call_ev (af := F.field_NewLay) (by kernel_rfl) rfl ?_
  have hv : k.v = .agg [.int .i64 k.s, .int .i64 k.a, .int .i64 k.c, .int .i64 k.hd, .int .i64 k.g, .int .i64 k.st] := rfl
  obtain ⟨n, hB, hn⟩ := header_any k rec
  have hf := fresh_any k q i bk (ok.new (.cells [.int .i64 k.s, .int .i64 k.a, .int .i64 k.c, .int .i64 k.hd, .int .i64 k.g, .int .i64 k.st] .rw))
  rw [hv] at hf hB ⊢
  rw [S.field_NewLay_eq]
  simp only [S.field_NewLay, nilc_ptr, lenSl_sl, lenSl_nil, eqPtr_ptr, eqPtr_nil, eqPtr_ptr', eqSl_sl, eqSl_nil, ptrAt_ptr, Option.bind_some, Option.map_some, ld1_get', ldN_get', st_get', get_put', get_new', put_put', ldB_cells, ldNB_cells, stB_cells, H.next_new, H.next_put, List.getElem?_cons_zero, List.getElem?_cons_succ, Nat.zero_add, Nat.add_zero, Nat.reduceAdd, Nat.reduceLeDiff, Nat.reduceLT, Nat.reduceMul, Nat.reduceSub, Nat.reduceEqDiff, Int.reduceEq, Int.reduceLT, Int.reduceLE, Int.reduceNeg, V.one, V.cells, V.beq, V.beqs, ckB_some, asI_int, asB_bool, asIAny, asS, List.length_cons, List.length_nil, Nat.beq_refl, List.all_cons, List.all_nil, Bool.and_true, Bool.and_false, Bool.true_and, Bool.false_and, Bool.not_true, Bool.not_false, Bool.or_false, Bool.false_or, Bool.or_self, Bool.and_self, decide_true, decide_false, if_true, if_false, splice, List.take_succ_cons, List.take_zero, List.drop_succ_cons, List.drop_zero, List.cons_append, List.nil_append, List.set_cons_zero, List.set_cons_succ, reduceCtorEq, fill, repl, opd, boxc, finV, resAllV, resOfV, result, eqV, eqIfc, aggCells, part, W_call, Nat.reduceBEq, Nat.beq_eq]
  refine Ev.bind hf ?_
  rintro ⟨v, g⟩ ⟨G, F1⟩
  dsimp only at G F1 ⊢
  have F2 := ((Fr.refl (L := []) ok).new (.cells [.int .i64 k.s, .int .i64 k.a, .int .i64 k.c, .int .i64 k.hd, .int .i64 k.g, .int .i64 k.st] .rw)).trans F1 (by simp)
  have o1 : g.get h.next = some (.cells [.int .i64 k.s, .int .i64 k.a, .int .i64 k.c, .int .i64 k.hd, .int .i64 k.g, .int .i64 k.st] .rw) := F1.get (ok.new _) (get_new_self _ _) (by simp)
  cases hc : (wordB k q i && bk.isSome) with
  | false =>
    rw [hc] at G
    cases G
    simp only [nilc_ptr, lenSl_sl, lenSl_nil, eqPtr_ptr, eqPtr_nil, eqPtr_ptr', eqSl_sl, eqSl_nil, ptrAt_ptr, Option.bind_some, Option.map_some, ld1_get', ldN_get', st_get', get_put', get_new', put_put', ldB_cells, ldNB_cells, stB_cells, H.next_new, H.next_put, List.getElem?_cons_zero, List.getElem?_cons_succ, Nat.zero_add, Nat.add_zero, Nat.reduceAdd, Nat.reduceLeDiff, Nat.reduceLT, Nat.reduceMul, Nat.reduceSub, Nat.reduceEqDiff, Int.reduceEq, Int.reduceLT, Int.reduceLE, Int.reduceNeg, V.one, V.cells, V.beq, V.beqs, ckB_some, asI_int, asB_bool, asIAny, asS, List.length_cons, List.length_nil, Nat.beq_refl, List.all_cons, List.all_nil, Bool.and_true, Bool.and_false, Bool.true_and, Bool.false_and, Bool.not_true, Bool.not_false, Bool.or_false, Bool.false_or, Bool.or_self, Bool.and_self, decide_true, decide_false, if_true, if_false, splice, List.take_succ_cons, List.take_zero, List.drop_succ_cons, List.drop_zero, List.cons_append, List.nil_append, List.set_cons_zero, List.set_cons_succ, reduceCtorEq, fill, repl, opd, boxc, finV, resAllV, resOfV, result, eqV, eqIfc, aggCells, part, W_call, Nat.reduceBEq, Nat.beq_eq]
    exact Ev.some ⟨rfl, F2⟩
  | true =>
    rw [hc] at G
    obtain ⟨b, rfl⟩ := G
    cases hs : slotB k rec with
    | false =>
      have h0 := hn.mpr hs
      simp only [nilc_ptr, lenSl_sl, lenSl_nil, eqPtr_ptr, eqPtr_nil, eqPtr_ptr', eqSl_sl, eqSl_nil, ptrAt_ptr, Option.bind_some, Option.map_some, ld1_get', ldN_get', st_get', get_put', get_new', put_put', ldB_cells, ldNB_cells, stB_cells, H.next_new, H.next_put, List.getElem?_cons_zero, List.getElem?_cons_succ, Nat.zero_add, Nat.add_zero, Nat.reduceAdd, Nat.reduceLeDiff, Nat.reduceLT, Nat.reduceMul, Nat.reduceSub, Nat.reduceEqDiff, Int.reduceEq, Int.reduceLT, Int.reduceLE, Int.reduceNeg, V.one, V.cells, V.beq, V.beqs, ckB_some, asI_int, asB_bool, asIAny, asS, List.length_cons, List.length_nil, Nat.beq_refl, List.all_cons, List.all_nil, Bool.and_true, Bool.and_false, Bool.true_and, Bool.false_and, Bool.not_true, Bool.not_false, Bool.or_false, Bool.false_or, Bool.or_self, Bool.and_self, decide_true, decide_false, if_true, if_false, splice, List.take_succ_cons, List.take_zero, List.drop_succ_cons, List.drop_zero, List.cons_append, List.nil_append, List.set_cons_zero, List.set_cons_succ, reduceCtorEq, fill, repl, opd, boxc, finV, resAllV, resOfV, result, eqV, eqIfc, aggCells, part, W_call, Nat.reduceBEq, Nat.beq_eq, o1, hB, h0]
      exact Ev.some ⟨rfl, F2⟩
    | true =>
      have h0 : ¬ n < 0 := fun p => by rw [hn.mp p] at hs; cases hs
      simp only [nilc_ptr, lenSl_sl, lenSl_nil, eqPtr_ptr, eqPtr_nil, eqPtr_ptr', eqSl_sl, eqSl_nil, ptrAt_ptr, Option.bind_some, Option.map_some, ld1_get', ldN_get', st_get', get_put', get_new', put_put', ldB_cells, ldNB_cells, stB_cells, H.next_new, H.next_put, List.getElem?_cons_zero, List.getElem?_cons_succ, Nat.zero_add, Nat.add_zero, Nat.reduceAdd, Nat.reduceLeDiff, Nat.reduceLT, Nat.reduceMul, Nat.reduceSub, Nat.reduceEqDiff, Int.reduceEq, Int.reduceLT, Int.reduceLE, Int.reduceNeg, V.one, V.cells, V.beq, V.beqs, ckB_some, asI_int, asB_bool, asIAny, asS, List.length_cons, List.length_nil, Nat.beq_refl, List.all_cons, List.all_nil, Bool.and_true, Bool.and_false, Bool.true_and, Bool.false_and, Bool.not_true, Bool.not_false, Bool.or_false, Bool.false_or, Bool.or_self, Bool.and_self, decide_true, decide_false, if_true, if_false, splice, List.take_succ_cons, List.take_zero, List.drop_succ_cons, List.drop_zero, List.cons_append, List.nil_append, List.set_cons_zero, List.set_cons_succ, reduceCtorEq, fill, repl, opd, boxc, finV, resAllV, resOfV, result, eqV, eqIfc, aggCells, part, W_call, Nat.reduceBEq, Nat.beq_eq, o1, hB, h0]
      exact Ev.some ⟨⟨_, rfl⟩, F2.new _⟩

theorem newStamp_any (k : Cfg) (rec : Int) (bk : Option Nat) {h : H} (ok : h.ok) :
    Ev (C 151 [k.v, .int .i64 rec, bookV bk] h) fun r => Got (slotB k rec && bk.isSome) r.1 ∧ Fr [] h r.2 := by
  refine call_ev (af := F.field_NewStamp) (by kernel_rfl) rfl ?_
  have hv : k.v = .agg [.int .i64 k.s, .int .i64 k.a, .int .i64 k.c, .int .i64 k.hd, .int .i64 k.g, .int .i64 k.st] := rfl
  obtain ⟨n, hB, hn⟩ := header_any k rec
  rw [hv] at hB ⊢
  rw [S.field_NewStamp_eq]
  cases hs : slotB k rec with
  | false =>
    have h0 := hn.mpr hs
    simp only [S.field_NewStamp, nilc_ptr, lenSl_sl, lenSl_nil, eqPtr_ptr, eqPtr_nil, eqPtr_ptr', eqSl_sl, eqSl_nil, ptrAt_ptr, Option.bind_some, Option.map_some, ld1_get', ldN_get', st_get', get_put', get_new', put_put', ldB_cells, ldNB_cells, stB_cells, H.next_new, H.next_put, List.getElem?_cons_zero, List.getElem?_cons_succ, Nat.zero_add, Nat.add_zero, Nat.reduceAdd, Nat.reduceLeDiff, Nat.reduceLT, Nat.reduceMul, Nat.reduceSub, Nat.reduceEqDiff, Int.reduceEq, Int.reduceLT, Int.reduceLE, Int.reduceNeg, V.one, V.cells, V.beq, V.beqs, ckB_some, asI_int, asB_bool, asIAny, asS, List.length_cons, List.length_nil, Nat.beq_refl, List.all_cons, List.all_nil, Bool.and_true, Bool.and_false, Bool.true_and, Bool.false_and, Bool.not_true, Bool.not_false, Bool.or_false, Bool.false_or, Bool.or_self, Bool.and_self, decide_true, decide_false, if_true, if_false, splice, List.take_succ_cons, List.take_zero, List.drop_succ_cons, List.drop_zero, List.cons_append, List.nil_append, List.set_cons_zero, List.set_cons_succ, reduceCtorEq, fill, repl, opd, boxc, finV, resAllV, resOfV, result, eqV, eqIfc, aggCells, part, W_call, Nat.reduceBEq, Nat.beq_eq, hB, h0]
    exact Ev.some ⟨rfl, (Fr.refl ok).new _⟩
  | true =>
    have h0 : ¬ n < 0 := fun p => by rw [hn.mp p] at hs; cases hs
    cases bk with
    | none =>
      simp only [S.field_NewStamp, bookV, nilc_ptr, lenSl_sl, lenSl_nil, eqPtr_ptr, eqPtr_nil, eqPtr_ptr', eqSl_sl, eqSl_nil, ptrAt_ptr, Option.bind_some, Option.map_some, ld1_get', ldN_get', st_get', get_put', get_new', put_put', ldB_cells, ldNB_cells, stB_cells, H.next_new, H.next_put, List.getElem?_cons_zero, List.getElem?_cons_succ, Nat.zero_add, Nat.add_zero, Nat.reduceAdd, Nat.reduceLeDiff, Nat.reduceLT, Nat.reduceMul, Nat.reduceSub, Nat.reduceEqDiff, Int.reduceEq, Int.reduceLT, Int.reduceLE, Int.reduceNeg, V.one, V.cells, V.beq, V.beqs, ckB_some, asI_int, asB_bool, asIAny, asS, List.length_cons, List.length_nil, Nat.beq_refl, List.all_cons, List.all_nil, Bool.and_true, Bool.and_false, Bool.true_and, Bool.false_and, Bool.not_true, Bool.not_false, Bool.or_false, Bool.false_or, Bool.or_self, Bool.and_self, decide_true, decide_false, if_true, if_false, splice, List.take_succ_cons, List.take_zero, List.drop_succ_cons, List.drop_zero, List.cons_append, List.nil_append, List.set_cons_zero, List.set_cons_succ, reduceCtorEq, fill, repl, opd, boxc, finV, resAllV, resOfV, result, eqV, eqIfc, aggCells, part, W_call, Nat.reduceBEq, Nat.beq_eq, hB, h0]
      exact Ev.some ⟨rfl, (Fr.refl ok).new _⟩
    | some b =>
      simp only [S.field_NewStamp, bookV, nilc_ptr, lenSl_sl, lenSl_nil, eqPtr_ptr, eqPtr_nil, eqPtr_ptr', eqSl_sl, eqSl_nil, ptrAt_ptr, Option.bind_some, Option.map_some, ld1_get', ldN_get', st_get', get_put', get_new', put_put', ldB_cells, ldNB_cells, stB_cells, H.next_new, H.next_put, List.getElem?_cons_zero, List.getElem?_cons_succ, Nat.zero_add, Nat.add_zero, Nat.reduceAdd, Nat.reduceLeDiff, Nat.reduceLT, Nat.reduceMul, Nat.reduceSub, Nat.reduceEqDiff, Int.reduceEq, Int.reduceLT, Int.reduceLE, Int.reduceNeg, V.one, V.cells, V.beq, V.beqs, ckB_some, asI_int, asB_bool, asIAny, asS, List.length_cons, List.length_nil, Nat.beq_refl, List.all_cons, List.all_nil, Bool.and_true, Bool.and_false, Bool.true_and, Bool.false_and, Bool.not_true, Bool.not_false, Bool.or_false, Bool.false_or, Bool.or_self, Bool.and_self, decide_true, decide_false, if_true, if_false, splice, List.take_succ_cons, List.take_zero, List.drop_succ_cons, List.drop_zero, List.cons_append, List.nil_append, List.set_cons_zero, List.set_cons_succ, reduceCtorEq, fill, repl, opd, boxc, finV, resAllV, resOfV, result, eqV, eqIfc, aggCells, part, W_call, Nat.reduceBEq, Nat.beq_eq, hB, h0]
      exact Ev.some ⟨⟨_, rfl⟩, ((Fr.refl ok).new _).new _⟩

theorem newTurn_any (k : Cfg) (bk : Option Nat) {h : H} (ok : h.ok) :
    Ev (C 144 [k.v, bookV bk] h) fun r => Got (k.R && bk.isSome) r.1 ∧ Fr [] h r.2 := by
  refine call_ev (af := F.field_NewTurn) (by kernel_rfl) rfl ?_
  have hH : ∀ h, C 263 [.agg [.int .i64 k.s, .int .i64 k.a, .int .i64 k.c, .int .i64 k.hd, .int .i64 k.g, .int .i64 k.st]] h = some (.bool k.R, h) := fun h => planRight_spec k.s k.a k.c k.hd k.g k.st h
  have hv : k.v = .agg [.int .i64 k.s, .int .i64 k.a, .int .i64 k.c, .int .i64 k.hd, .int .i64 k.g, .int .i64 k.st] := rfl
  rw [hv, S.field_NewTurn_eq]
  cases hr : k.R with
  | false =>
    rw [hr] at hH
    simp only [S.field_NewTurn, nilc_ptr, lenSl_sl, lenSl_nil, eqPtr_ptr, eqPtr_nil, eqPtr_ptr', eqSl_sl, eqSl_nil, ptrAt_ptr, Option.bind_some, Option.map_some, ld1_get', ldN_get', st_get', get_put', get_new', put_put', ldB_cells, ldNB_cells, stB_cells, H.next_new, H.next_put, List.getElem?_cons_zero, List.getElem?_cons_succ, Nat.zero_add, Nat.add_zero, Nat.reduceAdd, Nat.reduceLeDiff, Nat.reduceLT, Nat.reduceMul, Nat.reduceSub, Nat.reduceEqDiff, Int.reduceEq, Int.reduceLT, Int.reduceLE, Int.reduceNeg, V.one, V.cells, V.beq, V.beqs, ckB_some, asI_int, asB_bool, asIAny, asS, List.length_cons, List.length_nil, Nat.beq_refl, List.all_cons, List.all_nil, Bool.and_true, Bool.and_false, Bool.true_and, Bool.false_and, Bool.not_true, Bool.not_false, Bool.or_false, Bool.false_or, Bool.or_self, Bool.and_self, decide_true, decide_false, if_true, if_false, splice, List.take_succ_cons, List.take_zero, List.drop_succ_cons, List.drop_zero, List.cons_append, List.nil_append, List.set_cons_zero, List.set_cons_succ, reduceCtorEq, fill, repl, opd, boxc, finV, resAllV, resOfV, result, eqV, eqIfc, aggCells, part, W_call, Nat.reduceBEq, Nat.beq_eq, hH]
    exact Ev.some ⟨rfl, (Fr.refl ok).new _⟩
  | true =>
    rw [hr] at hH
    cases bk with
    | none =>
      simp only [S.field_NewTurn, bookV, nilc_ptr, lenSl_sl, lenSl_nil, eqPtr_ptr, eqPtr_nil, eqPtr_ptr', eqSl_sl, eqSl_nil, ptrAt_ptr, Option.bind_some, Option.map_some, ld1_get', ldN_get', st_get', get_put', get_new', put_put', ldB_cells, ldNB_cells, stB_cells, H.next_new, H.next_put, List.getElem?_cons_zero, List.getElem?_cons_succ, Nat.zero_add, Nat.add_zero, Nat.reduceAdd, Nat.reduceLeDiff, Nat.reduceLT, Nat.reduceMul, Nat.reduceSub, Nat.reduceEqDiff, Int.reduceEq, Int.reduceLT, Int.reduceLE, Int.reduceNeg, V.one, V.cells, V.beq, V.beqs, ckB_some, asI_int, asB_bool, asIAny, asS, List.length_cons, List.length_nil, Nat.beq_refl, List.all_cons, List.all_nil, Bool.and_true, Bool.and_false, Bool.true_and, Bool.false_and, Bool.not_true, Bool.not_false, Bool.or_false, Bool.false_or, Bool.or_self, Bool.and_self, decide_true, decide_false, if_true, if_false, splice, List.take_succ_cons, List.take_zero, List.drop_succ_cons, List.drop_zero, List.cons_append, List.nil_append, List.set_cons_zero, List.set_cons_succ, reduceCtorEq, fill, repl, opd, boxc, finV, resAllV, resOfV, result, eqV, eqIfc, aggCells, part, W_call, Nat.reduceBEq, Nat.beq_eq, hH]
      exact Ev.some ⟨rfl, (Fr.refl ok).new _⟩
    | some b =>
      simp only [S.field_NewTurn, bookV, nilc_ptr, lenSl_sl, lenSl_nil, eqPtr_ptr, eqPtr_nil, eqPtr_ptr', eqSl_sl, eqSl_nil, ptrAt_ptr, Option.bind_some, Option.map_some, ld1_get', ldN_get', st_get', get_put', get_new', put_put', ldB_cells, ldNB_cells, stB_cells, H.next_new, H.next_put, List.getElem?_cons_zero, List.getElem?_cons_succ, Nat.zero_add, Nat.add_zero, Nat.reduceAdd, Nat.reduceLeDiff, Nat.reduceLT, Nat.reduceMul, Nat.reduceSub, Nat.reduceEqDiff, Int.reduceEq, Int.reduceLT, Int.reduceLE, Int.reduceNeg, V.one, V.cells, V.beq, V.beqs, ckB_some, asI_int, asB_bool, asIAny, asS, List.length_cons, List.length_nil, Nat.beq_refl, List.all_cons, List.all_nil, Bool.and_true, Bool.and_false, Bool.true_and, Bool.false_and, Bool.not_true, Bool.not_false, Bool.or_false, Bool.false_or, Bool.or_self, Bool.and_self, decide_true, decide_false, if_true, if_false, splice, List.take_succ_cons, List.take_zero, List.drop_succ_cons, List.drop_zero, List.cons_append, List.nil_append, List.set_cons_zero, List.set_cons_succ, reduceCtorEq, fill, repl, opd, boxc, finV, resAllV, resOfV, result, eqV, eqIfc, aggCells, part, W_call, Nat.reduceBEq, Nat.beq_eq, hH]
      exact Ev.some ⟨⟨_, rfl⟩, ((Fr.refl ok).new _).new _⟩

/-! ### Of none -/
theorem readNil (m : V) (h : H) : C 128 [.nilp, m] h = some (.bool true, h) := by
  exact call_open (af := F.field_Read_Step) (by kernel_rfl) rfl (by kernel_rfl)
theorem seeNil (m : V) (h : H) : C 147 [.nilp, m] h = some (.bool true, h) := by
  exact call_open (af := F.field_See_Step) (by kernel_rfl) rfl (by kernel_rfl)
theorem layNil (m : V) (h : H) : C 133 [.nilp, m] h = some (.bool true, h) := by
  exact call_open (af := F.field_Lay_Step) (by kernel_rfl) rfl (by kernel_rfl)
theorem turnNil (m : V) (h : H) : C 145 [.nilp, m] h = some (.bool true, h) := by
  exact call_open (af := F.field_Turn_Step) (by kernel_rfl) rfl (by kernel_rfl)
theorem stampNil (m : V) (h : H) : C 150 [.nilp, m] h = some (.bool true, h) := by
  exact call_open (af := F.field_Stamp_Step) (by kernel_rfl) rfl (by kernel_rfl)
theorem bornNil (k : Int) (h : H) : C 152 [.nilp, .int .i64 k] h = some (.int .i64 (-1), h) := by
  refine call_open (af := F.field_Book_Born) (by kernel_rfl) rfl ?_
  rw [S.field_Book_Born_eq]
  simp only [S.field_Book_Born, eqV, eqPtr, Option.bind_some, Bool.not_true]
theorem turnedNil (k : Int) (h : H) : C 153 [.nilp, .int .u64 k] h = some (.int .i64 (-1), h) := by
  refine call_open (af := F.field_Book_Turned) (by kernel_rfl) rfl ?_
  rw [S.field_Book_Turned_eq]
  simp only [S.field_Book_Turned, eqV, eqPtr, Option.bind_some, Bool.not_true]

/-! ### A new book -/
def BookT.new : BookT := ⟨0, fun _ => none, fun _ => none⟩
theorem newBook_at {h : H} (ok : h.ok) : Ev (C 148 [] h) fun r => ∃ b, r.1 = .ptr b 0 ∧ Fr [] h r.2 ∧ ∃ m1 m2, b ≠ m1 ∧ b ≠ m2 ∧ m1 ≠ m2 ∧ h.next ≤ b ∧ h.next ≤ m1 ∧ h.next ≤ m2 ∧ BkAt r.2 b m1 m2 .new := by
  refine call_ev (af := F.field_NewBook) (by kernel_rfl) rfl ?_
  rw [S.field_NewBook_eq]
  unfold S.field_NewBook
  have e : ((h.new (.map [])).new (.map [])).next = h.next + 2 := rfl
  have e1 : (h.new (.map [])).next = h.next + 1 := rfl
  refine Ev.some ⟨_, rfl, (((Fr.refl ok).new _).new _).new _, h.next, h.next + 1, ?_, ?_, ?_, ?_, ?_, ?_, ⟨?_, ⟨[], ?_, ?_⟩, ⟨[], ?_, ?_⟩⟩⟩
  · rw [e]; omega
  · rw [e]; omega
  · omega
  · rw [e]; omega
  · omega
  · omega
  · exact get_new_self _ _
  · rw [get_new_ne (by rw [e]; omega), get_new_ne (by rw [e1]; omega)]; exact get_new_self _ _
  · exact findKey_nil _
  · rw [get_new_ne (by rw [e]; omega)]; exact get_new_self _ _
  · exact findKey_nil _
end Wm
end

section
/- The law IterNone, of my machine. -/
namespace Wm
attribute [local congr] bind_congr1
attribute [local irreducible] wr

theorem gotEq' {c : Bool} {v : V} (G : Got c v) : eqPtr v .nilp = some (!c) := by
  cases c with
  | false => cases G; rfl
  | true => obtain ⟨b, rfl⟩ := G; rfl

theorem newWalk_any (k : Cfg) (q e : Int) (bk : Option Nat) {h : H} (ok : h.ok) :
    Ev (C 167 [k.v, .int .i64 q, .int .u64 e, bookV bk] h) fun r => Got (slotB k q && bk.isSome) r.1 ∧ Fr [] h r.2 := by
  refine call_ev (af := F.iter_NewWalk) (by kernel_rfl) rfl ?_
  have hv : k.v = .agg [.int .i64 k.s, .int .i64 k.a, .int .i64 k.c, .int .i64 k.hd, .int .i64 k.g, .int .i64 k.st] := rfl
  obtain ⟨n, hB, hn⟩ := header_any k q
  rw [hv] at hB ⊢
  rw [S.iter_NewWalk_eq]
  cases hs : slotB k q with
  | false =>
    have h0 := hn.mpr hs
    simp only [S.iter_NewWalk, nilc_ptr, lenSl_sl, lenSl_nil, eqPtr_ptr, eqPtr_nil, eqPtr_ptr', eqSl_sl, eqSl_nil, ptrAt_ptr, Option.bind_some, Option.map_some, ld1_get', ldN_get', st_get', get_put', get_new', put_put', ldB_cells, ldNB_cells, stB_cells, H.next_new, H.next_put, List.getElem?_cons_zero, List.getElem?_cons_succ, Nat.zero_add, Nat.add_zero, Nat.reduceAdd, Nat.reduceLeDiff, Nat.reduceLT, Nat.reduceMul, Nat.reduceSub, Nat.reduceEqDiff, Int.reduceEq, Int.reduceLT, Int.reduceLE, Int.reduceNeg, V.one, V.cells, V.beq, V.beqs, ckB_some, asI_int, asB_bool, asIAny, asS, List.length_cons, List.length_nil, Nat.beq_refl, List.all_cons, List.all_nil, Bool.and_true, Bool.and_false, Bool.true_and, Bool.false_and, Bool.not_true, Bool.not_false, Bool.or_false, Bool.false_or, Bool.or_self, Bool.and_self, decide_true, decide_false, if_true, if_false, splice, List.take_succ_cons, List.take_zero, List.drop_succ_cons, List.drop_zero, List.cons_append, List.nil_append, List.set_cons_zero, List.set_cons_succ, reduceCtorEq, fill, repl, opd, boxc, finV, resAllV, resOfV, result, eqV, eqIfc, aggCells, part, W_call, Nat.reduceBEq, Nat.beq_eq, hB, h0]
    exact Ev.some ⟨rfl, (Fr.refl ok).new _⟩
  | true =>
    have h0 : ¬ n < 0 := fun p => by rw [hn.mp p] at hs; cases hs
    cases bk with
    | none =>
      simp only [S.iter_NewWalk, bookV, nilc_ptr, lenSl_sl, lenSl_nil, eqPtr_ptr, eqPtr_nil, eqPtr_ptr', eqSl_sl, eqSl_nil, ptrAt_ptr, Option.bind_some, Option.map_some, ld1_get', ldN_get', st_get', get_put', get_new', put_put', ldB_cells, ldNB_cells, stB_cells, H.next_new, H.next_put, List.getElem?_cons_zero, List.getElem?_cons_succ, Nat.zero_add, Nat.add_zero, Nat.reduceAdd, Nat.reduceLeDiff, Nat.reduceLT, Nat.reduceMul, Nat.reduceSub, Nat.reduceEqDiff, Int.reduceEq, Int.reduceLT, Int.reduceLE, Int.reduceNeg, V.one, V.cells, V.beq, V.beqs, ckB_some, asI_int, asB_bool, asIAny, asS, List.length_cons, List.length_nil, Nat.beq_refl, List.all_cons, List.all_nil, Bool.and_true, Bool.and_false, Bool.true_and, Bool.false_and, Bool.not_true, Bool.not_false, Bool.or_false, Bool.false_or, Bool.or_self, Bool.and_self, decide_true, decide_false, if_true, if_false, splice, List.take_succ_cons, List.take_zero, List.drop_succ_cons, List.drop_zero, List.cons_append, List.nil_append, List.set_cons_zero, List.set_cons_succ, reduceCtorEq, fill, repl, opd, boxc, finV, resAllV, resOfV, result, eqV, eqIfc, aggCells, part, W_call, Nat.reduceBEq, Nat.beq_eq, hB, h0]
      exact Ev.some ⟨rfl, (Fr.refl ok).new _⟩
    | some b =>
      simp only [S.iter_NewWalk, bookV, nilc_ptr, lenSl_sl, lenSl_nil, eqPtr_ptr, eqPtr_nil, eqPtr_ptr', eqSl_sl, eqSl_nil, ptrAt_ptr, Option.bind_some, Option.map_some, ld1_get', ldN_get', st_get', get_put', get_new', put_put', ldB_cells, ldNB_cells, stB_cells, H.next_new, H.next_put, List.getElem?_cons_zero, List.getElem?_cons_succ, Nat.zero_add, Nat.add_zero, Nat.reduceAdd, Nat.reduceLeDiff, Nat.reduceLT, Nat.reduceMul, Nat.reduceSub, Nat.reduceEqDiff, Int.reduceEq, Int.reduceLT, Int.reduceLE, Int.reduceNeg, V.one, V.cells, V.beq, V.beqs, ckB_some, asI_int, asB_bool, asIAny, asS, List.length_cons, List.length_nil, Nat.beq_refl, List.all_cons, List.all_nil, Bool.and_true, Bool.and_false, Bool.true_and, Bool.false_and, Bool.not_true, Bool.not_false, Bool.or_false, Bool.false_or, Bool.or_self, Bool.and_self, decide_true, decide_false, if_true, if_false, splice, List.take_succ_cons, List.take_zero, List.drop_succ_cons, List.drop_zero, List.cons_append, List.nil_append, List.set_cons_zero, List.set_cons_succ, reduceCtorEq, fill, repl, opd, boxc, finV, resAllV, resOfV, result, eqV, eqIfc, aggCells, part, W_call, Nat.reduceBEq, Nat.beq_eq, hB, h0]
      exact Ev.some ⟨⟨_, rfl⟩, ((((Fr.refl ok).new _).new _).new _).new _⟩

theorem leftNil (h : H) : C 171 [.nilp] h = some (.int .i64 0, h) := by
  refine call_open (af := F.iter_Walk_Left) (by kernel_rfl) rfl ?_
  rw [S.iter_Walk_Left_eq]
  simp only [S.iter_Walk_Left, eqV, eqPtr, Option.bind_some]
theorem frontNil (h : H) : C 172 [.nilp] h = some (.int .i64 (-1), h) := by
  refine call_open (af := F.iter_Walk_Front) (by kernel_rfl) rfl ?_
  rw [S.iter_Walk_Front_eq]
  simp only [S.iter_Walk_Front, nilc_ptr, lenSl_sl, lenSl_nil, eqPtr_ptr, eqPtr_nil, eqPtr_ptr', eqSl_sl, eqSl_nil, ptrAt_ptr, Option.bind_some, Option.map_some, ld1_get', ldN_get', st_get', get_put', get_new', put_put', ldB_cells, ldNB_cells, stB_cells, H.next_new, H.next_put, List.getElem?_cons_zero, List.getElem?_cons_succ, Nat.zero_add, Nat.add_zero, Nat.reduceAdd, Nat.reduceLeDiff, Nat.reduceLT, Nat.reduceMul, Nat.reduceSub, Nat.reduceEqDiff, Int.reduceEq, Int.reduceLT, Int.reduceLE, Int.reduceNeg, V.one, V.cells, V.beq, V.beqs, ckB_some, asI_int, asB_bool, asIAny, asS, List.length_cons, List.length_nil, Nat.beq_refl, List.all_cons, List.all_nil, Bool.and_true, Bool.and_false, Bool.true_and, Bool.false_and, Bool.not_true, Bool.not_false, Bool.or_false, Bool.false_or, Bool.or_self, Bool.and_self, decide_true, decide_false, if_true, if_false, splice, List.take_succ_cons, List.take_zero, List.drop_succ_cons, List.drop_zero, List.cons_append, List.nil_append, List.set_cons_zero, List.set_cons_succ, reduceCtorEq, fill, repl, opd, boxc, finV, resAllV, resOfV, result, eqV, eqIfc, aggCells, part, W_call, Nat.reduceBEq, Nat.beq_eq, leftNil]
theorem goNil (h : H) : C 177 [.nilp] h = some (.int .i64 (-1), h) := by
  refine call_open (af := F.iter_Walk_Go) (by kernel_rfl) rfl ?_
  rw [S.iter_Walk_Go_eq]
  simp only [S.iter_Walk_Go, nilc_ptr, lenSl_sl, lenSl_nil, eqPtr_ptr, eqPtr_nil, eqPtr_ptr', eqSl_sl, eqSl_nil, ptrAt_ptr, Option.bind_some, Option.map_some, ld1_get', ldN_get', st_get', get_put', get_new', put_put', ldB_cells, ldNB_cells, stB_cells, H.next_new, H.next_put, List.getElem?_cons_zero, List.getElem?_cons_succ, Nat.zero_add, Nat.add_zero, Nat.reduceAdd, Nat.reduceLeDiff, Nat.reduceLT, Nat.reduceMul, Nat.reduceSub, Nat.reduceEqDiff, Int.reduceEq, Int.reduceLT, Int.reduceLE, Int.reduceNeg, V.one, V.cells, V.beq, V.beqs, ckB_some, asI_int, asB_bool, asIAny, asS, List.length_cons, List.length_nil, Nat.beq_refl, List.all_cons, List.all_nil, Bool.and_true, Bool.and_false, Bool.true_and, Bool.false_and, Bool.not_true, Bool.not_false, Bool.or_false, Bool.false_or, Bool.or_self, Bool.and_self, decide_true, decide_false, if_true, if_false, splice, List.take_succ_cons, List.take_zero, List.drop_succ_cons, List.drop_zero, List.cons_append, List.nil_append, List.set_cons_zero, List.set_cons_succ, reduceCtorEq, fill, repl, opd, boxc, finV, resAllV, resOfV, result, eqV, eqIfc, aggCells, part, W_call, Nat.reduceBEq, Nat.beq_eq, leftNil]
theorem walkNil (m : V) (h : H) : C 176 [.nilp, m] h = some (.bool true, h) := by
  refine call_open (af := F.iter_Walk_Step) (by kernel_rfl) rfl ?_
  rw [S.iter_Walk_Step_eq]
  simp only [S.iter_Walk_Step, nilc_ptr, lenSl_sl, lenSl_nil, eqPtr_ptr, eqPtr_nil, eqPtr_ptr', eqSl_sl, eqSl_nil, ptrAt_ptr, Option.bind_some, Option.map_some, ld1_get', ldN_get', st_get', get_put', get_new', put_put', ldB_cells, ldNB_cells, stB_cells, H.next_new, H.next_put, List.getElem?_cons_zero, List.getElem?_cons_succ, Nat.zero_add, Nat.add_zero, Nat.reduceAdd, Nat.reduceLeDiff, Nat.reduceLT, Nat.reduceMul, Nat.reduceSub, Nat.reduceEqDiff, Int.reduceEq, Int.reduceLT, Int.reduceLE, Int.reduceNeg, V.one, V.cells, V.beq, V.beqs, ckB_some, asI_int, asB_bool, asIAny, asS, List.length_cons, List.length_nil, Nat.beq_refl, List.all_cons, List.all_nil, Bool.and_true, Bool.and_false, Bool.true_and, Bool.false_and, Bool.not_true, Bool.not_false, Bool.or_false, Bool.false_or, Bool.or_self, Bool.and_self, decide_true, decide_false, if_true, if_false, splice, List.take_succ_cons, List.take_zero, List.drop_succ_cons, List.drop_zero, List.cons_append, List.nil_append, List.set_cons_zero, List.set_cons_succ, reduceCtorEq, fill, repl, opd, boxc, finV, resAllV, resOfV, result, eqV, eqIfc, aggCells, part, W_call, Nat.reduceBEq, Nat.beq_eq, leftNil]

theorem in_c1 (x1 : Int) (x2 : Bool) (x3 : V) {h : H} (ok : h.ok) : Ev (S.withylaw20_IterNone_c1_S W x1 x2 x3 .nilp h) fun r => ∃ bk : Option Nat, bk.isSome = x2 ∧ r.1 = .normal ∧ r.2.1 = S.withylaw20_IterNone_c1_O (.int .i64 x1) (.bool x2) x3 (bookV bk) ∧ Fr [] h r.2.2 := by
  cases x2 with
  | false =>
    simp only [S.withylaw20_IterNone_c1_S]
    exact Ev.some ⟨none, rfl, rfl, rfl, Fr.refl ok⟩
  | true =>
    simp only [S.withylaw20_IterNone_c1_S, W_call]
    refine Ev.bind (newBook_at ok) ?_
    rintro ⟨v, g⟩ ⟨b, rfl, F1, _⟩
    exact Ev.some ⟨some b, rfl, rfl, rfl, F1⟩

theorem in_c3 (k : Cfg) (x1 : Int) (x2 : Bool) (b : Nat) (x7 : V) {h : H} (o : h.get b = some (.cells [.int .i64 k.s, .int .i64 k.a, .int .i64 k.c, .int .i64 k.hd, .int .i64 k.g, .int .i64 k.st] .rw)) :
    S.withylaw20_IterNone_c3_S W x1 x2 (.ptr b 0) x7 h = some (.normal, S.withylaw20_IterNone_c3_O (.int .i64 x1) (.ptr b 0) x7 (.bool (slotB k x1 && x2)), h) := by
  have hR : ∀ g : H, C 85 [.agg [.int .i64 k.s, .int .i64 k.a, .int .i64 k.c, .int .i64 k.hd, .int .i64 k.g, .int .i64 k.st]] g = some (.bool k.R, g) := fun g => ref06Right_spec k.s k.a k.c k.hd k.g k.st g
  unfold slotB
  cases hr : k.R with
  | false =>
    rw [hr] at hR
    simp only [S.withylaw20_IterNone_c3_S, nilc_ptr, lenSl_sl, lenSl_nil, eqPtr_ptr, eqPtr_nil, eqPtr_ptr', eqSl_sl, eqSl_nil, ptrAt_ptr, Option.bind_some, Option.map_some, ld1_get', ldN_get', st_get', get_put', get_new', put_put', ldB_cells, ldNB_cells, stB_cells, H.next_new, H.next_put, List.getElem?_cons_zero, List.getElem?_cons_succ, Nat.zero_add, Nat.add_zero, Nat.reduceAdd, Nat.reduceLeDiff, Nat.reduceLT, Nat.reduceMul, Nat.reduceSub, Nat.reduceEqDiff, Int.reduceEq, Int.reduceLT, Int.reduceLE, Int.reduceNeg, V.one, V.cells, V.beq, V.beqs, ckB_some, asI_int, asB_bool, asIAny, asS, List.length_cons, List.length_nil, Nat.beq_refl, List.all_cons, List.all_nil, Bool.and_true, Bool.and_false, Bool.true_and, Bool.false_and, Bool.not_true, Bool.not_false, Bool.or_false, Bool.false_or, Bool.or_self, Bool.and_self, decide_true, decide_false, if_true, if_false, splice, List.take_succ_cons, List.take_zero, List.drop_succ_cons, List.drop_zero, List.cons_append, List.nil_append, List.set_cons_zero, List.set_cons_succ, reduceCtorEq, fill, repl, opd, boxc, finV, resAllV, resOfV, result, eqV, eqIfc, aggCells, part, W_call, Nat.reduceBEq, Nat.beq_eq, o, hR]
  | true =>
    rw [hr] at hR
    by_cases a1 : 0 ≤ x1
    · by_cases a2 : x1 < k.s
      · simp only [S.withylaw20_IterNone_c3_S, nilc_ptr, lenSl_sl, lenSl_nil, eqPtr_ptr, eqPtr_nil, eqPtr_ptr', eqSl_sl, eqSl_nil, ptrAt_ptr, Option.bind_some, Option.map_some, ld1_get', ldN_get', st_get', get_put', get_new', put_put', ldB_cells, ldNB_cells, stB_cells, H.next_new, H.next_put, List.getElem?_cons_zero, List.getElem?_cons_succ, Nat.zero_add, Nat.add_zero, Nat.reduceAdd, Nat.reduceLeDiff, Nat.reduceLT, Nat.reduceMul, Nat.reduceSub, Nat.reduceEqDiff, Int.reduceEq, Int.reduceLT, Int.reduceLE, Int.reduceNeg, V.one, V.cells, V.beq, V.beqs, ckB_some, asI_int, asB_bool, asIAny, asS, List.length_cons, List.length_nil, Nat.beq_refl, List.all_cons, List.all_nil, Bool.and_true, Bool.and_false, Bool.true_and, Bool.false_and, Bool.not_true, Bool.not_false, Bool.or_false, Bool.false_or, Bool.or_self, Bool.and_self, decide_true, decide_false, if_true, if_false, splice, List.take_succ_cons, List.take_zero, List.drop_succ_cons, List.drop_zero, List.cons_append, List.nil_append, List.set_cons_zero, List.set_cons_succ, reduceCtorEq, fill, repl, opd, boxc, finV, resAllV, resOfV, result, eqV, eqIfc, aggCells, part, W_call, Nat.reduceBEq, Nat.beq_eq, o, hR, a1, a2]
      · simp only [S.withylaw20_IterNone_c3_S, nilc_ptr, lenSl_sl, lenSl_nil, eqPtr_ptr, eqPtr_nil, eqPtr_ptr', eqSl_sl, eqSl_nil, ptrAt_ptr, Option.bind_some, Option.map_some, ld1_get', ldN_get', st_get', get_put', get_new', put_put', ldB_cells, ldNB_cells, stB_cells, H.next_new, H.next_put, List.getElem?_cons_zero, List.getElem?_cons_succ, Nat.zero_add, Nat.add_zero, Nat.reduceAdd, Nat.reduceLeDiff, Nat.reduceLT, Nat.reduceMul, Nat.reduceSub, Nat.reduceEqDiff, Int.reduceEq, Int.reduceLT, Int.reduceLE, Int.reduceNeg, V.one, V.cells, V.beq, V.beqs, ckB_some, asI_int, asB_bool, asIAny, asS, List.length_cons, List.length_nil, Nat.beq_refl, List.all_cons, List.all_nil, Bool.and_true, Bool.and_false, Bool.true_and, Bool.false_and, Bool.not_true, Bool.not_false, Bool.or_false, Bool.false_or, Bool.or_self, Bool.and_self, decide_true, decide_false, if_true, if_false, splice, List.take_succ_cons, List.take_zero, List.drop_succ_cons, List.drop_zero, List.cons_append, List.nil_append, List.set_cons_zero, List.set_cons_succ, reduceCtorEq, fill, repl, opd, boxc, finV, resAllV, resOfV, result, eqV, eqIfc, aggCells, part, W_call, Nat.reduceBEq, Nat.beq_eq, o, hR, a1, a2]
    · simp only [S.withylaw20_IterNone_c3_S, nilc_ptr, lenSl_sl, lenSl_nil, eqPtr_ptr, eqPtr_nil, eqPtr_ptr', eqSl_sl, eqSl_nil, ptrAt_ptr, Option.bind_some, Option.map_some, ld1_get', ldN_get', st_get', get_put', get_new', put_put', ldB_cells, ldNB_cells, stB_cells, H.next_new, H.next_put, List.getElem?_cons_zero, List.getElem?_cons_succ, Nat.zero_add, Nat.add_zero, Nat.reduceAdd, Nat.reduceLeDiff, Nat.reduceLT, Nat.reduceMul, Nat.reduceSub, Nat.reduceEqDiff, Int.reduceEq, Int.reduceLT, Int.reduceLE, Int.reduceNeg, V.one, V.cells, V.beq, V.beqs, ckB_some, asI_int, asB_bool, asIAny, asS, List.length_cons, List.length_nil, Nat.beq_refl, List.all_cons, List.all_nil, Bool.and_true, Bool.and_false, Bool.true_and, Bool.false_and, Bool.not_true, Bool.not_false, Bool.or_false, Bool.false_or, Bool.or_self, Bool.and_self, decide_true, decide_false, if_true, if_false, splice, List.take_succ_cons, List.take_zero, List.drop_succ_cons, List.drop_zero, List.cons_append, List.nil_append, List.set_cons_zero, List.set_cons_succ, reduceCtorEq, fill, repl, opd, boxc, finV, resAllV, resOfV, result, eqV, eqIfc, aggCells, part, W_call, Nat.reduceBEq, Nat.beq_eq, o, hR, a1]

theorem iterNone (k : Cfg) (x1 : Int) (x2 : Bool) (h : H) : C 31 [k.v, .int .i64 x1, .bool x2] h = some (.bool true, h) := by
  refine call_closed (af := F.withylaw20_IterNone) (by kernel_rfl) rfl (by rfl) (by rfl) h ?_
  have ok := H.ok_empty
  have hv : k.v = .agg [.int .i64 k.s, .int .i64 k.a, .int .i64 k.c, .int .i64 k.hd, .int .i64 k.g, .int .i64 k.st] := rfl
  rw [hv, S.withylaw20_IterNone_eq]
  simp only [S.withylaw20_IterNone]
  rw [S.withylaw20_IterNone_c1_eq]
  have okn := ok.new (.cells [.int .i64 k.s, .int .i64 k.a, .int .i64 k.c, .int .i64 k.hd, .int .i64 k.g, .int .i64 k.st] .rw)
  refine Ev.bind (in_c1 x1 x2 (.ptr H.empty.next 0) okn) ?_
  rintro ⟨x, env, g⟩ ⟨bk, hbk, rfl, rfl, F1⟩
  dsimp only at F1 ⊢
  have o1 := F1.get okn (get_new_self _ _) (by simp)
  have ok1 := F1.ok
  rw [S.withylaw20_IterNone_c1_n_eq]
  simp only [S.withylaw20_IterNone_c1_n]
  rw [S.withylaw20_IterNone_c3_eq, in_c3 k x1 x2 _ _ o1]
  rw [Option.bind_some, S.withylaw20_IterNone_c3_n_eq]
  have h1 := newWalk_any k x1 1 bk ok1
  rw [hv] at h1
  simp only [S.withylaw20_IterNone_c3_n, nilc_ptr, lenSl_sl, lenSl_nil, eqPtr_ptr, eqPtr_nil, eqPtr_ptr', eqSl_sl, eqSl_nil, ptrAt_ptr, Option.bind_some, Option.map_some, ld1_get', ldN_get', st_get', get_put', get_new', put_put', ldB_cells, ldNB_cells, stB_cells, H.next_new, H.next_put, List.getElem?_cons_zero, List.getElem?_cons_succ, Nat.zero_add, Nat.add_zero, Nat.reduceAdd, Nat.reduceLeDiff, Nat.reduceLT, Nat.reduceMul, Nat.reduceSub, Nat.reduceEqDiff, Int.reduceEq, Int.reduceLT, Int.reduceLE, Int.reduceNeg, V.one, V.cells, V.beq, V.beqs, ckB_some, asI_int, asB_bool, asIAny, asS, List.length_cons, List.length_nil, Nat.beq_refl, List.all_cons, List.all_nil, Bool.and_true, Bool.and_false, Bool.true_and, Bool.false_and, Bool.not_true, Bool.not_false, Bool.or_false, Bool.false_or, Bool.or_self, Bool.and_self, decide_true, decide_false, if_true, if_false, splice, List.take_succ_cons, List.take_zero, List.drop_succ_cons, List.drop_zero, List.cons_append, List.nil_append, List.set_cons_zero, List.set_cons_succ, reduceCtorEq, fill, repl, opd, boxc, finV, resAllV, resOfV, result, eqV, eqIfc, aggCells, part, W_call, Nat.reduceBEq, Nat.beq_eq, o1]
  refine Ev.bind h1 ?_
  rintro ⟨v, g2⟩ ⟨G, F2⟩
  dsimp only at G F2 ⊢
  have e := gotEq' G
  rw [hbk] at e
  simp only [nilc_ptr, lenSl_sl, lenSl_nil, eqPtr_ptr, eqPtr_nil, eqPtr_ptr', eqSl_sl, eqSl_nil, ptrAt_ptr, Option.bind_some, Option.map_some, ld1_get', ldN_get', st_get', get_put', get_new', put_put', ldB_cells, ldNB_cells, stB_cells, H.next_new, H.next_put, List.getElem?_cons_zero, List.getElem?_cons_succ, Nat.zero_add, Nat.add_zero, Nat.reduceAdd, Nat.reduceLeDiff, Nat.reduceLT, Nat.reduceMul, Nat.reduceSub, Nat.reduceEqDiff, Int.reduceEq, Int.reduceLT, Int.reduceLE, Int.reduceNeg, V.one, V.cells, V.beq, V.beqs, ckB_some, asI_int, asB_bool, asIAny, asS, List.length_cons, List.length_nil, Nat.beq_refl, List.all_cons, List.all_nil, Bool.and_true, Bool.and_false, Bool.true_and, Bool.false_and, Bool.not_true, Bool.not_false, Bool.or_false, Bool.false_or, Bool.or_self, Bool.and_self, decide_true, decide_false, if_true, if_false, splice, List.take_succ_cons, List.take_zero, List.drop_succ_cons, List.drop_zero, List.cons_append, List.nil_append, List.set_cons_zero, List.set_cons_succ, reduceCtorEq, fill, repl, opd, boxc, finV, resAllV, resOfV, result, eqV, eqIfc, aggCells, part, W_call, Nat.reduceBEq, Nat.beq_eq, e, Bool.not_not, BEq.rfl, leftNil, frontNil, walkNil, goNil, awake20]
  exact Ev.some rfl

def shIterNone : List (Bool × List CSh) := [(true, [.int .i64, .int .i64, .int .i64, .int .i64, .int .i64, .int .i64]), (false, [.int .i64]), (false, [.bool])]

theorem lawIterNone (h : H) (us : List V) (_ : h.ok) (ha : ArgsOk h.get shIterNone us) : Ev (C 31 us h) fun r => r.1 = .bool true := by
  obtain ⟨_, _, rfl, ⟨_, rfl, _, _, rfl, ⟨s, rfl, _⟩, _, _, rfl, ⟨a, rfl, _⟩, _, _, rfl, ⟨c, rfl, _⟩, _, _, rfl, ⟨hd, rfl, _⟩, _, _, rfl, ⟨g, rfl, _⟩, _, _, rfl, ⟨st, rfl, _⟩, rfl⟩, _, _, rfl, ⟨_, _, h1, ⟨x1, rfl, _⟩, rfl⟩, _, _, rfl, ⟨_, _, h2, ⟨x2, rfl⟩, rfl⟩, rfl⟩ := ha
  cases h1; cases h2
  exact ⟨_, iterNone ⟨s, a, c, hd, g, st⟩ x1 x2 h, rfl⟩
end Wm
end

