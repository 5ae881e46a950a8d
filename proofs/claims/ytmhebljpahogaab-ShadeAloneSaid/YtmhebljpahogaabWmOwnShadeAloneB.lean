/- What the functions come to, and the law: of my machine. -/
import Derived.Test.YtmhebljpahogaabWmOwnShadeAloneA
import Derived.Test.YtmhebljpahogaabWmTxtShadeAloneA
import Derived.Test.YtmhebljpahogaabWmAw09
set_option linter.all false
section
/- What the references' functions of the first layers come to. -/
namespace Wm
attribute [local congr] bind_congr1

theorem refBlack_spec {e : Int} (he : U64 e) (h : H) : C 110 [.int .u64 e] h = some (.int .i64 (black e), h) := by
  refine call_closed (af := F.withyref03_Black) (by kernel_rfl) rfl (by rfl) (by rfl) h ?_
  rw [S.withyref03_Black_eq]
  obtain ⟨h0, h1⟩ := he
  unfold black
  simp only [S.withyref03_Black, td h0]
  rw [wru64 (by omega) (by omega), tm (by omega)]
  by_cases h2 : e / 4 % 2 = 0
  · simp only [h2, decide_true]; exact Ev.some (show V.int _ _ = V.int _ _ by congr 1; omega)
  · simp only [h2, decide_false]; exact Ev.some (show V.int _ _ = V.int _ _ by congr 1; omega)

theorem refPack_spec {x : Hdr} (hx : x.right = true) (h : H) : C 111 [.agg x.cs] h = some (.int .u64 x.word, h) := by
  refine call_closed (af := F.withyref04_Pack) (by kernel_rfl) rfl (by rfl) (by rfl) h ?_
  rw [right_iff] at hx
  obtain ⟨k, m, g, a, n, s⟩ := x
  simp only at hx
  unfold Hdr.cs
  rw [S.withyref04_Pack_eq]
  simp only [S.withyref04_Pack, nilc_ptr, lenSl_sl, lenSl_nil, eqPtr_ptr, eqPtr_nil, eqPtr_ptr', eqSl_sl, eqSl_nil, ptrAt_ptr, Option.bind_some, Option.map_some, ld1_get', ldN_get', st_get', get_put', get_new', put_put', ldB_cells, ldNB_cells, stB_cells, H.next_new, H.next_put, List.getElem?_cons_zero, List.getElem?_cons_succ, Nat.zero_add, Nat.add_zero, Nat.reduceAdd, Nat.reduceLeDiff, Nat.reduceLT, Nat.reduceMul, Nat.reduceSub, Nat.reduceEqDiff, Int.reduceEq, Int.reduceLT, Int.reduceLE, Int.reduceNeg, V.one, V.cells, V.beq, V.beqs, ckB_some, asI_int, asB_bool, asIAny, asS, List.length_cons, List.length_nil, Nat.beq_refl, List.all_cons, List.all_nil, Bool.and_true, Bool.and_false, Bool.true_and, Bool.false_and, Bool.not_true, Bool.not_false, Bool.or_false, Bool.false_or, Bool.or_self, Bool.and_self, decide_true, decide_false, if_true, if_false, splice, List.take_succ_cons, List.take_zero, List.drop_succ_cons, List.drop_zero, List.cons_append, List.nil_append, List.set_cons_zero, List.set_cons_succ, reduceCtorEq, fill, repl, opd, boxc, finV, resAllV, resOfV, result, eqV, eqIfc, aggCells, part, W_call, Nat.reduceBEq, Nat.beq_eq]
  rw [wru64 (n := k) (by omega) (by omega), wru64 (n := m) (by omega) (by omega), wru64 (n := a) (by omega) (by omega), wru64 (n := n) (by omega) (by omega), wru64 (n := s) (by omega) (by omega), wru64 (n := 8 * m) (by omega) (by omega), wru64 (n := 32 * a) (by omega) (by omega), wru64 (n := 65536 * n) (by omega) (by omega), wru64 (n := 281474976710656 * s) (by omega) (by omega), wru64 (n := k + 8 * m) (by omega) (by omega), wru64 (n := k + 8 * m + 32 * a) (by omega) (by omega), wru64 (n := k + 8 * m + 32 * a + 65536 * n) (by omega) (by omega), wru64 (n := k + 8 * m + 32 * a + 65536 * n + 281474976710656 * s) (by omega) (by omega)]
  cases g with
  | true =>
    simp only
    rw [wru64 (by omega) (by omega)]
    exact Ev.some (show V.int _ _ = V.int _ _ by unfold Hdr.word; simp only [if_true]; congr 1; omega)
  | false =>
    exact Ev.some (show V.int _ _ = V.int _ _ by unfold Hdr.word; simp only [Bool.false_eq_true, if_false]; congr 1; omega)

theorem refRight_spec (x : Hdr) (h : H) : C 202 [.agg x.cs] h = some (.bool x.right, h) := by
  refine call_closed (af := F.withyref04_Right) (by kernel_rfl) rfl (by rfl) (by rfl) h ?_
  have e := right_iff x
  generalize x.right = r at e
  obtain ⟨k, m, g, a, n, s⟩ := x
  simp only at e
  unfold Hdr.cs
  rw [S.withyref04_Right_eq]
  simp only [S.withyref04_Right, nilc_ptr, lenSl_sl, lenSl_nil, eqPtr_ptr, eqPtr_nil, eqPtr_ptr', eqSl_sl, eqSl_nil, ptrAt_ptr, Option.bind_some, Option.map_some, ld1_get', ldN_get', st_get', get_put', get_new', put_put', ldB_cells, ldNB_cells, stB_cells, H.next_new, H.next_put, List.getElem?_cons_zero, List.getElem?_cons_succ, Nat.zero_add, Nat.add_zero, Nat.reduceAdd, Nat.reduceLeDiff, Nat.reduceLT, Nat.reduceMul, Nat.reduceSub, Nat.reduceEqDiff, Int.reduceEq, Int.reduceLT, Int.reduceLE, Int.reduceNeg, V.one, V.cells, V.beq, V.beqs, ckB_some, asI_int, asB_bool, asIAny, asS, List.length_cons, List.length_nil, Nat.beq_refl, List.all_cons, List.all_nil, Bool.and_true, Bool.and_false, Bool.true_and, Bool.false_and, Bool.not_true, Bool.not_false, Bool.or_false, Bool.false_or, Bool.or_self, Bool.and_self, decide_true, decide_false, if_true, if_false, splice, List.take_succ_cons, List.take_zero, List.drop_succ_cons, List.drop_zero, List.cons_append, List.nil_append, List.set_cons_zero, List.set_cons_succ, reduceCtorEq, fill, repl, opd, boxc, finV, resAllV, resOfV, result, eqV, eqIfc, aggCells, part, W_call, Nat.reduceBEq, Nat.beq_eq]
  have key : ∀ b : Bool, (b = true ↔ r = true) → (V.bool b, (h : H)).1 = V.bool r := fun b hb => by
    cases b <;> cases r <;> simp_all
  by_cases c1 : 0 ≤ k
  · by_cases c2 : k ≤ 4
    · by_cases c3 : m = 0
      · by_cases c4 : 0 ≤ a
        · by_cases c5 : a ≤ 15
          · by_cases c6 : 0 ≤ n
            · by_cases c7 : n ≤ 4294967295
              · by_cases c8 : 0 ≤ s
                · simp only [c1, c2, c3, c4, c5, c6, c7, c8, decide_true]; exact Ev.some (key _ (by rw [e, decide_eq_true_eq]; omega))
                · simp only [c1, c2, c3, c4, c5, c6, c7, c8, decide_true, decide_false]; exact Ev.some (key _ (by rw [e]; simp; omega))
              · simp only [c1, c2, c3, c4, c5, c6, c7, decide_true, decide_false]; exact Ev.some (key _ (by rw [e]; simp; omega))
            · simp only [c1, c2, c3, c4, c5, c6, decide_true, decide_false]; exact Ev.some (key _ (by rw [e]; simp; omega))
          · simp only [c1, c2, c3, c4, c5, decide_true, decide_false]; exact Ev.some (key _ (by rw [e]; simp; omega))
        · simp only [c1, c2, c3, c4, decide_true, decide_false]; exact Ev.some (key _ (by rw [e]; simp; omega))
      · by_cases c3' : m = 1
        · by_cases c4 : 0 ≤ a
          · by_cases c5 : a ≤ 15
            · by_cases c6 : 0 ≤ n
              · by_cases c7 : n ≤ 4294967295
                · by_cases c8 : 0 ≤ s
                  · simp only [c1, c2, c3, c3', c4, c5, c6, c7, c8, decide_true, decide_false, Int.reduceEq]; exact Ev.some (key _ (by rw [e, decide_eq_true_eq]; omega))
                  · simp only [c1, c2, c3, c3', c4, c5, c6, c7, c8, decide_true, decide_false, Int.reduceEq]; exact Ev.some (key _ (by rw [e]; simp; omega))
                · simp only [c1, c2, c3, c3', c4, c5, c6, c7, decide_true, decide_false, Int.reduceEq]; exact Ev.some (key _ (by rw [e]; simp; omega))
              · simp only [c1, c2, c3, c3', c4, c5, c6, decide_true, decide_false, Int.reduceEq]; exact Ev.some (key _ (by rw [e]; simp; omega))
            · simp only [c1, c2, c3, c3', c4, c5, decide_true, decide_false, Int.reduceEq]; exact Ev.some (key _ (by rw [e]; simp; omega))
          · simp only [c1, c2, c3, c3', c4, decide_true, decide_false, Int.reduceEq]; exact Ev.some (key _ (by rw [e]; simp; omega))
        · simp only [c1, c2, c3, c3', decide_true, decide_false]; exact Ev.some (key _ (by rw [e]; simp; omega))
    · simp only [c1, c2, decide_true, decide_false]; exact Ev.some (key _ (by rw [e]; simp; omega))
  · simp only [c1, decide_false]; exact Ev.some (key _ (by rw [e]; simp; omega))

theorem refLives_spec {w : Int} (hw : U64 w) (h : H) : C 112 [.int .u64 w] h = some (.bool (lives w), h) := by
  refine call_closed (af := F.withyref04_Lives) (by kernel_rfl) rfl (by rfl) (by rfl) h ?_
  rw [S.withyref04_Lives_eq]
  unfold lives
  cases ho : okT w with
  | false =>
    simp only [S.withyref04_Lives, nilc_ptr, lenSl_sl, lenSl_nil, eqPtr_ptr, eqPtr_nil, eqPtr_ptr', eqSl_sl, eqSl_nil, ptrAt_ptr, Option.bind_some, Option.map_some, ld1_get', ldN_get', st_get', get_put', get_new', put_put', ldB_cells, ldNB_cells, stB_cells, H.next_new, H.next_put, List.getElem?_cons_zero, List.getElem?_cons_succ, Nat.zero_add, Nat.add_zero, Nat.reduceAdd, Nat.reduceLeDiff, Nat.reduceLT, Nat.reduceMul, Nat.reduceSub, Nat.reduceEqDiff, Int.reduceEq, Int.reduceLT, Int.reduceLE, Int.reduceNeg, V.one, V.cells, V.beq, V.beqs, ckB_some, asI_int, asB_bool, asIAny, asS, List.length_cons, List.length_nil, Nat.beq_refl, List.all_cons, List.all_nil, Bool.and_true, Bool.and_false, Bool.true_and, Bool.false_and, Bool.not_true, Bool.not_false, Bool.or_false, Bool.false_or, Bool.or_self, Bool.and_self, decide_true, decide_false, if_true, if_false, splice, List.take_succ_cons, List.take_zero, List.drop_succ_cons, List.drop_zero, List.cons_append, List.nil_append, List.set_cons_zero, List.set_cons_succ, reduceCtorEq, fill, repl, opd, boxc, finV, resAllV, resOfV, result, eqV, eqIfc, aggCells, part, W_call, Nat.reduceBEq, Nat.beq_eq, refUnp_spec hw, ho, Hdr.cs]
    exact Ev.some rfl
  | true =>
    by_cases k1 : (unp w).kind = 1
    · simp only [S.withyref04_Lives, nilc_ptr, lenSl_sl, lenSl_nil, eqPtr_ptr, eqPtr_nil, eqPtr_ptr', eqSl_sl, eqSl_nil, ptrAt_ptr, Option.bind_some, Option.map_some, ld1_get', ldN_get', st_get', get_put', get_new', put_put', ldB_cells, ldNB_cells, stB_cells, H.next_new, H.next_put, List.getElem?_cons_zero, List.getElem?_cons_succ, Nat.zero_add, Nat.add_zero, Nat.reduceAdd, Nat.reduceLeDiff, Nat.reduceLT, Nat.reduceMul, Nat.reduceSub, Nat.reduceEqDiff, Int.reduceEq, Int.reduceLT, Int.reduceLE, Int.reduceNeg, V.one, V.cells, V.beq, V.beqs, ckB_some, asI_int, asB_bool, asIAny, asS, List.length_cons, List.length_nil, Nat.beq_refl, List.all_cons, List.all_nil, Bool.and_true, Bool.and_false, Bool.true_and, Bool.false_and, Bool.not_true, Bool.not_false, Bool.or_false, Bool.false_or, Bool.or_self, Bool.and_self, decide_true, decide_false, if_true, if_false, splice, List.take_succ_cons, List.take_zero, List.drop_succ_cons, List.drop_zero, List.cons_append, List.nil_append, List.set_cons_zero, List.set_cons_succ, reduceCtorEq, fill, repl, opd, boxc, finV, resAllV, resOfV, result, eqV, eqIfc, aggCells, part, W_call, Nat.reduceBEq, Nat.beq_eq, refUnp_spec hw, ho, Hdr.cs, k1, Bool.true_or]
      exact Ev.some rfl
    · simp only [S.withyref04_Lives, nilc_ptr, lenSl_sl, lenSl_nil, eqPtr_ptr, eqPtr_nil, eqPtr_ptr', eqSl_sl, eqSl_nil, ptrAt_ptr, Option.bind_some, Option.map_some, ld1_get', ldN_get', st_get', get_put', get_new', put_put', ldB_cells, ldNB_cells, stB_cells, H.next_new, H.next_put, List.getElem?_cons_zero, List.getElem?_cons_succ, Nat.zero_add, Nat.add_zero, Nat.reduceAdd, Nat.reduceLeDiff, Nat.reduceLT, Nat.reduceMul, Nat.reduceSub, Nat.reduceEqDiff, Int.reduceEq, Int.reduceLT, Int.reduceLE, Int.reduceNeg, V.one, V.cells, V.beq, V.beqs, ckB_some, asI_int, asB_bool, asIAny, asS, List.length_cons, List.length_nil, Nat.beq_refl, List.all_cons, List.all_nil, Bool.and_true, Bool.and_false, Bool.true_and, Bool.false_and, Bool.not_true, Bool.not_false, Bool.or_false, Bool.false_or, Bool.or_self, Bool.and_self, decide_true, decide_false, if_true, if_false, splice, List.take_succ_cons, List.take_zero, List.drop_succ_cons, List.drop_zero, List.cons_append, List.nil_append, List.set_cons_zero, List.set_cons_succ, reduceCtorEq, fill, repl, opd, boxc, finV, resAllV, resOfV, result, eqV, eqIfc, aggCells, part, W_call, Nat.reduceBEq, Nat.beq_eq, refUnp_spec hw, ho, Hdr.cs, k1]
      exact Ev.some rfl

def markedW (w e : Int) : Bool := lives w && decide ((unp w).mark = black e)
theorem refMarked_spec {w e : Int} (hw : U64 w) (he : U64 e) (h : H) : C 113 [.int .u64 w, .int .u64 e] h = some (.bool (markedW w e), h) := by
  refine call_closed (af := F.withyref04_Marked) (by kernel_rfl) rfl (by rfl) (by rfl) h ?_
  rw [S.withyref04_Marked_eq]
  unfold markedW
  cases hl : lives w with
  | false =>
    simp only [S.withyref04_Marked, nilc_ptr, lenSl_sl, lenSl_nil, eqPtr_ptr, eqPtr_nil, eqPtr_ptr', eqSl_sl, eqSl_nil, ptrAt_ptr, Option.bind_some, Option.map_some, ld1_get', ldN_get', st_get', get_put', get_new', put_put', ldB_cells, ldNB_cells, stB_cells, H.next_new, H.next_put, List.getElem?_cons_zero, List.getElem?_cons_succ, Nat.zero_add, Nat.add_zero, Nat.reduceAdd, Nat.reduceLeDiff, Nat.reduceLT, Nat.reduceMul, Nat.reduceSub, Nat.reduceEqDiff, Int.reduceEq, Int.reduceLT, Int.reduceLE, Int.reduceNeg, V.one, V.cells, V.beq, V.beqs, ckB_some, asI_int, asB_bool, asIAny, asS, List.length_cons, List.length_nil, Nat.beq_refl, List.all_cons, List.all_nil, Bool.and_true, Bool.and_false, Bool.true_and, Bool.false_and, Bool.not_true, Bool.not_false, Bool.or_false, Bool.false_or, Bool.or_self, Bool.and_self, decide_true, decide_false, if_true, if_false, splice, List.take_succ_cons, List.take_zero, List.drop_succ_cons, List.drop_zero, List.cons_append, List.nil_append, List.set_cons_zero, List.set_cons_succ, reduceCtorEq, fill, repl, opd, boxc, finV, resAllV, resOfV, result, eqV, eqIfc, aggCells, part, W_call, Nat.reduceBEq, Nat.beq_eq, refUnp_spec hw, Hdr.cs, refLives_spec hw, hl]
    exact Ev.some rfl
  | true =>
    simp only [S.withyref04_Marked, nilc_ptr, lenSl_sl, lenSl_nil, eqPtr_ptr, eqPtr_nil, eqPtr_ptr', eqSl_sl, eqSl_nil, ptrAt_ptr, Option.bind_some, Option.map_some, ld1_get', ldN_get', st_get', get_put', get_new', put_put', ldB_cells, ldNB_cells, stB_cells, H.next_new, H.next_put, List.getElem?_cons_zero, List.getElem?_cons_succ, Nat.zero_add, Nat.add_zero, Nat.reduceAdd, Nat.reduceLeDiff, Nat.reduceLT, Nat.reduceMul, Nat.reduceSub, Nat.reduceEqDiff, Int.reduceEq, Int.reduceLT, Int.reduceLE, Int.reduceNeg, V.one, V.cells, V.beq, V.beqs, ckB_some, asI_int, asB_bool, asIAny, asS, List.length_cons, List.length_nil, Nat.beq_refl, List.all_cons, List.all_nil, Bool.and_true, Bool.and_false, Bool.true_and, Bool.false_and, Bool.not_true, Bool.not_false, Bool.or_false, Bool.false_or, Bool.or_self, Bool.and_self, decide_true, decide_false, if_true, if_false, splice, List.take_succ_cons, List.take_zero, List.drop_succ_cons, List.drop_zero, List.cons_append, List.nil_append, List.set_cons_zero, List.set_cons_succ, reduceCtorEq, fill, repl, opd, boxc, finV, resAllV, resOfV, result, eqV, eqIfc, aggCells, part, W_call, Nat.reduceBEq, Nat.beq_eq, refUnp_spec hw, Hdr.cs, refLives_spec hw, hl, refBlack_spec he]
    exact Ev.some rfl

/-! ### A config made right -/
def fitT (n lo hi : Int) : Int := lo + n % 18446744073709551616 % (hi - lo + 1)
def Cfg.fit (k : Cfg) : Cfg := ⟨fitT k.s 1 12, fitT k.a 0 4, fitT k.c 1 4, fitT k.hd 1 4, fitT k.g 1 40, fitT k.st 0 6⟩

theorem fit_spec (n : Int) {lo hi : Int} (h0 : 0 ≤ lo) (h1 : lo ≤ hi) (h2 : hi ≤ 1000) (h : H) : C 270 [.int .i64 n, .int .i64 lo, .int .i64 hi] h = some (.int .i64 (fitT n lo hi), h) := by
  refine call_closed (af := F.withyref06_fit) (by kernel_rfl) rfl (by rfl) (by rfl) h ?_
  rw [S.withyref06_fit_eq]
  have e1 : wr .u64 n = n % 18446744073709551616 := rfl
  have hb := Int.emod_nonneg (n % 18446744073709551616) (show hi - lo + 1 ≠ 0 by omega)
  have hl := Int.emod_lt_of_pos (n % 18446744073709551616) (show 0 < hi - lo + 1 by omega)
  have hne : ¬ (hi - lo + 1 = 0) := by omega
  simp only [S.withyref06_fit]
  rw [wr64 (n := hi - lo) (by omega) (by omega), wr64 (n := hi - lo + 1) (by omega) (by omega), wru64 (n := hi - lo + 1) (by omega) (by omega)]
  simp only [arith, decide_eq_false hne, Option.bind_some, e1]
  rw [tm (by omega), wr64 (n := _ % (hi - lo + 1)) (by omega) (by omega), wr64 (by omega) (by omega)]
  exact Ev.some rfl

theorem Cfg.fit_R (k : Cfg) : k.fit.R = true := by
  rw [Cfg.R_iff]
  unfold Cfg.fit fitT
  simp only
  omega
theorem Cfg.fit_bd (k : Cfg) : k.fit.S ≤ 12 ∧ k.fit.room ≤ 4 ∧ k.fit.C ≤ 4 ∧ k.fit.H ≤ 4 ∧ k.fit.base ≤ 32 ∧ k.fit.size ≤ 104 := by
  have h1 : k.fit.S ≤ 12 := by unfold Cfg.fit Cfg.S fitT; simp only; omega
  have h2 : k.fit.room ≤ 4 := by unfold Cfg.fit Cfg.room fitT; simp only; split <;> omega
  have h3 : k.fit.C ≤ 4 := by unfold Cfg.fit Cfg.C fitT; simp only; omega
  have h4 : k.fit.H ≤ 4 := by unfold Cfg.fit Cfg.H fitT; simp only; omega
  have h5 : k.fit.C * k.fit.H ≤ 4 * 4 := Nat.mul_le_mul h3 h4
  have h6 : k.fit.S * (2 + k.fit.room) ≤ 12 * 6 := Nat.mul_le_mul h1 (by omega)
  unfold Cfg.size Cfg.base
  omega

theorem Fit_spec (k : Cfg) (h : H) : C 92 [k.v] h = some (k.fit.v, h) := by
  refine call_closed (af := F.withyref06_Fit) (by kernel_rfl) rfl (by rfl) (by rfl) h ?_
  obtain ⟨s, a, c, hd, g, st⟩ := k
  unfold Cfg.v cfgV
  rw [S.withyref06_Fit_eq]
  have n1 : ∀ x : Nat, x ≠ x + 1 := fun x => by omega
  have n2 : ∀ x : Nat, x + 1 ≠ x := fun x => by omega
  simp only [S.withyref06_Fit, nilc_ptr, lenSl_sl, lenSl_nil, eqPtr_ptr, eqPtr_nil, eqPtr_ptr', eqSl_sl, eqSl_nil, ptrAt_ptr, Option.bind_some, Option.map_some, ld1_get', ldN_get', st_get', get_put', get_new', put_put', ldB_cells, ldNB_cells, stB_cells, H.next_new, H.next_put, List.getElem?_cons_zero, List.getElem?_cons_succ, Nat.zero_add, Nat.add_zero, Nat.reduceAdd, Nat.reduceLeDiff, Nat.reduceLT, Nat.reduceMul, Nat.reduceSub, Nat.reduceEqDiff, Int.reduceEq, Int.reduceLT, Int.reduceLE, Int.reduceNeg, V.one, V.cells, V.beq, V.beqs, ckB_some, asI_int, asB_bool, asIAny, asS, List.length_cons, List.length_nil, Nat.beq_refl, List.all_cons, List.all_nil, Bool.and_true, Bool.and_false, Bool.true_and, Bool.false_and, Bool.not_true, Bool.not_false, Bool.or_false, Bool.false_or, Bool.or_self, Bool.and_self, decide_true, decide_false, if_true, if_false, splice, List.take_succ_cons, List.take_zero, List.drop_succ_cons, List.drop_zero, List.cons_append, List.nil_append, List.set_cons_zero, List.set_cons_succ, reduceCtorEq, fill, repl, opd, boxc, finV, resAllV, resOfV, result, eqV, eqIfc, aggCells, part, W_call, Nat.reduceBEq, Nat.beq_eq, n1, n2, fit_spec s (lo := 1) (hi := 12) (by decide) (by decide) (by decide), fit_spec a (lo := 0) (hi := 4) (by decide) (by decide) (by decide), fit_spec c (lo := 1) (hi := 4) (by decide) (by decide) (by decide), fit_spec hd (lo := 1) (hi := 4) (by decide) (by decide) (by decide), fit_spec g (lo := 1) (hi := 40) (by decide) (by decide) (by decide), fit_spec st (lo := 0) (hi := 6) (by decide) (by decide) (by decide)]
  exact Ev.some rfl
end Wm
end

section
/- All words of a config, and those of a memory in which nothing was done: withyref06.Words, Memory. -/
namespace Wm
attribute [local congr] bind_congr1
attribute [local irreducible] wr

theorem Words_spec {k : Cfg} (hr : k.R = true) {h : H} (ok : h.ok) : ∃ (g : H) (b : Nat) (c : Cap) (kk : Bk), C 87 [k.v] h = some (.sl b 0 k.size c, g) ∧ Fr [] h g ∧ h.next ≤ b ∧ g.get b = some (.cells (k.locs.map Wd.cells).flatten kk) := by
  obtain ⟨x, L, hW, hA⟩ := words_spec (s := k.s) (a := k.a) (c := k.c) (hd := k.hd) (g := k.g) (st := k.st) hr ok
  have hn : sizeW k.S k.room k.C k.H = k.size := by unfold sizeW Cfg.size Cfg.base; omega
  change Acc h L x 3 (sizeW k.S k.room k.C k.H) (wordsW k.S k.room k.C k.H) at hA
  rw [hn, words_flat] at hA
  have hfr : ∀ l, Fr [] h (h.ext l) := fun l => ⟨by rw [H.ext_next]; omega, ok.ext l, fun b hb _ => H.ext_old hb⟩
  obtain ⟨_, _, j, ⟨rfl, hj⟩ | ⟨rfl, hj⟩⟩ := hA
  · exact ⟨_, _, _, _, hW, hfr _, by omega, by rw [H.ext_get' ok, List.getElem?_cons_succ, hj]; rfl⟩
  · exact ⟨_, _, _, _, hW, hfr _, by omega, by rw [H.ext_get' ok, List.getElem?_cons_succ, hj]; rfl⟩

theorem locs3 (k : Cfg) : ∀ x ∈ k.locs.map Wd.cells, x.length = 3 := fun x hx => by
  obtain ⟨l, _, rfl⟩ := List.mem_map.mp hx; rfl
theorem locs_cells {k : Cfg} {i : Nat} {l : Wd} (hl : k.locs[i]? = some l) (r : Nat) (hr : r < 3) : ((k.locs.map Wd.cells).flatten)[i * 3 + r]? = l.cells[r]? := by
  have h1 := flat_part (locs3 k) i l.cells (by rw [List.getElem?_map, hl]; rfl)
  have h2 := congrArg (fun x => x[r]?) h1
  simp only [List.getElem?_take, List.getElem?_drop, if_pos hr] at h2
  exact h2

/-- The words of a memory in which nothing was done. -/
def mem0 (k : Cfg) : Wd → Int
  | .clock => 1
  | .top => 1
  | .link q => if (q : Int) + 1 < k.s then q + 2 else 0
  | _ => 0
def mem00 : Wd → Int
  | .clock => 1
  | .top => 1
  | _ => 0

/-- The words, as a list, of what each word is. -/
def Cfg.row (k : Cfg) (f : Wd → Int) : List Int := k.locs.map f
theorem row_length (k : Cfg) (f : Wd → Int) : (k.row f).length = k.size := by unfold Cfg.row; rw [List.length_map, locs_length]
theorem row_at {k : Cfg} {f : Wd → Int} {l : Wd} (hl : l.ok k) : (k.row f)[l.pos k]? = some (f l) := by unfold Cfg.row; rw [List.getElem?_map, at_locs hl]; rfl
theorem row_getD {k : Cfg} {f : Wd → Int} {l : Wd} (hl : l.ok k) : (k.row f).getD (l.pos k) 0 = f l := by rw [List.getD_eq_getElem?_getD, row_at hl]; rfl
/-- A word is another one. -/
def wset (f : Wd → Int) (l : Wd) (v : Int) : Wd → Int := fun m => if m = l then v else f m
theorem wset_same (f : Wd → Int) (l : Wd) (v : Int) : wset f l v l = v := if_pos rfl
theorem wset_ne {f : Wd → Int} {l m : Wd} {v : Int} (h : m ≠ l) : wset f l v m = f m := if_neg h
theorem row_set {k : Cfg} {f : Wd → Int} {l : Wd} {v : Int} (hl : l.ok k) : (k.row f).set (l.pos k) v = k.row (wset f l v) := by
  apply List.ext_getElem?
  intro i
  unfold Cfg.row
  rw [List.getElem?_set, List.getElem?_map, List.getElem?_map]
  by_cases hi : l.pos k = i
  · subst hi
    rw [if_pos rfl, if_pos (by rw [List.length_map, locs_length]; exact pos_lt hl), at_locs hl]
    simp only [Option.map_some, wset_same]
  · rw [if_neg hi]
    cases hx : k.locs[i]? with
    | none => rfl
    | some m =>
      simp only [Option.map_some]
      rw [wset_ne]
      rintro rfl
      exact hi (locs_at hx)
theorem row_congr {k : Cfg} {f g : Wd → Int} (h : ∀ l, l.ok k → f l = g l) : k.row f = k.row g := List.map_congr_left fun l hl => h l (mem_locs.mp hl)

theorem row_st2 {g : H} {b : Nat} {ws : List Int} {kk : Bk} (hk : kk ≠ .ro) (hg : g.get b = some (.cells (ws.map (.int .u64)) kk)) {i : Nat} (hi : i < ws.length) (v : Int) : g.st 1 (.ptr b i) (.int .u64 v) = some (g.put b (some (.cells ((ws.set i v).map (.int .u64)) kk))) := by
  rw [st1_get hg hk rfl (by rw [List.length_map]; exact hi), List.map_set]

theorem sl_idx {b n i e : Nat} {c : Cap} (hi : i < n) : indexAV e (.sl b 0 n c) (.int .i64 (i : Int)) = some (.ptr b (i * e)) := by
  simp only [indexAV, indexOf, asIAny, show decide ((0 : Int) ≤ (i : Int)) = true from decide_eq_true (by omega), show decide ((i : Int) < (n : Int)) = true from decide_eq_true (by omega), Bool.and_self, Nat.zero_add, Int.toNat_natCast]
theorem sl_idx1 {b n i : Nat} {c : Cap} (hi : i < n) : indexAV 1 (.sl b 0 n c) (.int .i64 (i : Int)) = some (.ptr b i) := by rw [sl_idx hi, Nat.mul_one]

def memF (k : Cfg) (i : Nat) (l : Wd) : Int := if l.pos k < i then mem0 k l else mem00 l

theorem memF_set {k : Cfg} {l : Wd} (hlo : l.ok k) : k.row (memF k (l.pos k + 1)) = (k.row (memF k (l.pos k))).set (l.pos k) (mem0 k l) := by
  rw [row_set hlo]
  apply row_congr
  intro m hm
  simp only [memF, wset]
  by_cases he : m = l
  · subst he; rw [if_pos (Nat.lt_succ_self _), if_pos rfl]
  · rw [if_neg he]
    have hne : m.pos k ≠ l.pos k := fun q => he (pos_inj hm hlo q)
    clear he hm hlo
    by_cases hq : m.pos k < l.pos k
    · rw [if_pos (Nat.lt_succ_of_lt hq), if_pos hq]
    · rw [if_neg (by omega), if_neg hq]
theorem memF_same {k : Cfg} {l : Wd} (hlo : l.ok k) (hl : mem0 k l = mem00 l) : k.row (memF k (l.pos k + 1)) = k.row (memF k (l.pos k)) := by
  apply row_congr
  intro m hm
  simp only [memF]
  by_cases he : m = l
  · subst he; rw [if_pos (Nat.lt_succ_self _), if_neg (Nat.lt_irrefl _), hl]
  · have hne : m.pos k ≠ l.pos k := fun q => he (pos_inj hm hlo q)
    clear he hm hlo
    by_cases hq : m.pos k < l.pos k
    · rw [if_pos (Nat.lt_succ_of_lt hq), if_pos hq]
    · rw [if_neg (by omega), if_neg hq]
theorem who_le {k : Cfg} (hr : k.R = true) {l : Wd} (hl : l.ok k) : l.who ≤ 64 := by
  have hb := Cfg.bounds hr
  cases l <;> simp only [Wd.ok, Wd.who] at hl ⊢ <;> omega
theorem natlt {i n : Nat} (h : i < n) : decide ((i : Int) < (n : Int)) = true := decide_eq_true (Int.ofNat_lt.mpr h)
theorem link_name (l : Wd) : (l.name.toList == (⟨⟨[108, 105, 110, 107]⟩⟩ : ByteArray).toList) = decide (l.tag = 9) := by
  have h := name_eq l (.link 0)
  have e : (Wd.link 0).name = (⟨⟨[108, 105, 110, 107]⟩⟩ : ByteArray) := rfl
  rw [e] at h
  exact h

theorem Memory_spec {k : Cfg} (hr : k.R = true) {h : H} (ok : h.ok) : ∃ (g : H) (b : Nat), C 86 [k.v] h = some (.sl b 0 k.size (.ex k.size), g) ∧ Fr [] h g ∧ h.next ≤ b ∧ b < g.next ∧ g.get b = some (.cells ((k.row (mem0 k)).map (.int .u64)) .rw) := by
  have hb := Cfg.bounds hr
  have hsz : 4 ≤ k.size := by unfold Cfg.size Cfg.base; omega
  have hev : Ev (C 86 [k.v] h) fun r => ∃ b, r.1 = .sl b 0 k.size (.ex k.size) ∧ Fr [] h r.2 ∧ h.next ≤ b ∧ b < r.2.next ∧ r.2.get b = some (.cells ((k.row (mem0 k)).map (.int .u64)) .rw) := by
    refine call_ev (af := F.withyref06_Memory) (by kernel_rfl) rfl ?_
    obtain ⟨g0, bw, cw, kw, e0, f0, n0, w0⟩ := Words_spec hr (ok.new (.cells k.cs .rw))
    have hcs : (Blk.cells k.cs .rw) = .cells [.int .i64 k.s, .int .i64 k.a, .int .i64 k.c, .int .i64 k.hd, .int .i64 k.g, .int .i64 k.st] .rw := rfl
    have hv : k.v = .agg [.int .i64 k.s, .int .i64 k.a, .int .i64 k.c, .int .i64 k.hd, .int .i64 k.g, .int .i64 k.st] := rfl
    rw [hv, S.withyref06_Memory_eq]
    rw [hv, hcs] at e0
    have hcfg : g0.get h.next = some (.cells [.int .i64 k.s, .int .i64 k.a, .int .i64 k.c, .int .i64 k.hd, .int .i64 k.g, .int .i64 k.st] .rw) := f0.get (ok.new _) (get_new_self _ _) (by simp)
    rw [H.next_new] at n0
    have hmk : g0.mkSl 1 8 [V.int .u64 0] (k.size : Int) (k.size : Int) = some (.sl g0.next 0 k.size (.ex k.size), g0.new (.cells (repl [V.int .u64 0] k.size) .rw)) := by
      rw [mkSl_ok (e := 1) (b := 8) (z := [V.int .u64 0]) (l := (k.size : Int)) (c := (k.size : Int)) (by omega) (by omega) (by omega) (by omega) rfl (by omega)]
      simp only [Int.toNat_natCast]
    simp only [S.withyref06_Memory, nilc_ptr, lenSl_sl, lenSl_nil, eqPtr_ptr, eqPtr_nil, eqPtr_ptr', eqSl_sl, eqSl_nil, ptrAt_ptr, Option.bind_some, Option.map_some, ld1_get', ldN_get', st_get', get_put', get_new', put_put', ldB_cells, ldNB_cells, stB_cells, H.next_new, H.next_put, List.getElem?_cons_zero, List.getElem?_cons_succ, Nat.zero_add, Nat.add_zero, Nat.reduceAdd, Nat.reduceLeDiff, Nat.reduceLT, Nat.reduceMul, Nat.reduceSub, Nat.reduceEqDiff, Int.reduceEq, Int.reduceLT, Int.reduceLE, Int.reduceNeg, V.one, V.cells, V.beq, V.beqs, ckB_some, asI_int, asB_bool, asIAny, asS, List.length_cons, List.length_nil, Nat.beq_refl, List.all_cons, List.all_nil, Bool.and_true, Bool.and_false, Bool.true_and, Bool.false_and, Bool.not_true, Bool.not_false, Bool.or_false, Bool.false_or, Bool.or_self, Bool.and_self, decide_true, decide_false, if_true, if_false, splice, List.take_succ_cons, List.take_zero, List.drop_succ_cons, List.drop_zero, List.cons_append, List.nil_append, List.set_cons_zero, List.set_cons_succ, reduceCtorEq, fill, repl, opd, boxc, finV, resAllV, resOfV, result, eqV, eqIfc, aggCells, part, W_call, Nat.reduceBEq, Nat.beq_eq, e0, hmk]
    have hrep : (repl [V.int .u64 0] k.size) = (List.replicate k.size (0 : Int)).map (.int .u64) := repl_map _
    rw [hrep]
    generalize hg1 : g0.new (.cells ((List.replicate k.size (0 : Int)).map (V.int .u64)) .rw) = g1
    have hg1g : g1.get g0.next = some (.cells ((List.replicate k.size (0 : Int)).map (V.int .u64)) .rw) := by rw [← hg1]; exact get_new_self _ _
    have hfr1 : Fr [] h g1 := by rw [← hg1]; exact (((Fr.refl ok).new _).trans' f0).new _
    have hw1 : g1.get bw = some (.cells (k.locs.map Wd.cells).flatten kw) := by rw [← hg1, get_new_ne (f0.ok.ne0 w0)]; exact w0
    have hcfg1 : g1.get h.next = some (.cells [.int .i64 k.s, .int .i64 k.a, .int .i64 k.c, .int .i64 k.hd, .int .i64 k.g, .int .i64 k.st] .rw) := by rw [← hg1, get_new_ne (f0.ok.ne0 hcfg)]; exact hcfg
    have hbwne : bw ≠ g0.next := f0.ok.ne0 w0
    have hcne : h.next ≠ g0.next := f0.ok.ne0 hcfg
    have hle : h.next < g0.next := by have := f0.le; rw [H.next_new] at this; omega
    generalize hz : g0.next = z at hg1g hbwne hcne hle ⊢
    have hzn : z < g1.next := by rw [← hg1, H.next_new]; omega
    clear hg1 hmk e0 f0
    have i0 := sl_idx1 (b := z) (n := k.size) (i := 0) (c := .ex k.size) (by omega)
    have i3 := sl_idx1 (b := z) (n := k.size) (i := 3) (c := .ex k.size) (by omega)
    rw [show indexAV 1 (.sl z 0 k.size (.ex k.size)) (.int .i64 0) = some (.ptr z 0) from i0]
    simp only [Option.bind_some]
    rw [row_st2 (by decide) hg1g (by rw [List.length_replicate]; omega)]
    simp only [Option.bind_some]
    rw [show indexAV 1 (.sl z 0 k.size (.ex k.size)) (.int .i64 3) = some (.ptr z 3) from i3]
    simp only [Option.bind_some]
    rw [row_st2 (by decide) (get_put_self _ _ _) (by rw [List.length_set, List.length_replicate]; omega), put_put']
    simp only [Option.bind_some]
    have hinit : ((List.replicate k.size (0 : Int)).set 0 1).set 3 1 = k.row mem00 := by
      have e : List.replicate k.size (0 : Int) = k.row (fun _ => 0) := by
        unfold Cfg.row; rw [← locs_length]; rw [List.map_const']
      rw [e]
      have h1 := row_set (k := k) (f := fun _ => 0) (l := .clock) (v := 1) trivial
      have h2 := row_set (k := k) (f := wset (fun _ => 0) .clock 1) (l := .top) (v := 1) trivial
      change (k.row _).set 0 1 = _ at h1
      change (k.row _).set 3 1 = _ at h2
      rw [h1, h2]
      apply row_congr
      intro l _
      cases l <;> simp [wset, mem00]
    rw [hinit]
    -- what stands behind so many rounds
    have hF0 : memF k 0 = mem00 := by funext l; simp [memF]
    refine loop_ev (α := Nat) (fun i => S.withyref06_Memory_c1_E (.ptr h.next 0) (.sl bw 0 k.size cw) (.sl z 0 k.size (.ex k.size)) (.int .i64 i))
      (fun i g => i ≤ k.size ∧ g = g1.put z (some (.cells ((k.row (memF k i)).map (.int .u64)) .rw))) (fun i _ => k.size - i)
      (fun r => r = (.exit 0, S.withyref06_Memory_c1_O (.sl z 0 k.size (.ex k.size)), g1.put z (some (.cells ((k.row (memF k k.size)).map (.int .u64)) .rw)))) 0 rfl ⟨by omega, by rw [hF0]⟩ ?_ ?_
    · rintro i g ⟨hi, rfl⟩
      rw [S.withyref06_Memory_c1_eq]
      by_cases hic : i < k.size
      · obtain ⟨l, hl⟩ : ∃ l, k.locs[i]? = some l := ⟨_, List.getElem?_eq_getElem (by rw [locs_length]; exact hic)⟩
        have hlo := mem_locs.mp (List.mem_of_getElem? hl)
        have hlp := locs_at hl
        have ix := sl_idx (b := bw) (n := k.size) (i := i) (e := 3) (c := cw) hic
        have ix2 := sl_idx1 (b := z) (n := k.size) (i := i) (c := .ex k.size) hic
        have c0 := locs_cells hl 0 (by omega)
        have c1 := locs_cells hl 1 (by omega)
        simp only [Nat.add_zero] at c0
        have w1 : wr .i64 ((i : Int) + 1) = ((i + 1 : Nat) : Int) := by rw [wr64 (by omega) (by omega)]; rfl
        have hwho : (l.who : Int) ≤ 64 := by
          have := who_le hr hlo
          omega
        have w2 : wr .i64 ((l.who : Int) + 1) = (l.who : Int) + 1 := wr64 (by omega) (by omega)
        have w3 : wr .u64 (wr .i64 ((l.who : Int) + 2)) = (l.who : Int) + 2 := ar_link (Int.natCast_nonneg _) hwho
        have hmu : k.size - (i + 1) < k.size - i := Nat.sub_lt_sub_left hic (Nat.lt_succ_self i)
        have hFs : ∀ v, mem0 k l = v → k.row (memF k (i + 1)) = (k.row (memF k i)).set i v := by
          rintro v rfl
          rw [← hlp]; exact memF_set hlo
        have hFsame : mem0 k l = mem00 l → k.row (memF k (i + 1)) = k.row (memF k i) := fun he => by
          rw [← hlp]; exact memF_same hlo he
        have hnm' := link_name l
        rw [show l.cells[0]? = some (.str l.name) from rfl] at c0
        rw [show l.cells[1]? = some (.int .i64 l.who) from rfl] at c1
        generalize l.name = nm at c0 hnm'
        generalize hB : (nm.toList == (⟨⟨[108, 105, 110, 107]⟩⟩ : ByteArray).toList) = B at hnm'
        generalize (k.locs.map Wd.cells).flatten = W3 at hw1 c0 c1
        generalize hwh : (l.who : Int) = who at c1 w1 w2 w3 hwho
        have hlt : decide ((i : Int) < (k.size : Int)) = true := natlt hic
        simp only [S.withyref06_Memory_c1_S, nilc_ptr, lenSl_sl, lenSl_nil, eqPtr_ptr, eqPtr_nil, eqPtr_ptr', eqSl_sl, eqSl_nil, ptrAt_ptr, Option.bind_some, Option.map_some, ld1_get', ldN_get', st_get', get_put', get_new', put_put', ldB_cells, ldNB_cells, stB_cells, H.next_new, H.next_put, List.getElem?_cons_zero, List.getElem?_cons_succ, Nat.zero_add, Nat.add_zero, Nat.reduceAdd, Nat.reduceLeDiff, Nat.reduceLT, Nat.reduceMul, Nat.reduceSub, Nat.reduceEqDiff, Int.reduceEq, Int.reduceLT, Int.reduceLE, Int.reduceNeg, V.one, V.cells, V.beq, V.beqs, ckB_some, asI_int, asB_bool, asIAny, asS, List.length_cons, List.length_nil, Nat.beq_refl, List.all_cons, List.all_nil, Bool.and_true, Bool.and_false, Bool.true_and, Bool.false_and, Bool.not_true, Bool.not_false, Bool.or_false, Bool.false_or, Bool.or_self, Bool.and_self, decide_true, decide_false, if_true, if_false, splice, List.take_succ_cons, List.take_zero, List.drop_succ_cons, List.drop_zero, List.cons_append, List.nil_append, List.set_cons_zero, List.set_cons_succ, reduceCtorEq, fill, repl, opd, boxc, finV, resAllV, resOfV, result, eqV, eqIfc, aggCells, part, W_call, Nat.reduceBEq, Nat.beq_eq, hlt, ix, hbwne, hcne, hw1, hcfg1, c0, c1, hB, w1, w2]
        subst hnm'
        by_cases ht : l.tag = 9
        · obtain ⟨q, rfl⟩ : ∃ q, l = .link q := by cases l <;> simp [Wd.tag] at ht; exact ⟨_, rfl⟩
          simp only [ht, decide_true]
          by_cases hc : who + 1 < k.s
          · simp only [hc, decide_true, ix2, Option.bind_some]
            rw [w3, row_st2 (by decide) (get_put_self _ _ _) (by rw [row_length]; exact hic), put_put', ← hFs _ (by simp only [mem0]; rw [← hwh] at hc ⊢; exact if_pos hc)]
            exact Ev.some (.inl ⟨i + 1, rfl, rfl, ⟨hic, rfl⟩, hmu⟩)
          · simp only [hc, decide_false]
            rw [← hFsame (by simp only [mem0, mem00]; rw [← hwh] at hc; exact if_neg hc)]
            exact Ev.some (.inl ⟨i + 1, rfl, rfl, ⟨hic, rfl⟩, hmu⟩)
        · simp only [ht, decide_false]
          rw [← hFsame (by cases l <;> first | rfl | (exfalso; exact ht rfl))]
          exact Ev.some (.inl ⟨i + 1, rfl, rfl, ⟨hic, rfl⟩, hmu⟩)
      · have : i = k.size := Nat.le_antisymm hi (Nat.le_of_not_lt hic)
        subst this
        simp only [S.withyref06_Memory_c1_S, lenSl, Option.bind_some, Int.lt_irrefl, decide_false]
        exact Ev.some (.inr ⟨by simp, rfl⟩)
    · rintro r rfl
      simp only
      rw [S.withyref06_Memory_c1_e0_eq]
      refine Ev.some ⟨z, rfl, hfr1.put (.inr (Nat.le_of_lt hle)) hzn _, Nat.le_of_lt hle, hzn, ?_⟩
      rw [get_put_self]
      congr 3
      apply row_congr
      intro l hl
      simp only [memF]
      rw [if_pos (pos_lt hl)]
  obtain ⟨⟨v, g⟩, e, b, rfl, f, n, n', w⟩ := hev
  exact ⟨g, b, e, f, n, n', w⟩
end Wm
end

section
/- The machine that makes a slot gray: shade.NewShade, Step. -/
namespace Wm
attribute [local congr] bind_congr1
attribute [local irreducible] wr

theorem headerP_at {k : Cfg} (hr : k.R = true) {q : Nat} (hq : q < k.S) : withinT k.s k.a k.c k.hd k.g k.st (q : Int) 0 = ((Wd.header q).pos k : Nat) := by
  have hb := Cfg.R_iff.mp hr
  have hq' : (q : Int) ≤ k.s - 1 := by unfold Cfg.S at hq; omega
  have hroom : (k.room : Int) = max k.a 3 := by unfold Cfg.room; split <;> omega
  have hc : (k.C : Int) = k.c := by unfold Cfg.C; omega
  have hh : (k.H : Int) = k.hd := by unfold Cfg.H; omega
  unfold withinT
  rw [if_pos ⟨hr, ⟨Int.natCast_nonneg _, hq'⟩, Int.le_refl _, by unfold roomT; omega⟩]
  unfold slotsT roomT Wd.pos Cfg.base
  rw [← hroom, ← hc, ← hh, Int.mul_add, Int.mul_add, Int.mul_one]
  have e2 : ((2 : Nat) : Int) = 2 := rfl
  simp only [Int.natCast_add, Int.natCast_mul, e2]
  omega

theorem header_at {k : Cfg} (hr : k.R = true) {q : Nat} (hq : q < k.S) (h : H) : C 261 [k.v, .int .i64 (q : Int)] h = some (.int .i64 ((Wd.header q).pos k : Nat), h) := by
  rw [← headerP_at hr hq]; exact header_spec _ _ _ _ _ _ _ h

theorem newShade_spec {k : Cfg} (hr : k.R = true) {q : Nat} (hq : q < k.S) (e : Int) {h : H} (ok : h.ok) :
    Ev (C 90 [k.v, .int .i64 (q : Int), .int .u64 e] h) fun r => ∃ b, r.1 = .ptr b 0 ∧ Fr [] h r.2 ∧ h.next ≤ b ∧ r.2.get b = some (.cells (Shade.cs ⟨false, ((Wd.header q).pos k : Nat), e, 0, 0⟩) .rw) := by
  refine call_ev (af := F.shade_NewShade) (by kernel_rfl) rfl ?_
  have hH := header_at hr hq
  have hv : k.v = .agg [.int .i64 k.s, .int .i64 k.a, .int .i64 k.c, .int .i64 k.hd, .int .i64 k.g, .int .i64 k.st] := rfl
  rw [hv] at hH ⊢
  rw [S.shade_NewShade_eq]
  have hn : ¬ ((((Wd.header q).pos k : Nat) : Int) < 0) := by omega
  simp only [S.shade_NewShade, nilc_ptr, lenSl_sl, lenSl_nil, eqPtr_ptr, eqPtr_nil, eqPtr_ptr', eqSl_sl, eqSl_nil, ptrAt_ptr, Option.bind_some, Option.map_some, ld1_get', ldN_get', st_get', get_put', get_new', put_put', ldB_cells, ldNB_cells, stB_cells, H.next_new, H.next_put, List.getElem?_cons_zero, List.getElem?_cons_succ, Nat.zero_add, Nat.add_zero, Nat.reduceAdd, Nat.reduceLeDiff, Nat.reduceLT, Nat.reduceMul, Nat.reduceSub, Nat.reduceEqDiff, Int.reduceEq, Int.reduceLT, Int.reduceLE, Int.reduceNeg, V.one, V.cells, V.beq, V.beqs, ckB_some, asI_int, asB_bool, asIAny, asS, List.length_cons, List.length_nil, Nat.beq_refl, List.all_cons, List.all_nil, Bool.and_true, Bool.and_false, Bool.true_and, Bool.false_and, Bool.not_true, Bool.not_false, Bool.or_false, Bool.false_or, Bool.or_self, Bool.and_self, decide_true, decide_false, if_true, if_false, splice, List.take_succ_cons, List.take_zero, List.drop_succ_cons, List.drop_zero, List.cons_append, List.nil_append, List.set_cons_zero, List.set_cons_succ, reduceCtorEq, fill, repl, opd, boxc, finV, resAllV, resOfV, result, eqV, eqIfc, aggCells, part, W_call, Nat.reduceBEq, Nat.beq_eq, hH, hn]
  exact Ev.some ⟨_, rfl, ((Fr.refl ok).new _).new _, by omega, get_new_self _ _⟩

/-- A step of a shade; what the block holds behind it. -/
theorem shadeStep_spec {h : H} (ok : h.ok) {b m bw : Nat} {s : Shade} {M : Mem} (hs : h.get b = some (.cells s.cs .rw)) (hM : MemAt h m bw M) (h1 : b ≠ m) (h2 : b ≠ bw) (he : U64 s.e) (hw : U64 s.was) :
    Ev (C 91 [.ptr b 0, .ptr m 0] h) fun r => r.1 = .bool (decide ((s.step M).1.next = 4)) ∧ Fr [b, m, bw] h r.2 ∧ r.2.get b = some (.cells (s.step M).1.cs .rw) ∧ MemAt r.2 m bw (s.step M).2 := by
  refine call_ev (af := F.shade_Shade_Step) (by kernel_rfl) rfl ?_
  rw [S.shade_Shade_Step_eq]
  have hbl := ok.lt hs
  have hF : ∀ {h' : H}, Fr [m, bw] h h' → Fr [b, m, bw] h h' := fun f => f.mono (by simp)
  have hnot : b ∉ [m, bw] := by simp [h1, h2]
  obtain ⟨grew, at', e, next, was⟩ := s
  unfold Shade.step
  unfold Shade.cs at hs
  simp only at hs he hw ⊢
  by_cases c0 : next = 0
  · subst c0
    obtain ⟨h', e1, f1, M1⟩ := hM.load ok at'
    have hb := f1.get ok hs hnot
    have hv := hM.val64 at'
    have hM2 : ∀ x, MemAt (h'.put b x) m bw (M.load at') := fun x => M1.fr (L := [b]) f1.ok ((Fr.refl f1.ok).put (.inl (by simp)) (f1.lt hbl) _) (by simp [h1.symm]) (by simp [h2.symm])
    simp only [S.shade_Shade_Step, nilc_ptr, lenSl_sl, lenSl_nil, eqPtr_ptr, eqPtr_nil, eqPtr_ptr', eqSl_sl, eqSl_nil, ptrAt_ptr, Option.bind_some, Option.map_some, ld1_get', ldN_get', st_get', get_put', get_new', put_put', ldB_cells, ldNB_cells, stB_cells, H.next_new, H.next_put, List.getElem?_cons_zero, List.getElem?_cons_succ, Nat.zero_add, Nat.add_zero, Nat.reduceAdd, Nat.reduceLeDiff, Nat.reduceLT, Nat.reduceMul, Nat.reduceSub, Nat.reduceEqDiff, Int.reduceEq, Int.reduceLT, Int.reduceLE, Int.reduceNeg, V.one, V.cells, V.beq, V.beqs, ckB_some, asI_int, asB_bool, asIAny, asS, List.length_cons, List.length_nil, Nat.beq_refl, List.all_cons, List.all_nil, Bool.and_true, Bool.and_false, Bool.true_and, Bool.false_and, Bool.not_true, Bool.not_false, Bool.or_false, Bool.false_or, Bool.or_self, Bool.and_self, decide_true, decide_false, if_true, if_false, splice, List.take_succ_cons, List.take_zero, List.drop_succ_cons, List.drop_zero, List.cons_append, List.nil_append, List.set_cons_zero, List.set_cons_succ, reduceCtorEq, fill, repl, opd, boxc, finV, resAllV, resOfV, result, eqV, eqIfc, aggCells, part, W_call, Nat.reduceBEq, Nat.beq_eq, hs, e1, hb, shaded_spec hv he]
    cases hw1 : white (M.val at') e with
    | false =>
      simp only [nilc_ptr, lenSl_sl, lenSl_nil, eqPtr_ptr, eqPtr_nil, eqPtr_ptr', eqSl_sl, eqSl_nil, ptrAt_ptr, Option.bind_some, Option.map_some, ld1_get', ldN_get', st_get', get_put', get_new', put_put', ldB_cells, ldNB_cells, stB_cells, H.next_new, H.next_put, List.getElem?_cons_zero, List.getElem?_cons_succ, Nat.zero_add, Nat.add_zero, Nat.reduceAdd, Nat.reduceLeDiff, Nat.reduceLT, Nat.reduceMul, Nat.reduceSub, Nat.reduceEqDiff, Int.reduceEq, Int.reduceLT, Int.reduceLE, Int.reduceNeg, V.one, V.cells, V.beq, V.beqs, ckB_some, asI_int, asB_bool, asIAny, asS, List.length_cons, List.length_nil, Nat.beq_refl, List.all_cons, List.all_nil, Bool.and_true, Bool.and_false, Bool.true_and, Bool.false_and, Bool.not_true, Bool.not_false, Bool.or_false, Bool.false_or, Bool.or_self, Bool.and_self, decide_true, decide_false, if_true, if_false, splice, List.take_succ_cons, List.take_zero, List.drop_succ_cons, List.drop_zero, List.cons_append, List.nil_append, List.set_cons_zero, List.set_cons_succ, reduceCtorEq, fill, repl, opd, boxc, finV, resAllV, resOfV, result, eqV, eqIfc, aggCells, part, W_call, Nat.reduceBEq, Nat.beq_eq]
      exact Ev.some ⟨rfl, (hF f1).put (.inl (by simp)) (f1.lt hbl) _, by simp [get_put', Shade.cs], hM2 _⟩
    | true =>
      simp only [nilc_ptr, lenSl_sl, lenSl_nil, eqPtr_ptr, eqPtr_nil, eqPtr_ptr', eqSl_sl, eqSl_nil, ptrAt_ptr, Option.bind_some, Option.map_some, ld1_get', ldN_get', st_get', get_put', get_new', put_put', ldB_cells, ldNB_cells, stB_cells, H.next_new, H.next_put, List.getElem?_cons_zero, List.getElem?_cons_succ, Nat.zero_add, Nat.add_zero, Nat.reduceAdd, Nat.reduceLeDiff, Nat.reduceLT, Nat.reduceMul, Nat.reduceSub, Nat.reduceEqDiff, Int.reduceEq, Int.reduceLT, Int.reduceLE, Int.reduceNeg, V.one, V.cells, V.beq, V.beqs, ckB_some, asI_int, asB_bool, asIAny, asS, List.length_cons, List.length_nil, Nat.beq_refl, List.all_cons, List.all_nil, Bool.and_true, Bool.and_false, Bool.true_and, Bool.false_and, Bool.not_true, Bool.not_false, Bool.or_false, Bool.false_or, Bool.or_self, Bool.and_self, decide_true, decide_false, if_true, if_false, splice, List.take_succ_cons, List.take_zero, List.drop_succ_cons, List.drop_zero, List.cons_append, List.nil_append, List.set_cons_zero, List.set_cons_succ, reduceCtorEq, fill, repl, opd, boxc, finV, resAllV, resOfV, result, eqV, eqIfc, aggCells, part, W_call, Nat.reduceBEq, Nat.beq_eq]
      exact Ev.some ⟨rfl, (hF f1).put (.inl (by simp)) (f1.lt hbl) _, by simp [get_put', Shade.cs], hM2 _⟩
  · by_cases c1 : next = 1
    · subst c1
      obtain ⟨v, h', e1, f1, M1⟩ := hM.add ok 2 1
      have hb := f1.get ok hs hnot
      simp only [S.shade_Shade_Step, nilc_ptr, lenSl_sl, lenSl_nil, eqPtr_ptr, eqPtr_nil, eqPtr_ptr', eqSl_sl, eqSl_nil, ptrAt_ptr, Option.bind_some, Option.map_some, ld1_get', ldN_get', st_get', get_put', get_new', put_put', ldB_cells, ldNB_cells, stB_cells, H.next_new, H.next_put, List.getElem?_cons_zero, List.getElem?_cons_succ, Nat.zero_add, Nat.add_zero, Nat.reduceAdd, Nat.reduceLeDiff, Nat.reduceLT, Nat.reduceMul, Nat.reduceSub, Nat.reduceEqDiff, Int.reduceEq, Int.reduceLT, Int.reduceLE, Int.reduceNeg, V.one, V.cells, V.beq, V.beqs, ckB_some, asI_int, asB_bool, asIAny, asS, List.length_cons, List.length_nil, Nat.beq_refl, List.all_cons, List.all_nil, Bool.and_true, Bool.and_false, Bool.true_and, Bool.false_and, Bool.not_true, Bool.not_false, Bool.or_false, Bool.false_or, Bool.or_self, Bool.and_self, decide_true, decide_false, if_true, if_false, splice, List.take_succ_cons, List.take_zero, List.drop_succ_cons, List.drop_zero, List.cons_append, List.nil_append, List.set_cons_zero, List.set_cons_succ, reduceCtorEq, fill, repl, opd, boxc, finV, resAllV, resOfV, result, eqV, eqIfc, aggCells, part, W_call, Nat.reduceBEq, Nat.beq_eq, hs, e1, hb]
      exact Ev.some ⟨rfl, (hF f1).put (.inl (by simp)) (f1.lt hbl) _, by simp [get_put', Shade.cs], M1.fr (L := [b]) f1.ok ((Fr.refl f1.ok).put (.inl (by simp)) (f1.lt hbl) _) (by simp [h1.symm]) (by simp [h2.symm])⟩
    · by_cases c2 : next = 2
      · subst c2
        have hsw : U64 (shaded was e) := by
          unfold shaded; split
          · exact word_U64 (shadedH_right _ _)
          · exact hw
        generalize hh1 : h.put b (some (.cells [.bool grew, .int .i64 at', .int .u64 e, .int .i64 3, .int .u64 was] .rw)) = h1'
        have fp : Fr [b] h h1' := by rw [← hh1]; exact (Fr.refl ok).put (.inl (by simp)) hbl _
        have hb1 : h1'.get b = some (.cells [.bool grew, .int .i64 at', .int .u64 e, .int .i64 3, .int .u64 was] .rw) := by rw [← hh1]; exact get_put_self _ _ _
        have hM1 := hM.fr ok fp (by simp [h1.symm]) (by simp [h2.symm])
        obtain ⟨h', e1, f1, M1⟩ := hM1.swap fp.ok at' was hsw
        have hb := f1.get fp.ok hb1 hnot
        have hfr : Fr [b, m, bw] h h' := (fp.mono (by simp)).trans' (f1.mono (by simp))
        have hb' : b < h'.next := f1.lt (fp.lt hbl)
        simp only [S.shade_Shade_Step, nilc_ptr, lenSl_sl, lenSl_nil, eqPtr_ptr, eqPtr_nil, eqPtr_ptr', eqSl_sl, eqSl_nil, ptrAt_ptr, Option.bind_some, Option.map_some, ld1_get', ldN_get', st_get', get_put', get_new', put_put', ldB_cells, ldNB_cells, stB_cells, H.next_new, H.next_put, List.getElem?_cons_zero, List.getElem?_cons_succ, Nat.zero_add, Nat.add_zero, Nat.reduceAdd, Nat.reduceLeDiff, Nat.reduceLT, Nat.reduceMul, Nat.reduceSub, Nat.reduceEqDiff, Int.reduceEq, Int.reduceLT, Int.reduceLE, Int.reduceNeg, V.one, V.cells, V.beq, V.beqs, ckB_some, asI_int, asB_bool, asIAny, asS, List.length_cons, List.length_nil, Nat.beq_refl, List.all_cons, List.all_nil, Bool.and_true, Bool.and_false, Bool.true_and, Bool.false_and, Bool.not_true, Bool.not_false, Bool.or_false, Bool.false_or, Bool.or_self, Bool.and_self, decide_true, decide_false, if_true, if_false, splice, List.take_succ_cons, List.take_zero, List.drop_succ_cons, List.drop_zero, List.cons_append, List.nil_append, List.set_cons_zero, List.set_cons_succ, reduceCtorEq, fill, repl, opd, boxc, finV, resAllV, resOfV, result, eqV, eqIfc, aggCells, part, W_call, Nat.reduceBEq, Nat.beq_eq, hs, c0, c1, shaded_spec hw he, hh1, hb1, e1, hb]
        cases hsp : M.swaps at' was with
        | true =>
          simp only [nilc_ptr, lenSl_sl, lenSl_nil, eqPtr_ptr, eqPtr_nil, eqPtr_ptr', eqSl_sl, eqSl_nil, ptrAt_ptr, Option.bind_some, Option.map_some, ld1_get', ldN_get', st_get', get_put', get_new', put_put', ldB_cells, ldNB_cells, stB_cells, H.next_new, H.next_put, List.getElem?_cons_zero, List.getElem?_cons_succ, Nat.zero_add, Nat.add_zero, Nat.reduceAdd, Nat.reduceLeDiff, Nat.reduceLT, Nat.reduceMul, Nat.reduceSub, Nat.reduceEqDiff, Int.reduceEq, Int.reduceLT, Int.reduceLE, Int.reduceNeg, V.one, V.cells, V.beq, V.beqs, ckB_some, asI_int, asB_bool, asIAny, asS, List.length_cons, List.length_nil, Nat.beq_refl, List.all_cons, List.all_nil, Bool.and_true, Bool.and_false, Bool.true_and, Bool.false_and, Bool.not_true, Bool.not_false, Bool.or_false, Bool.false_or, Bool.or_self, Bool.and_self, decide_true, decide_false, if_true, if_false, splice, List.take_succ_cons, List.take_zero, List.drop_succ_cons, List.drop_zero, List.cons_append, List.nil_append, List.set_cons_zero, List.set_cons_succ, reduceCtorEq, fill, repl, opd, boxc, finV, resAllV, resOfV, result, eqV, eqIfc, aggCells, part, W_call, Nat.reduceBEq, Nat.beq_eq]
          exact Ev.some ⟨rfl, hfr.put (.inl (by simp)) hb' _, by simp [get_put', Shade.cs], M1.fr (L := [b]) f1.ok ((Fr.refl f1.ok).put (.inl (by simp)) hb' _) (by simp [h1.symm]) (by simp [h2.symm])⟩
        | false =>
          simp only [nilc_ptr, lenSl_sl, lenSl_nil, eqPtr_ptr, eqPtr_nil, eqPtr_ptr', eqSl_sl, eqSl_nil, ptrAt_ptr, Option.bind_some, Option.map_some, ld1_get', ldN_get', st_get', get_put', get_new', put_put', ldB_cells, ldNB_cells, stB_cells, H.next_new, H.next_put, List.getElem?_cons_zero, List.getElem?_cons_succ, Nat.zero_add, Nat.add_zero, Nat.reduceAdd, Nat.reduceLeDiff, Nat.reduceLT, Nat.reduceMul, Nat.reduceSub, Nat.reduceEqDiff, Int.reduceEq, Int.reduceLT, Int.reduceLE, Int.reduceNeg, V.one, V.cells, V.beq, V.beqs, ckB_some, asI_int, asB_bool, asIAny, asS, List.length_cons, List.length_nil, Nat.beq_refl, List.all_cons, List.all_nil, Bool.and_true, Bool.and_false, Bool.true_and, Bool.false_and, Bool.not_true, Bool.not_false, Bool.or_false, Bool.false_or, Bool.or_self, Bool.and_self, decide_true, decide_false, if_true, if_false, splice, List.take_succ_cons, List.take_zero, List.drop_succ_cons, List.drop_zero, List.cons_append, List.nil_append, List.set_cons_zero, List.set_cons_succ, reduceCtorEq, fill, repl, opd, boxc, finV, resAllV, resOfV, result, eqV, eqIfc, aggCells, part, W_call, Nat.reduceBEq, Nat.beq_eq, hb]
          exact Ev.some ⟨rfl, hfr, hb, M1⟩
      · by_cases c3 : next = 3
        · subst c3
          obtain ⟨v, h', e1, f1, M1⟩ := hM.add ok 2 18446744073709551615
          have hb := f1.get ok hs hnot
          simp only [S.shade_Shade_Step, nilc_ptr, lenSl_sl, lenSl_nil, eqPtr_ptr, eqPtr_nil, eqPtr_ptr', eqSl_sl, eqSl_nil, ptrAt_ptr, Option.bind_some, Option.map_some, ld1_get', ldN_get', st_get', get_put', get_new', put_put', ldB_cells, ldNB_cells, stB_cells, H.next_new, H.next_put, List.getElem?_cons_zero, List.getElem?_cons_succ, Nat.zero_add, Nat.add_zero, Nat.reduceAdd, Nat.reduceLeDiff, Nat.reduceLT, Nat.reduceMul, Nat.reduceSub, Nat.reduceEqDiff, Int.reduceEq, Int.reduceLT, Int.reduceLE, Int.reduceNeg, V.one, V.cells, V.beq, V.beqs, ckB_some, asI_int, asB_bool, asIAny, asS, List.length_cons, List.length_nil, Nat.beq_refl, List.all_cons, List.all_nil, Bool.and_true, Bool.and_false, Bool.true_and, Bool.false_and, Bool.not_true, Bool.not_false, Bool.or_false, Bool.false_or, Bool.or_self, Bool.and_self, decide_true, decide_false, if_true, if_false, splice, List.take_succ_cons, List.take_zero, List.drop_succ_cons, List.drop_zero, List.cons_append, List.nil_append, List.set_cons_zero, List.set_cons_succ, reduceCtorEq, fill, repl, opd, boxc, finV, resAllV, resOfV, result, eqV, eqIfc, aggCells, part, W_call, Nat.reduceBEq, Nat.beq_eq, hs, e1, hb]
          exact Ev.some ⟨rfl, (hF f1).put (.inl (by simp)) (f1.lt hbl) _, by simp [get_put', Shade.cs], M1.fr (L := [b]) f1.ok ((Fr.refl f1.ok).put (.inl (by simp)) (f1.lt hbl) _) (by simp [h1.symm]) (by simp [h2.symm])⟩
        · simp only [S.shade_Shade_Step, nilc_ptr, lenSl_sl, lenSl_nil, eqPtr_ptr, eqPtr_nil, eqPtr_ptr', eqSl_sl, eqSl_nil, ptrAt_ptr, Option.bind_some, Option.map_some, ld1_get', ldN_get', st_get', get_put', get_new', put_put', ldB_cells, ldNB_cells, stB_cells, H.next_new, H.next_put, List.getElem?_cons_zero, List.getElem?_cons_succ, Nat.zero_add, Nat.add_zero, Nat.reduceAdd, Nat.reduceLeDiff, Nat.reduceLT, Nat.reduceMul, Nat.reduceSub, Nat.reduceEqDiff, Int.reduceEq, Int.reduceLT, Int.reduceLE, Int.reduceNeg, V.one, V.cells, V.beq, V.beqs, ckB_some, asI_int, asB_bool, asIAny, asS, List.length_cons, List.length_nil, Nat.beq_refl, List.all_cons, List.all_nil, Bool.and_true, Bool.and_false, Bool.true_and, Bool.false_and, Bool.not_true, Bool.not_false, Bool.or_false, Bool.false_or, Bool.or_self, Bool.and_self, decide_true, decide_false, if_true, if_false, splice, List.take_succ_cons, List.take_zero, List.drop_succ_cons, List.drop_zero, List.cons_append, List.nil_append, List.set_cons_zero, List.set_cons_succ, reduceCtorEq, fill, repl, opd, boxc, finV, resAllV, resOfV, result, eqV, eqIfc, aggCells, part, W_call, Nat.reduceBEq, Nat.beq_eq, hs, c0, c1, c2, c3]
          exact Ev.some ⟨rfl, .refl ok, hs, hM⟩
end Wm
end

section
/- Rows of numbers, and memories of them: slices.Clone, mem.Of, mem.Words. -/
namespace Wm
attribute [local congr] bind_congr1
attribute [local irreducible] wr

theorem app_new {h : H} {e b bb o c : Nat} {x : V} {new : List V} {n : Nat} (hx : lenSl x = some n) (hn : h.slc e x = some new) (ho : h.slc e (.sl bb o 0 (.ex c)) = some []) (h1 : new.all V.one = true) (h2 : (n + n / 2 + 1000) * b ≤ 281474976710656) (he : 0 < e) (hb : 0 < b) (hc : c < n) :
    h.append e b (.sl bb o 0 (.ex c)) x = some (.sl h.next 0 n (.op e), h.new (.cells new (.gr e))) := by
  have := append_ex' (len := 0) (bb := bb) (o := o) (c := c) hx hn ho h1 (by simpa using h2) he hb (by omega)
  rw [this]; simp

theorem slc_zero {h : H} {e b o : Nat} {c : Cap} {cs : List V} {k : Bk} (hg : h.get b = some (.cells cs k)) (ho : o ≤ cs.length) : h.slc e (.sl b o 0 c) = some [] := by
  rw [slc_get hg (by simpa using ho)]; simp

theorem RowIs.slc {g : H} {x : V} {ws : List Int} (h : RowIs g.get x ws) (hne : ws ≠ []) : lenSl x = some ws.length ∧ g.slc 1 x = some (ws.map (.int .u64)) := by
  obtain ⟨_, ⟨_, rfl⟩ | ⟨b, c, k, rfl, hb⟩⟩ := h
  · exact absurd rfl hne
  · refine ⟨rfl, ?_⟩
    rw [slc_get hb (by rw [List.length_map]; omega), List.drop_zero, List.take_of_length_le (by rw [List.length_map]; omega)]
theorem ones_u64 (ws : List Int) : (ws.map (V.int .u64)).all V.one = true := by
  rw [List.all_map, List.all_eq_true]; intro _ _; rfl
theorem RowIs.fr {g g' : H} {L : List Nat} {x : V} {ws : List Int} (h : RowIs g.get x ws) (ok : g.ok) (f : Fr L g g') (hL : ∀ b c, x = .sl b 0 ws.length c → b ∉ L) : RowIs g'.get x ws := by
  obtain ⟨q, h1 | ⟨b, c, k, rfl, hb⟩⟩ := h
  · exact ⟨q, .inl h1⟩
  · exact ⟨q, .inr ⟨b, c, k, rfl, f.get ok hb (hL b c rfl)⟩⟩

theorem clone_spec {h : H} (ok : h.ok) {x : V} {ws : List Int} (hx : RowIs h.get x ws) (hne : ws ≠ []) (hl : ws.length ≤ 65536) :
    Ev (C 271 [x] h) fun r => ∃ q, r.1 = .sl q 0 ws.length (.op 1) ∧ Fr [] h r.2 ∧ h.next ≤ q ∧ r.2.get q = some (.cells (ws.map (.int .u64)) (.gr 1)) := by
  refine call_ev (af := F.slices_Clone___uint64_uint64_) (by kernel_rfl) rfl ?_
  rw [S.slices_Clone___uint64_uint64__eq]
  have hns : eqSl x .nilsl = some false := by
    obtain ⟨_, ⟨_, rfl⟩ | ⟨b, c, k, rfl, hb⟩⟩ := hx
    · exact absurd rfl hne
    · rfl
  have ok1 := ok.new (.cells [] .rw)
  obtain ⟨e1, e2⟩ := (RowIs.fr hx ok ((Fr.refl (L := []) ok).new (.cells [] .rw)) (by simp)).slc hne
  have hpos : 0 < ws.length := List.length_pos_iff.mpr hne
  have ha := app_new (e := 1) (b := 8) (bb := h.next) (o := 0) (c := 0) e1 e2 (slc_zero (get_new_self h _) (by simp)) (ones_u64 ws) (by omega) (by omega) (by omega) hpos
  simp only [S.slices_Clone___uint64_uint64_, eqV, hns, Option.bind_some, ha]
  exact Ev.some ⟨_, rfl, ((Fr.refl ok).new _).new _, by rw [H.next_new]; omega, get_new_self _ _⟩

theorem memOf_spec {h : H} (ok : h.ok) {x : V} {ws : List Int} (hx : RowIs h.get x ws) (hne : ws ≠ []) (hl : ws.length ≤ 65536) (hu : ∀ w ∈ ws, U64 w) :
    Ev (C 198 [x] h) fun r => ∃ p q, r.1 = .ptr p 0 ∧ Fr [] h r.2 ∧ h.next ≤ p ∧ h.next ≤ q ∧ MemAt r.2 p q ⟨ws, 0, ⟨0, 0, 0, 0⟩⟩ := by
  refine call_ev (af := F.mem_Of) (by kernel_rfl) rfl ?_
  rw [S.mem_Of_eq]
  obtain ⟨⟨v, g⟩, e, q, rfl, f, hq, hg⟩ := clone_spec ok hx hne hl
  have hl' : ¬ (65536 < ((ws.length : Nat) : Int)) := by omega
  simp only [S.mem_Of, hx.len, Option.bind_some, hl', decide_false, W_call, e, nilc_ptr, lenSl_sl, lenSl_nil, eqPtr_ptr, eqPtr_nil, eqPtr_ptr', eqSl_sl, eqSl_nil, ptrAt_ptr, Option.bind_some, Option.map_some, ld1_get', ldN_get', st_get', get_put', get_new', put_put', ldB_cells, ldNB_cells, stB_cells, H.next_new, H.next_put, List.getElem?_cons_zero, List.getElem?_cons_succ, Nat.zero_add, Nat.add_zero, Nat.reduceAdd, Nat.reduceLeDiff, Nat.reduceLT, Nat.reduceMul, Nat.reduceSub, Nat.reduceEqDiff, Int.reduceEq, Int.reduceLT, Int.reduceLE, Int.reduceNeg, V.one, V.cells, V.beq, V.beqs, ckB_some, asI_int, asB_bool, asIAny, asS, List.length_cons, List.length_nil, Nat.beq_refl, List.all_cons, List.all_nil, Bool.and_true, Bool.and_false, Bool.true_and, Bool.false_and, Bool.not_true, Bool.not_false, Bool.or_false, Bool.false_or, Bool.or_self, Bool.and_self, decide_true, decide_false, if_true, if_false, splice, List.take_succ_cons, List.take_zero, List.drop_succ_cons, List.drop_zero, List.cons_append, List.nil_append, List.set_cons_zero, List.set_cons_succ, reduceCtorEq, fill, repl, opd, boxc, finV, resAllV, resOfV, result, eqV, eqIfc, aggCells, part, W_call, Nat.reduceBEq, Nat.beq_eq]
  have hqn : q ≠ g.next := f.ok.ne0 hg
  exact Ev.some ⟨g.next, q, rfl, f.new _, f.le, hq, ⟨hqn.symm, ⟨.op 1, get_new_self _ _⟩, ⟨.gr 1, by simp, by rw [get_new_ne hqn]; exact hg⟩, hu, hl⟩⟩

theorem MemAt.words {h : H} {b bw : Nat} {m : Mem} (M : MemAt h b bw m) (ok : h.ok) (hne : m.ws ≠ []) :
    Ev (C 94 [.ptr b 0] h) fun r => ∃ q, r.1 = .sl q 0 m.ws.length (.op 1) ∧ Fr [] h r.2 ∧ h.next ≤ q ∧ r.2.get q = some (.cells (m.ws.map (.int .u64)) (.gr 1)) := by
  obtain ⟨ne, ⟨c, ho⟩, ⟨k, hk, hr⟩, hu, hs⟩ := M
  refine call_ev (af := F.mem_Mem_Words) (by kernel_rfl) rfl ?_
  rw [S.mem_Mem_Words_eq]
  have hx : RowIs h.get (.sl bw 0 m.ws.length c) m.ws := ⟨by omega, .inr ⟨bw, c, k, rfl, hr⟩⟩
  obtain ⟨⟨v, g⟩, e, q, rfl, f, hq, hg⟩ := clone_spec ok hx hne hs
  simp only [S.mem_Mem_Words, nilc_ptr, lenSl_sl, lenSl_nil, eqPtr_ptr, eqPtr_nil, eqPtr_ptr', eqSl_sl, eqSl_nil, ptrAt_ptr, Option.bind_some, Option.map_some, ld1_get', ldN_get', st_get', get_put', get_new', put_put', ldB_cells, ldNB_cells, stB_cells, H.next_new, H.next_put, List.getElem?_cons_zero, List.getElem?_cons_succ, Nat.zero_add, Nat.add_zero, Nat.reduceAdd, Nat.reduceLeDiff, Nat.reduceLT, Nat.reduceMul, Nat.reduceSub, Nat.reduceEqDiff, Int.reduceEq, Int.reduceLT, Int.reduceLE, Int.reduceNeg, V.one, V.cells, V.beq, V.beqs, ckB_some, asI_int, asB_bool, asIAny, asS, List.length_cons, List.length_nil, Nat.beq_refl, List.all_cons, List.all_nil, Bool.and_true, Bool.and_false, Bool.true_and, Bool.false_and, Bool.not_true, Bool.not_false, Bool.or_false, Bool.false_or, Bool.or_self, Bool.and_self, decide_true, decide_false, if_true, if_false, splice, List.take_succ_cons, List.take_zero, List.drop_succ_cons, List.drop_zero, List.cons_append, List.nil_append, List.set_cons_zero, List.set_cons_succ, reduceCtorEq, fill, repl, opd, boxc, finV, resAllV, resOfV, result, eqV, eqIfc, aggCells, part, W_call, Nat.reduceBEq, Nat.beq_eq, ho, e]
  exact Ev.some ⟨q, rfl, f, hq, hg⟩

/-- How many headers are gray. -/
def graysN (k : Cfg) (f : Wd → Int) : Nat := ((List.range k.S).filter fun q => grayW (f (.header q))).length
theorem grayOf_eq (w : Int) : grayOf w = grayW w := by
  unfold grayOf grayW unp
  cases ho : okT w <;> simp
theorem cntT_row {k : Cfg} (hr : k.R = true) (f : Wd → Int) : ∀ n, n ≤ k.S → cntT k.s k.a k.c k.hd k.g k.st (k.row f) n = (((List.range n).filter fun q => grayW (f (.header q))).length : Int)
  | 0, _ => rfl
  | n + 1, hn => by
    rw [cntT, cntT_row hr f n (by omega), headerP_at hr (show n < k.S by omega), List.range_succ, List.filter_append, List.length_append]
    have hw : wAt (k.row f) (((Wd.header n).pos k : Nat) : Int) = f (.header n) := by
      unfold wAt
      rw [Int.toNat_natCast, row_at (show (Wd.header n).ok k from hn)]; rfl
    rw [hw, grayOf_eq]
    cases hg : grayW (f (.header n)) <;> simp [hg]
theorem totT_eq {k : Cfg} (hr : k.R = true) : totT k.s k.a k.c k.hd = (k.size : Int) := by
  have := sizeW_tot (s := k.s) (a := k.a) (c := k.c) (hd := k.hd) (g := k.g) (st := k.st) hr
  rw [← this]
  have hn : sizeW k.S k.room k.C k.H = k.size := by unfold sizeW Cfg.size Cfg.base; omega
  exact congrArg _ hn
theorem Fr.ext {h : H} (ok : h.ok) (l : List (Option Blk)) : Fr [] h (h.ext l) := ⟨by rw [H.ext_next]; omega, ok.ext l, fun b hb _ => H.ext_old hb⟩
theorem refGrays_spec {k : Cfg} (hr : k.R = true) {h : H} (ok : h.ok) {x : V} {f : Wd → Int} (hx : RowIs h.get x (k.row f)) (hu : ∀ w ∈ k.row f, U64 w) :
    Ev (C 88 [k.v, x] h) fun r => r.1 = .int .i64 (graysN k f : Nat) ∧ Fr [] h r.2 := by
  obtain ⟨L, e⟩ := grays_spec (s := k.s) (a := k.a) (c := k.c) (hd := k.hd) (g := k.g) (st := k.st) hr ok hx hu (by rw [row_length, totT_eq hr])
  refine ⟨_, e, ?_, Fr.ext ok L⟩
  show V.int _ _ = V.int _ _
  congr 1
  exact cntT_row hr f k.S (Nat.le_refl _)
end Wm
end

section
/- The memory that the laws of layer 9 begin with: withylaw09.filled. -/
namespace Wm
attribute [local congr] bind_congr1
attribute [local irreducible] wr

/-- A row of headers. -/
def RowH (g : Nat → Option Blk) (x : V) (l : List Hdr) : Prop := (x = .nilsl ∧ l = []) ∨ ∃ b c k, x = .sl b 0 l.length c ∧ g b = some (.cells (l.map Hdr.cs).flatten k)
theorem hdrs6 (l : List Hdr) : ∀ x ∈ l.map Hdr.cs, x.length = 6 := fun x hx => by
  obtain ⟨_, _, rfl⟩ := List.mem_map.mp hx; rfl
theorem RowH.len {g : Nat → Option Blk} {x : V} {l : List Hdr} (h : RowH g x l) : lenSl x = some l.length := by
  obtain ⟨rfl, rfl⟩ | ⟨b, c, k, rfl, _⟩ := h <;> rfl
theorem RowH.at {g : H} {x : V} {l : List Hdr} (h : RowH g.get x l) {i : Nat} {y : Hdr} (hy : l[i]? = some y) : ∃ b, indexAV 6 x (.int .i64 (i : Int)) = some (.ptr b (i * 6)) ∧ ldNB (g.get b) (i * 6) 6 = some (.agg y.cs) ∧ g.get b ≠ none := by
  have hi := lt_of_get hy
  obtain ⟨rfl, rfl⟩ | ⟨b, c, k, rfl, hb⟩ := h
  · simp at hy
  · refine ⟨b, sl_idx hi, ?_, by rw [hb]; simp⟩
    have hn : (l.map Hdr.cs).flatten.length = l.length * 6 := by rw [flat_length (hdrs6 l), List.length_map]
    rw [hb, ldNB_cells, decide_eq_true (by rw [hn]; omega), flat_part (hdrs6 l) i y.cs (by rw [List.getElem?_map, hy]; rfl)]
theorem RowH.fr {g g' : H} {L : List Nat} {x : V} {l : List Hdr} (h : RowH g.get x l) (ok : g.ok) (f : Fr L g g') (hL : ∀ b c, x = .sl b 0 l.length c → b ∉ L) : RowH g'.get x l := by
  obtain h1 | ⟨b, c, k, rfl, hb⟩ := h
  · exact .inl h1
  · exact .inr ⟨b, c, k, rfl, f.get ok hb (hL b c rfl)⟩

/-- What is gray is marked. -/
def fixG (x : Hdr) (e : Int) : Hdr := { x with gray := x.gray && decide (x.mark = black e) }
def headF (l : List Hdr) (e : Int) (q : Nat) : Int := match l[q]? with
  | some x => if (fixG x e).right then (fixG x e).word else 0
  | none => 0
/-- The words behind so many rounds. -/
def fillH (k : Cfg) (l : List Hdr) (e : Int) (n : Nat) : Wd → Int
  | .header q => if q < n then headF l e q else 0
  | w => mem0 k w
def fillF (k : Cfg) (l : List Hdr) (e : Int) : Wd → Int := wset (fillH k l e k.S) .grays (graysN k (fillH k l e k.S) : Nat)

theorem headF_U64 (l : List Hdr) (e : Int) (q : Nat) : U64 (headF l e q) := by
  unfold headF
  split
  · split
    · exact word_U64 ‹_›
    · exact ⟨by decide, by decide⟩
  · exact ⟨by decide, by decide⟩
theorem mem0_U64 {k : Cfg} (hr : k.R = true) (w : Wd) : U64 (mem0 k w) := by
  have hb := Cfg.R_iff.mp hr
  cases w <;> simp only [mem0, U64] <;> (try split) <;> omega
theorem fillH_U64 {k : Cfg} (hr : k.R = true) (l : List Hdr) (e : Int) (n : Nat) (w : Wd) : U64 (fillH k l e n w) := by
  cases w with
  | header q =>
    simp only [fillH]
    split
    · exact headF_U64 _ _ _
    · exact ⟨by decide, by decide⟩
  | clock => exact mem0_U64 hr .clock
  | epoch => exact mem0_U64 hr .epoch
  | grays => exact mem0_U64 hr .grays
  | top => exact mem0_U64 hr .top
  | pin q => exact mem0_U64 hr (.pin q)
  | entry q i => exact mem0_U64 hr (.entry q i)
  | view q => exact mem0_U64 hr (.view q)
  | start q => exact mem0_U64 hr (.start q)
  | link q => exact mem0_U64 hr (.link q)
  | body q i => exact mem0_U64 hr (.body q i)
theorem row_U64 {k : Cfg} {f : Wd → Int} (h : ∀ l, U64 (f l)) : ∀ w ∈ k.row f, U64 w := fun w hw => by
  obtain ⟨l, _, rfl⟩ := List.mem_map.mp hw; exact h l
theorem graysN_le (k : Cfg) (f : Wd → Int) : graysN k f ≤ k.S := by
  unfold graysN
  have := List.length_filter_le (fun q => grayW (f (.header q))) (List.range k.S)
  rwa [List.length_range] at this
theorem fillH_succ {k : Cfg} (l : List Hdr) (e : Int) {n : Nat} (hn : n < k.S) : k.row (fillH k l e (n + 1)) = (k.row (fillH k l e n)).set ((Wd.header n).pos k) (headF l e n) := by
  rw [row_set (show (Wd.header n).ok k from hn)]
  apply row_congr
  intro w _
  unfold wset
  cases w with
  | header q =>
    simp only [fillH, Wd.header.injEq]
    by_cases h1 : q = n
    · subst h1; rw [if_pos (Nat.lt_succ_self _), if_pos rfl]
    · rw [if_neg h1]
      by_cases h2 : q < n
      · rw [if_pos (Nat.lt_succ_of_lt h2), if_pos h2]
      · rw [if_neg (by omega), if_neg h2]
  | _ => rfl
theorem fillH_same {k : Cfg} (l : List Hdr) (e : Int) {n : Nat} (hn : n < k.S) (h0 : headF l e n = 0) : k.row (fillH k l e (n + 1)) = k.row (fillH k l e n) := by
  rw [fillH_succ l e hn, h0]
  have h1 : (k.row (fillH k l e n))[(Wd.header n).pos k]? = some 0 := by
    rw [row_at (show (Wd.header n).ok k from hn)]; simp [fillH]
  obtain ⟨h2, h3⟩ := List.getElem?_eq_some_iff.mp h1
  conv => lhs; rw [← h3]
  exact List.set_getElem_self h2
theorem fillH_zero (k : Cfg) (l : List Hdr) (e : Int) : fillH k l e 0 = mem0 k := by
  funext w; cases w <;> simp [fillH, mem0]
theorem fillH_over {k : Cfg} {l : List Hdr} {e : Int} {n : Nat} (hn : l.length ≤ n) : k.row (fillH k l e n) = k.row (fillH k l e k.S) := by
  apply row_congr
  intro w hw
  cases w with
  | header q =>
    simp only [fillH]
    rw [if_pos (show q < k.S from hw)]
    by_cases h2 : q < n
    · rw [if_pos h2]
    · rw [if_neg h2]
      unfold headF
      rw [List.getElem?_eq_none (by omega)]
  | _ => rfl

theorem row_splice {ws : List Int} {p : Nat} (hp : p < ws.length) {kd : Go.IntKind} {v : Int} : (ws.map (V.int kd)).take p ++ [V.int kd v] ++ (ws.map (V.int kd)).drop (p + 1) = (ws.set p v).map (V.int kd) := by
  rw [List.map_set, List.set_eq_take_append_cons_drop, if_pos (by rw [List.length_map]; exact hp), List.append_assoc]; rfl

theorem filled_spec {k : Cfg} (hr : k.R = true) {h : H} (ok : h.ok) {x : V} {l : List Hdr} (hx : RowH h.get x l) (hi : ∀ y ∈ l, y.i64) {e : Int} (he : U64 e) :
    Ev (C 93 [k.v, x, .int .u64 e] h) fun r => ∃ p q, r.1 = .ptr p 0 ∧ Fr [] h r.2 ∧ h.next ≤ p ∧ h.next ≤ q ∧ MemAt r.2 p q ⟨k.row (fillF k l e), 0, ⟨0, 0, 0, 0⟩⟩ := by
  have hb := Cfg.bounds hr
  refine call_ev (af := F.withylaw09_filled) (by kernel_rfl) rfl ?_
  obtain ⟨g0, bw, e0, f0, n0, n1, w0⟩ := Memory_spec hr (ok.new (.cells k.cs .rw))
  have hv : k.v = .agg [.int .i64 k.s, .int .i64 k.a, .int .i64 k.c, .int .i64 k.hd, .int .i64 k.g, .int .i64 k.st] := rfl
  have hcs : (Blk.cells k.cs .rw) = .cells [.int .i64 k.s, .int .i64 k.a, .int .i64 k.c, .int .i64 k.hd, .int .i64 k.g, .int .i64 k.st] .rw := rfl
  rw [hv, S.withylaw09_filled_eq]
  rw [hv, hcs] at e0
  simp only [S.withylaw09_filled, nilc_ptr, lenSl_sl, lenSl_nil, eqPtr_ptr, eqPtr_nil, eqPtr_ptr', eqSl_sl, eqSl_nil, ptrAt_ptr, Option.bind_some, Option.map_some, ld1_get', ldN_get', st_get', get_put', get_new', put_put', ldB_cells, ldNB_cells, stB_cells, H.next_new, H.next_put, List.getElem?_cons_zero, List.getElem?_cons_succ, Nat.zero_add, Nat.add_zero, Nat.reduceAdd, Nat.reduceLeDiff, Nat.reduceLT, Nat.reduceMul, Nat.reduceSub, Nat.reduceEqDiff, Int.reduceEq, Int.reduceLT, Int.reduceLE, Int.reduceNeg, V.one, V.cells, V.beq, V.beqs, ckB_some, asI_int, asB_bool, asIAny, asS, List.length_cons, List.length_nil, Nat.beq_refl, List.all_cons, List.all_nil, Bool.and_true, Bool.and_false, Bool.true_and, Bool.false_and, Bool.not_true, Bool.not_false, Bool.or_false, Bool.false_or, Bool.or_self, Bool.and_self, decide_true, decide_false, if_true, if_false, splice, List.take_succ_cons, List.take_zero, List.drop_succ_cons, List.drop_zero, List.cons_append, List.nil_append, List.set_cons_zero, List.set_cons_succ, reduceCtorEq, fill, repl, opd, boxc, finV, resAllV, resOfV, result, eqV, eqIfc, aggCells, part, W_call, Nat.reduceBEq, Nat.beq_eq, e0]
  have hfr0 : Fr [] h g0 := ((Fr.refl ok).new _).trans' f0
  have hcfg : g0.get h.next = some (.cells [.int .i64 k.s, .int .i64 k.a, .int .i64 k.c, .int .i64 k.hd, .int .i64 k.g, .int .i64 k.st] .rw) := f0.get (ok.new _) (get_new_self _ _) (by simp)
  have hx0 := hx.fr ok hfr0 (by simp)
  rw [H.next_new] at n0
  have hbne : bw ≠ h.next := by omega
  have hxb : ∀ b c, x = .sl b 0 l.length c → b ∉ [bw] := by
    rintro b c rfl
    obtain ⟨h1, _⟩ | ⟨b', c', k', h1, hb'⟩ := hx
    · cases h1
    · cases h1
      have := ok.lt hb'
      simp; omega
  refine loop_ev (α := Nat) (fun i => S.withylaw09_filled_c1_E x (.int .u64 e) (.ptr h.next 0) (.sl bw 0 k.size (.ex k.size)) (.int .i64 i))
    (fun i g => i ≤ k.S ∧ Fr [bw] g0 g ∧ g.get bw = some (.cells ((k.row (fillH k l e i)).map (.int .u64)) .rw)) (fun i _ => k.S - i)
    (fun r => r.1 = .exit 0 ∧ r.2.1 = S.withylaw09_filled_c1_O (.ptr h.next 0) (.sl bw 0 k.size (.ex k.size)) ∧ Fr [bw] g0 r.2.2 ∧ r.2.2.get bw = some (.cells ((k.row (fillH k l e k.S)).map (.int .u64)) .rw)) 0 rfl ⟨Nat.zero_le _, .refl f0.ok, by rw [fillH_zero]; exact w0⟩ ?_ ?_
  · rintro i g ⟨hi0, fg, wg⟩
    rw [S.withylaw09_filled_c1_eq]
    have hcg := fg.get f0.ok hcfg (by simp [hbne.symm])
    have hs : (k.S : Int) = k.s := by have := Cfg.R_iff.mp hr; unfold Cfg.S; omega
    by_cases hic : i < k.S
    · have hd1 : decide ((i : Int) < k.s) = true := by rw [← hs]; exact natlt hic
      by_cases hil : i < l.length
      · have hd2 : decide ((i : Int) < (l.length : Int)) = true := natlt hil
        obtain ⟨y, hy⟩ : ∃ y, l[i]? = some y := ⟨_, List.getElem?_eq_getElem hil⟩
        have hxg := hx0.fr f0.ok fg hxb
        obtain ⟨bx, x1, x2, x3⟩ := hxg.at hy
        have w1 : wr .i64 ((i : Int) + 1) = ((i + 1 : Nat) : Int) := by rw [wr64 (by omega) (by omega)]; rfl
        have hmu : k.S - (i + 1) < k.S - i := Nat.sub_lt_sub_left hic (Nat.lt_succ_self i)
        have hat := at_wd hr (l := .header i) hic
        rw [hv] at hat
        have hat' : ∀ h, C 108 [.agg [.int .i64 k.s, .int .i64 k.a, .int .i64 k.c, .int .i64 k.hd, .int .i64 k.g, .int .i64 k.st], .agg [.str ⟨⟨[104, 101, 97, 100, 101, 114]⟩⟩, .int .i64 (i : Int), .int .i64 0]] h = some (.int .i64 ((Wd.header i).pos k : Nat), h) := hat
        have hix : indexAV 1 (.sl bw 0 k.size (.ex k.size)) (.int .i64 ((Wd.header i).pos k : Nat)) = some (.ptr bw ((Wd.header i).pos k)) := sl_idx1 (pos_lt (show (Wd.header i).ok k from hic))
        have hbl : bw < g.next := fg.lt (f0.ok.lt w0)
        have hbn : bw ≠ g.next := Nat.ne_of_lt hbl
        have hcn : h.next ≠ g.next := Nat.ne_of_lt (fg.lt (f0.ok.lt hcfg))
        have hyi := hi y (List.mem_of_getElem? hy)
        have hRt := refRight_spec (fixG y e)
        have hHF : headF l e i = if (fixG y e).right then (fixG y e).word else 0 := by unfold headF; rw [hy]
        have hPk : (fixG y e).right = true → ∀ h, C 111 [.agg (fixG y e).cs] h = some (.int .u64 (fixG y e).word, h) := fun q => refPack_spec q
        obtain ⟨kk, mm, gg, aa, nn, ss⟩ := y
        simp only [fixG, Hdr.cs] at hRt hPk x2
        have hpl : (Wd.header i).pos k < (k.row (fillH k l e i)).length := by rw [row_length]; exact pos_lt (show (Wd.header i).ok k from hic)
        have hle : decide ((Wd.header i).pos k + 1 ≤ ((k.row (fillH k l e i)).map (V.int .u64)).length) = true := decide_eq_true (by rw [List.length_map]; exact hpl)
        have hne0 : decide (Bk.rw = Bk.ro) = false := rfl
        have fr1 : ∀ b1, Fr [bw] g0 ((g.new b1)) := fun b1 => fg.new _
        have fr2 : ∀ b1 b2, Fr [bw] g0 ((g.new b1).put g.next b2) := fun b1 b2 => (fg.new _).put (.inr fg.le) (Nat.lt_succ_self _) _
        have fr3 : ∀ b1 b2 b3, Fr [bw] g0 (((g.new b1).put g.next b2).put bw b3) := fun b1 b2 b3 => (fr2 b1 b2).put (.inl (by simp)) (Nat.lt_succ_of_lt hbl) _
        cases hrt : (fixG ⟨kk, mm, gg, aa, nn, ss⟩ e).right with
        | false =>
          have hsame : k.row (fillH k l e (i + 1)) = k.row (fillH k l e i) := fillH_same l e hic (by rw [hHF, hrt]; rfl)
          simp only [fixG] at hrt
          cases gg <;>
          · simp only [Bool.true_and, Bool.false_and] at hRt hrt
            simp only [S.withylaw09_filled_c1_S, nilc_ptr, lenSl_sl, lenSl_nil, eqPtr_ptr, eqPtr_nil, eqPtr_ptr', eqSl_sl, eqSl_nil, ptrAt_ptr, Option.bind_some, Option.map_some, ld1_get', ldN_get', st_get', get_put', get_new', put_put', ldB_cells, ldNB_cells, stB_cells, H.next_new, H.next_put, List.getElem?_cons_zero, List.getElem?_cons_succ, Nat.zero_add, Nat.add_zero, Nat.reduceAdd, Nat.reduceLeDiff, Nat.reduceLT, Nat.reduceMul, Nat.reduceSub, Nat.reduceEqDiff, Int.reduceEq, Int.reduceLT, Int.reduceLE, Int.reduceNeg, V.one, V.cells, V.beq, V.beqs, ckB_some, asI_int, asB_bool, asIAny, asS, List.length_cons, List.length_nil, Nat.beq_refl, List.all_cons, List.all_nil, Bool.and_true, Bool.and_false, Bool.true_and, Bool.false_and, Bool.not_true, Bool.not_false, Bool.or_false, Bool.false_or, Bool.or_self, Bool.and_self, decide_true, decide_false, if_true, if_false, splice, List.take_succ_cons, List.take_zero, List.drop_succ_cons, List.drop_zero, List.cons_append, List.nil_append, List.set_cons_zero, List.set_cons_succ, reduceCtorEq, fill, repl, opd, boxc, finV, resAllV, resOfV, result, eqV, eqIfc, aggCells, part, W_call, Nat.reduceBEq, Nat.beq_eq, hcg, hd1, hx.len, hd2, x1, x2, refBlack_spec he, hRt, hrt, w1]
            refine Ev.some (.inl ⟨i + 1, rfl, rfl, ⟨hic, fr2 _ _, ?_⟩, hmu⟩)
            rw [hsame, get_put_ne hbn, get_new_ne hbn]; exact wg
        | true =>
          have hset : k.row (fillH k l e (i + 1)) = (k.row (fillH k l e i)).set ((Wd.header i).pos k) (fixG ⟨kk, mm, gg, aa, nn, ss⟩ e).word := by rw [fillH_succ l e hic, hHF, hrt]; rfl
          have hPk' := hPk hrt
          simp only [fixG] at hrt hset hPk'
          cases gg <;>
          · simp only [Bool.true_and, Bool.false_and] at hRt hrt hset hPk'
            simp only [S.withylaw09_filled_c1_S, nilc_ptr, lenSl_sl, lenSl_nil, eqPtr_ptr, eqPtr_nil, eqPtr_ptr', eqSl_sl, eqSl_nil, ptrAt_ptr, Option.bind_some, Option.map_some, ld1_get', ldN_get', st_get', get_put', get_new', put_put', ldB_cells, ldNB_cells, stB_cells, H.next_new, H.next_put, List.getElem?_cons_zero, List.getElem?_cons_succ, Nat.zero_add, Nat.add_zero, Nat.reduceAdd, Nat.reduceLeDiff, Nat.reduceLT, Nat.reduceMul, Nat.reduceSub, Nat.reduceEqDiff, Int.reduceEq, Int.reduceLT, Int.reduceLE, Int.reduceNeg, V.one, V.cells, V.beq, V.beqs, ckB_some, asI_int, asB_bool, asIAny, asS, List.length_cons, List.length_nil, Nat.beq_refl, List.all_cons, List.all_nil, Bool.and_true, Bool.and_false, Bool.true_and, Bool.false_and, Bool.not_true, Bool.not_false, Bool.or_false, Bool.false_or, Bool.or_self, Bool.and_self, decide_true, decide_false, if_true, if_false, splice, List.take_succ_cons, List.take_zero, List.drop_succ_cons, List.drop_zero, List.cons_append, List.nil_append, List.set_cons_zero, List.set_cons_succ, reduceCtorEq, fill, repl, opd, boxc, finV, resAllV, resOfV, result, eqV, eqIfc, aggCells, part, W_call, Nat.reduceBEq, Nat.beq_eq, hcg, hd1, hx.len, hd2, x1, x2, refBlack_spec he, hRt, hrt, w1, hcn, hbn, hat', hPk', hix, BEq.rfl, wg, hle, hne0]
            refine Ev.some (.inl ⟨i + 1, rfl, rfl, ⟨hic, fr3 _ _ _, ?_⟩, hmu⟩)
            rw [get_put_self, row_splice hpl, hset]
      · have hd2 : decide ((i : Int) < (l.length : Int)) = false := decide_eq_false (by omega)
        simp only [S.withylaw09_filled_c1_S, nilc_ptr, lenSl_sl, lenSl_nil, eqPtr_ptr, eqPtr_nil, eqPtr_ptr', eqSl_sl, eqSl_nil, ptrAt_ptr, Option.bind_some, Option.map_some, ld1_get', ldN_get', st_get', get_put', get_new', put_put', ldB_cells, ldNB_cells, stB_cells, H.next_new, H.next_put, List.getElem?_cons_zero, List.getElem?_cons_succ, Nat.zero_add, Nat.add_zero, Nat.reduceAdd, Nat.reduceLeDiff, Nat.reduceLT, Nat.reduceMul, Nat.reduceSub, Nat.reduceEqDiff, Int.reduceEq, Int.reduceLT, Int.reduceLE, Int.reduceNeg, V.one, V.cells, V.beq, V.beqs, ckB_some, asI_int, asB_bool, asIAny, asS, List.length_cons, List.length_nil, Nat.beq_refl, List.all_cons, List.all_nil, Bool.and_true, Bool.and_false, Bool.true_and, Bool.false_and, Bool.not_true, Bool.not_false, Bool.or_false, Bool.false_or, Bool.or_self, Bool.and_self, decide_true, decide_false, if_true, if_false, splice, List.take_succ_cons, List.take_zero, List.drop_succ_cons, List.drop_zero, List.cons_append, List.nil_append, List.set_cons_zero, List.set_cons_succ, reduceCtorEq, fill, repl, opd, boxc, finV, resAllV, resOfV, result, eqV, eqIfc, aggCells, part, W_call, Nat.reduceBEq, Nat.beq_eq, hcg, hd1, hx.len, hd2]
        exact Ev.some (.inr ⟨by simp, rfl, rfl, fg, by rw [← fillH_over (n := i) (Nat.le_of_not_lt hil)]; exact wg⟩)
    · have : i = k.S := Nat.le_antisymm hi0 (Nat.le_of_not_lt hic)
      subst this
      have hd1 : decide ((k.S : Int) < k.s) = false := decide_eq_false (by omega)
      simp only [S.withylaw09_filled_c1_S, nilc_ptr, lenSl_sl, lenSl_nil, eqPtr_ptr, eqPtr_nil, eqPtr_ptr', eqSl_sl, eqSl_nil, ptrAt_ptr, Option.bind_some, Option.map_some, ld1_get', ldN_get', st_get', get_put', get_new', put_put', ldB_cells, ldNB_cells, stB_cells, H.next_new, H.next_put, List.getElem?_cons_zero, List.getElem?_cons_succ, Nat.zero_add, Nat.add_zero, Nat.reduceAdd, Nat.reduceLeDiff, Nat.reduceLT, Nat.reduceMul, Nat.reduceSub, Nat.reduceEqDiff, Int.reduceEq, Int.reduceLT, Int.reduceLE, Int.reduceNeg, V.one, V.cells, V.beq, V.beqs, ckB_some, asI_int, asB_bool, asIAny, asS, List.length_cons, List.length_nil, Nat.beq_refl, List.all_cons, List.all_nil, Bool.and_true, Bool.and_false, Bool.true_and, Bool.false_and, Bool.not_true, Bool.not_false, Bool.or_false, Bool.false_or, Bool.or_self, Bool.and_self, decide_true, decide_false, if_true, if_false, splice, List.take_succ_cons, List.take_zero, List.drop_succ_cons, List.drop_zero, List.cons_append, List.nil_append, List.set_cons_zero, List.set_cons_succ, reduceCtorEq, fill, repl, opd, boxc, finV, resAllV, resOfV, result, eqV, eqIfc, aggCells, part, W_call, Nat.reduceBEq, Nat.beq_eq, hcg, hd1]
      exact Ev.some (.inr ⟨by simp, rfl, rfl, fg, wg⟩)
  · rintro ⟨x', env, g⟩ ⟨rfl, rfl, fg, wg⟩
    simp only at fg wg ⊢
    rw [S.withylaw09_filled_c1_e0_eq]
    have hcg := fg.get f0.ok hcfg (by simp [hbne.symm])
    have hU := fillH_U64 hr l e k.S
    have hrow : RowIs g.get (.sl bw 0 k.size (.ex k.size)) (k.row (fillH k l e k.S)) := ⟨by rw [row_length]; omega, .inr ⟨bw, _, _, by rw [row_length], wg⟩⟩
    obtain ⟨⟨v1, g1⟩, e1, rfl, f1⟩ := refGrays_spec hr fg.ok hrow (row_U64 hU)
    rw [hv] at e1
    have wg1 := f1.get fg.ok wg (by simp)
    have hsz : 4 ≤ k.size := by unfold Cfg.size Cfg.base; omega
    have i2 := sl_idx1 (b := bw) (n := k.size) (i := 2) (c := .ex k.size) (by omega)
    have hgl := graysN_le k (fillH k l e k.S)
    have hw : wr .u64 ((graysN k (fillH k l e k.S) : Nat) : Int) = (graysN k (fillH k l e k.S) : Nat) := wru64 (by omega) (by omega)
    have hpl : 2 < (k.row (fillH k l e k.S)).length := by rw [row_length]; omega
    have hle : decide (2 + 1 ≤ ((k.row (fillH k l e k.S)).map (V.int .u64)).length) = true := decide_eq_true (by rw [List.length_map]; exact hpl)
    have hset : (k.row (fillH k l e k.S)).set 2 (graysN k (fillH k l e k.S) : Nat) = k.row (fillF k l e) := row_set (l := .grays) trivial
    have hbl1 : bw < g1.next := f1.lt (fg.lt (f0.ok.lt w0))
    obtain ⟨⟨v2, g2⟩, e2, p, q, rfl, f2, q1, q2, M⟩ := memOf_spec (x := .sl bw 0 k.size (.ex k.size)) (ws := k.row (fillF k l e)) (f1.ok.put hbl1 (some (.cells ((k.row (fillF k l e)).map (.int .u64)) .rw))) ⟨by rw [row_length]; omega, .inr ⟨bw, _, _, by rw [row_length], get_put_self _ _ _⟩⟩
      (by intro q; have := row_length k (fillF k l e); rw [q] at this; simp only [List.length_nil] at this; omega) (by rw [row_length]; omega)
      (row_U64 fun w => by
        unfold fillF wset
        split
        · exact ⟨by omega, by omega⟩
        · exact hU w)
    have hsp := row_splice hpl (kd := .u64) (v := (graysN k (fillH k l e k.S) : Nat))
    rw [hset] at hsp
    rw [← hsp] at e2
    have ht : decide (Bk.rw = Bk.ro) = false := rfl
    simp only [List.take_succ_cons, Nat.reduceAdd] at e2
    simp only [S.withylaw09_filled_c1_e0, nilc_ptr, lenSl_sl, lenSl_nil, eqPtr_ptr, eqPtr_nil, eqPtr_ptr', eqSl_sl, eqSl_nil, ptrAt_ptr, Option.bind_some, Option.map_some, ld1_get', ldN_get', st_get', get_put', get_new', put_put', ldB_cells, ldNB_cells, stB_cells, H.next_new, H.next_put, List.getElem?_cons_zero, List.getElem?_cons_succ, Nat.zero_add, Nat.add_zero, Nat.reduceAdd, Nat.reduceLeDiff, Nat.reduceLT, Nat.reduceMul, Nat.reduceSub, Nat.reduceEqDiff, Int.reduceEq, Int.reduceLT, Int.reduceLE, Int.reduceNeg, V.one, V.cells, V.beq, V.beqs, ckB_some, asI_int, asB_bool, asIAny, asS, List.length_cons, List.length_nil, Nat.beq_refl, List.all_cons, List.all_nil, Bool.and_true, Bool.and_false, Bool.true_and, Bool.false_and, Bool.not_true, Bool.not_false, Bool.or_false, Bool.false_or, Bool.or_self, Bool.and_self, decide_true, decide_false, if_true, if_false, splice, List.take_succ_cons, List.take_zero, List.drop_succ_cons, List.drop_zero, List.cons_append, List.nil_append, List.set_cons_zero, List.set_cons_succ, reduceCtorEq, fill, repl, opd, boxc, finV, resAllV, resOfV, result, eqV, eqIfc, aggCells, part, W_call, Nat.reduceBEq, Nat.beq_eq, hcg, e1, hw, show indexAV 1 (.sl bw 0 k.size (.ex k.size)) (.int .i64 2) = some (.ptr bw 2) from i2, wg1, hle, ht, e2]
    have f12 : Fr [bw] g0 g2 := ((fg.trans f1 (by simp)).put (.inl (by simp)) hbl1 _).trans f2 (by simp)
    refine Ev.some ⟨p, q, rfl, hfr0.trans f12 (by simp; omega), ?_, ?_, M⟩
    · have := fg.le; have := f1.le; have := hfr0.le; rw [H.next_put] at q1; simp only at q1; omega
    · have := fg.le; have := f1.le; have := hfr0.le; rw [H.next_put] at q2; simp only at q2; omega
end Wm
end

section
/- Slices that grow: what is appended, one element at a time. -/
namespace Wm
attribute [local congr] bind_congr1
attribute [local irreducible] wr

/-- The block of a slice. -/
def V.blk : V → List Nat
  | .sl b _ _ _ => [b]
  | _ => []

/-- A slice that grew: elements of 'e' cells. -/
def Grown (g : Nat → Option Blk) (x : V) (e : Nat) (l : List V) : Prop :=
  (x = .nilsl ∧ l = []) ∨ ∃ b n, x = .sl b 0 n (.op e) ∧ l.length = n * e ∧ g b = some (.cells l (.gr e))

theorem Grown.nil (g : Nat → Option Blk) (e : Nat) : Grown g .nilsl e [] := .inl ⟨rfl, rfl⟩
theorem Grown.len {g : Nat → Option Blk} {x : V} {e : Nat} {l : List V} (G : Grown g x e l) (he : 0 < e) : ∃ n, lenSl x = some n ∧ l.length = n * e := by
  obtain ⟨rfl, rfl⟩ | ⟨b, n, rfl, hl, _⟩ := G
  · exact ⟨0, rfl, by simp⟩
  · exact ⟨n, rfl, hl⟩
theorem Grown.len1 {g : Nat → Option Blk} {x : V} {l : List V} (G : Grown g x 1 l) : lenSl x = some l.length := by
  obtain ⟨n, h1, h2⟩ := G.len (by omega)
  rw [h1, h2, Nat.mul_one]
theorem Grown.fr {g g' : H} {L : List Nat} {x : V} {e : Nat} {l : List V} (G : Grown g.get x e l) (ok : g.ok) (F : Fr L g g') (h : ∀ b ∈ x.blk, b ∉ L) : Grown g'.get x e l := by
  obtain h1 | ⟨b, n, rfl, hl, hb⟩ := G
  · exact .inl h1
  · exact .inr ⟨b, n, rfl, hl, F.get ok hb (h b (by simp [V.blk]))⟩
theorem Grown.lt {g : H} {x : V} {e : Nat} {l : List V} (G : Grown g.get x e l) (ok : g.ok) : ∀ b ∈ x.blk, b < g.next := by
  obtain ⟨rfl, rfl⟩ | ⟨b, n, rfl, hl, hb⟩ := G
  · simp [V.blk]
  · intro c hc; simp only [V.blk, List.mem_singleton] at hc; subst hc; exact ok.lt hb
/-- No block of another kind is its own. -/
theorem Grown.ne {g : Nat → Option Blk} {x : V} {e : Nat} {l : List V} (G : Grown g x e l) {b : Nat} {cs : List V} {k : Bk} (hb : g b = some (.cells cs k)) (hk : k ≠ .gr e) : b ∉ x.blk := by
  obtain ⟨rfl, rfl⟩ | ⟨b', n, rfl, hl, hb'⟩ := G
  · simp [V.blk]
  · simp only [V.blk, List.mem_singleton]
    rintro rfl
    rw [hb] at hb'
    simp only [Option.some.injEq, Blk.cells.injEq] at hb'
    exact hk hb'.2
/-- An element. -/
theorem Grown.at1 {g : H} {x : V} {l : List V} (G : Grown g.get x 1 l) {i : Nat} {v : V} (hv : l[i]? = some v) (h1 : v.one = true) : ∃ b, indexAV 1 x (.int .i64 (i : Int)) = some (.ptr b i) ∧ g.ld1 (.ptr b i) = some v := by
  have hi := lt_of_get hv
  obtain ⟨rfl, rfl⟩ | ⟨b, n, rfl, hl, hb⟩ := G
  · simp at hv
  · refine ⟨b, sl_idx1 (by omega), ?_⟩
    rw [ld1_get', hb, ldB_cells, hv]; simp only [h1]

theorem Grown.push {g : H} (ok : g.ok) {x : V} {e : Nat} {l new : List V} {nb : Nat} {k : Bk} {bytes : Nat} (G : Grown g.get x e l) (hn : g.get nb = some (.cells new k)) (hlen : new.length = e) (h1 : new.all V.one = true) (he : 0 < e) (hb : 0 < bytes ∧ bytes ≤ 1000) (hs : l.length ≤ 1000000) :
    ∃ x' g', g.append e bytes x (.sl nb 0 1 (.ex 1)) = some (x', g') ∧ Fr x.blk g g' ∧ Grown g'.get x' e (l ++ new) ∧ (∀ b ∈ x'.blk, g.next ≤ b) ∧ x'.blk ≠ [] := by
  have hslc : g.slc e (.sl nb 0 1 (.ex 1)) = some new := by
    rw [slc_get hn (by omega), List.drop_zero, List.take_of_length_le (by omega)]
  obtain ⟨rfl, rfl⟩ | ⟨b, n, rfl, hl, hbk⟩ := G
  · refine ⟨_, _, append_nil (n := 1) rfl hslc (by omega) h1 (by omega) he hb.1, (Fr.refl ok).new _, .inr ⟨_, _, rfl, by simp; omega, ?_⟩, by simp [V.blk], by simp [V.blk]⟩
    rw [List.nil_append]; exact get_new_self _ _
  · have hnn : n ≤ 1000000 := by
      have : n * 1 ≤ n * e := Nat.mul_le_mul_left _ he
      omega
    have hold : g.slc e (.sl b 0 n (.op e)) = some l := by rw [slc_get hbk (by omega), List.drop_zero, List.take_of_length_le (by omega)]
    have hsz : (n + 1 + (n + 1) / 2 + 1000) * bytes ≤ 281474976710656 := by
      have : (n + 1 + (n + 1) / 2 + 1000) * bytes ≤ 2000000 * 1000 := Nat.mul_le_mul (by omega) hb.2
      omega
    refine ⟨_, _, append_op (n := 1) rfl hslc hold hbk h1 hsz he hb.1, ?_, .inr ⟨_, _, rfl, by rw [List.length_append, hl, hlen, Nat.add_mul, Nat.one_mul], get_new_self _ _⟩, by simp [V.blk], by simp [V.blk]⟩
    exact ((Fr.refl ok).put (.inl (by simp [V.blk])) (ok.lt hbk) _).new _

/-- A row of numbers of a kind that is only read, or nil. -/
def RowN (kd : Go.IntKind) (g : Nat → Option Blk) (x : V) (ws : List Int) : Prop := (x = .nilsl ∧ ws = []) ∨ ∃ b c k, x = .sl b 0 ws.length c ∧ g b = some (.cells (ws.map (.int kd)) k)
theorem RowN.len {kd : Go.IntKind} {g : Nat → Option Blk} {x : V} {ws : List Int} (h : RowN kd g x ws) : lenSl x = some ws.length := by
  obtain ⟨rfl, rfl⟩ | ⟨b, c, k, rfl, _⟩ := h <;> rfl
theorem RowN.at {kd : Go.IntKind} {g : H} {x : V} {ws : List Int} (h : RowN kd g.get x ws) {i : Nat} {w : Int} (hw : ws[i]? = some w) : ∃ b, indexAV 1 x (.int .i64 (i : Int)) = some (.ptr b i) ∧ g.ld1 (.ptr b i) = some (.int kd w) := by
  have hi := lt_of_get hw
  obtain ⟨rfl, rfl⟩ | ⟨b, c, k, rfl, hb⟩ := h
  · simp at hw
  · refine ⟨b, sl_idx1 hi, ?_⟩
    rw [ld1_get', hb, ldB_cells, List.getElem?_map, hw]; rfl
theorem RowN.fr {kd : Go.IntKind} {g g' : H} {L : List Nat} {x : V} {ws : List Int} (h : RowN kd g.get x ws) (ok : g.ok) (F : Fr L g g') (hL : ∀ b ∈ x.blk, b ∉ L) : RowN kd g'.get x ws := by
  obtain h1 | ⟨b, c, k, rfl, hb⟩ := h
  · exact .inl h1
  · exact .inr ⟨b, c, k, rfl, F.get ok hb (hL b (by simp [V.blk]))⟩
theorem RowN.lt {kd : Go.IntKind} {g : H} {x : V} {ws : List Int} (h : RowN kd g.get x ws) (ok : g.ok) : ∀ b ∈ x.blk, b < g.next := by
  obtain ⟨rfl, rfl⟩ | ⟨b, c, k, rfl, hb⟩ := h
  · simp [V.blk]
  · intro c' hc; simp only [V.blk, List.mem_singleton] at hc; subst hc; exact ok.lt hb
end Wm
end

section
/- What arguments are, as lists of typed things. -/
namespace Wm

theorem chunks {α : Type} {P : List V → Prop} {enc : α → List V} {Q : α → Prop} {z : Nat} (hP : ∀ c, P c → ∃ y, c = enc y ∧ Q y) :
    ∀ (n : Nat) (cs : List V), cs.length = n * z → (∀ i, i < n → P ((cs.drop (i * z)).take z)) → ∃ ys : List α, cs = (ys.map enc).flatten ∧ ys.length = n ∧ ∀ y ∈ ys, Q y
  | 0, cs, hl, _ => ⟨[], by simpa using hl, rfl, by simp⟩
  | n + 1, cs, hl, h => by
    obtain ⟨y, hy, qy⟩ := hP _ (h 0 (by omega))
    have hl2 : (cs.drop z).length = n * z := by rw [List.length_drop, hl, Nat.add_mul]; omega
    obtain ⟨ys, h1, h2, h3⟩ := chunks hP n (cs.drop z) hl2 (fun i hi => by
      have := h (i + 1) (by omega)
      rw [Nat.add_mul, Nat.one_mul, Nat.add_comm (i * z) z, ← List.drop_drop] at this
      exact this)
    refine ⟨y :: ys, ?_, by simp [h2], fun x hx => ?_⟩
    · rw [List.map_cons, List.flatten_cons, ← h1, ← hy, Nat.zero_mul, List.drop_zero, List.take_append_drop]
    · rcases List.mem_cons.mp hx with rfl | hx
      · exact qy
      · exact h3 x hx

theorem flat_ones {α β : Type} (f : α → β) (l : List α) : (l.map fun m => [f m]).flatten = l.map f := by
  induction l with
  | nil => rfl
  | cons x l ih => simp only [List.map_cons, List.flatten_cons, ih, List.cons_append, List.nil_append]

theorem rowN_of {g : Nat → Option Blk} {kd : Go.IntKind} {by' : Nat} {v : V} (h : CellOk g (.sl by' [.int kd]) v) :
    ∃ ws, RowN kd g v ws ∧ (∀ w ∈ ws, (Go.Lit.int kd w).wf = true) ∧ ws.length * by' ≤ 140737488351232 ∧ ws.length ≤ Go.maxLen := by
  unfold CellOk at h
  rcases h with rfl | ⟨b, n, cs, rfl, ⟨h1, h2⟩, h3, h4, h5⟩
  · exact ⟨[], .inl ⟨rfl, rfl⟩, by simp, by simp, by simp⟩
  · obtain ⟨ws, e1, e2, e3⟩ := chunks (α := Int) (enc := fun m => [V.int kd m]) (Q := fun w => (Go.Lit.int kd w).wf = true) (P := CellsOk g [.int kd]) (fun c hc => by
      obtain ⟨v, vs, rfl, ⟨m, rfl, hm⟩, h⟩ := hc
      unfold CellsOk at h
      subst h
      exact ⟨m, rfl, hm⟩) n cs h4 h5
    have e4 : cs = ws.map (.int kd) := by
      rw [e1]; exact flat_ones _ ws
    subst e2
    exact ⟨ws, .inr ⟨b, _, .ro, rfl, by rw [h3, e4]⟩, e3, h2, h1⟩

theorem wf_i64 {n : Int} (h : (Go.Lit.int .i64 n).wf = true) : -9223372036854775808 ≤ n ∧ n ≤ 9223372036854775807 := by
  simpa [Go.Lit.wf, Go.IntKind.min, Go.IntKind.max, Go.IntKind.signed, Go.IntKind.bits] using h
theorem wf_u64 {n : Int} (h : (Go.Lit.int .u64 n).wf = true) : U64 n := by
  have : 0 ≤ n ∧ n ≤ 18446744073709551615 := by simpa [Go.Lit.wf, Go.IntKind.min, Go.IntKind.max, Go.IntKind.signed, Go.IntKind.bits] using h
  exact ⟨this.1, by omega⟩

def hdrSh : List CSh := [.int .i64, .int .i64, .bool, .int .i64, .int .i64, .int .i64]
theorem rowH_of {g : Nat → Option Blk} {by' : Nat} {v : V} (h : CellOk g (.sl by' hdrSh) v) :
    ∃ l, RowH g v l ∧ (∀ y ∈ l, y.i64) ∧ l.length * by' ≤ 140737488351232 ∧ l.length ≤ Go.maxLen := by
  unfold CellOk at h
  rcases h with rfl | ⟨b, n, cs, rfl, ⟨h1, h2⟩, h3, h4, h5⟩
  · exact ⟨[], .inl ⟨rfl, rfl⟩, by simp, by simp, by simp⟩
  · obtain ⟨ws, e1, e2, e3⟩ := chunks (α := Hdr) (enc := Hdr.cs) (Q := Hdr.i64) (P := CellsOk g hdrSh) (fun c hc => by
      obtain ⟨_, _, rfl, ⟨y0, rfl, b0⟩, _, _, rfl, ⟨y1, rfl, b1⟩, _, _, rfl, ⟨y2, rfl⟩, _, _, rfl, ⟨y3, rfl, b3⟩, _, _, rfl, ⟨y4, rfl, b4⟩, _, _, rfl, ⟨y5, rfl, b5⟩, rfl⟩ := hc
      exact ⟨⟨y0, y1, y2, y3, y4, y5⟩, rfl, (wf_i64 b0).2, (wf_i64 b1).2, (wf_i64 b3).2, (wf_i64 b4).2, (wf_i64 b5).2⟩) n cs h4 h5
    subst e2
    exact ⟨ws, .inr ⟨b, _, .ro, rfl, by rw [h3, e1]⟩, e3, h2, h1⟩
end Wm
end

section
/- Shades over words by what they are. -/
namespace Wm
attribute [local congr] bind_congr1
attribute [local irreducible] wr

section
variable {k : Cfg} {f : Wd → Int} {n : Int} {t : Touch} {l : Wd}
theorem Mem.there_row (hl : l.ok k) : (⟨k.row f, n, t⟩ : Mem).there (l.pos k : Nat) = true := by
  unfold Mem.there
  simp only [row_length, natlt (pos_lt hl), Bool.and_true]
  exact decide_eq_true (Int.natCast_nonneg _)
theorem Mem.w_row (hl : l.ok k) : (⟨k.row f, n, t⟩ : Mem).w (l.pos k : Nat) = f l := by
  unfold Mem.w; rw [Int.toNat_natCast, row_getD hl]
theorem Mem.touch_row (hl : l.ok k) (kd v : Int) : (⟨k.row f, n, t⟩ : Mem).touch kd (l.pos k : Nat) v = ⟨k.row (wset f l v), wr .i64 (n + 1), ⟨kd, (l.pos k : Nat), f l, v⟩⟩ := by
  unfold Mem.touch; rw [Mem.w_row hl, Int.toNat_natCast, row_set hl]
theorem wset_self : wset f l (f l) = f := by funext m; unfold wset; split; subst_vars; rfl; rfl
theorem Mem.val_row (hl : l.ok k) : (⟨k.row f, n, t⟩ : Mem).val (l.pos k : Nat) = f l := by
  unfold Mem.val; rw [Mem.there_row hl, if_pos rfl, Mem.w_row hl]
theorem Mem.load_row (hl : l.ok k) : (⟨k.row f, n, t⟩ : Mem).load (l.pos k : Nat) = ⟨k.row f, wr .i64 (n + 1), ⟨1, (l.pos k : Nat), f l, f l⟩⟩ := by
  unfold Mem.load; rw [Mem.there_row hl, if_pos rfl, Mem.w_row hl, Mem.touch_row hl, wset_self]
theorem Mem.store_row (hl : l.ok k) (v : Int) : (⟨k.row f, n, t⟩ : Mem).store (l.pos k : Nat) v = ⟨k.row (wset f l v), wr .i64 (n + 1), ⟨2, (l.pos k : Nat), f l, v⟩⟩ := by
  unfold Mem.store; rw [Mem.there_row hl, if_pos rfl, Mem.touch_row hl]
theorem Mem.add_row (hl : l.ok k) (v : Int) : (⟨k.row f, n, t⟩ : Mem).add (l.pos k : Nat) v = ⟨k.row (wset f l (wr .u64 (f l + v))), wr .i64 (n + 1), ⟨4, (l.pos k : Nat), f l, wr .u64 (f l + v)⟩⟩ := by
  unfold Mem.add; rw [Mem.there_row hl, if_pos rfl, Mem.w_row hl, Mem.touch_row hl]
theorem Mem.swaps_row (hl : l.ok k) (old : Int) : (⟨k.row f, n, t⟩ : Mem).swaps (l.pos k : Nat) old = decide (f l = old) := by
  unfold Mem.swaps; rw [Mem.there_row hl, Mem.w_row hl, Bool.true_and]
theorem Mem.swap_row (hl : l.ok k) (old now : Int) : (⟨k.row f, n, t⟩ : Mem).swap (l.pos k : Nat) old now = ⟨k.row (if f l = old then wset f l now else f), wr .i64 (n + 1), ⟨3, (l.pos k : Nat), f l, if f l = old then now else f l⟩⟩ := by
  unfold Mem.swap; rw [Mem.there_row hl, if_pos rfl, Mem.w_row hl, Mem.touch_row hl]
  split
  · rfl
  · rw [wset_self]
end

/-- A memory whose words are these. -/
def MemF (h : H) (p pw : Nat) (k : Cfg) (f : Wd → Int) (n : Int) : Prop := ∃ t, MemAt h p pw ⟨k.row f, n, t⟩
theorem MemF.fr {h h' : H} {L : List Nat} {p pw : Nat} {k : Cfg} {f : Wd → Int} {n : Int} (M : MemF h p pw k f n) (ok : h.ok) (F : Fr L h h') (h1 : p ∉ L) (h2 : pw ∉ L) : MemF h' p pw k f n :=
  let ⟨t, m⟩ := M; ⟨t, m.fr ok F h1 h2⟩
theorem MemF.u64 {h : H} {p pw : Nat} {k : Cfg} {f : Wd → Int} {n : Int} (M : MemF h p pw k f n) {l : Wd} (hl : l.ok k) : U64 (f l) := by
  obtain ⟨t, m⟩ := M
  exact m.u64 _ (List.mem_of_getElem? (row_at hl))
theorem MemF.pos {h : H} {p pw : Nat} {k : Cfg} {f : Wd → Int} {n : Int} (M : MemF h p pw k f n) : k.row f ≠ [] := by
  intro q; have := row_length k f; rw [q] at this; unfold Cfg.size Cfg.base at this; simp only [List.length_nil] at this; omega
theorem MemF.lt {h : H} {p pw : Nat} {k : Cfg} {f : Wd → Int} {n : Int} (M : MemF h p pw k f n) (ok : h.ok) : p < h.next ∧ pw < h.next ∧ p ≠ pw := by
  obtain ⟨t, ne, ⟨c, ho⟩, ⟨kk, _, hr⟩, _, _⟩ := M
  exact ⟨ok.lt ho, ok.lt hr, ne⟩

theorem MemF.touches {h : H} {p pw : Nat} {k : Cfg} {f : Wd → Int} {n : Int} (M : MemF h p pw k f n) : C 107 [.ptr p 0] h = some (.int .i64 n, h) := by
  obtain ⟨t, m⟩ := M; exact m.touches
theorem MemF.words {h : H} {p pw : Nat} {k : Cfg} {f : Wd → Int} {n : Int} (M : MemF h p pw k f n) (ok : h.ok) :
    Ev (C 94 [.ptr p 0] h) fun r => ∃ q, r.1 = .sl q 0 k.size (.op 1) ∧ Fr [] h r.2 ∧ h.next ≤ q ∧ r.2.get q = some (.cells ((k.row f).map (.int .u64)) (.gr 1)) := by
  have hne := M.pos
  obtain ⟨t, m⟩ := M
  have := m.words ok hne
  simp only [row_length] at this
  exact this

/-- A shade's state. -/
structure Sh where
  grew : Bool
  next : Int
  was : Int
def Sh.step (q : Nat) (e : Int) (s : Sh) (f : Wd → Int) : Sh × (Wd → Int) :=
  if s.next = 0 then (⟨s.grew, if white (f (.header q)) e then 1 else 4, f (.header q)⟩, f)
  else if s.next = 1 then (⟨s.grew, 2, s.was⟩, wset f .grays (wr .u64 (f .grays + 1)))
  else if s.next = 2 then (if f (.header q) = s.was then (⟨true, 4, s.was⟩, wset f (.header q) (shaded s.was e)) else (⟨s.grew, 3, s.was⟩, f))
  else if s.next = 3 then (⟨s.grew, 0, s.was⟩, wset f .grays (wr .u64 (f .grays + 18446744073709551615)))
  else (s, f)
/-- Does it touch the memory? -/
def Sh.works (s : Sh) : Bool := decide (s.next = 0) || decide (s.next = 1) || decide (s.next = 2) || decide (s.next = 3)

def ShAt (h : H) (b : Nat) (k : Cfg) (q : Nat) (e : Int) (s : Sh) : Prop := h.get b = some (.cells (Shade.cs ⟨s.grew, ((Wd.header q).pos k : Nat), e, s.next, s.was⟩) .rw) ∧ U64 s.was
theorem ShAt.fr {h h' : H} {L : List Nat} {b : Nat} {k : Cfg} {q : Nat} {e : Int} {s : Sh} (S : ShAt h b k q e s) (ok : h.ok) (F : Fr L h h') (h1 : b ∉ L) : ShAt h' b k q e s := ⟨F.get ok S.1 h1, S.2⟩

theorem shade_abs {k : Cfg} {q : Nat} (hq : q < k.S) (e : Int) (s : Sh) (f : Wd → Int) (n : Int) (t : Touch) :
    ∃ t', Shade.step ⟨s.grew, ((Wd.header q).pos k : Nat), e, s.next, s.was⟩ ⟨k.row f, n, t⟩ = (⟨(s.step q e f).1.grew, ((Wd.header q).pos k : Nat), e, (s.step q e f).1.next, (s.step q e f).1.was⟩, ⟨k.row (s.step q e f).2, if s.works then wr .i64 (n + 1) else n, t'⟩) := by
  have hl : (Wd.header q).ok k := hq
  have h2 : (2 : Int) = ((Wd.grays.pos k : Nat) : Int) := rfl
  obtain ⟨grew, next, was⟩ := s
  unfold Shade.step Sh.step Sh.works
  simp only
  by_cases c0 : next = 0
  · subst c0
    simp only [if_true, decide_true, Bool.true_or, Mem.val_row hl, Mem.load_row hl]
    exact ⟨_, rfl⟩
  · by_cases c1 : next = 1
    · subst c1
      simp only [if_true, Int.reduceEq, if_false, decide_true, decide_false, Bool.true_or, Bool.or_true, Bool.false_or]
      rw [show (Mem.add ⟨k.row f, n, t⟩ 2 1) = _ from Mem.add_row (l := .grays) trivial 1]
      exact ⟨_, rfl⟩
    · by_cases c2 : next = 2
      · subst c2
        simp only [if_true, Int.reduceEq, if_false, decide_true, decide_false, Bool.true_or, Bool.or_true, Bool.false_or, Mem.swaps_row hl, Mem.swap_row hl]
        by_cases hw : f (.header q) = was
        · simp only [hw, decide_true, if_true]; exact ⟨_, rfl⟩
        · simp only [hw, decide_false, Bool.false_eq_true, if_false]; exact ⟨_, rfl⟩
      · by_cases c3 : next = 3
        · subst c3
          simp only [if_true, Int.reduceEq, if_false, decide_true, decide_false, Bool.true_or, Bool.or_true, Bool.false_or]
          rw [show (Mem.add ⟨k.row f, n, t⟩ 2 18446744073709551615) = _ from Mem.add_row (l := .grays) trivial _]
          exact ⟨_, rfl⟩
        · simp only [c0, c1, c2, c3, if_false, decide_false, Bool.false_or, Bool.false_eq_true]
          exact ⟨_, rfl⟩

theorem ShAt.step {h : H} (ok : h.ok) {b p pw : Nat} {k : Cfg} {q : Nat} (hq : q < k.S) {e : Int} (he : U64 e) {s : Sh} {f : Wd → Int} {n : Int} (S : ShAt h b k q e s) (M : MemF h p pw k f n) (h1 : b ≠ p) (h2 : b ≠ pw) :
    Ev (C 91 [.ptr b 0, .ptr p 0] h) fun r => r.1 = .bool (decide ((s.step q e f).1.next = 4)) ∧ Fr [b, p, pw] h r.2 ∧ ShAt r.2 b k q e (s.step q e f).1 ∧ MemF r.2 p pw k (s.step q e f).2 (if s.works then wr .i64 (n + 1) else n) := by
  have hu := M.u64 (show (Wd.header q).ok k from hq)
  obtain ⟨t, m⟩ := M
  obtain ⟨S1, S2⟩ := S
  obtain ⟨t', e'⟩ := shade_abs hq e s f n t
  have := shadeStep_spec ok S1 m h1 h2 he S2
  rw [e'] at this
  refine this.mono fun r ⟨r1, r2, r3, r4⟩ => ⟨r1, r2, ⟨r3, ?_⟩, ⟨_, r4⟩⟩
  unfold Sh.step
  split
  · exact hu
  · split
    · exact S2
    · split
      · split <;> exact S2
      · split <;> exact S2

theorem NewShade_spec {k : Cfg} (hr : k.R = true) {q : Nat} (hq : q < k.S) (e : Int) {h : H} (ok : h.ok) :
    Ev (C 90 [k.v, .int .i64 (q : Int), .int .u64 e] h) fun r => ∃ b, r.1 = .ptr b 0 ∧ Fr [] h r.2 ∧ h.next ≤ b ∧ ShAt r.2 b k q e ⟨false, 0, 0⟩ :=
  (newShade_spec hr hq e ok).mono fun _ ⟨b, h1, h2, h3, h4⟩ => ⟨b, h1, h2, h3, h4, ⟨by decide, by decide⟩⟩

theorem Same_spec {h : H} {x y : V} {a b : List Int} (hx : RowIs h.get x a) (hy : RowIs h.get y b) (hla : a.length ≤ 65536) (hlb : b.length ≤ 65536) : C 95 [x, y] h = some (.bool (decide (a = b)), h) := by
  have hev : Ev (C 95 [x, y] h) fun r => r = (.bool (decide (a = b)), h) := by
    refine call_ev (af := F.withyref06_Same) (by kernel_rfl) rfl ?_
    rw [S.withyref06_Same_eq]
    simp only [S.withyref06_Same, hx.len, hy.len, Option.bind_some]
    by_cases hl : a.length = b.length
    · simp only [hl, decide_true, Bool.not_true]
      refine loop_ev (α := Nat) (fun i => S.withyref06_Same_c1_E x y (.int .i64 i)) (fun i g => g = h ∧ i ≤ a.length ∧ ∀ j, j < i → a[j]? = b[j]?) (fun i _ => a.length - i)
        (fun r => r.2.2 = h ∧ ((r.1 = .exit 0 ∧ r.2.1 = S.withyref06_Same_c1_O .dead ∧ a = b) ∨ (r.1 = .ret ∧ r.2.1 = S.withyref06_Same_c1_O (.bool false) ∧ a ≠ b))) 0 rfl ⟨rfl, Nat.zero_le _, fun j hj => absurd hj (Nat.not_lt_zero _)⟩ ?_ ?_
      · rintro i g ⟨rfl, hi, hj⟩
        rw [S.withyref06_Same_c1_eq]
        by_cases hic : i < a.length
        · have e1 := natlt hic
          obtain ⟨p1, x1, x2⟩ := hx.at (i := (i : Int)) (by omega) (by omega)
          obtain ⟨p2, y1, y2⟩ := hy.at (i := (i : Int)) (by omega) (by omega)
          have w1 : wr .i64 ((i : Int) + 1) = ((i + 1 : Nat) : Int) := by rw [wr64 (by omega) (by omega)]; rfl
          have ha : a[i]? = some a[i] := List.getElem?_eq_getElem hic
          have hb : b[i]? = some (b[i]'(hl ▸ hic)) := List.getElem?_eq_getElem (hl ▸ hic)
          simp only [Int.toNat_natCast, ha, hb, Option.getD_some] at x2 y2
          simp only [S.withyref06_Same_c1_S, hx.len, Option.bind_some, e1, x1, x2, y1, y2, asI_int, w1]
          by_cases he : a[i] = b[i]'(hl ▸ hic)
          · simp only [he, decide_true, Bool.not_true]
            refine Ev.some (.inl ⟨i + 1, rfl, rfl, ⟨rfl, hic, fun j hj' => ?_⟩, Nat.sub_lt_sub_left hic (Nat.lt_succ_self i)⟩)
            rcases Nat.lt_succ_iff_lt_or_eq.mp hj' with q | rfl
            · exact hj j q
            · rw [ha, hb, he]
          · simp only [he, decide_false, Bool.not_false]
            refine Ev.some (.inr ⟨by simp, rfl, .inr ⟨rfl, rfl, fun q => he ?_⟩⟩)
            subst q; rfl
        · have e1 : decide ((i : Int) < (a.length : Int)) = false := decide_eq_false (by omega)
          simp only [S.withyref06_Same_c1_S, hx.len, Option.bind_some, e1]
          refine Ev.some (.inr ⟨by simp, rfl, .inl ⟨rfl, rfl, List.ext_getElem? fun j => ?_⟩⟩)
          by_cases hjl : j < i
          · exact hj j hjl
          · rw [List.getElem?_eq_none (by omega), List.getElem?_eq_none (by omega)]
      · rintro ⟨x', env, g⟩ ⟨rfl, ⟨rfl, rfl, rfl⟩ | ⟨rfl, rfl, hne⟩⟩
        · simp only; rw [S.withyref06_Same_c1_e0_eq]; simp only [decide_true]; exact Ev.some rfl
        · simp only; rw [S.withyref06_Same_c1_r_eq, decide_eq_false hne]; exact Ev.some rfl
    · have hne : a ≠ b := fun q => hl (by rw [q])
      have : ¬ ((a.length : Int) = (b.length : Int)) := by omega
      simp only [this, hne, decide_false, Bool.not_false]
      exact Ev.some rfl
  obtain ⟨r, e, rfl⟩ := hev
  exact e
end Wm
end

section
/- The law ShadeAlone, of my machine. -/
namespace Wm
attribute [local congr] bind_congr1
attribute [local irreducible] wr

/-- A number made one of so many. -/
def pickT (x : Int) (n : Nat) : Nat := (x % 18446744073709551616 % (n : Int)).toNat
theorem pickT_lt (x : Int) {n : Nat} (hn : 0 < n) : pickT x n < n := by
  unfold pickT
  have h1 := Int.emod_nonneg (x % 18446744073709551616) (show (n : Int) ≠ 0 by omega)
  have h2 := Int.emod_lt_of_pos (x % 18446744073709551616) (show (0 : Int) < n by omega)
  omega
theorem pick_ar (x : Int) {n : Nat} (hn : 0 < n) (h2 : n ≤ 1000) : arith .rem .u64 (wr .u64 x) (wr .u64 (n : Int)) = some ((pickT x n : Nat) : Int) := by
  have e1 : wr .u64 x = x % 18446744073709551616 := by simp only [wr]
  have h3 := Int.emod_nonneg (x % 18446744073709551616) (show (n : Int) ≠ 0 by omega)
  rw [wru64 (n := (n : Int)) (by omega) (by omega), e1]
  simp only [arith, decide_eq_false (show ¬ ((n : Int) = 0) by omega)]
  rw [tm (by omega)]
  unfold pickT
  congr 1; omega

theorem repl_hdr (n : Nat) : repl Hdr.zero.cs n = ((List.replicate n Hdr.zero).map Hdr.cs).flatten := by
  induction n with
  | zero => rfl
  | succ n ih => simp only [repl, ih, List.replicate_succ, List.map_cons, List.flatten_cons]

theorem splice_hdr : ∀ (l : List Hdr) (q : Nat) (x : Hdr), q < l.length → splice (l.map Hdr.cs).flatten (q * 6) x.cs = ((l.set q x).map Hdr.cs).flatten
  | [], q, x, h => by simp at h
  | y :: l, 0, x, _ => by
    have hy : y.cs.length = 6 := rfl
    have hx : x.cs.length = 6 := rfl
    simp only [splice, List.map_cons, List.flatten_cons, Nat.zero_mul, List.take_zero, List.nil_append, List.set_cons_zero, hx, Nat.zero_add]
    rw [List.drop_left' hy]
  | y :: l, q + 1, x, h => by
    have ih := splice_hdr l q x (by simpa using h)
    have hy : y.cs.length = 6 := rfl
    have hx : x.cs.length = 6 := rfl
    simp only [splice, hx] at ih ⊢
    simp only [List.map_cons, List.flatten_cons, List.set_cons_succ]
    rw [← ih, show (q + 1) * 6 = 6 + q * 6 by omega, List.take_append, List.take_of_length_le (by omega), hy, show 6 + q * 6 - 6 = q * 6 by omega, List.drop_append, List.drop_of_length_le (by omega), hy, show 6 + q * 6 + 6 - 6 = q * 6 + 6 by omega]
    simp only [List.nil_append, List.append_assoc]

theorem cs_one (x : Hdr) : x.cs.all V.one = true := rfl

/-- One header among others that are nothing. -/
def oneH (n q : Nat) (x : Hdr) : List Hdr := (List.replicate n Hdr.zero).set q x
theorem oneH_i64 {n q : Nat} {x : Hdr} (hx : x.i64) : ∀ y ∈ oneH n q x, y.i64 := by
  intro y hy
  rcases List.mem_or_eq_of_mem_set hy with h | rfl
  · rw [List.eq_of_mem_replicate h]; unfold Hdr.i64 Hdr.zero; simp only; omega
  · exact hx
theorem oneH_len (n q : Nat) (x : Hdr) : (oneH n q x).length = n := by unfold oneH; rw [List.length_set, List.length_replicate]
theorem oneH_at {n q : Nat} {x : Hdr} (hq : q < n) : (oneH n q x)[q]? = some x := by
  unfold oneH; rw [List.getElem?_set_self (by rw [List.length_replicate]; exact hq)]

theorem Cfg.s_S {k : Cfg} (hr : k.R = true) : k.s = (k.S : Int) := by have := Cfg.R_iff.mp hr; unfold Cfg.S; omega

/-- The header of the slot, and the grays, in the memory of one header. -/
def oneF (k : Cfg) (q : Nat) (x : Hdr) (e : Int) : Wd → Int := fillF k (oneH k.S q x) e
theorem oneF_grays {k : Cfg} {q : Nat} {x : Hdr} {e : Int} : 0 ≤ oneF k q x e .grays ∧ oneF k q x e .grays ≤ k.S := by
  unfold oneF fillF
  rw [wset_same]
  have := graysN_le k (fillH k (oneH k.S q x) e k.S)
  omega

/-- What a lone shade does: n steps. -/
def Sh.run (q : Nat) (e : Int) (f : Wd → Int) : Nat → Sh × (Wd → Int)
  | 0 => (⟨false, 0, 0⟩, f)
  | n + 1 => Sh.step q e (Sh.run q e f n).1 (Sh.run q e f n).2

theorem Sh.run1 (q : Nat) (e : Int) (f : Wd → Int) : Sh.run q e f 1 = (⟨false, if white (f (.header q)) e then 1 else 4, f (.header q)⟩, f) := rfl
theorem Sh.run_black {q : Nat} {e : Int} {f : Wd → Int} (hw : white (f (.header q)) e = false) : ∀ n, Sh.run q e f (n + 1) = (⟨false, 4, f (.header q)⟩, f)
  | 0 => by rw [Sh.run1, hw]; rfl
  | n + 1 => by rw [Sh.run, Sh.run_black hw n]; rfl
theorem Sh.run2 {q : Nat} {e : Int} {f : Wd → Int} (hw : white (f (.header q)) e = true) : Sh.run q e f 2 = (⟨false, 2, f (.header q)⟩, wset f .grays (wr .u64 (f .grays + 1))) := by
  rw [Sh.run, Sh.run1, hw]; rfl
theorem Sh.run3 {q : Nat} {e : Int} {f : Wd → Int} (hw : white (f (.header q)) e = true) : Sh.run q e f 3 = (⟨true, 4, f (.header q)⟩, wset (wset f .grays (wr .u64 (f .grays + 1))) (.header q) (shaded (f (.header q)) e)) := by
  rw [Sh.run, Sh.run2 hw]
  unfold Sh.step
  simp only [Int.reduceEq, if_false, if_true]
  rw [if_pos (by rw [wset_ne (by simp)])]
theorem Sh.run_over {q : Nat} {e : Int} {f : Wd → Int} (hw : white (f (.header q)) e = true) : ∀ n, Sh.run q e f (n + 3) = (⟨true, 4, f (.header q)⟩, wset (wset f .grays (wr .u64 (f .grays + 1))) (.header q) (shaded (f (.header q)) e))
  | 0 => Sh.run3 hw
  | n + 1 => by rw [show n + 1 + 3 = (n + 3) + 1 from rfl, Sh.run, Sh.run_over hw n]; rfl
/-- After how many steps it is over. -/
def Sh.last (q : Nat) (e : Int) (f : Wd → Int) : Nat := if white (f (.header q)) e then 2 else 0
theorem Sh.run_next (q : Nat) (e : Int) (f : Wd → Int) (n : Nat) (hn : n ≤ Sh.last q e f) : decide ((Sh.run q e f (n + 1)).1.next = 4) = decide (n = Sh.last q e f) ∧ (Sh.run q e f n).1.works = true := by
  unfold Sh.last at hn ⊢
  cases hw : white (f (.header q)) e with
  | false =>
    rw [hw] at hn
    simp only [Bool.false_eq_true, if_false] at hn ⊢
    have : n = 0 := by omega
    subst this
    rw [Sh.run_black hw]; exact ⟨rfl, rfl⟩
  | true =>
    rw [hw] at hn
    simp only [if_true] at hn ⊢
    have : n = 0 ∨ n = 1 ∨ n = 2 := by omega
    rcases this with rfl | rfl | rfl
    · rw [Sh.run1, hw]; exact ⟨rfl, rfl⟩
    · rw [Sh.run2 hw, Sh.run1, hw]; exact ⟨rfl, rfl⟩
    · rw [Sh.run3 hw, Sh.run2 hw]; exact ⟨rfl, rfl⟩

theorem wr1 {n : Nat} (h : n ≤ 1000000) : wr .i64 ((n : Int) + 1) = ((n + 1 : Nat) : Int) := by rw [wr64 (by omega) (by omega)]; rfl
theorem ar3a {n l : Nat} (hn : n ≤ l) (hl : l ≤ 2) : n ≤ 1000000 ∧ decide ((n : Int) < 9) = true := ⟨by omega, decide_eq_true (by omega)⟩
theorem ar3b {n l : Nat} (hn : n ≤ l) (hl : l ≤ 2) (hne : n ≠ l) : n + 1 ≤ l ∧ 3 - (n + 1) < 3 - n := by omega
theorem row_i64 {k : Cfg} (hr : k.R = true) (f : Wd → Int) : (k.row f).length ≤ 9223372036854775807 ∧ (k.row f).length ≤ 65536 := by
  have := Cfg.bounds hr; rw [row_length]; omega
theorem rowIs {k : Cfg} (hr : k.R = true) {g : H} {x : Nat} {c : Cap} {f : Wd → Int} {kk : Bk} (h : g.get x = some (.cells ((k.row f).map (.int .u64)) kk)) : RowIs g.get (.sl x 0 k.size c) (k.row f) := ⟨(row_i64 hr f).1, .inr ⟨x, c, kk, by rw [row_length], h⟩⟩

def shShadeAlone : List (Bool × List CSh) := [(true, [.int .i64, .int .i64, .int .i64, .int .i64, .int .i64, .int .i64]), (true, [.int .i64, .int .i64, .bool, .int .i64, .int .i64, .int .i64]), (false, [.int .i64]), (false, [.int .u64])]

/-- What stands behind the beginning of the laws of one shade. -/
structure OneAt (k : Cfg) (g : H) (c x : Nat) (q : Nat) (y : Hdr) : Prop where
  ok : g.ok
  cfg : g.get c = some (.cells [.int .i64 k.s, .int .i64 k.a, .int .i64 k.c, .int .i64 k.hd, .int .i64 k.g, .int .i64 k.st] .rw)
  row : RowH g.get (.sl x 0 k.S (.ex k.S)) (oneH k.S q y)

theorem lawShadeAlone (h : H) (us : List V) (_ : h.ok) (ha : ArgsOk h.get shShadeAlone us) : Ev (C 16 us h) fun r => r.1 = .bool true := by
  obtain ⟨_, _, rfl, ⟨_, rfl, _, _, rfl, ⟨s, rfl, _⟩, _, _, rfl, ⟨a, rfl, _⟩, _, _, rfl, ⟨c, rfl, _⟩, _, _, rfl, ⟨hd, rfl, _⟩, _, _, rfl, ⟨g, rfl, _⟩, _, _, rfl, ⟨st, rfl, _⟩, rfl⟩, _, _, rfl, ⟨_, rfl, _, _, rfl, ⟨y0, rfl, b0⟩, _, _, rfl, ⟨y1, rfl, b1⟩, _, _, rfl, ⟨y2, rfl⟩, _, _, rfl, ⟨y3, rfl, b3⟩, _, _, rfl, ⟨y4, rfl, b4⟩, _, _, rfl, ⟨y5, rfl, b5⟩, rfl⟩, _, _, rfl, ⟨_, _, hslot, ⟨slot, rfl, _⟩, rfl⟩, _, _, rfl, ⟨_, _, he, ⟨e, rfl, be⟩, rfl⟩, rfl⟩ := ha
  cases hslot; cases he
  refine ⟨_, call_closed (v := .bool true) (af := F.withylaw09_ShadeAlone) (by kernel_rfl) rfl (by rfl) (by rfl) h ?_, rfl⟩
  rw [S.withylaw09_ShadeAlone_eq]
  have okE := H.ok_empty
  generalize H.empty = hE at okE ⊢
  have hfit := Fit_spec ⟨s, a, c, hd, g, st⟩
  have hr := Cfg.fit_R ⟨s, a, c, hd, g, st⟩
  have hbd := Cfg.fit_bd ⟨s, a, c, hd, g, st⟩
  generalize Cfg.fit ⟨s, a, c, hd, g, st⟩ = k at hfit hr hbd
  have hU := wf_u64 be
  have hyi : (⟨y0, y1, y2, y3, y4, y5⟩ : Hdr).i64 := ⟨(wf_i64 b0).2, (wf_i64 b1).2, (wf_i64 b3).2, (wf_i64 b4).2, (wf_i64 b5).2⟩
  have hb := Cfg.bounds hr
  have hS := Cfg.s_S hr
  have hv : ∀ k : Cfg, k.v = .agg [.int .i64 k.s, .int .i64 k.a, .int .i64 k.c, .int .i64 k.hd, .int .i64 k.g, .int .i64 k.st] := fun _ => rfl
  rw [hv, hv] at hfit
  simp only at hfit
  have hpick := pick_ar slot (n := k.S) (by omega) (by omega)
  rw [← hS] at hpick
  have hq := pickT_lt slot (n := k.S) (by omega)
  generalize pickT slot k.S = q at hpick hq
  have hwq : wr .i64 (q : Int) = q := wr64 (by omega) (by omega)
  have hmk : ∀ g : H, g.mkSl 6 48 [.int .i64 0, .int .i64 0, .bool false, .int .i64 0, .int .i64 0, .int .i64 0] k.s k.s = some (.sl g.next 0 k.S (.ex k.S), g.new (.cells ((List.replicate k.S Hdr.zero).map Hdr.cs).flatten .rw)) := fun g => by
    rw [hS]
    refine (mkSl_ok (h := g) (e := 6) (b := 48) (z := Hdr.zero.cs) (l := (k.S : Int)) (c := (k.S : Int)) (by omega) (by omega) (by omega) (by omega) rfl (by omega)).trans ?_
    simp only [Int.toNat_natCast, repl_hdr]
  have hidx : ∀ b, indexAV 6 (.sl b 0 k.S (.ex k.S)) (.int .i64 (q : Int)) = some (.ptr b (q * 6)) := fun b => sl_idx hq
  have hspl := splice_hdr (List.replicate k.S Hdr.zero) q ⟨y0, y1, y2, y3, y4, y5⟩ (by rw [List.length_replicate]; exact hq)
  have hlen6 : ((List.replicate k.S Hdr.zero).map Hdr.cs).flatten.length = k.S * 6 := by rw [flat_length (hdrs6 _), List.length_map, List.length_replicate]
  have hle : decide (q * 6 + 6 ≤ ((List.replicate k.S Hdr.zero).map Hdr.cs).flatten.length) = true := decide_eq_true (by rw [hlen6]; omega)
  have ht : decide (Bk.rw = Bk.ro) = false := rfl
  have n1 : ∀ x : Nat, x ≠ x + 1 := fun x => by omega
  have n2 : ∀ x : Nat, x + 1 ≠ x := fun x => by omega
  have n3 : ∀ x : Nat, x ≠ x + 1 + 1 := fun x => by omega
  have n4 : ∀ x : Nat, x + 1 ≠ x + 1 + 1 := fun x => by omega
  have n5 : ∀ x : Nat, x + 1 + 1 ≠ x := fun x => by omega
  have n6 : ∀ x : Nat, x + 1 + 1 ≠ x + 1 := fun x => by omega
  simp only [S.withylaw09_ShadeAlone, nilc_ptr, lenSl_sl, lenSl_nil, eqPtr_ptr, eqPtr_nil, eqPtr_ptr', eqSl_sl, eqSl_nil, ptrAt_ptr, Option.bind_some, Option.map_some, ld1_get', ldN_get', st_get', get_put', get_new', put_put', ldB_cells, ldNB_cells, stB_cells, H.next_new, H.next_put, List.getElem?_cons_zero, List.getElem?_cons_succ, Nat.zero_add, Nat.add_zero, Nat.reduceAdd, Nat.reduceLeDiff, Nat.reduceLT, Nat.reduceMul, Nat.reduceSub, Nat.reduceEqDiff, Int.reduceEq, Int.reduceLT, Int.reduceLE, Int.reduceNeg, V.one, V.cells, V.beq, V.beqs, ckB_some, asI_int, asB_bool, asIAny, asS, List.length_cons, List.length_nil, Nat.beq_refl, List.all_cons, List.all_nil, Bool.and_true, Bool.and_false, Bool.true_and, Bool.false_and, Bool.not_true, Bool.not_false, Bool.or_false, Bool.false_or, Bool.or_self, Bool.and_self, decide_true, decide_false, if_true, if_false, splice, List.take_succ_cons, List.take_zero, List.drop_succ_cons, List.drop_zero, List.cons_append, List.nil_append, List.set_cons_zero, List.set_cons_succ, reduceCtorEq, fill, repl, opd, boxc, finV, resAllV, resOfV, result, eqV, eqIfc, aggCells, part, W_call, Nat.reduceBEq, Nat.beq_eq, hfit, hpick, hwq, n1, n2]
  rw [hmk]
  simp only [H.next_new, H.next_put]
  generalize hg0 : ((hE.new _).new _).put hE.next _ = g0
  have hc0 : g0.get hE.next = some (.cells [.int .i64 k.s, .int .i64 k.a, .int .i64 k.c, .int .i64 k.hd, .int .i64 k.g, .int .i64 k.st] .rw) := by rw [← hg0]; exact get_put_self _ _ _
  have hy0 : g0.get (hE.next + 1) = some (.cells [.int .i64 y0, .int .i64 y1, .bool y2, .int .i64 y3, .int .i64 y4, .int .i64 y5] .rw) := by
    rw [← hg0, get_put_ne (n2 _)]; exact get_new_self _ _
  have ok0 : g0.ok := by rw [← hg0]; exact ((okE.new _).new _).put (by simp only [H.next_new]; omega) _
  have hn0 : g0.next = hE.next + 2 := by rw [← hg0]; rfl
  have hnn : hE.next + 1 ≠ g0.next := by rw [hn0]; omega
  have hnn0 : hE.next ≠ g0.next := by rw [hn0]; omega
  rw [show hE.next + 1 + 1 = g0.next from hn0.symm]
  simp only [nilc_ptr, lenSl_sl, lenSl_nil, eqPtr_ptr, eqPtr_nil, eqPtr_ptr', eqSl_sl, eqSl_nil, ptrAt_ptr, Option.bind_some, Option.map_some, ld1_get', ldN_get', st_get', get_put', get_new', put_put', ldB_cells, ldNB_cells, stB_cells, H.next_new, H.next_put, List.getElem?_cons_zero, List.getElem?_cons_succ, Nat.zero_add, Nat.add_zero, Nat.reduceAdd, Nat.reduceLeDiff, Nat.reduceLT, Nat.reduceMul, Nat.reduceSub, Nat.reduceEqDiff, Int.reduceEq, Int.reduceLT, Int.reduceLE, Int.reduceNeg, V.one, V.cells, V.beq, V.beqs, ckB_some, asI_int, asB_bool, asIAny, asS, List.length_cons, List.length_nil, Nat.beq_refl, List.all_cons, List.all_nil, Bool.and_true, Bool.and_false, Bool.true_and, Bool.false_and, Bool.not_true, Bool.not_false, Bool.or_false, Bool.false_or, Bool.or_self, Bool.and_self, decide_true, decide_false, if_true, if_false, splice, List.take_succ_cons, List.take_zero, List.drop_succ_cons, List.drop_zero, List.cons_append, List.nil_append, List.set_cons_zero, List.set_cons_succ, reduceCtorEq, fill, repl, opd, boxc, finV, resAllV, resOfV, result, eqV, eqIfc, aggCells, part, W_call, Nat.reduceBEq, Nat.beq_eq, hnn, hnn0, hy0, hc0, hidx, hle, ht]
  refine Ev.bind (filled_spec (k := k) (l := oneH k.S q ⟨y0, y1, y2, y3, y4, y5⟩) hr ?_ ?_ (oneH_i64 hyi) hU) ?_
  · exact (ok0.new _).put (by simp only [H.next_new]; omega) _
  · exact .inr ⟨_, .ex k.S, .rw, by rw [oneH_len], by rw [get_put_self]; exact congrArg (fun l => some (Blk.cells l .rw)) hspl⟩
  rintro ⟨v1, g1⟩ ⟨p, pw, rfl, f1, q1, q2, M⟩
  have hc1 := f1.get ((ok0.new _).put (by simp only [H.next_new]; omega) _) (show _ = some (Blk.cells [.int .i64 k.s, .int .i64 k.a, .int .i64 k.c, .int .i64 k.hd, .int .i64 k.g, .int .i64 k.st] .rw) from by rw [get_put_ne hnn0, get_new_ne hnn0]; exact hc0) (by simp)
  have ok1 := f1.ok
  have M1 : MemF g1 p pw k (oneF k q ⟨y0, y1, y2, y3, y4, y5⟩ e) 0 := ⟨_, M⟩
  clear hg0 hc0 hy0 ok0 hn0 hnn hnn0 f1 M hmk hidx hspl hlen6 hle ht n1 n2 n3 n4 n5 n6 hpick hfit q1 q2
  have hog := oneF_grays (k := k) (q := q) (x := ⟨y0, y1, y2, y3, y4, y5⟩) (e := e)
  generalize oneF k q ⟨y0, y1, y2, y3, y4, y5⟩ e = f at M1 hog
  generalize hE.next = cb at hc1 ⊢
  simp only [nilc_ptr, lenSl_sl, lenSl_nil, eqPtr_ptr, eqPtr_nil, eqPtr_ptr', eqSl_sl, eqSl_nil, ptrAt_ptr, Option.bind_some, Option.map_some, ld1_get', ldN_get', st_get', get_put', get_new', put_put', ldB_cells, ldNB_cells, stB_cells, H.next_new, H.next_put, List.getElem?_cons_zero, List.getElem?_cons_succ, Nat.zero_add, Nat.add_zero, Nat.reduceAdd, Nat.reduceLeDiff, Nat.reduceLT, Nat.reduceMul, Nat.reduceSub, Nat.reduceEqDiff, Int.reduceEq, Int.reduceLT, Int.reduceLE, Int.reduceNeg, V.one, V.cells, V.beq, V.beqs, ckB_some, asI_int, asB_bool, asIAny, asS, List.length_cons, List.length_nil, Nat.beq_refl, List.all_cons, List.all_nil, Bool.and_true, Bool.and_false, Bool.true_and, Bool.false_and, Bool.not_true, Bool.not_false, Bool.or_false, Bool.false_or, Bool.or_self, Bool.and_self, decide_true, decide_false, if_true, if_false, splice, List.take_succ_cons, List.take_zero, List.drop_succ_cons, List.drop_zero, List.cons_append, List.nil_append, List.set_cons_zero, List.set_cons_succ, reduceCtorEq, fill, repl, opd, boxc, finV, resAllV, resOfV, result, eqV, eqIfc, aggCells, part, W_call, Nat.reduceBEq, Nat.beq_eq, hc1]
  refine Ev.bind (NewShade_spec hr hq e ok1) ?_
  rintro ⟨v2, g2⟩ ⟨b, rfl, f2, hb2, S2⟩
  have hc2 := f2.get ok1 hc1 (by simp)
  have ok2 := f2.ok
  obtain ⟨pl, pwl, pne⟩ := M1.lt ok1
  have M2 := M1.fr ok1 f2 (by simp) (by simp)
  have nb1 : b ≠ p := by omega
  have nb2 : b ≠ pw := by omega
  have hat : ∀ h, C 108 [.agg [.int .i64 k.s, .int .i64 k.a, .int .i64 k.c, .int .i64 k.hd, .int .i64 k.g, .int .i64 k.st], .agg [.str ⟨⟨[104, 101, 97, 100, 101, 114]⟩⟩, .int .i64 (q : Int), .int .i64 0]] h = some (.int .i64 ((Wd.header q).pos k : Nat), h) := at_wd hr (l := .header q) hq
  simp only [nilc_ptr, lenSl_sl, lenSl_nil, eqPtr_ptr, eqPtr_nil, eqPtr_ptr', eqSl_sl, eqSl_nil, ptrAt_ptr, Option.bind_some, Option.map_some, ld1_get', ldN_get', st_get', get_put', get_new', put_put', ldB_cells, ldNB_cells, stB_cells, H.next_new, H.next_put, List.getElem?_cons_zero, List.getElem?_cons_succ, Nat.zero_add, Nat.add_zero, Nat.reduceAdd, Nat.reduceLeDiff, Nat.reduceLT, Nat.reduceMul, Nat.reduceSub, Nat.reduceEqDiff, Int.reduceEq, Int.reduceLT, Int.reduceLE, Int.reduceNeg, V.one, V.cells, V.beq, V.beqs, ckB_some, asI_int, asB_bool, asIAny, asS, List.length_cons, List.length_nil, Nat.beq_refl, List.all_cons, List.all_nil, Bool.and_true, Bool.and_false, Bool.true_and, Bool.false_and, Bool.not_true, Bool.not_false, Bool.or_false, Bool.false_or, Bool.or_self, Bool.and_self, decide_true, decide_false, if_true, if_false, splice, List.take_succ_cons, List.take_zero, List.drop_succ_cons, List.drop_zero, List.cons_append, List.nil_append, List.set_cons_zero, List.set_cons_succ, reduceCtorEq, fill, repl, opd, boxc, finV, resAllV, resOfV, result, eqV, eqIfc, aggCells, part, W_call, Nat.reduceBEq, Nat.beq_eq, awake09, hc2, hat]
  refine Ev.bind (M2.words ok2) ?_
  rintro ⟨v3, g3⟩ ⟨x3, rfl, f3, hx3, W3⟩
  have hpos := pos_lt (show (Wd.header q).ok k from hq)
  have hix : ∀ (b : Nat) (c : Cap), indexAV 1 (.sl b 0 k.size c) (.int .i64 ((Wd.header q).pos k : Nat)) = some (.ptr b ((Wd.header q).pos k)) := fun b c => sl_idx1 hpos
  have hrow : ((k.row f).map (V.int .u64))[(Wd.header q).pos k]? = some (.int .u64 (f (.header q))) := by rw [List.getElem?_map, row_at (show (Wd.header q).ok k from hq)]; rfl
  have hu := M2.u64 (show (Wd.header q).ok k from hq)
  simp only [nilc_ptr, lenSl_sl, lenSl_nil, eqPtr_ptr, eqPtr_nil, eqPtr_ptr', eqSl_sl, eqSl_nil, ptrAt_ptr, Option.bind_some, Option.map_some, ld1_get', ldN_get', st_get', get_put', get_new', put_put', ldB_cells, ldNB_cells, stB_cells, H.next_new, H.next_put, List.getElem?_cons_zero, List.getElem?_cons_succ, Nat.zero_add, Nat.add_zero, Nat.reduceAdd, Nat.reduceLeDiff, Nat.reduceLT, Nat.reduceMul, Nat.reduceSub, Nat.reduceEqDiff, Int.reduceEq, Int.reduceLT, Int.reduceLE, Int.reduceNeg, V.one, V.cells, V.beq, V.beqs, ckB_some, asI_int, asB_bool, asIAny, asS, List.length_cons, List.length_nil, Nat.beq_refl, List.all_cons, List.all_nil, Bool.and_true, Bool.and_false, Bool.true_and, Bool.false_and, Bool.not_true, Bool.not_false, Bool.or_false, Bool.false_or, Bool.or_self, Bool.and_self, decide_true, decide_false, if_true, if_false, splice, List.take_succ_cons, List.take_zero, List.drop_succ_cons, List.drop_zero, List.cons_append, List.nil_append, List.set_cons_zero, List.set_cons_succ, reduceCtorEq, fill, repl, opd, boxc, finV, resAllV, resOfV, result, eqV, eqIfc, aggCells, part, W_call, Nat.reduceBEq, Nat.beq_eq, hix, W3, hrow, refLives_spec hu]
  have ok3 := f3.ok
  have M3 := M2.fr ok2 f3 (by simp) (by simp)
  have S3 := S2.fr ok2 f3 (by simp)
  have W3r : RowIs g3.get (.sl x3 0 k.size (.op 1)) (k.row f) := ⟨by rw [row_length]; omega, .inr ⟨x3, _, _, by rw [row_length], W3⟩⟩
  have hx3n : x3 ≠ b ∧ x3 ≠ p ∧ x3 ≠ pw := by
    have := f2.le
    have := ok2.lt S2.1
    omega
  have main : Ev ((W.loop (S.withylaw09_ShadeAlone_c1_B W) (S.withylaw09_ShadeAlone_c1_E (.int .u64 e) (.ptr p 0) (.ptr b 0) (.int .i64 ((Wd.header q).pos k : Nat)) (.sl x3 0 k.size (.op 1)) (.bool (white (f (.header q)) e)) (.int .i64 (0 : Nat))) g3).bind fun p29 => S.withylaw09_ShadeAlone_K2 W p29.1 p29.2.1 p29.2.2) fun r => r.1 = .bool true := by
    have hlast : Sh.last q e f ≤ 2 := by unfold Sh.last; split <;> omega
    refine loop_ev (α := Nat) (fun n => S.withylaw09_ShadeAlone_c1_E (.int .u64 e) (.ptr p 0) (.ptr b 0) (.int .i64 ((Wd.header q).pos k : Nat)) (.sl x3 0 k.size (.op 1)) (.bool (white (f (.header q)) e)) (.int .i64 n))
      (fun n g => n ≤ Sh.last q e f ∧ Fr [b, p, pw] g3 g ∧ ShAt g b k q e (Sh.run q e f n).1 ∧ MemF g p pw k (Sh.run q e f n).2 n) (fun n _ => 3 - n)
      (fun r => r.1 = .exit 0 ∧ r.2.1 = S.withylaw09_ShadeAlone_c1_O (.int .u64 e) (.ptr p 0) (.ptr b 0) (.int .i64 ((Wd.header q).pos k : Nat)) (.sl x3 0 k.size (.op 1)) (.bool (white (f (.header q)) e)) (.int .i64 (Sh.last q e f : Nat)) ∧ Fr [b, p, pw] g3 r.2.2 ∧ ShAt r.2.2 b k q e (Sh.run q e f (Sh.last q e f + 1)).1 ∧ MemF r.2.2 p pw k (Sh.run q e f (Sh.last q e f + 1)).2 (Sh.last q e f + 1 : Nat))
      0 rfl ⟨Nat.zero_le _, .refl ok3, S3, M3⟩ ?_ ?_
    · rintro n g ⟨hn, fg, Sg, Mg⟩
      rw [S.withylaw09_ShadeAlone_c1_eq]
      obtain ⟨⟨v, g'⟩, e1, r1, r2, r3, r4⟩ := Sg.step fg.ok hq hU Mg nb1 nb2
      obtain ⟨n1, n2⟩ := Sh.run_next q e f n hn
      have hst : decide ((Sh.step q e (Sh.run q e f n).1 (Sh.run q e f n).2).1.next = 4) = decide (n = Sh.last q e f) := n1
      rw [hst] at r1
      rw [n2, if_pos rfl] at r4
      simp only at r1 r2 r3 r4
      subst r1
      obtain ⟨ha1, hlt9⟩ := ar3a hn hlast
      have hw1 := wr1 ha1
      rw [hw1] at r4
      simp only [S.withylaw09_ShadeAlone_c1_S, hlt9, W_call, e1, Option.bind_some, asB_bool, hw1]
      by_cases hnl : n = Sh.last q e f
      · simp only [decide_eq_true hnl, Bool.not_true]
        subst hnl
        exact Ev.some (.inr ⟨by simp, rfl, rfl, fg.trans' r2, r3, r4⟩)
      · simp only [decide_eq_false hnl, Bool.not_false]
        exact Ev.some (.inl ⟨n + 1, rfl, rfl, ⟨(ar3b hn hlast hnl).1, fg.trans' r2, r3, r4⟩, (ar3b hn hlast hnl).2⟩)
    · rintro ⟨x', env, g⟩ ⟨rfl, rfl, fg, Sg, Mg⟩
      simp only at fg Sg Mg ⊢
      rw [S.withylaw09_ShadeAlone_c1_e0_eq]
      have okg := fg.ok
      have hover : (Sh.run q e f (Sh.last q e f + 1)).1.next = 4 ∧ (Sh.run q e f (Sh.last q e f + 1)).1.grew = white (f (.header q)) e ∧ (Sh.run q e f (Sh.last q e f + 1)).2 = (if white (f (.header q)) e then wset (wset f .grays (wr .u64 (f .grays + 1))) (.header q) (shaded (f (.header q)) e) else f) := by
        unfold Sh.last
        cases hw : white (f (.header q)) e with
        | false => simp only [Bool.false_eq_true, if_false, Sh.run_black hw, and_self]
        | true => simp only [if_true, Sh.run3 hw, and_self]
      obtain ⟨o1, o2, o3⟩ := hover
      generalize Sh.run q e f (Sh.last q e f + 1) = R at Sg Mg o1 o2 o3
      have hst : Sh.step q e R.1 R.2 = R := by
        unfold Sh.step; rw [o1]; rfl
      have hwk : R.1.works = false := by unfold Sh.works; rw [o1]; rfl
      obtain ⟨⟨v, g'⟩, e1, r1, r2, r3, r4⟩ := Sg.step okg hq hU Mg nb1 nb2
      rw [hst] at r1 r3 r4
      rw [hwk] at r4
      simp only [o1, decide_true, Bool.false_eq_true, if_false] at r1 r2 r3 r4
      subst r1
      have t1 := Mg.touches
      have t2 := r4.touches
      simp only [S.withylaw09_ShadeAlone_c1_e0, W_call, t1, t2, e1, Option.bind_some, asB_bool, asI_int, Bool.not_true, decide_true]
      have hx3g' : g'.get x3 = some (.cells ((k.row f).map (.int .u64)) (.gr 1)) := r2.get okg (fg.get ok3 W3 (by simp [hx3n])) (by simp [hx3n])
      obtain ⟨⟨v6, g6⟩, e6, x6, rfl, f6, hx6, W6⟩ := r4.words r2.ok
      have hx3g6 := f6.get r2.ok hx3g' (by simp)
      have S6 := r3.fr r2.ok f6 (by simp)
      simp only [e6, Option.bind_some]
      cases hw : white (f (.header q)) e with
      | false =>
        have hl0 : Sh.last q e f = 0 := by unfold Sh.last; rw [hw]; rfl
        rw [hw] at o2 o3
        simp only [Bool.false_eq_true, if_false] at o3
        rw [o3] at W6
        have hsame := Same_spec (h := g6) (x := .sl x6 0 k.size (.op 1)) (y := .sl x3 0 k.size (.op 1)) (a := k.row f) (b := k.row f) (rowIs hr W6) (rowIs hr hx3g6) (row_i64 hr f).2 (row_i64 hr f).2
        rw [decide_eq_true rfl] at hsame
        have S61 := S6.1
        rw [o2] at S61
        unfold Shade.cs at S61
        simp only at S61
        have hz : decide (((0 : Nat) : Int) = 0) = true := rfl
        have hz1 : decide (((0 + 1 : Nat) : Int) = 1) = true := rfl
        simp only [hl0, hz, hz1, Bool.not_false, nilc_ptr, lenSl_sl, lenSl_nil, eqPtr_ptr, eqPtr_nil, eqPtr_ptr', eqSl_sl, eqSl_nil, ptrAt_ptr, Option.bind_some, Option.map_some, ld1_get', ldN_get', st_get', get_put', get_new', put_put', ldB_cells, ldNB_cells, stB_cells, H.next_new, H.next_put, List.getElem?_cons_zero, List.getElem?_cons_succ, Nat.zero_add, Nat.add_zero, Nat.reduceAdd, Nat.reduceLeDiff, Nat.reduceLT, Nat.reduceMul, Nat.reduceSub, Nat.reduceEqDiff, Int.reduceEq, Int.reduceLT, Int.reduceLE, Int.reduceNeg, V.one, V.cells, V.beq, V.beqs, ckB_some, asI_int, asB_bool, asIAny, asS, List.length_cons, List.length_nil, Nat.beq_refl, List.all_cons, List.all_nil, Bool.and_true, Bool.and_false, Bool.true_and, Bool.false_and, Bool.not_true, Bool.not_false, Bool.or_false, Bool.false_or, Bool.or_self, Bool.and_self, decide_true, decide_false, if_true, if_false, splice, List.take_succ_cons, List.take_zero, List.drop_succ_cons, List.drop_zero, List.cons_append, List.nil_append, List.set_cons_zero, List.set_cons_succ, reduceCtorEq, fill, repl, opd, boxc, finV, resAllV, resOfV, result, eqV, eqIfc, aggCells, part, W_call, Nat.reduceBEq, Nat.beq_eq, S61, hsame]
        exact Ev.some rfl
      | true =>
        have hl0 : Sh.last q e f = 2 := by unfold Sh.last; rw [hw]; rfl
        rw [hw] at o2 o3
        simp only [if_true] at o3
        have S61 := S6.1
        rw [o2] at S61
        unfold Shade.cs at S61
        simp only at S61
        have hz : decide (((2 : Nat) : Int) = 2) = true := rfl
        have hz1 : decide (((2 + 1 : Nat) : Int) = 3) = true := rfl
        have hrow6 : ((k.row R.2).map (V.int .u64))[(Wd.header q).pos k]? = some (.int .u64 (shaded (f (.header q)) e)) := by
          rw [List.getElem?_map, row_at (show (Wd.header q).ok k from hq), o3, wset_same]; rfl
        have hsu : U64 (shaded (f (.header q)) e) := by unfold shaded; rw [hw]; exact word_U64 (shadedH_right _ _)
        have hmk : markedW (shaded (f (.header q)) e) e = true := by
          obtain ⟨hlv, -⟩ := (white_iff _ _).mp hw
          have hsr := shadedH_right (f (.header q)) e
          unfold shaded
          rw [hw, if_pos rfl]
          unfold markedW lives
          rw [okT_word hsr, unp_word hsr]
          unfold lives at hlv
          simp only [Bool.and_eq_true] at hlv
          simp only [shadedH, decide_true, Bool.true_and, Bool.and_true]
          exact hlv.2
        simp only [hl0, hz, hz1, Bool.not_true, nilc_ptr, lenSl_sl, lenSl_nil, eqPtr_ptr, eqPtr_nil, eqPtr_ptr', eqSl_sl, eqSl_nil, ptrAt_ptr, Option.bind_some, Option.map_some, ld1_get', ldN_get', st_get', get_put', get_new', put_put', ldB_cells, ldNB_cells, stB_cells, H.next_new, H.next_put, List.getElem?_cons_zero, List.getElem?_cons_succ, Nat.zero_add, Nat.add_zero, Nat.reduceAdd, Nat.reduceLeDiff, Nat.reduceLT, Nat.reduceMul, Nat.reduceSub, Nat.reduceEqDiff, Int.reduceEq, Int.reduceLT, Int.reduceLE, Int.reduceNeg, V.one, V.cells, V.beq, V.beqs, ckB_some, asI_int, asB_bool, asIAny, asS, List.length_cons, List.length_nil, Nat.beq_refl, List.all_cons, List.all_nil, Bool.and_true, Bool.and_false, Bool.true_and, Bool.false_and, Bool.not_true, Bool.not_false, Bool.or_false, Bool.false_or, Bool.or_self, Bool.and_self, decide_true, decide_false, if_true, if_false, splice, List.take_succ_cons, List.take_zero, List.drop_succ_cons, List.drop_zero, List.cons_append, List.nil_append, List.set_cons_zero, List.set_cons_succ, reduceCtorEq, fill, repl, opd, boxc, finV, resAllV, resOfV, result, eqV, eqIfc, aggCells, part, W_call, Nat.reduceBEq, Nat.beq_eq, S61, hix, W6, hrow6, refMarked_spec hsu hU, hmk]
        exact Ev.some rfl
  cases hlv : lives (f (.header q)) with
  | false =>
    have hwh : white (f (.header q)) e = false := by unfold white; rw [hlv]; rfl
    rw [hwh] at main
    simp only
    exact main
  | true =>
    have hwh : white (f (.header q)) e = !markedW (f (.header q)) e := by unfold white markedW; rw [hlv]; rfl
    simp only [nilc_ptr, lenSl_sl, lenSl_nil, eqPtr_ptr, eqPtr_nil, eqPtr_ptr', eqSl_sl, eqSl_nil, ptrAt_ptr, Option.bind_some, Option.map_some, ld1_get', ldN_get', st_get', get_put', get_new', put_put', ldB_cells, ldNB_cells, stB_cells, H.next_new, H.next_put, List.getElem?_cons_zero, List.getElem?_cons_succ, Nat.zero_add, Nat.add_zero, Nat.reduceAdd, Nat.reduceLeDiff, Nat.reduceLT, Nat.reduceMul, Nat.reduceSub, Nat.reduceEqDiff, Int.reduceEq, Int.reduceLT, Int.reduceLE, Int.reduceNeg, V.one, V.cells, V.beq, V.beqs, ckB_some, asI_int, asB_bool, asIAny, asS, List.length_cons, List.length_nil, Nat.beq_refl, List.all_cons, List.all_nil, Bool.and_true, Bool.and_false, Bool.true_and, Bool.false_and, Bool.not_true, Bool.not_false, Bool.or_false, Bool.false_or, Bool.or_self, Bool.and_self, decide_true, decide_false, if_true, if_false, splice, List.take_succ_cons, List.take_zero, List.drop_succ_cons, List.drop_zero, List.cons_append, List.nil_append, List.set_cons_zero, List.set_cons_succ, reduceCtorEq, fill, repl, opd, boxc, finV, resAllV, resOfV, result, eqV, eqIfc, aggCells, part, W_call, Nat.reduceBEq, Nat.beq_eq, hix, W3, hrow, refMarked_spec hu hU]
    rw [← hwh]
    exact main
end Wm
end

