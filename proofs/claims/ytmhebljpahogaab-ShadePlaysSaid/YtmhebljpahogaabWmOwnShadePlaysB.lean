/- What the functions come to, and the law: of my machine. -/
import Derived.Test.YtmhebljpahogaabWmOwnShadePlaysA
import Derived.Test.YtmhebljpahogaabWmTxtShadePlaysA
import Derived.Test.YtmhebljpahogaabWmAw09
set_option linter.all false
section
/- What the references' functions of the first layers come to. -/
namespace Wm
attribute [local congr] bind_congr1

theorem refBlack_spec {e : Int} (he : U64 e) (h : H) : C 110 [.int .u64 e] h = some (.int .i64 (black e), h) := by
  refine call_closed (af := F.withyref03_Black) (by kernel_rfl) rfl (by rfl) (by rfl) h ?_
  rw [S.withyref03_Black_eq]
  obtain ⟨h0, h1⟩ := he
  unfold black
  simp only [S.withyref03_Black, td h0]
  rw [wru64 (by omega) (by omega), tm (by omega)]
  by_cases h2 : e / 4 % 2 = 0
  · simp only [h2, decide_true]; exact Ev.some (show V.int _ _ = V.int _ _ by congr 1; omega)
  · simp only [h2, decide_false]; exact Ev.some (show V.int _ _ = V.int _ _ by congr 1; omega)

theorem refPack_spec {x : Hdr} (hx : x.right = true) (h : H) : C 111 [.agg x.cs] h = some (.int .u64 x.word, h) := by
  refine call_closed (af := F.withyref04_Pack) (by kernel_rfl) rfl (by rfl) (by rfl) h ?_
  rw [right_iff] at hx
  obtain ⟨k, m, g, a, n, s⟩ := x
  simp only at hx
  unfold Hdr.cs
  rw [S.withyref04_Pack_eq]
  simp only [S.withyref04_Pack, nilc_ptr, lenSl_sl, lenSl_nil, eqPtr_ptr, eqPtr_nil, eqPtr_ptr', eqSl_sl, eqSl_nil, ptrAt_ptr, Option.bind_some, Option.map_some, ld1_get', ldN_get', st_get', get_put', get_new', put_put', ldB_cells, ldNB_cells, stB_cells, H.next_new, H.next_put, List.getElem?_cons_zero, List.getElem?_cons_succ, Nat.zero_add, Nat.add_zero, Nat.reduceAdd, Nat.reduceLeDiff, Nat.reduceLT, Nat.reduceMul, Nat.reduceSub, Nat.reduceEqDiff, Int.reduceEq, Int.reduceLT, Int.reduceLE, Int.reduceNeg, V.one, V.cells, V.beq, V.beqs, ckB_some, asI_int, asB_bool, asIAny, asS, List.length_cons, List.length_nil, Nat.beq_refl, List.all_cons, List.all_nil, Bool.and_true, Bool.and_false, Bool.true_and, Bool.false_and, Bool.not_true, Bool.not_false, Bool.or_false, Bool.false_or, Bool.or_self, Bool.and_self, decide_true, decide_false, if_true, if_false, splice, List.take_succ_cons, List.take_zero, List.drop_succ_cons, List.drop_zero, List.cons_append, List.nil_append, List.set_cons_zero, List.set_cons_succ, reduceCtorEq, fill, repl, opd, boxc, finV, resAllV, resOfV, result, eqV, eqIfc, aggCells, part, W_call, Nat.reduceBEq, Nat.beq_eq]
  rw [wru64 (n := k) (by omega) (by omega), wru64 (n := m) (by omega) (by omega), wru64 (n := a) (by omega) (by omega), wru64 (n := n) (by omega) (by omega), wru64 (n := s) (by omega) (by omega), wru64 (n := 8 * m) (by omega) (by omega), wru64 (n := 32 * a) (by omega) (by omega), wru64 (n := 65536 * n) (by omega) (by omega), wru64 (n := 281474976710656 * s) (by omega) (by omega), wru64 (n := k + 8 * m) (by omega) (by omega), wru64 (n := k + 8 * m + 32 * a) (by omega) (by omega), wru64 (n := k + 8 * m + 32 * a + 65536 * n) (by omega) (by omega), wru64 (n := k + 8 * m + 32 * a + 65536 * n + 281474976710656 * s) (by omega) (by omega)]
  cases g with
  | true =>
    simp only
    rw [wru64 (by omega) (by omega)]
    exact Ev.some (show V.int _ _ = V.int _ _ by unfold Hdr.word; simp only [if_true]; congr 1; omega)
  | false =>
    exact Ev.some (show V.int _ _ = V.int _ _ by unfold Hdr.word; simp only [Bool.false_eq_true, if_false]; congr 1; omega)

theorem refRight_spec (x : Hdr) (h : H) : C 202 [.agg x.cs] h = some (.bool x.right, h) := by
  refine call_closed (af := F.withyref04_Right) (by kernel_rfl) rfl (by rfl) (by rfl) h ?_
  have e := right_iff x
  generalize x.right = r at e
  obtain ⟨k, m, g, a, n, s⟩ := x
  simp only at e
  unfold Hdr.cs
  rw [S.withyref04_Right_eq]
  simp only [S.withyref04_Right, nilc_ptr, lenSl_sl, lenSl_nil, eqPtr_ptr, eqPtr_nil, eqPtr_ptr', eqSl_sl, eqSl_nil, ptrAt_ptr, Option.bind_some, Option.map_some, ld1_get', ldN_get', st_get', get_put', get_new', put_put', ldB_cells, ldNB_cells, stB_cells, H.next_new, H.next_put, List.getElem?_cons_zero, List.getElem?_cons_succ, Nat.zero_add, Nat.add_zero, Nat.reduceAdd, Nat.reduceLeDiff, Nat.reduceLT, Nat.reduceMul, Nat.reduceSub, Nat.reduceEqDiff, Int.reduceEq, Int.reduceLT, Int.reduceLE, Int.reduceNeg, V.one, V.cells, V.beq, V.beqs, ckB_some, asI_int, asB_bool, asIAny, asS, List.length_cons, List.length_nil, Nat.beq_refl, List.all_cons, List.all_nil, Bool.and_true, Bool.and_false, Bool.true_and, Bool.false_and, Bool.not_true, Bool.not_false, Bool.or_false, Bool.false_or, Bool.or_self, Bool.and_self, decide_true, decide_false, if_true, if_false, splice, List.take_succ_cons, List.take_zero, List.drop_succ_cons, List.drop_zero, List.cons_append, List.nil_append, List.set_cons_zero, List.set_cons_succ, reduceCtorEq, fill, repl, opd, boxc, finV, resAllV, resOfV, result, eqV, eqIfc, aggCells, part, W_call, Nat.reduceBEq, Nat.beq_eq]
  have key : ∀ b : Bool, (b = true ↔ r = true) → (V.bool b, (h : H)).1 = V.bool r := fun b hb => by
    cases b <;> cases r <;> simp_all
  by_cases c1 : 0 ≤ k
  · by_cases c2 : k ≤ 4
    · by_cases c3 : m = 0
      · by_cases c4 : 0 ≤ a
        · by_cases c5 : a ≤ 15
          · by_cases c6 : 0 ≤ n
            · by_cases c7 : n ≤ 4294967295
              · by_cases c8 : 0 ≤ s
                · simp only [c1, c2, c3, c4, c5, c6, c7, c8, decide_true]; exact Ev.some (key _ (by rw [e, decide_eq_true_eq]; omega))
                · simp only [c1, c2, c3, c4, c5, c6, c7, c8, decide_true, decide_false]; exact Ev.some (key _ (by rw [e]; simp; omega))
              · simp only [c1, c2, c3, c4, c5, c6, c7, decide_true, decide_false]; exact Ev.some (key _ (by rw [e]; simp; omega))
            · simp only [c1, c2, c3, c4, c5, c6, decide_true, decide_false]; exact Ev.some (key _ (by rw [e]; simp; omega))
          · simp only [c1, c2, c3, c4, c5, decide_true, decide_false]; exact Ev.some (key _ (by rw [e]; simp; omega))
        · simp only [c1, c2, c3, c4, decide_true, decide_false]; exact Ev.some (key _ (by rw [e]; simp; omega))
      · by_cases c3' : m = 1
        · by_cases c4 : 0 ≤ a
          · by_cases c5 : a ≤ 15
            · by_cases c6 : 0 ≤ n
              · by_cases c7 : n ≤ 4294967295
                · by_cases c8 : 0 ≤ s
                  · simp only [c1, c2, c3, c3', c4, c5, c6, c7, c8, decide_true, decide_false, Int.reduceEq]; exact Ev.some (key _ (by rw [e, decide_eq_true_eq]; omega))
                  · simp only [c1, c2, c3, c3', c4, c5, c6, c7, c8, decide_true, decide_false, Int.reduceEq]; exact Ev.some (key _ (by rw [e]; simp; omega))
                · simp only [c1, c2, c3, c3', c4, c5, c6, c7, decide_true, decide_false, Int.reduceEq]; exact Ev.some (key _ (by rw [e]; simp; omega))
              · simp only [c1, c2, c3, c3', c4, c5, c6, decide_true, decide_false, Int.reduceEq]; exact Ev.some (key _ (by rw [e]; simp; omega))
            · simp only [c1, c2, c3, c3', c4, c5, decide_true, decide_false, Int.reduceEq]; exact Ev.some (key _ (by rw [e]; simp; omega))
          · simp only [c1, c2, c3, c3', c4, decide_true, decide_false, Int.reduceEq]; exact Ev.some (key _ (by rw [e]; simp; omega))
        · simp only [c1, c2, c3, c3', decide_true, decide_false]; exact Ev.some (key _ (by rw [e]; simp; omega))
    · simp only [c1, c2, decide_true, decide_false]; exact Ev.some (key _ (by rw [e]; simp; omega))
  · simp only [c1, decide_false]; exact Ev.some (key _ (by rw [e]; simp; omega))

theorem refLives_spec {w : Int} (hw : U64 w) (h : H) : C 112 [.int .u64 w] h = some (.bool (lives w), h) := by
  refine call_closed (af := F.withyref04_Lives) (by kernel_rfl) rfl (by rfl) (by rfl) h ?_
  rw [S.withyref04_Lives_eq]
  unfold lives
  cases ho : okT w with
  | false =>
    simp only [S.withyref04_Lives, nilc_ptr, lenSl_sl, lenSl_nil, eqPtr_ptr, eqPtr_nil, eqPtr_ptr', eqSl_sl, eqSl_nil, ptrAt_ptr, Option.bind_some, Option.map_some, ld1_get', ldN_get', st_get', get_put', get_new', put_put', ldB_cells, ldNB_cells, stB_cells, H.next_new, H.next_put, List.getElem?_cons_zero, List.getElem?_cons_succ, Nat.zero_add, Nat.add_zero, Nat.reduceAdd, Nat.reduceLeDiff, Nat.reduceLT, Nat.reduceMul, Nat.reduceSub, Nat.reduceEqDiff, Int.reduceEq, Int.reduceLT, Int.reduceLE, Int.reduceNeg, V.one, V.cells, V.beq, V.beqs, ckB_some, asI_int, asB_bool, asIAny, asS, List.length_cons, List.length_nil, Nat.beq_refl, List.all_cons, List.all_nil, Bool.and_true, Bool.and_false, Bool.true_and, Bool.false_and, Bool.not_true, Bool.not_false, Bool.or_false, Bool.false_or, Bool.or_self, Bool.and_self, decide_true, decide_false, if_true, if_false, splice, List.take_succ_cons, List.take_zero, List.drop_succ_cons, List.drop_zero, List.cons_append, List.nil_append, List.set_cons_zero, List.set_cons_succ, reduceCtorEq, fill, repl, opd, boxc, finV, resAllV, resOfV, result, eqV, eqIfc, aggCells, part, W_call, Nat.reduceBEq, Nat.beq_eq, refUnp_spec hw, ho, Hdr.cs]
    exact Ev.some rfl
  | true =>
    by_cases k1 : (unp w).kind = 1
    · simp only [S.withyref04_Lives, nilc_ptr, lenSl_sl, lenSl_nil, eqPtr_ptr, eqPtr_nil, eqPtr_ptr', eqSl_sl, eqSl_nil, ptrAt_ptr, Option.bind_some, Option.map_some, ld1_get', ldN_get', st_get', get_put', get_new', put_put', ldB_cells, ldNB_cells, stB_cells, H.next_new, H.next_put, List.getElem?_cons_zero, List.getElem?_cons_succ, Nat.zero_add, Nat.add_zero, Nat.reduceAdd, Nat.reduceLeDiff, Nat.reduceLT, Nat.reduceMul, Nat.reduceSub, Nat.reduceEqDiff, Int.reduceEq, Int.reduceLT, Int.reduceLE, Int.reduceNeg, V.one, V.cells, V.beq, V.beqs, ckB_some, asI_int, asB_bool, asIAny, asS, List.length_cons, List.length_nil, Nat.beq_refl, List.all_cons, List.all_nil, Bool.and_true, Bool.and_false, Bool.true_and, Bool.false_and, Bool.not_true, Bool.not_false, Bool.or_false, Bool.false_or, Bool.or_self, Bool.and_self, decide_true, decide_false, if_true, if_false, splice, List.take_succ_cons, List.take_zero, List.drop_succ_cons, List.drop_zero, List.cons_append, List.nil_append, List.set_cons_zero, List.set_cons_succ, reduceCtorEq, fill, repl, opd, boxc, finV, resAllV, resOfV, result, eqV, eqIfc, aggCells, part, W_call, Nat.reduceBEq, Nat.beq_eq, refUnp_spec hw, ho, Hdr.cs, k1, Bool.true_or]
      exact Ev.some rfl
    · simp only [S.withyref04_Lives, nilc_ptr, lenSl_sl, lenSl_nil, eqPtr_ptr, eqPtr_nil, eqPtr_ptr', eqSl_sl, eqSl_nil, ptrAt_ptr, Option.bind_some, Option.map_some, ld1_get', ldN_get', st_get', get_put', get_new', put_put', ldB_cells, ldNB_cells, stB_cells, H.next_new, H.next_put, List.getElem?_cons_zero, List.getElem?_cons_succ, Nat.zero_add, Nat.add_zero, Nat.reduceAdd, Nat.reduceLeDiff, Nat.reduceLT, Nat.reduceMul, Nat.reduceSub, Nat.reduceEqDiff, Int.reduceEq, Int.reduceLT, Int.reduceLE, Int.reduceNeg, V.one, V.cells, V.beq, V.beqs, ckB_some, asI_int, asB_bool, asIAny, asS, List.length_cons, List.length_nil, Nat.beq_refl, List.all_cons, List.all_nil, Bool.and_true, Bool.and_false, Bool.true_and, Bool.false_and, Bool.not_true, Bool.not_false, Bool.or_false, Bool.false_or, Bool.or_self, Bool.and_self, decide_true, decide_false, if_true, if_false, splice, List.take_succ_cons, List.take_zero, List.drop_succ_cons, List.drop_zero, List.cons_append, List.nil_append, List.set_cons_zero, List.set_cons_succ, reduceCtorEq, fill, repl, opd, boxc, finV, resAllV, resOfV, result, eqV, eqIfc, aggCells, part, W_call, Nat.reduceBEq, Nat.beq_eq, refUnp_spec hw, ho, Hdr.cs, k1]
      exact Ev.some rfl

def markedW (w e : Int) : Bool := lives w && decide ((unp w).mark = black e)
theorem refMarked_spec {w e : Int} (hw : U64 w) (he : U64 e) (h : H) : C 113 [.int .u64 w, .int .u64 e] h = some (.bool (markedW w e), h) := by
  refine call_closed (af := F.withyref04_Marked) (by kernel_rfl) rfl (by rfl) (by rfl) h ?_
  rw [S.withyref04_Marked_eq]
  unfold markedW
  cases hl : lives w with
  | false =>
    simp only [S.withyref04_Marked, nilc_ptr, lenSl_sl, lenSl_nil, eqPtr_ptr, eqPtr_nil, eqPtr_ptr', eqSl_sl, eqSl_nil, ptrAt_ptr, Option.bind_some, Option.map_some, ld1_get', ldN_get', st_get', get_put', get_new', put_put', ldB_cells, ldNB_cells, stB_cells, H.next_new, H.next_put, List.getElem?_cons_zero, List.getElem?_cons_succ, Nat.zero_add, Nat.add_zero, Nat.reduceAdd, Nat.reduceLeDiff, Nat.reduceLT, Nat.reduceMul, Nat.reduceSub, Nat.reduceEqDiff, Int.reduceEq, Int.reduceLT, Int.reduceLE, Int.reduceNeg, V.one, V.cells, V.beq, V.beqs, ckB_some, asI_int, asB_bool, asIAny, asS, List.length_cons, List.length_nil, Nat.beq_refl, List.all_cons, List.all_nil, Bool.and_true, Bool.and_false, Bool.true_and, Bool.false_and, Bool.not_true, Bool.not_false, Bool.or_false, Bool.false_or, Bool.or_self, Bool.and_self, decide_true, decide_false, if_true, if_false, splice, List.take_succ_cons, List.take_zero, List.drop_succ_cons, List.drop_zero, List.cons_append, List.nil_append, List.set_cons_zero, List.set_cons_succ, reduceCtorEq, fill, repl, opd, boxc, finV, resAllV, resOfV, result, eqV, eqIfc, aggCells, part, W_call, Nat.reduceBEq, Nat.beq_eq, refUnp_spec hw, Hdr.cs, refLives_spec hw, hl]
    exact Ev.some rfl
  | true =>
    simp only [S.withyref04_Marked, nilc_ptr, lenSl_sl, lenSl_nil, eqPtr_ptr, eqPtr_nil, eqPtr_ptr', eqSl_sl, eqSl_nil, ptrAt_ptr, Option.bind_some, Option.map_some, ld1_get', ldN_get', st_get', get_put', get_new', put_put', ldB_cells, ldNB_cells, stB_cells, H.next_new, H.next_put, List.getElem?_cons_zero, List.getElem?_cons_succ, Nat.zero_add, Nat.add_zero, Nat.reduceAdd, Nat.reduceLeDiff, Nat.reduceLT, Nat.reduceMul, Nat.reduceSub, Nat.reduceEqDiff, Int.reduceEq, Int.reduceLT, Int.reduceLE, Int.reduceNeg, V.one, V.cells, V.beq, V.beqs, ckB_some, asI_int, asB_bool, asIAny, asS, List.length_cons, List.length_nil, Nat.beq_refl, List.all_cons, List.all_nil, Bool.and_true, Bool.and_false, Bool.true_and, Bool.false_and, Bool.not_true, Bool.not_false, Bool.or_false, Bool.false_or, Bool.or_self, Bool.and_self, decide_true, decide_false, if_true, if_false, splice, List.take_succ_cons, List.take_zero, List.drop_succ_cons, List.drop_zero, List.cons_append, List.nil_append, List.set_cons_zero, List.set_cons_succ, reduceCtorEq, fill, repl, opd, boxc, finV, resAllV, resOfV, result, eqV, eqIfc, aggCells, part, W_call, Nat.reduceBEq, Nat.beq_eq, refUnp_spec hw, Hdr.cs, refLives_spec hw, hl, refBlack_spec he]
    exact Ev.some rfl

/-! ### A config made right -/
def fitT (n lo hi : Int) : Int := lo + n % 18446744073709551616 % (hi - lo + 1)
def Cfg.fit (k : Cfg) : Cfg := ⟨fitT k.s 1 12, fitT k.a 0 4, fitT k.c 1 4, fitT k.hd 1 4, fitT k.g 1 40, fitT k.st 0 6⟩

theorem fit_spec (n : Int) {lo hi : Int} (h0 : 0 ≤ lo) (h1 : lo ≤ hi) (h2 : hi ≤ 1000) (h : H) : C 270 [.int .i64 n, .int .i64 lo, .int .i64 hi] h = some (.int .i64 (fitT n lo hi), h) := by
  refine call_closed (af := F.withyref06_fit) (by kernel_rfl) rfl (by rfl) (by rfl) h ?_
  rw [S.withyref06_fit_eq]
  have e1 : wr .u64 n = n % 18446744073709551616 := rfl
  have hb := Int.emod_nonneg (n % 18446744073709551616) (show hi - lo + 1 ≠ 0 by omega)
  have hl := Int.emod_lt_of_pos (n % 18446744073709551616) (show 0 < hi - lo + 1 by omega)
  have hne : ¬ (hi - lo + 1 = 0) := by omega
  simp only [S.withyref06_fit]
  rw [wr64 (n := hi - lo) (by omega) (by omega), wr64 (n := hi - lo + 1) (by omega) (by omega), wru64 (n := hi - lo + 1) (by omega) (by omega)]
  simp only [arith, decide_eq_false hne, Option.bind_some, e1]
  rw [tm (by omega), wr64 (n := _ % (hi - lo + 1)) (by omega) (by omega), wr64 (by omega) (by omega)]
  exact Ev.some rfl

theorem Cfg.fit_R (k : Cfg) : k.fit.R = true := by
  rw [Cfg.R_iff]
  unfold Cfg.fit fitT
  simp only
  omega
theorem Cfg.fit_bd (k : Cfg) : k.fit.S ≤ 12 ∧ k.fit.room ≤ 4 ∧ k.fit.C ≤ 4 ∧ k.fit.H ≤ 4 ∧ k.fit.base ≤ 32 ∧ k.fit.size ≤ 104 := by
  have h1 : k.fit.S ≤ 12 := by unfold Cfg.fit Cfg.S fitT; simp only; omega
  have h2 : k.fit.room ≤ 4 := by unfold Cfg.fit Cfg.room fitT; simp only; split <;> omega
  have h3 : k.fit.C ≤ 4 := by unfold Cfg.fit Cfg.C fitT; simp only; omega
  have h4 : k.fit.H ≤ 4 := by unfold Cfg.fit Cfg.H fitT; simp only; omega
  have h5 : k.fit.C * k.fit.H ≤ 4 * 4 := Nat.mul_le_mul h3 h4
  have h6 : k.fit.S * (2 + k.fit.room) ≤ 12 * 6 := Nat.mul_le_mul h1 (by omega)
  unfold Cfg.size Cfg.base
  omega

theorem Fit_spec (k : Cfg) (h : H) : C 92 [k.v] h = some (k.fit.v, h) := by
  refine call_closed (af := F.withyref06_Fit) (by kernel_rfl) rfl (by rfl) (by rfl) h ?_
  obtain ⟨s, a, c, hd, g, st⟩ := k
  unfold Cfg.v cfgV
  rw [S.withyref06_Fit_eq]
  have n1 : ∀ x : Nat, x ≠ x + 1 := fun x => by omega
  have n2 : ∀ x : Nat, x + 1 ≠ x := fun x => by omega
  simp only [S.withyref06_Fit, nilc_ptr, lenSl_sl, lenSl_nil, eqPtr_ptr, eqPtr_nil, eqPtr_ptr', eqSl_sl, eqSl_nil, ptrAt_ptr, Option.bind_some, Option.map_some, ld1_get', ldN_get', st_get', get_put', get_new', put_put', ldB_cells, ldNB_cells, stB_cells, H.next_new, H.next_put, List.getElem?_cons_zero, List.getElem?_cons_succ, Nat.zero_add, Nat.add_zero, Nat.reduceAdd, Nat.reduceLeDiff, Nat.reduceLT, Nat.reduceMul, Nat.reduceSub, Nat.reduceEqDiff, Int.reduceEq, Int.reduceLT, Int.reduceLE, Int.reduceNeg, V.one, V.cells, V.beq, V.beqs, ckB_some, asI_int, asB_bool, asIAny, asS, List.length_cons, List.length_nil, Nat.beq_refl, List.all_cons, List.all_nil, Bool.and_true, Bool.and_false, Bool.true_and, Bool.false_and, Bool.not_true, Bool.not_false, Bool.or_false, Bool.false_or, Bool.or_self, Bool.and_self, decide_true, decide_false, if_true, if_false, splice, List.take_succ_cons, List.take_zero, List.drop_succ_cons, List.drop_zero, List.cons_append, List.nil_append, List.set_cons_zero, List.set_cons_succ, reduceCtorEq, fill, repl, opd, boxc, finV, resAllV, resOfV, result, eqV, eqIfc, aggCells, part, W_call, Nat.reduceBEq, Nat.beq_eq, n1, n2, fit_spec s (lo := 1) (hi := 12) (by decide) (by decide) (by decide), fit_spec a (lo := 0) (hi := 4) (by decide) (by decide) (by decide), fit_spec c (lo := 1) (hi := 4) (by decide) (by decide) (by decide), fit_spec hd (lo := 1) (hi := 4) (by decide) (by decide) (by decide), fit_spec g (lo := 1) (hi := 40) (by decide) (by decide) (by decide), fit_spec st (lo := 0) (hi := 6) (by decide) (by decide) (by decide)]
  exact Ev.some rfl
end Wm
end

section
/- All words of a config, and those of a memory in which nothing was done: withyref06.Words, Memory. -/
namespace Wm
attribute [local congr] bind_congr1
attribute [local irreducible] wr

theorem Words_spec {k : Cfg} (hr : k.R = true) {h : H} (ok : h.ok) : ∃ (g : H) (b : Nat) (c : Cap) (kk : Bk), C 87 [k.v] h = some (.sl b 0 k.size c, g) ∧ Fr [] h g ∧ h.next ≤ b ∧ g.get b = some (.cells (k.locs.map Wd.cells).flatten kk) := by
  obtain ⟨x, L, hW, hA⟩ := words_spec (s := k.s) (a := k.a) (c := k.c) (hd := k.hd) (g := k.g) (st := k.st) hr ok
  have hn : sizeW k.S k.room k.C k.H = k.size := by unfold sizeW Cfg.size Cfg.base; omega
  change Acc h L x 3 (sizeW k.S k.room k.C k.H) (wordsW k.S k.room k.C k.H) at hA
  rw [hn, words_flat] at hA
  have hfr : ∀ l, Fr [] h (h.ext l) := fun l => ⟨by rw [H.ext_next]; omega, ok.ext l, fun b hb _ => H.ext_old hb⟩
  obtain ⟨_, _, j, ⟨rfl, hj⟩ | ⟨rfl, hj⟩⟩ := hA
  · exact ⟨_, _, _, _, hW, hfr _, by omega, by rw [H.ext_get' ok, List.getElem?_cons_succ, hj]; rfl⟩
  · exact ⟨_, _, _, _, hW, hfr _, by omega, by rw [H.ext_get' ok, List.getElem?_cons_succ, hj]; rfl⟩

theorem locs3 (k : Cfg) : ∀ x ∈ k.locs.map Wd.cells, x.length = 3 := fun x hx => by
  obtain ⟨l, _, rfl⟩ := List.mem_map.mp hx; rfl
theorem locs_cells {k : Cfg} {i : Nat} {l : Wd} (hl : k.locs[i]? = some l) (r : Nat) (hr : r < 3) : ((k.locs.map Wd.cells).flatten)[i * 3 + r]? = l.cells[r]? := by
  have h1 := flat_part (locs3 k) i l.cells (by rw [List.getElem?_map, hl]; rfl)
  have h2 := congrArg (fun x => x[r]?) h1
  simp only [List.getElem?_take, List.getElem?_drop, if_pos hr] at h2
  exact h2

/-- The words of a memory in which nothing was done. -/
def mem0 (k : Cfg) : Wd → Int
  | .clock => 1
  | .top => 1
  | .link q => if (q : Int) + 1 < k.s then q + 2 else 0
  | _ => 0
def mem00 : Wd → Int
  | .clock => 1
  | .top => 1
  | _ => 0

/-- The words, as a list, of what each word is. -/
def Cfg.row (k : Cfg) (f : Wd → Int) : List Int := k.locs.map f
theorem row_length (k : Cfg) (f : Wd → Int) : (k.row f).length = k.size := by unfold Cfg.row; rw [List.length_map, locs_length]
theorem row_at {k : Cfg} {f : Wd → Int} {l : Wd} (hl : l.ok k) : (k.row f)[l.pos k]? = some (f l) := by unfold Cfg.row; rw [List.getElem?_map, at_locs hl]; rfl
theorem row_getD {k : Cfg} {f : Wd → Int} {l : Wd} (hl : l.ok k) : (k.row f).getD (l.pos k) 0 = f l := by rw [List.getD_eq_getElem?_getD, row_at hl]; rfl
/-- A word is another one. -/
def wset (f : Wd → Int) (l : Wd) (v : Int) : Wd → Int := fun m => if m = l then v else f m
theorem wset_same (f : Wd → Int) (l : Wd) (v : Int) : wset f l v l = v := if_pos rfl
theorem wset_ne {f : Wd → Int} {l m : Wd} {v : Int} (h : m ≠ l) : wset f l v m = f m := if_neg h
theorem row_set {k : Cfg} {f : Wd → Int} {l : Wd} {v : Int} (hl : l.ok k) : (k.row f).set (l.pos k) v = k.row (wset f l v) := by
  apply List.ext_getElem?
  intro i
  unfold Cfg.row
  rw [List.getElem?_set, List.getElem?_map, List.getElem?_map]
  by_cases hi : l.pos k = i
  · subst hi
    rw [if_pos rfl, if_pos (by rw [List.length_map, locs_length]; exact pos_lt hl), at_locs hl]
    simp only [Option.map_some, wset_same]
  · rw [if_neg hi]
    cases hx : k.locs[i]? with
    | none => rfl
    | some m =>
      simp only [Option.map_some]
      rw [wset_ne]
      rintro rfl
      exact hi (locs_at hx)
theorem row_congr {k : Cfg} {f g : Wd → Int} (h : ∀ l, l.ok k → f l = g l) : k.row f = k.row g := List.map_congr_left fun l hl => h l (mem_locs.mp hl)

theorem row_st2 {g : H} {b : Nat} {ws : List Int} {kk : Bk} (hk : kk ≠ .ro) (hg : g.get b = some (.cells (ws.map (.int .u64)) kk)) {i : Nat} (hi : i < ws.length) (v : Int) : g.st 1 (.ptr b i) (.int .u64 v) = some (g.put b (some (.cells ((ws.set i v).map (.int .u64)) kk))) := by
  rw [st1_get hg hk rfl (by rw [List.length_map]; exact hi), List.map_set]

theorem sl_idx {b n i e : Nat} {c : Cap} (hi : i < n) : indexAV e (.sl b 0 n c) (.int .i64 (i : Int)) = some (.ptr b (i * e)) := by
  simp only [indexAV, indexOf, asIAny, show decide ((0 : Int) ≤ (i : Int)) = true from decide_eq_true (by omega), show decide ((i : Int) < (n : Int)) = true from decide_eq_true (by omega), Bool.and_self, Nat.zero_add, Int.toNat_natCast]
theorem sl_idx1 {b n i : Nat} {c : Cap} (hi : i < n) : indexAV 1 (.sl b 0 n c) (.int .i64 (i : Int)) = some (.ptr b i) := by rw [sl_idx hi, Nat.mul_one]

def memF (k : Cfg) (i : Nat) (l : Wd) : Int := if l.pos k < i then mem0 k l else mem00 l

theorem memF_set {k : Cfg} {l : Wd} (hlo : l.ok k) : k.row (memF k (l.pos k + 1)) = (k.row (memF k (l.pos k))).set (l.pos k) (mem0 k l) := by
  rw [row_set hlo]
  apply row_congr
  intro m hm
  simp only [memF, wset]
  by_cases he : m = l
  · subst he; rw [if_pos (Nat.lt_succ_self _), if_pos rfl]
  · rw [if_neg he]
    have hne : m.pos k ≠ l.pos k := fun q => he (pos_inj hm hlo q)
    clear he hm hlo
    by_cases hq : m.pos k < l.pos k
    · rw [if_pos (Nat.lt_succ_of_lt hq), if_pos hq]
    · rw [if_neg (by omega), if_neg hq]
theorem memF_same {k : Cfg} {l : Wd} (hlo : l.ok k) (hl : mem0 k l = mem00 l) : k.row (memF k (l.pos k + 1)) = k.row (memF k (l.pos k)) := by
  apply row_congr
  intro m hm
  simp only [memF]
  by_cases he : m = l
  · subst he; rw [if_pos (Nat.lt_succ_self _), if_neg (Nat.lt_irrefl _), hl]
  · have hne : m.pos k ≠ l.pos k := fun q => he (pos_inj hm hlo q)
    clear he hm hlo
    by_cases hq : m.pos k < l.pos k
    · rw [if_pos (Nat.lt_succ_of_lt hq), if_pos hq]
    · rw [if_neg (by omega), if_neg hq]
theorem who_le {k : Cfg} (hr : k.R = true) {l : Wd} (hl : l.ok k) : l.who ≤ 64 := by
  have hb := Cfg.bounds hr
  cases l <;> simp only [Wd.ok, Wd.who] at hl ⊢ <;> omega
theorem natlt {i n : Nat} (h : i < n) : decide ((i : Int) < (n : Int)) = true := decide_eq_true (Int.ofNat_lt.mpr h)
theorem link_name (l : Wd) : (l.name.toList == (⟨⟨[108, 105, 110, 107]⟩⟩ : ByteArray).toList) = decide (l.tag = 9) := by
  have h := name_eq l (.link 0)
  have e : (Wd.link 0).name = (⟨⟨[108, 105, 110, 107]⟩⟩ : ByteArray) := rfl
  rw [e] at h
  exact h

theorem Memory_spec {k : Cfg} (hr : k.R = true) {h : H} (ok : h.ok) : ∃ (g : H) (b : Nat), C 86 [k.v] h = some (.sl b 0 k.size (.ex k.size), g) ∧ Fr [] h g ∧ h.next ≤ b ∧ b < g.next ∧ g.get b = some (.cells ((k.row (mem0 k)).map (.int .u64)) .rw) := by
  have hb := Cfg.bounds hr
  have hsz : 4 ≤ k.size := by unfold Cfg.size Cfg.base; omega
  have hev : Ev (C 86 [k.v] h) fun r => ∃ b, r.1 = .sl b 0 k.size (.ex k.size) ∧ Fr [] h r.2 ∧ h.next ≤ b ∧ b < r.2.next ∧ r.2.get b = some (.cells ((k.row (mem0 k)).map (.int .u64)) .rw) := by
    refine call_ev (af := F.withyref06_Memory) (by kernel_rfl) rfl ?_
    obtain ⟨g0, bw, cw, kw, e0, f0, n0, w0⟩ := Words_spec hr (ok.new (.cells k.cs .rw))
    have hcs : (Blk.cells k.cs .rw) = .cells [.int .i64 k.s, .int .i64 k.a, .int .i64 k.c, .int .i64 k.hd, .int .i64 k.g, .int .i64 k.st] .rw := rfl
    have hv : k.v = .agg [.int .i64 k.s, .int .i64 k.a, .int .i64 k.c, .int .i64 k.hd, .int .i64 k.g, .int .i64 k.st] := rfl
    rw [hv, S.withyref06_Memory_eq]
    rw [hv, hcs] at e0
    have hcfg : g0.get h.next = some (.cells [.int .i64 k.s, .int .i64 k.a, .int .i64 k.c, .int .i64 k.hd, .int .i64 k.g, .int .i64 k.st] .rw) := f0.get (ok.new _) (get_new_self _ _) (by simp)
    rw [H.next_new] at n0
    have hmk : g0.mkSl 1 8 [V.int .u64 0] (k.size : Int) (k.size : Int) = some (.sl g0.next 0 k.size (.ex k.size), g0.new (.cells (repl [V.int .u64 0] k.size) .rw)) := by
      rw [mkSl_ok (e := 1) (b := 8) (z := [V.int .u64 0]) (l := (k.size : Int)) (c := (k.size : Int)) (by omega) (by omega) (by omega) (by omega) rfl (by omega)]
      simp only [Int.toNat_natCast]
    simp only [S.withyref06_Memory, nilc_ptr, lenSl_sl, lenSl_nil, eqPtr_ptr, eqPtr_nil, eqPtr_ptr', eqSl_sl, eqSl_nil, ptrAt_ptr, Option.bind_some, Option.map_some, ld1_get', ldN_get', st_get', get_put', get_new', put_put', ldB_cells, ldNB_cells, stB_cells, H.next_new, H.next_put, List.getElem?_cons_zero, List.getElem?_cons_succ, Nat.zero_add, Nat.add_zero, Nat.reduceAdd, Nat.reduceLeDiff, Nat.reduceLT, Nat.reduceMul, Nat.reduceSub, Nat.reduceEqDiff, Int.reduceEq, Int.reduceLT, Int.reduceLE, Int.reduceNeg, V.one, V.cells, V.beq, V.beqs, ckB_some, asI_int, asB_bool, asIAny, asS, List.length_cons, List.length_nil, Nat.beq_refl, List.all_cons, List.all_nil, Bool.and_true, Bool.and_false, Bool.true_and, Bool.false_and, Bool.not_true, Bool.not_false, Bool.or_false, Bool.false_or, Bool.or_self, Bool.and_self, decide_true, decide_false, if_true, if_false, splice, List.take_succ_cons, List.take_zero, List.drop_succ_cons, List.drop_zero, List.cons_append, List.nil_append, List.set_cons_zero, List.set_cons_succ, reduceCtorEq, fill, repl, opd, boxc, finV, resAllV, resOfV, result, eqV, eqIfc, aggCells, part, W_call, Nat.reduceBEq, Nat.beq_eq, e0, hmk]
    have hrep : (repl [V.int .u64 0] k.size) = (List.replicate k.size (0 : Int)).map (.int .u64) := repl_map _
    rw [hrep]
    generalize hg1 : g0.new (.cells ((List.replicate k.size (0 : Int)).map (V.int .u64)) .rw) = g1
    have hg1g : g1.get g0.next = some (.cells ((List.replicate k.size (0 : Int)).map (V.int .u64)) .rw) := by rw [← hg1]; exact get_new_self _ _
    have hfr1 : Fr [] h g1 := by rw [← hg1]; exact (((Fr.refl ok).new _).trans' f0).new _
    have hw1 : g1.get bw = some (.cells (k.locs.map Wd.cells).flatten kw) := by rw [← hg1, get_new_ne (f0.ok.ne0 w0)]; exact w0
    have hcfg1 : g1.get h.next = some (.cells [.int .i64 k.s, .int .i64 k.a, .int .i64 k.c, .int .i64 k.hd, .int .i64 k.g, .int .i64 k.st] .rw) := by rw [← hg1, get_new_ne (f0.ok.ne0 hcfg)]; exact hcfg
    have hbwne : bw ≠ g0.next := f0.ok.ne0 w0
    have hcne : h.next ≠ g0.next := f0.ok.ne0 hcfg
    have hle : h.next < g0.next := by have := f0.le; rw [H.next_new] at this; omega
    generalize hz : g0.next = z at hg1g hbwne hcne hle ⊢
    have hzn : z < g1.next := by rw [← hg1, H.next_new]; omega
    clear hg1 hmk e0 f0
    have i0 := sl_idx1 (b := z) (n := k.size) (i := 0) (c := .ex k.size) (by omega)
    have i3 := sl_idx1 (b := z) (n := k.size) (i := 3) (c := .ex k.size) (by omega)
    rw [show indexAV 1 (.sl z 0 k.size (.ex k.size)) (.int .i64 0) = some (.ptr z 0) from i0]
    simp only [Option.bind_some]
    rw [row_st2 (by decide) hg1g (by rw [List.length_replicate]; omega)]
    simp only [Option.bind_some]
    rw [show indexAV 1 (.sl z 0 k.size (.ex k.size)) (.int .i64 3) = some (.ptr z 3) from i3]
    simp only [Option.bind_some]
    rw [row_st2 (by decide) (get_put_self _ _ _) (by rw [List.length_set, List.length_replicate]; omega), put_put']
    simp only [Option.bind_some]
    have hinit : ((List.replicate k.size (0 : Int)).set 0 1).set 3 1 = k.row mem00 := by
      have e : List.replicate k.size (0 : Int) = k.row (fun _ => 0) := by
        unfold Cfg.row; rw [← locs_length]; rw [List.map_const']
      rw [e]
      have h1 := row_set (k := k) (f := fun _ => 0) (l := .clock) (v := 1) trivial
      have h2 := row_set (k := k) (f := wset (fun _ => 0) .clock 1) (l := .top) (v := 1) trivial
      change (k.row _).set 0 1 = _ at h1
      change (k.row _).set 3 1 = _ at h2
      rw [h1, h2]
      apply row_congr
      intro l _
      cases l <;> simp [wset, mem00]
    rw [hinit]
    -- what stands behind so many rounds
    have hF0 : memF k 0 = mem00 := by funext l; simp [memF]
    refine loop_ev (α := Nat) (fun i => S.withyref06_Memory_c1_E (.ptr h.next 0) (.sl bw 0 k.size cw) (.sl z 0 k.size (.ex k.size)) (.int .i64 i))
      (fun i g => i ≤ k.size ∧ g = g1.put z (some (.cells ((k.row (memF k i)).map (.int .u64)) .rw))) (fun i _ => k.size - i)
      (fun r => r = (.exit 0, S.withyref06_Memory_c1_O (.sl z 0 k.size (.ex k.size)), g1.put z (some (.cells ((k.row (memF k k.size)).map (.int .u64)) .rw)))) 0 rfl ⟨by omega, by rw [hF0]⟩ ?_ ?_
    · rintro i g ⟨hi, rfl⟩
      rw [S.withyref06_Memory_c1_eq]
      by_cases hic : i < k.size
      · obtain ⟨l, hl⟩ : ∃ l, k.locs[i]? = some l := ⟨_, List.getElem?_eq_getElem (by rw [locs_length]; exact hic)⟩
        have hlo := mem_locs.mp (List.mem_of_getElem? hl)
        have hlp := locs_at hl
        have ix := sl_idx (b := bw) (n := k.size) (i := i) (e := 3) (c := cw) hic
        have ix2 := sl_idx1 (b := z) (n := k.size) (i := i) (c := .ex k.size) hic
        have c0 := locs_cells hl 0 (by omega)
        have c1 := locs_cells hl 1 (by omega)
        simp only [Nat.add_zero] at c0
        have w1 : wr .i64 ((i : Int) + 1) = ((i + 1 : Nat) : Int) := by rw [wr64 (by omega) (by omega)]; rfl
        have hwho : (l.who : Int) ≤ 64 := by
          have := who_le hr hlo
          omega
        have w2 : wr .i64 ((l.who : Int) + 1) = (l.who : Int) + 1 := wr64 (by omega) (by omega)
        have w3 : wr .u64 (wr .i64 ((l.who : Int) + 2)) = (l.who : Int) + 2 := ar_link (Int.natCast_nonneg _) hwho
        have hmu : k.size - (i + 1) < k.size - i := Nat.sub_lt_sub_left hic (Nat.lt_succ_self i)
        have hFs : ∀ v, mem0 k l = v → k.row (memF k (i + 1)) = (k.row (memF k i)).set i v := by
          rintro v rfl
          rw [← hlp]; exact memF_set hlo
        have hFsame : mem0 k l = mem00 l → k.row (memF k (i + 1)) = k.row (memF k i) := fun he => by
          rw [← hlp]; exact memF_same hlo he
        have hnm' := link_name l
        rw [show l.cells[0]? = some (.str l.name) from rfl] at c0
        rw [show l.cells[1]? = some (.int .i64 l.who) from rfl] at c1
        generalize l.name = nm at c0 hnm'
        generalize hB : (nm.toList == (⟨⟨[108, 105, 110, 107]⟩⟩ : ByteArray).toList) = B at hnm'
        generalize (k.locs.map Wd.cells).flatten = W3 at hw1 c0 c1
        generalize hwh : (l.who : Int) = who at c1 w1 w2 w3 hwho
        have hlt : decide ((i : Int) < (k.size : Int)) = true := natlt hic
        simp only [S.withyref06_Memory_c1_S, nilc_ptr, lenSl_sl, lenSl_nil, eqPtr_ptr, eqPtr_nil, eqPtr_ptr', eqSl_sl, eqSl_nil, ptrAt_ptr, Option.bind_some, Option.map_some, ld1_get', ldN_get', st_get', get_put', get_new', put_put', ldB_cells, ldNB_cells, stB_cells, H.next_new, H.next_put, List.getElem?_cons_zero, List.getElem?_cons_succ, Nat.zero_add, Nat.add_zero, Nat.reduceAdd, Nat.reduceLeDiff, Nat.reduceLT, Nat.reduceMul, Nat.reduceSub, Nat.reduceEqDiff, Int.reduceEq, Int.reduceLT, Int.reduceLE, Int.reduceNeg, V.one, V.cells, V.beq, V.beqs, ckB_some, asI_int, asB_bool, asIAny, asS, List.length_cons, List.length_nil, Nat.beq_refl, List.all_cons, List.all_nil, Bool.and_true, Bool.and_false, Bool.true_and, Bool.false_and, Bool.not_true, Bool.not_false, Bool.or_false, Bool.false_or, Bool.or_self, Bool.and_self, decide_true, decide_false, if_true, if_false, splice, List.take_succ_cons, List.take_zero, List.drop_succ_cons, List.drop_zero, List.cons_append, List.nil_append, List.set_cons_zero, List.set_cons_succ, reduceCtorEq, fill, repl, opd, boxc, finV, resAllV, resOfV, result, eqV, eqIfc, aggCells, part, W_call, Nat.reduceBEq, Nat.beq_eq, hlt, ix, hbwne, hcne, hw1, hcfg1, c0, c1, hB, w1, w2]
        subst hnm'
        by_cases ht : l.tag = 9
        · obtain ⟨q, rfl⟩ : ∃ q, l = .link q := by cases l <;> simp [Wd.tag] at ht; exact ⟨_, rfl⟩
          simp only [ht, decide_true]
          by_cases hc : who + 1 < k.s
          · simp only [hc, decide_true, ix2, Option.bind_some]
            rw [w3, row_st2 (by decide) (get_put_self _ _ _) (by rw [row_length]; exact hic), put_put', ← hFs _ (by simp only [mem0]; rw [← hwh] at hc ⊢; exact if_pos hc)]
            exact Ev.some (.inl ⟨i + 1, rfl, rfl, ⟨hic, rfl⟩, hmu⟩)
          · simp only [hc, decide_false]
            rw [← hFsame (by simp only [mem0, mem00]; rw [← hwh] at hc; exact if_neg hc)]
            exact Ev.some (.inl ⟨i + 1, rfl, rfl, ⟨hic, rfl⟩, hmu⟩)
        · simp only [ht, decide_false]
          rw [← hFsame (by cases l <;> first | rfl | (exfalso; exact ht rfl))]
          exact Ev.some (.inl ⟨i + 1, rfl, rfl, ⟨hic, rfl⟩, hmu⟩)
      · have : i = k.size := Nat.le_antisymm hi (Nat.le_of_not_lt hic)
        subst this
        simp only [S.withyref06_Memory_c1_S, lenSl, Option.bind_some, Int.lt_irrefl, decide_false]
        exact Ev.some (.inr ⟨by simp, rfl⟩)
    · rintro r rfl
      simp only
      rw [S.withyref06_Memory_c1_e0_eq]
      refine Ev.some ⟨z, rfl, hfr1.put (.inr (Nat.le_of_lt hle)) hzn _, Nat.le_of_lt hle, hzn, ?_⟩
      rw [get_put_self]
      congr 3
      apply row_congr
      intro l hl
      simp only [memF]
      rw [if_pos (pos_lt hl)]
  obtain ⟨⟨v, g⟩, e, b, rfl, f, n, n', w⟩ := hev
  exact ⟨g, b, e, f, n, n', w⟩
end Wm
end

section
/- The machine that makes a slot gray: shade.NewShade, Step. -/
namespace Wm
attribute [local congr] bind_congr1
attribute [local irreducible] wr

theorem headerP_at {k : Cfg} (hr : k.R = true) {q : Nat} (hq : q < k.S) : withinT k.s k.a k.c k.hd k.g k.st (q : Int) 0 = ((Wd.header q).pos k : Nat) := by
  have hb := Cfg.R_iff.mp hr
  have hq' : (q : Int) ≤ k.s - 1 := by unfold Cfg.S at hq; omega
  have hroom : (k.room : Int) = max k.a 3 := by unfold Cfg.room; split <;> omega
  have hc : (k.C : Int) = k.c := by unfold Cfg.C; omega
  have hh : (k.H : Int) = k.hd := by unfold Cfg.H; omega
  unfold withinT
  rw [if_pos ⟨hr, ⟨Int.natCast_nonneg _, hq'⟩, Int.le_refl _, by unfold roomT; omega⟩]
  unfold slotsT roomT Wd.pos Cfg.base
  rw [← hroom, ← hc, ← hh, Int.mul_add, Int.mul_add, Int.mul_one]
  have e2 : ((2 : Nat) : Int) = 2 := rfl
  simp only [Int.natCast_add, Int.natCast_mul, e2]
  omega

theorem header_at {k : Cfg} (hr : k.R = true) {q : Nat} (hq : q < k.S) (h : H) : C 261 [k.v, .int .i64 (q : Int)] h = some (.int .i64 ((Wd.header q).pos k : Nat), h) := by
  rw [← headerP_at hr hq]; exact header_spec _ _ _ _ _ _ _ h

theorem newShade_spec {k : Cfg} (hr : k.R = true) {q : Nat} (hq : q < k.S) (e : Int) {h : H} (ok : h.ok) :
    Ev (C 90 [k.v, .int .i64 (q : Int), .int .u64 e] h) fun r => ∃ b, r.1 = .ptr b 0 ∧ Fr [] h r.2 ∧ h.next ≤ b ∧ r.2.get b = some (.cells (Shade.cs ⟨false, ((Wd.header q).pos k : Nat), e, 0, 0⟩) .rw) := by
  refine call_ev (af := F.shade_NewShade) (by kernel_rfl) rfl ?_
  have hH := header_at hr hq
  have hv : k.v = .agg [.int .i64 k.s, .int .i64 k.a, .int .i64 k.c, .int .i64 k.hd, .int .i64 k.g, .int .i64 k.st] := rfl
  rw [hv] at hH ⊢
  rw [S.shade_NewShade_eq]
  have hn : ¬ ((((Wd.header q).pos k : Nat) : Int) < 0) := by omega
  simp only [S.shade_NewShade, nilc_ptr, lenSl_sl, lenSl_nil, eqPtr_ptr, eqPtr_nil, eqPtr_ptr', eqSl_sl, eqSl_nil, ptrAt_ptr, Option.bind_some, Option.map_some, ld1_get', ldN_get', st_get', get_put', get_new', put_put', ldB_cells, ldNB_cells, stB_cells, H.next_new, H.next_put, List.getElem?_cons_zero, List.getElem?_cons_succ, Nat.zero_add, Nat.add_zero, Nat.reduceAdd, Nat.reduceLeDiff, Nat.reduceLT, Nat.reduceMul, Nat.reduceSub, Nat.reduceEqDiff, Int.reduceEq, Int.reduceLT, Int.reduceLE, Int.reduceNeg, V.one, V.cells, V.beq, V.beqs, ckB_some, asI_int, asB_bool, asIAny, asS, List.length_cons, List.length_nil, Nat.beq_refl, List.all_cons, List.all_nil, Bool.and_true, Bool.and_false, Bool.true_and, Bool.false_and, Bool.not_true, Bool.not_false, Bool.or_false, Bool.false_or, Bool.or_self, Bool.and_self, decide_true, decide_false, if_true, if_false, splice, List.take_succ_cons, List.take_zero, List.drop_succ_cons, List.drop_zero, List.cons_append, List.nil_append, List.set_cons_zero, List.set_cons_succ, reduceCtorEq, fill, repl, opd, boxc, finV, resAllV, resOfV, result, eqV, eqIfc, aggCells, part, W_call, Nat.reduceBEq, Nat.beq_eq, hH, hn]
  exact Ev.some ⟨_, rfl, ((Fr.refl ok).new _).new _, by omega, get_new_self _ _⟩

/-- A step of a shade; what the block holds behind it. -/
theorem shadeStep_spec {h : H} (ok : h.ok) {b m bw : Nat} {s : Shade} {M : Mem} (hs : h.get b = some (.cells s.cs .rw)) (hM : MemAt h m bw M) (h1 : b ≠ m) (h2 : b ≠ bw) (he : U64 s.e) (hw : U64 s.was) :
    Ev (C 91 [.ptr b 0, .ptr m 0] h) fun r => r.1 = .bool (decide ((s.step M).1.next = 4)) ∧ Fr [b, m, bw] h r.2 ∧ r.2.get b = some (.cells (s.step M).1.cs .rw) ∧ MemAt r.2 m bw (s.step M).2 := by
  refine call_ev (af := F.shade_Shade_Step) (by kernel_rfl) rfl ?_
  rw [S.shade_Shade_Step_eq]
  have hbl := ok.lt hs
  have hF : ∀ {h' : H}, Fr [m, bw] h h' → Fr [b, m, bw] h h' := fun f => f.mono (by simp)
  have hnot : b ∉ [m, bw] := by simp [h1, h2]
  obtain ⟨grew, at', e, next, was⟩ := s
  unfold Shade.step
  unfold Shade.cs at hs
  simp only at hs he hw ⊢
  by_cases c0 : next = 0
  · subst c0
    obtain ⟨h', e1, f1, M1⟩ := hM.load ok at'
    have hb := f1.get ok hs hnot
    have hv := hM.val64 at'
    have hM2 : ∀ x, MemAt (h'.put b x) m bw (M.load at') := fun x => M1.fr (L := [b]) f1.ok ((Fr.refl f1.ok).put (.inl (by simp)) (f1.lt hbl) _) (by simp [h1.symm]) (by simp [h2.symm])
    simp only [S.shade_Shade_Step, nilc_ptr, lenSl_sl, lenSl_nil, eqPtr_ptr, eqPtr_nil, eqPtr_ptr', eqSl_sl, eqSl_nil, ptrAt_ptr, Option.bind_some, Option.map_some, ld1_get', ldN_get', st_get', get_put', get_new', put_put', ldB_cells, ldNB_cells, stB_cells, H.next_new, H.next_put, List.getElem?_cons_zero, List.getElem?_cons_succ, Nat.zero_add, Nat.add_zero, Nat.reduceAdd, Nat.reduceLeDiff, Nat.reduceLT, Nat.reduceMul, Nat.reduceSub, Nat.reduceEqDiff, Int.reduceEq, Int.reduceLT, Int.reduceLE, Int.reduceNeg, V.one, V.cells, V.beq, V.beqs, ckB_some, asI_int, asB_bool, asIAny, asS, List.length_cons, List.length_nil, Nat.beq_refl, List.all_cons, List.all_nil, Bool.and_true, Bool.and_false, Bool.true_and, Bool.false_and, Bool.not_true, Bool.not_false, Bool.or_false, Bool.false_or, Bool.or_self, Bool.and_self, decide_true, decide_false, if_true, if_false, splice, List.take_succ_cons, List.take_zero, List.drop_succ_cons, List.drop_zero, List.cons_append, List.nil_append, List.set_cons_zero, List.set_cons_succ, reduceCtorEq, fill, repl, opd, boxc, finV, resAllV, resOfV, result, eqV, eqIfc, aggCells, part, W_call, Nat.reduceBEq, Nat.beq_eq, hs, e1, hb, shaded_spec hv he]
    cases hw1 : white (M.val at') e with
    | false =>
      simp only [nilc_ptr, lenSl_sl, lenSl_nil, eqPtr_ptr, eqPtr_nil, eqPtr_ptr', eqSl_sl, eqSl_nil, ptrAt_ptr, Option.bind_some, Option.map_some, ld1_get', ldN_get', st_get', get_put', get_new', put_put', ldB_cells, ldNB_cells, stB_cells, H.next_new, H.next_put, List.getElem?_cons_zero, List.getElem?_cons_succ, Nat.zero_add, Nat.add_zero, Nat.reduceAdd, Nat.reduceLeDiff, Nat.reduceLT, Nat.reduceMul, Nat.reduceSub, Nat.reduceEqDiff, Int.reduceEq, Int.reduceLT, Int.reduceLE, Int.reduceNeg, V.one, V.cells, V.beq, V.beqs, ckB_some, asI_int, asB_bool, asIAny, asS, List.length_cons, List.length_nil, Nat.beq_refl, List.all_cons, List.all_nil, Bool.and_true, Bool.and_false, Bool.true_and, Bool.false_and, Bool.not_true, Bool.not_false, Bool.or_false, Bool.false_or, Bool.or_self, Bool.and_self, decide_true, decide_false, if_true, if_false, splice, List.take_succ_cons, List.take_zero, List.drop_succ_cons, List.drop_zero, List.cons_append, List.nil_append, List.set_cons_zero, List.set_cons_succ, reduceCtorEq, fill, repl, opd, boxc, finV, resAllV, resOfV, result, eqV, eqIfc, aggCells, part, W_call, Nat.reduceBEq, Nat.beq_eq]
      exact Ev.some ⟨rfl, (hF f1).put (.inl (by simp)) (f1.lt hbl) _, by simp [get_put', Shade.cs], hM2 _⟩
    | true =>
      simp only [nilc_ptr, lenSl_sl, lenSl_nil, eqPtr_ptr, eqPtr_nil, eqPtr_ptr', eqSl_sl, eqSl_nil, ptrAt_ptr, Option.bind_some, Option.map_some, ld1_get', ldN_get', st_get', get_put', get_new', put_put', ldB_cells, ldNB_cells, stB_cells, H.next_new, H.next_put, List.getElem?_cons_zero, List.getElem?_cons_succ, Nat.zero_add, Nat.add_zero, Nat.reduceAdd, Nat.reduceLeDiff, Nat.reduceLT, Nat.reduceMul, Nat.reduceSub, Nat.reduceEqDiff, Int.reduceEq, Int.reduceLT, Int.reduceLE, Int.reduceNeg, V.one, V.cells, V.beq, V.beqs, ckB_some, asI_int, asB_bool, asIAny, asS, List.length_cons, List.length_nil, Nat.beq_refl, List.all_cons, List.all_nil, Bool.and_true, Bool.and_false, Bool.true_and, Bool.false_and, Bool.not_true, Bool.not_false, Bool.or_false, Bool.false_or, Bool.or_self, Bool.and_self, decide_true, decide_false, if_true, if_false, splice, List.take_succ_cons, List.take_zero, List.drop_succ_cons, List.drop_zero, List.cons_append, List.nil_append, List.set_cons_zero, List.set_cons_succ, reduceCtorEq, fill, repl, opd, boxc, finV, resAllV, resOfV, result, eqV, eqIfc, aggCells, part, W_call, Nat.reduceBEq, Nat.beq_eq]
      exact Ev.some ⟨rfl, (hF f1).put (.inl (by simp)) (f1.lt hbl) _, by simp [get_put', Shade.cs], hM2 _⟩
  · by_cases c1 : next = 1
    · subst c1
      obtain ⟨v, h', e1, f1, M1⟩ := hM.add ok 2 1
      have hb := f1.get ok hs hnot
      simp only [S.shade_Shade_Step, nilc_ptr, lenSl_sl, lenSl_nil, eqPtr_ptr, eqPtr_nil, eqPtr_ptr', eqSl_sl, eqSl_nil, ptrAt_ptr, Option.bind_some, Option.map_some, ld1_get', ldN_get', st_get', get_put', get_new', put_put', ldB_cells, ldNB_cells, stB_cells, H.next_new, H.next_put, List.getElem?_cons_zero, List.getElem?_cons_succ, Nat.zero_add, Nat.add_zero, Nat.reduceAdd, Nat.reduceLeDiff, Nat.reduceLT, Nat.reduceMul, Nat.reduceSub, Nat.reduceEqDiff, Int.reduceEq, Int.reduceLT, Int.reduceLE, Int.reduceNeg, V.one, V.cells, V.beq, V.beqs, ckB_some, asI_int, asB_bool, asIAny, asS, List.length_cons, List.length_nil, Nat.beq_refl, List.all_cons, List.all_nil, Bool.and_true, Bool.and_false, Bool.true_and, Bool.false_and, Bool.not_true, Bool.not_false, Bool.or_false, Bool.false_or, Bool.or_self, Bool.and_self, decide_true, decide_false, if_true, if_false, splice, List.take_succ_cons, List.take_zero, List.drop_succ_cons, List.drop_zero, List.cons_append, List.nil_append, List.set_cons_zero, List.set_cons_succ, reduceCtorEq, fill, repl, opd, boxc, finV, resAllV, resOfV, result, eqV, eqIfc, aggCells, part, W_call, Nat.reduceBEq, Nat.beq_eq, hs, e1, hb]
      exact Ev.some ⟨rfl, (hF f1).put (.inl (by simp)) (f1.lt hbl) _, by simp [get_put', Shade.cs], M1.fr (L := [b]) f1.ok ((Fr.refl f1.ok).put (.inl (by simp)) (f1.lt hbl) _) (by simp [h1.symm]) (by simp [h2.symm])⟩
    · by_cases c2 : next = 2
      · subst c2
        have hsw : U64 (shaded was e) := by
          unfold shaded; split
          · exact word_U64 (shadedH_right _ _)
          · exact hw
        generalize hh1 : h.put b (some (.cells [.bool grew, .int .i64 at', .int .u64 e, .int .i64 3, .int .u64 was] .rw)) = h1'
        have fp : Fr [b] h h1' := by rw [← hh1]; exact (Fr.refl ok).put (.inl (by simp)) hbl _
        have hb1 : h1'.get b = some (.cells [.bool grew, .int .i64 at', .int .u64 e, .int .i64 3, .int .u64 was] .rw) := by rw [← hh1]; exact get_put_self _ _ _
        have hM1 := hM.fr ok fp (by simp [h1.symm]) (by simp [h2.symm])
        obtain ⟨h', e1, f1, M1⟩ := hM1.swap fp.ok at' was hsw
        have hb := f1.get fp.ok hb1 hnot
        have hfr : Fr [b, m, bw] h h' := (fp.mono (by simp)).trans' (f1.mono (by simp))
        have hb' : b < h'.next := f1.lt (fp.lt hbl)
        simp only [S.shade_Shade_Step, nilc_ptr, lenSl_sl, lenSl_nil, eqPtr_ptr, eqPtr_nil, eqPtr_ptr', eqSl_sl, eqSl_nil, ptrAt_ptr, Option.bind_some, Option.map_some, ld1_get', ldN_get', st_get', get_put', get_new', put_put', ldB_cells, ldNB_cells, stB_cells, H.next_new, H.next_put, List.getElem?_cons_zero, List.getElem?_cons_succ, Nat.zero_add, Nat.add_zero, Nat.reduceAdd, Nat.reduceLeDiff, Nat.reduceLT, Nat.reduceMul, Nat.reduceSub, Nat.reduceEqDiff, Int.reduceEq, Int.reduceLT, Int.reduceLE, Int.reduceNeg, V.one, V.cells, V.beq, V.beqs, ckB_some, asI_int, asB_bool, asIAny, asS, List.length_cons, List.length_nil, Nat.beq_refl, List.all_cons, List.all_nil, Bool.and_true, Bool.and_false, Bool.true_and, Bool.false_and, Bool.not_true, Bool.not_false, Bool.or_false, Bool.false_or, Bool.or_self, Bool.and_self, decide_true, decide_false, if_true, if_false, splice, List.take_succ_cons, List.take_zero, List.drop_succ_cons, List.drop_zero, List.cons_append, List.nil_append, List.set_cons_zero, List.set_cons_succ, reduceCtorEq, fill, repl, opd, boxc, finV, resAllV, resOfV, result, eqV, eqIfc, aggCells, part, W_call, Nat.reduceBEq, Nat.beq_eq, hs, c0, c1, shaded_spec hw he, hh1, hb1, e1, hb]
        cases hsp : M.swaps at' was with
        | true =>
          simp only [nilc_ptr, lenSl_sl, lenSl_nil, eqPtr_ptr, eqPtr_nil, eqPtr_ptr', eqSl_sl, eqSl_nil, ptrAt_ptr, Option.bind_some, Option.map_some, ld1_get', ldN_get', st_get', get_put', get_new', put_put', ldB_cells, ldNB_cells, stB_cells, H.next_new, H.next_put, List.getElem?_cons_zero, List.getElem?_cons_succ, Nat.zero_add, Nat.add_zero, Nat.reduceAdd, Nat.reduceLeDiff, Nat.reduceLT, Nat.reduceMul, Nat.reduceSub, Nat.reduceEqDiff, Int.reduceEq, Int.reduceLT, Int.reduceLE, Int.reduceNeg, V.one, V.cells, V.beq, V.beqs, ckB_some, asI_int, asB_bool, asIAny, asS, List.length_cons, List.length_nil, Nat.beq_refl, List.all_cons, List.all_nil, Bool.and_true, Bool.and_false, Bool.true_and, Bool.false_and, Bool.not_true, Bool.not_false, Bool.or_false, Bool.false_or, Bool.or_self, Bool.and_self, decide_true, decide_false, if_true, if_false, splice, List.take_succ_cons, List.take_zero, List.drop_succ_cons, List.drop_zero, List.cons_append, List.nil_append, List.set_cons_zero, List.set_cons_succ, reduceCtorEq, fill, repl, opd, boxc, finV, resAllV, resOfV, result, eqV, eqIfc, aggCells, part, W_call, Nat.reduceBEq, Nat.beq_eq]
          exact Ev.some ⟨rfl, hfr.put (.inl (by simp)) hb' _, by simp [get_put', Shade.cs], M1.fr (L := [b]) f1.ok ((Fr.refl f1.ok).put (.inl (by simp)) hb' _) (by simp [h1.symm]) (by simp [h2.symm])⟩
        | false =>
          simp only [nilc_ptr, lenSl_sl, lenSl_nil, eqPtr_ptr, eqPtr_nil, eqPtr_ptr', eqSl_sl, eqSl_nil, ptrAt_ptr, Option.bind_some, Option.map_some, ld1_get', ldN_get', st_get', get_put', get_new', put_put', ldB_cells, ldNB_cells, stB_cells, H.next_new, H.next_put, List.getElem?_cons_zero, List.getElem?_cons_succ, Nat.zero_add, Nat.add_zero, Nat.reduceAdd, Nat.reduceLeDiff, Nat.reduceLT, Nat.reduceMul, Nat.reduceSub, Nat.reduceEqDiff, Int.reduceEq, Int.reduceLT, Int.reduceLE, Int.reduceNeg, V.one, V.cells, V.beq, V.beqs, ckB_some, asI_int, asB_bool, asIAny, asS, List.length_cons, List.length_nil, Nat.beq_refl, List.all_cons, List.all_nil, Bool.and_true, Bool.and_false, Bool.true_and, Bool.false_and, Bool.not_true, Bool.not_false, Bool.or_false, Bool.false_or, Bool.or_self, Bool.and_self, decide_true, decide_false, if_true, if_false, splice, List.take_succ_cons, List.take_zero, List.drop_succ_cons, List.drop_zero, List.cons_append, List.nil_append, List.set_cons_zero, List.set_cons_succ, reduceCtorEq, fill, repl, opd, boxc, finV, resAllV, resOfV, result, eqV, eqIfc, aggCells, part, W_call, Nat.reduceBEq, Nat.beq_eq, hb]
          exact Ev.some ⟨rfl, hfr, hb, M1⟩
      · by_cases c3 : next = 3
        · subst c3
          obtain ⟨v, h', e1, f1, M1⟩ := hM.add ok 2 18446744073709551615
          have hb := f1.get ok hs hnot
          simp only [S.shade_Shade_Step, nilc_ptr, lenSl_sl, lenSl_nil, eqPtr_ptr, eqPtr_nil, eqPtr_ptr', eqSl_sl, eqSl_nil, ptrAt_ptr, Option.bind_some, Option.map_some, ld1_get', ldN_get', st_get', get_put', get_new', put_put', ldB_cells, ldNB_cells, stB_cells, H.next_new, H.next_put, List.getElem?_cons_zero, List.getElem?_cons_succ, Nat.zero_add, Nat.add_zero, Nat.reduceAdd, Nat.reduceLeDiff, Nat.reduceLT, Nat.reduceMul, Nat.reduceSub, Nat.reduceEqDiff, Int.reduceEq, Int.reduceLT, Int.reduceLE, Int.reduceNeg, V.one, V.cells, V.beq, V.beqs, ckB_some, asI_int, asB_bool, asIAny, asS, List.length_cons, List.length_nil, Nat.beq_refl, List.all_cons, List.all_nil, Bool.and_true, Bool.and_false, Bool.true_and, Bool.false_and, Bool.not_true, Bool.not_false, Bool.or_false, Bool.false_or, Bool.or_self, Bool.and_self, decide_true, decide_false, if_true, if_false, splice, List.take_succ_cons, List.take_zero, List.drop_succ_cons, List.drop_zero, List.cons_append, List.nil_append, List.set_cons_zero, List.set_cons_succ, reduceCtorEq, fill, repl, opd, boxc, finV, resAllV, resOfV, result, eqV, eqIfc, aggCells, part, W_call, Nat.reduceBEq, Nat.beq_eq, hs, e1, hb]
          exact Ev.some ⟨rfl, (hF f1).put (.inl (by simp)) (f1.lt hbl) _, by simp [get_put', Shade.cs], M1.fr (L := [b]) f1.ok ((Fr.refl f1.ok).put (.inl (by simp)) (f1.lt hbl) _) (by simp [h1.symm]) (by simp [h2.symm])⟩
        · simp only [S.shade_Shade_Step, nilc_ptr, lenSl_sl, lenSl_nil, eqPtr_ptr, eqPtr_nil, eqPtr_ptr', eqSl_sl, eqSl_nil, ptrAt_ptr, Option.bind_some, Option.map_some, ld1_get', ldN_get', st_get', get_put', get_new', put_put', ldB_cells, ldNB_cells, stB_cells, H.next_new, H.next_put, List.getElem?_cons_zero, List.getElem?_cons_succ, Nat.zero_add, Nat.add_zero, Nat.reduceAdd, Nat.reduceLeDiff, Nat.reduceLT, Nat.reduceMul, Nat.reduceSub, Nat.reduceEqDiff, Int.reduceEq, Int.reduceLT, Int.reduceLE, Int.reduceNeg, V.one, V.cells, V.beq, V.beqs, ckB_some, asI_int, asB_bool, asIAny, asS, List.length_cons, List.length_nil, Nat.beq_refl, List.all_cons, List.all_nil, Bool.and_true, Bool.and_false, Bool.true_and, Bool.false_and, Bool.not_true, Bool.not_false, Bool.or_false, Bool.false_or, Bool.or_self, Bool.and_self, decide_true, decide_false, if_true, if_false, splice, List.take_succ_cons, List.take_zero, List.drop_succ_cons, List.drop_zero, List.cons_append, List.nil_append, List.set_cons_zero, List.set_cons_succ, reduceCtorEq, fill, repl, opd, boxc, finV, resAllV, resOfV, result, eqV, eqIfc, aggCells, part, W_call, Nat.reduceBEq, Nat.beq_eq, hs, c0, c1, c2, c3]
          exact Ev.some ⟨rfl, .refl ok, hs, hM⟩
end Wm
end

section
/- Rows of numbers, and memories of them: slices.Clone, mem.Of, mem.Words. -/
namespace Wm
attribute [local congr] bind_congr1
attribute [local irreducible] wr

theorem app_new {h : H} {e b bb o c : Nat} {x : V} {new : List V} {n : Nat} (hx : lenSl x = some n) (hn : h.slc e x = some new) (ho : h.slc e (.sl bb o 0 (.ex c)) = some []) (h1 : new.all V.one = true) (h2 : (n + n / 2 + 1000) * b ≤ 281474976710656) (he : 0 < e) (hb : 0 < b) (hc : c < n) :
    h.append e b (.sl bb o 0 (.ex c)) x = some (.sl h.next 0 n (.op e), h.new (.cells new (.gr e))) := by
  have := append_ex' (len := 0) (bb := bb) (o := o) (c := c) hx hn ho h1 (by simpa using h2) he hb (by omega)
  rw [this]; simp

theorem slc_zero {h : H} {e b o : Nat} {c : Cap} {cs : List V} {k : Bk} (hg : h.get b = some (.cells cs k)) (ho : o ≤ cs.length) : h.slc e (.sl b o 0 c) = some [] := by
  rw [slc_get hg (by simpa using ho)]; simp

theorem RowIs.slc {g : H} {x : V} {ws : List Int} (h : RowIs g.get x ws) (hne : ws ≠ []) : lenSl x = some ws.length ∧ g.slc 1 x = some (ws.map (.int .u64)) := by
  obtain ⟨_, ⟨_, rfl⟩ | ⟨b, c, k, rfl, hb⟩⟩ := h
  · exact absurd rfl hne
  · refine ⟨rfl, ?_⟩
    rw [slc_get hb (by rw [List.length_map]; omega), List.drop_zero, List.take_of_length_le (by rw [List.length_map]; omega)]
theorem ones_u64 (ws : List Int) : (ws.map (V.int .u64)).all V.one = true := by
  rw [List.all_map, List.all_eq_true]; intro _ _; rfl
theorem RowIs.fr {g g' : H} {L : List Nat} {x : V} {ws : List Int} (h : RowIs g.get x ws) (ok : g.ok) (f : Fr L g g') (hL : ∀ b c, x = .sl b 0 ws.length c → b ∉ L) : RowIs g'.get x ws := by
  obtain ⟨q, h1 | ⟨b, c, k, rfl, hb⟩⟩ := h
  · exact ⟨q, .inl h1⟩
  · exact ⟨q, .inr ⟨b, c, k, rfl, f.get ok hb (hL b c rfl)⟩⟩

theorem clone_spec {h : H} (ok : h.ok) {x : V} {ws : List Int} (hx : RowIs h.get x ws) (hne : ws ≠ []) (hl : ws.length ≤ 65536) :
    Ev (C 271 [x] h) fun r => ∃ q, r.1 = .sl q 0 ws.length (.op 1) ∧ Fr [] h r.2 ∧ h.next ≤ q ∧ r.2.get q = some (.cells (ws.map (.int .u64)) (.gr 1)) := by
  refine call_ev (af := F.slices_Clone___uint64_uint64_) (by kernel_rfl) rfl ?_
  rw [S.slices_Clone___uint64_uint64__eq]
  have hns : eqSl x .nilsl = some false := by
    obtain ⟨_, ⟨_, rfl⟩ | ⟨b, c, k, rfl, hb⟩⟩ := hx
    · exact absurd rfl hne
    · rfl
  have ok1 := ok.new (.cells [] .rw)
  obtain ⟨e1, e2⟩ := (RowIs.fr hx ok ((Fr.refl (L := []) ok).new (.cells [] .rw)) (by simp)).slc hne
  have hpos : 0 < ws.length := List.length_pos_iff.mpr hne
  have ha := app_new (e := 1) (b := 8) (bb := h.next) (o := 0) (c := 0) e1 e2 (slc_zero (get_new_self h _) (by simp)) (ones_u64 ws) (by omega) (by omega) (by omega) hpos
  simp only [S.slices_Clone___uint64_uint64_, eqV, hns, Option.bind_some, ha]
  exact Ev.some ⟨_, rfl, ((Fr.refl ok).new _).new _, by rw [H.next_new]; omega, get_new_self _ _⟩

theorem memOf_spec {h : H} (ok : h.ok) {x : V} {ws : List Int} (hx : RowIs h.get x ws) (hne : ws ≠ []) (hl : ws.length ≤ 65536) (hu : ∀ w ∈ ws, U64 w) :
    Ev (C 198 [x] h) fun r => ∃ p q, r.1 = .ptr p 0 ∧ Fr [] h r.2 ∧ h.next ≤ p ∧ h.next ≤ q ∧ MemAt r.2 p q ⟨ws, 0, ⟨0, 0, 0, 0⟩⟩ := by
  refine call_ev (af := F.mem_Of) (by kernel_rfl) rfl ?_
  rw [S.mem_Of_eq]
  obtain ⟨⟨v, g⟩, e, q, rfl, f, hq, hg⟩ := clone_spec ok hx hne hl
  have hl' : ¬ (65536 < ((ws.length : Nat) : Int)) := by omega
  simp only [S.mem_Of, hx.len, Option.bind_some, hl', decide_false, W_call, e, nilc_ptr, lenSl_sl, lenSl_nil, eqPtr_ptr, eqPtr_nil, eqPtr_ptr', eqSl_sl, eqSl_nil, ptrAt_ptr, Option.bind_some, Option.map_some, ld1_get', ldN_get', st_get', get_put', get_new', put_put', ldB_cells, ldNB_cells, stB_cells, H.next_new, H.next_put, List.getElem?_cons_zero, List.getElem?_cons_succ, Nat.zero_add, Nat.add_zero, Nat.reduceAdd, Nat.reduceLeDiff, Nat.reduceLT, Nat.reduceMul, Nat.reduceSub, Nat.reduceEqDiff, Int.reduceEq, Int.reduceLT, Int.reduceLE, Int.reduceNeg, V.one, V.cells, V.beq, V.beqs, ckB_some, asI_int, asB_bool, asIAny, asS, List.length_cons, List.length_nil, Nat.beq_refl, List.all_cons, List.all_nil, Bool.and_true, Bool.and_false, Bool.true_and, Bool.false_and, Bool.not_true, Bool.not_false, Bool.or_false, Bool.false_or, Bool.or_self, Bool.and_self, decide_true, decide_false, if_true, if_false, splice, List.take_succ_cons, List.take_zero, List.drop_succ_cons, List.drop_zero, List.cons_append, List.nil_append, List.set_cons_zero, List.set_cons_succ, reduceCtorEq, fill, repl, opd, boxc, finV, resAllV, resOfV, result, eqV, eqIfc, aggCells, part, W_call, Nat.reduceBEq, Nat.beq_eq]
  have hqn : q ≠ g.next := f.ok.ne0 hg
  exact Ev.some ⟨g.next, q, rfl, f.new _, f.le, hq, ⟨hqn.symm, ⟨.op 1, get_new_self _ _⟩, ⟨.gr 1, by simp, by rw [get_new_ne hqn]; exact hg⟩, hu, hl⟩⟩

theorem MemAt.words {h : H} {b bw : Nat} {m : Mem} (M : MemAt h b bw m) (ok : h.ok) (hne : m.ws ≠ []) :
    Ev (C 94 [.ptr b 0] h) fun r => ∃ q, r.1 = .sl q 0 m.ws.length (.op 1) ∧ Fr [] h r.2 ∧ h.next ≤ q ∧ r.2.get q = some (.cells (m.ws.map (.int .u64)) (.gr 1)) := by
  obtain ⟨ne, ⟨c, ho⟩, ⟨k, hk, hr⟩, hu, hs⟩ := M
  refine call_ev (af := F.mem_Mem_Words) (by kernel_rfl) rfl ?_
  rw [S.mem_Mem_Words_eq]
  have hx : RowIs h.get (.sl bw 0 m.ws.length c) m.ws := ⟨by omega, .inr ⟨bw, c, k, rfl, hr⟩⟩
  obtain ⟨⟨v, g⟩, e, q, rfl, f, hq, hg⟩ := clone_spec ok hx hne hs
  simp only [S.mem_Mem_Words, nilc_ptr, lenSl_sl, lenSl_nil, eqPtr_ptr, eqPtr_nil, eqPtr_ptr', eqSl_sl, eqSl_nil, ptrAt_ptr, Option.bind_some, Option.map_some, ld1_get', ldN_get', st_get', get_put', get_new', put_put', ldB_cells, ldNB_cells, stB_cells, H.next_new, H.next_put, List.getElem?_cons_zero, List.getElem?_cons_succ, Nat.zero_add, Nat.add_zero, Nat.reduceAdd, Nat.reduceLeDiff, Nat.reduceLT, Nat.reduceMul, Nat.reduceSub, Nat.reduceEqDiff, Int.reduceEq, Int.reduceLT, Int.reduceLE, Int.reduceNeg, V.one, V.cells, V.beq, V.beqs, ckB_some, asI_int, asB_bool, asIAny, asS, List.length_cons, List.length_nil, Nat.beq_refl, List.all_cons, List.all_nil, Bool.and_true, Bool.and_false, Bool.true_and, Bool.false_and, Bool.not_true, Bool.not_false, Bool.or_false, Bool.false_or, Bool.or_self, Bool.and_self, decide_true, decide_false, if_true, if_false, splice, List.take_succ_cons, List.take_zero, List.drop_succ_cons, List.drop_zero, List.cons_append, List.nil_append, List.set_cons_zero, List.set_cons_succ, reduceCtorEq, fill, repl, opd, boxc, finV, resAllV, resOfV, result, eqV, eqIfc, aggCells, part, W_call, Nat.reduceBEq, Nat.beq_eq, ho, e]
  exact Ev.some ⟨q, rfl, f, hq, hg⟩

/-- How many headers are gray. -/
def graysN (k : Cfg) (f : Wd → Int) : Nat := ((List.range k.S).filter fun q => grayW (f (.header q))).length
theorem grayOf_eq (w : Int) : grayOf w = grayW w := by
  unfold grayOf grayW unp
  cases ho : okT w <;> simp
theorem cntT_row {k : Cfg} (hr : k.R = true) (f : Wd → Int) : ∀ n, n ≤ k.S → cntT k.s k.a k.c k.hd k.g k.st (k.row f) n = (((List.range n).filter fun q => grayW (f (.header q))).length : Int)
  | 0, _ => rfl
  | n + 1, hn => by
    rw [cntT, cntT_row hr f n (by omega), headerP_at hr (show n < k.S by omega), List.range_succ, List.filter_append, List.length_append]
    have hw : wAt (k.row f) (((Wd.header n).pos k : Nat) : Int) = f (.header n) := by
      unfold wAt
      rw [Int.toNat_natCast, row_at (show (Wd.header n).ok k from hn)]; rfl
    rw [hw, grayOf_eq]
    cases hg : grayW (f (.header n)) <;> simp [hg]
theorem totT_eq {k : Cfg} (hr : k.R = true) : totT k.s k.a k.c k.hd = (k.size : Int) := by
  have := sizeW_tot (s := k.s) (a := k.a) (c := k.c) (hd := k.hd) (g := k.g) (st := k.st) hr
  rw [← this]
  have hn : sizeW k.S k.room k.C k.H = k.size := by unfold sizeW Cfg.size Cfg.base; omega
  exact congrArg _ hn
theorem Fr.ext {h : H} (ok : h.ok) (l : List (Option Blk)) : Fr [] h (h.ext l) := ⟨by rw [H.ext_next]; omega, ok.ext l, fun b hb _ => H.ext_old hb⟩
theorem refGrays_spec {k : Cfg} (hr : k.R = true) {h : H} (ok : h.ok) {x : V} {f : Wd → Int} (hx : RowIs h.get x (k.row f)) (hu : ∀ w ∈ k.row f, U64 w) :
    Ev (C 88 [k.v, x] h) fun r => r.1 = .int .i64 (graysN k f : Nat) ∧ Fr [] h r.2 := by
  obtain ⟨L, e⟩ := grays_spec (s := k.s) (a := k.a) (c := k.c) (hd := k.hd) (g := k.g) (st := k.st) hr ok hx hu (by rw [row_length, totT_eq hr])
  refine ⟨_, e, ?_, Fr.ext ok L⟩
  show V.int _ _ = V.int _ _
  congr 1
  exact cntT_row hr f k.S (Nat.le_refl _)
end Wm
end

section
/- The memory that the laws of layer 9 begin with: withylaw09.filled. -/
namespace Wm
attribute [local congr] bind_congr1
attribute [local irreducible] wr

/-- A row of headers. -/
def RowH (g : Nat → Option Blk) (x : V) (l : List Hdr) : Prop := (x = .nilsl ∧ l = []) ∨ ∃ b c k, x = .sl b 0 l.length c ∧ g b = some (.cells (l.map Hdr.cs).flatten k)
theorem hdrs6 (l : List Hdr) : ∀ x ∈ l.map Hdr.cs, x.length = 6 := fun x hx => by
  obtain ⟨_, _, rfl⟩ := List.mem_map.mp hx; rfl
theorem RowH.len {g : Nat → Option Blk} {x : V} {l : List Hdr} (h : RowH g x l) : lenSl x = some l.length := by
  obtain ⟨rfl, rfl⟩ | ⟨b, c, k, rfl, _⟩ := h <;> rfl
theorem RowH.at {g : H} {x : V} {l : List Hdr} (h : RowH g.get x l) {i : Nat} {y : Hdr} (hy : l[i]? = some y) : ∃ b, indexAV 6 x (.int .i64 (i : Int)) = some (.ptr b (i * 6)) ∧ ldNB (g.get b) (i * 6) 6 = some (.agg y.cs) ∧ g.get b ≠ none := by
  have hi := lt_of_get hy
  obtain ⟨rfl, rfl⟩ | ⟨b, c, k, rfl, hb⟩ := h
  · simp at hy
  · refine ⟨b, sl_idx hi, ?_, by rw [hb]; simp⟩
    have hn : (l.map Hdr.cs).flatten.length = l.length * 6 := by rw [flat_length (hdrs6 l), List.length_map]
    rw [hb, ldNB_cells, decide_eq_true (by rw [hn]; omega), flat_part (hdrs6 l) i y.cs (by rw [List.getElem?_map, hy]; rfl)]
theorem RowH.fr {g g' : H} {L : List Nat} {x : V} {l : List Hdr} (h : RowH g.get x l) (ok : g.ok) (f : Fr L g g') (hL : ∀ b c, x = .sl b 0 l.length c → b ∉ L) : RowH g'.get x l := by
  obtain h1 | ⟨b, c, k, rfl, hb⟩ := h
  · exact .inl h1
  · exact .inr ⟨b, c, k, rfl, f.get ok hb (hL b c rfl)⟩

/-- What is gray is marked. -/
def fixG (x : Hdr) (e : Int) : Hdr := { x with gray := x.gray && decide (x.mark = black e) }
def headF (l : List Hdr) (e : Int) (q : Nat) : Int := match l[q]? with
  | some x => if (fixG x e).right then (fixG x e).word else 0
  | none => 0
/-- The words behind so many rounds. -/
def fillH (k : Cfg) (l : List Hdr) (e : Int) (n : Nat) : Wd → Int
  | .header q => if q < n then headF l e q else 0
  | w => mem0 k w
def fillF (k : Cfg) (l : List Hdr) (e : Int) : Wd → Int := wset (fillH k l e k.S) .grays (graysN k (fillH k l e k.S) : Nat)

theorem headF_U64 (l : List Hdr) (e : Int) (q : Nat) : U64 (headF l e q) := by
  unfold headF
  split
  · split
    · exact word_U64 ‹_›
    · exact ⟨by decide, by decide⟩
  · exact ⟨by decide, by decide⟩
theorem mem0_U64 {k : Cfg} (hr : k.R = true) (w : Wd) : U64 (mem0 k w) := by
  have hb := Cfg.R_iff.mp hr
  cases w <;> simp only [mem0, U64] <;> (try split) <;> omega
theorem fillH_U64 {k : Cfg} (hr : k.R = true) (l : List Hdr) (e : Int) (n : Nat) (w : Wd) : U64 (fillH k l e n w) := by
  cases w with
  | header q =>
    simp only [fillH]
    split
    · exact headF_U64 _ _ _
    · exact ⟨by decide, by decide⟩
  | clock => exact mem0_U64 hr .clock
  | epoch => exact mem0_U64 hr .epoch
  | grays => exact mem0_U64 hr .grays
  | top => exact mem0_U64 hr .top
  | pin q => exact mem0_U64 hr (.pin q)
  | entry q i => exact mem0_U64 hr (.entry q i)
  | view q => exact mem0_U64 hr (.view q)
  | start q => exact mem0_U64 hr (.start q)
  | link q => exact mem0_U64 hr (.link q)
  | body q i => exact mem0_U64 hr (.body q i)
theorem row_U64 {k : Cfg} {f : Wd → Int} (h : ∀ l, U64 (f l)) : ∀ w ∈ k.row f, U64 w := fun w hw => by
  obtain ⟨l, _, rfl⟩ := List.mem_map.mp hw; exact h l
theorem graysN_le (k : Cfg) (f : Wd → Int) : graysN k f ≤ k.S := by
  unfold graysN
  have := List.length_filter_le (fun q => grayW (f (.header q))) (List.range k.S)
  rwa [List.length_range] at this
theorem fillH_succ {k : Cfg} (l : List Hdr) (e : Int) {n : Nat} (hn : n < k.S) : k.row (fillH k l e (n + 1)) = (k.row (fillH k l e n)).set ((Wd.header n).pos k) (headF l e n) := by
  rw [row_set (show (Wd.header n).ok k from hn)]
  apply row_congr
  intro w _
  unfold wset
  cases w with
  | header q =>
    simp only [fillH, Wd.header.injEq]
    by_cases h1 : q = n
    · subst h1; rw [if_pos (Nat.lt_succ_self _), if_pos rfl]
    · rw [if_neg h1]
      by_cases h2 : q < n
      · rw [if_pos (Nat.lt_succ_of_lt h2), if_pos h2]
      · rw [if_neg (by omega), if_neg h2]
  | _ => rfl
theorem fillH_same {k : Cfg} (l : List Hdr) (e : Int) {n : Nat} (hn : n < k.S) (h0 : headF l e n = 0) : k.row (fillH k l e (n + 1)) = k.row (fillH k l e n) := by
  rw [fillH_succ l e hn, h0]
  have h1 : (k.row (fillH k l e n))[(Wd.header n).pos k]? = some 0 := by
    rw [row_at (show (Wd.header n).ok k from hn)]; simp [fillH]
  obtain ⟨h2, h3⟩ := List.getElem?_eq_some_iff.mp h1
  conv => lhs; rw [← h3]
  exact List.set_getElem_self h2
theorem fillH_zero (k : Cfg) (l : List Hdr) (e : Int) : fillH k l e 0 = mem0 k := by
  funext w; cases w <;> simp [fillH, mem0]
theorem fillH_over {k : Cfg} {l : List Hdr} {e : Int} {n : Nat} (hn : l.length ≤ n) : k.row (fillH k l e n) = k.row (fillH k l e k.S) := by
  apply row_congr
  intro w hw
  cases w with
  | header q =>
    simp only [fillH]
    rw [if_pos (show q < k.S from hw)]
    by_cases h2 : q < n
    · rw [if_pos h2]
    · rw [if_neg h2]
      unfold headF
      rw [List.getElem?_eq_none (by omega)]
  | _ => rfl

theorem row_splice {ws : List Int} {p : Nat} (hp : p < ws.length) {kd : Go.IntKind} {v : Int} : (ws.map (V.int kd)).take p ++ [V.int kd v] ++ (ws.map (V.int kd)).drop (p + 1) = (ws.set p v).map (V.int kd) := by
  rw [List.map_set, List.set_eq_take_append_cons_drop, if_pos (by rw [List.length_map]; exact hp), List.append_assoc]; rfl

theorem filled_spec {k : Cfg} (hr : k.R = true) {h : H} (ok : h.ok) {x : V} {l : List Hdr} (hx : RowH h.get x l) (hi : ∀ y ∈ l, y.i64) {e : Int} (he : U64 e) :
    Ev (C 93 [k.v, x, .int .u64 e] h) fun r => ∃ p q, r.1 = .ptr p 0 ∧ Fr [] h r.2 ∧ h.next ≤ p ∧ h.next ≤ q ∧ MemAt r.2 p q ⟨k.row (fillF k l e), 0, ⟨0, 0, 0, 0⟩⟩ := by
  have hb := Cfg.bounds hr
  refine call_ev (af := F.withylaw09_filled) (by kernel_rfl) rfl ?_
  obtain ⟨g0, bw, e0, f0, n0, n1, w0⟩ := Memory_spec hr (ok.new (.cells k.cs .rw))
  have hv : k.v = .agg [.int .i64 k.s, .int .i64 k.a, .int .i64 k.c, .int .i64 k.hd, .int .i64 k.g, .int .i64 k.st] := rfl
  have hcs : (Blk.cells k.cs .rw) = .cells [.int .i64 k.s, .int .i64 k.a, .int .i64 k.c, .int .i64 k.hd, .int .i64 k.g, .int .i64 k.st] .rw := rfl
  rw [hv, S.withylaw09_filled_eq]
  rw [hv, hcs] at e0
  simp only [S.withylaw09_filled, nilc_ptr, lenSl_sl, lenSl_nil, eqPtr_ptr, eqPtr_nil, eqPtr_ptr', eqSl_sl, eqSl_nil, ptrAt_ptr, Option.bind_some, Option.map_some, ld1_get', ldN_get', st_get', get_put', get_new', put_put', ldB_cells, ldNB_cells, stB_cells, H.next_new, H.next_put, List.getElem?_cons_zero, List.getElem?_cons_succ, Nat.zero_add, Nat.add_zero, Nat.reduceAdd, Nat.reduceLeDiff, Nat.reduceLT, Nat.reduceMul, Nat.reduceSub, Nat.reduceEqDiff, Int.reduceEq, Int.reduceLT, Int.reduceLE, Int.reduceNeg, V.one, V.cells, V.beq, V.beqs, ckB_some, asI_int, asB_bool, asIAny, asS, List.length_cons, List.length_nil, Nat.beq_refl, List.all_cons, List.all_nil, Bool.and_true, Bool.and_false, Bool.true_and, Bool.false_and, Bool.not_true, Bool.not_false, Bool.or_false, Bool.false_or, Bool.or_self, Bool.and_self, decide_true, decide_false, if_true, if_false, splice, List.take_succ_cons, List.take_zero, List.drop_succ_cons, List.drop_zero, List.cons_append, List.nil_append, List.set_cons_zero, List.set_cons_succ, reduceCtorEq, fill, repl, opd, boxc, finV, resAllV, resOfV, result, eqV, eqIfc, aggCells, part, W_call, Nat.reduceBEq, Nat.beq_eq, e0]
  have hfr0 : Fr [] h g0 := ((Fr.refl ok).new _).trans' f0
  have hcfg : g0.get h.next = some (.cells [.int .i64 k.s, .int .i64 k.a, .int .i64 k.c, .int .i64 k.hd, .int .i64 k.g, .int .i64 k.st] .rw) := f0.get (ok.new _) (get_new_self _ _) (by simp)
  have hx0 := hx.fr ok hfr0 (by simp)
  rw [H.next_new] at n0
  have hbne : bw ≠ h.next := by omega
  have hxb : ∀ b c, x = .sl b 0 l.length c → b ∉ [bw] := by
    rintro b c rfl
    obtain ⟨h1, _⟩ | ⟨b', c', k', h1, hb'⟩ := hx
    · cases h1
    · cases h1
      have := ok.lt hb'
      simp; omega
  refine loop_ev (α := Nat) (fun i => S.withylaw09_filled_c1_E x (.int .u64 e) (.ptr h.next 0) (.sl bw 0 k.size (.ex k.size)) (.int .i64 i))
    (fun i g => i ≤ k.S ∧ Fr [bw] g0 g ∧ g.get bw = some (.cells ((k.row (fillH k l e i)).map (.int .u64)) .rw)) (fun i _ => k.S - i)
    (fun r => r.1 = .exit 0 ∧ r.2.1 = S.withylaw09_filled_c1_O (.ptr h.next 0) (.sl bw 0 k.size (.ex k.size)) ∧ Fr [bw] g0 r.2.2 ∧ r.2.2.get bw = some (.cells ((k.row (fillH k l e k.S)).map (.int .u64)) .rw)) 0 rfl ⟨Nat.zero_le _, .refl f0.ok, by rw [fillH_zero]; exact w0⟩ ?_ ?_
  · rintro i g ⟨hi0, fg, wg⟩
    rw [S.withylaw09_filled_c1_eq]
    have hcg := fg.get f0.ok hcfg (by simp [hbne.symm])
    have hs : (k.S : Int) = k.s := by have := Cfg.R_iff.mp hr; unfold Cfg.S; omega
    by_cases hic : i < k.S
    · have hd1 : decide ((i : Int) < k.s) = true := by rw [← hs]; exact natlt hic
      by_cases hil : i < l.length
      · have hd2 : decide ((i : Int) < (l.length : Int)) = true := natlt hil
        obtain ⟨y, hy⟩ : ∃ y, l[i]? = some y := ⟨_, List.getElem?_eq_getElem hil⟩
        have hxg := hx0.fr f0.ok fg hxb
        obtain ⟨bx, x1, x2, x3⟩ := hxg.at hy
        have w1 : wr .i64 ((i : Int) + 1) = ((i + 1 : Nat) : Int) := by rw [wr64 (by omega) (by omega)]; rfl
        have hmu : k.S - (i + 1) < k.S - i := Nat.sub_lt_sub_left hic (Nat.lt_succ_self i)
        have hat := at_wd hr (l := .header i) hic
        rw [hv] at hat
        have hat' : ∀ h, C 108 [.agg [.int .i64 k.s, .int .i64 k.a, .int .i64 k.c, .int .i64 k.hd, .int .i64 k.g, .int .i64 k.st], .agg [.str ⟨⟨[104, 101, 97, 100, 101, 114]⟩⟩, .int .i64 (i : Int), .int .i64 0]] h = some (.int .i64 ((Wd.header i).pos k : Nat), h) := hat
        have hix : indexAV 1 (.sl bw 0 k.size (.ex k.size)) (.int .i64 ((Wd.header i).pos k : Nat)) = some (.ptr bw ((Wd.header i).pos k)) := sl_idx1 (pos_lt (show (Wd.header i).ok k from hic))
        have hbl : bw < g.next := fg.lt (f0.ok.lt w0)
        have hbn : bw ≠ g.next := Nat.ne_of_lt hbl
        have hcn : h.next ≠ g.next := Nat.ne_of_lt (fg.lt (f0.ok.lt hcfg))
        have hyi := hi y (List.mem_of_getElem? hy)
        have hRt := refRight_spec (fixG y e)
        have hHF : headF l e i = if (fixG y e).right then (fixG y e).word else 0 := by unfold headF; rw [hy]
        have hPk : (fixG y e).right = true → ∀ h, C 111 [.agg (fixG y e).cs] h = some (.int .u64 (fixG y e).word, h) := fun q => refPack_spec q
        obtain ⟨kk, mm, gg, aa, nn, ss⟩ := y
        simp only [fixG, Hdr.cs] at hRt hPk x2
        have hpl : (Wd.header i).pos k < (k.row (fillH k l e i)).length := by rw [row_length]; exact pos_lt (show (Wd.header i).ok k from hic)
        have hle : decide ((Wd.header i).pos k + 1 ≤ ((k.row (fillH k l e i)).map (V.int .u64)).length) = true := decide_eq_true (by rw [List.length_map]; exact hpl)
        have hne0 : decide (Bk.rw = Bk.ro) = false := rfl
        have fr1 : ∀ b1, Fr [bw] g0 ((g.new b1)) := fun b1 => fg.new _
        have fr2 : ∀ b1 b2, Fr [bw] g0 ((g.new b1).put g.next b2) := fun b1 b2 => (fg.new _).put (.inr fg.le) (Nat.lt_succ_self _) _
        have fr3 : ∀ b1 b2 b3, Fr [bw] g0 (((g.new b1).put g.next b2).put bw b3) := fun b1 b2 b3 => (fr2 b1 b2).put (.inl (by simp)) (Nat.lt_succ_of_lt hbl) _
        cases hrt : (fixG ⟨kk, mm, gg, aa, nn, ss⟩ e).right with
        | false =>
          have hsame : k.row (fillH k l e (i + 1)) = k.row (fillH k l e i) := fillH_same l e hic (by rw [hHF, hrt]; rfl)
          simp only [fixG] at hrt
          cases gg <;>
          · simp only [Bool.true_and, Bool.false_and] at hRt hrt
            simp only [S.withylaw09_filled_c1_S, nilc_ptr, lenSl_sl, lenSl_nil, eqPtr_ptr, eqPtr_nil, eqPtr_ptr', eqSl_sl, eqSl_nil, ptrAt_ptr, Option.bind_some, Option.map_some, ld1_get', ldN_get', st_get', get_put', get_new', put_put', ldB_cells, ldNB_cells, stB_cells, H.next_new, H.next_put, List.getElem?_cons_zero, List.getElem?_cons_succ, Nat.zero_add, Nat.add_zero, Nat.reduceAdd, Nat.reduceLeDiff, Nat.reduceLT, Nat.reduceMul, Nat.reduceSub, Nat.reduceEqDiff, Int.reduceEq, Int.reduceLT, Int.reduceLE, Int.reduceNeg, V.one, V.cells, V.beq, V.beqs, ckB_some, asI_int, asB_bool, asIAny, asS, List.length_cons, List.length_nil, Nat.beq_refl, List.all_cons, List.all_nil, Bool.and_true, Bool.and_false, Bool.true_and, Bool.false_and, Bool.not_true, Bool.not_false, Bool.or_false, Bool.false_or, Bool.or_self, Bool.and_self, decide_true, decide_false, if_true, if_false, splice, List.take_succ_cons, List.take_zero, List.drop_succ_cons, List.drop_zero, List.cons_append, List.nil_append, List.set_cons_zero, List.set_cons_succ, reduceCtorEq, fill, repl, opd, boxc, finV, resAllV, resOfV, result, eqV, eqIfc, aggCells, part, W_call, Nat.reduceBEq, Nat.beq_eq, hcg, hd1, hx.len, hd2, x1, x2, refBlack_spec he, hRt, hrt, w1]
            refine Ev.some (.inl ⟨i + 1, rfl, rfl, ⟨hic, fr2 _ _, ?_⟩, hmu⟩)
            rw [hsame, get_put_ne hbn, get_new_ne hbn]; exact wg
        | true =>
          have hset : k.row (fillH k l e (i + 1)) = (k.row (fillH k l e i)).set ((Wd.header i).pos k) (fixG ⟨kk, mm, gg, aa, nn, ss⟩ e).word := by rw [fillH_succ l e hic, hHF, hrt]; rfl
          have hPk' := hPk hrt
          simp only [fixG] at hrt hset hPk'
          cases gg <;>
          · simp only [Bool.true_and, Bool.false_and] at hRt hrt hset hPk'
            simp only [S.withylaw09_filled_c1_S, nilc_ptr, lenSl_sl, lenSl_nil, eqPtr_ptr, eqPtr_nil, eqPtr_ptr', eqSl_sl, eqSl_nil, ptrAt_ptr, Option.bind_some, Option.map_some, ld1_get', ldN_get', st_get', get_put', get_new', put_put', ldB_cells, ldNB_cells, stB_cells, H.next_new, H.next_put, List.getElem?_cons_zero, List.getElem?_cons_succ, Nat.zero_add, Nat.add_zero, Nat.reduceAdd, Nat.reduceLeDiff, Nat.reduceLT, Nat.reduceMul, Nat.reduceSub, Nat.reduceEqDiff, Int.reduceEq, Int.reduceLT, Int.reduceLE, Int.reduceNeg, V.one, V.cells, V.beq, V.beqs, ckB_some, asI_int, asB_bool, asIAny, asS, List.length_cons, List.length_nil, Nat.beq_refl, List.all_cons, List.all_nil, Bool.and_true, Bool.and_false, Bool.true_and, Bool.false_and, Bool.not_true, Bool.not_false, Bool.or_false, Bool.false_or, Bool.or_self, Bool.and_self, decide_true, decide_false, if_true, if_false, splice, List.take_succ_cons, List.take_zero, List.drop_succ_cons, List.drop_zero, List.cons_append, List.nil_append, List.set_cons_zero, List.set_cons_succ, reduceCtorEq, fill, repl, opd, boxc, finV, resAllV, resOfV, result, eqV, eqIfc, aggCells, part, W_call, Nat.reduceBEq, Nat.beq_eq, hcg, hd1, hx.len, hd2, x1, x2, refBlack_spec he, hRt, hrt, w1, hcn, hbn, hat', hPk', hix, BEq.rfl, wg, hle, hne0]
            refine Ev.some (.inl ⟨i + 1, rfl, rfl, ⟨hic, fr3 _ _ _, ?_⟩, hmu⟩)
            rw [get_put_self, row_splice hpl, hset]
      · have hd2 : decide ((i : Int) < (l.length : Int)) = false := decide_eq_false (by omega)
        simp only [S.withylaw09_filled_c1_S, nilc_ptr, lenSl_sl, lenSl_nil, eqPtr_ptr, eqPtr_nil, eqPtr_ptr', eqSl_sl, eqSl_nil, ptrAt_ptr, Option.bind_some, Option.map_some, ld1_get', ldN_get', st_get', get_put', get_new', put_put', ldB_cells, ldNB_cells, stB_cells, H.next_new, H.next_put, List.getElem?_cons_zero, List.getElem?_cons_succ, Nat.zero_add, Nat.add_zero, Nat.reduceAdd, Nat.reduceLeDiff, Nat.reduceLT, Nat.reduceMul, Nat.reduceSub, Nat.reduceEqDiff, Int.reduceEq, Int.reduceLT, Int.reduceLE, Int.reduceNeg, V.one, V.cells, V.beq, V.beqs, ckB_some, asI_int, asB_bool, asIAny, asS, List.length_cons, List.length_nil, Nat.beq_refl, List.all_cons, List.all_nil, Bool.and_true, Bool.and_false, Bool.true_and, Bool.false_and, Bool.not_true, Bool.not_false, Bool.or_false, Bool.false_or, Bool.or_self, Bool.and_self, decide_true, decide_false, if_true, if_false, splice, List.take_succ_cons, List.take_zero, List.drop_succ_cons, List.drop_zero, List.cons_append, List.nil_append, List.set_cons_zero, List.set_cons_succ, reduceCtorEq, fill, repl, opd, boxc, finV, resAllV, resOfV, result, eqV, eqIfc, aggCells, part, W_call, Nat.reduceBEq, Nat.beq_eq, hcg, hd1, hx.len, hd2]
        exact Ev.some (.inr ⟨by simp, rfl, rfl, fg, by rw [← fillH_over (n := i) (Nat.le_of_not_lt hil)]; exact wg⟩)
    · have : i = k.S := Nat.le_antisymm hi0 (Nat.le_of_not_lt hic)
      subst this
      have hd1 : decide ((k.S : Int) < k.s) = false := decide_eq_false (by omega)
      simp only [S.withylaw09_filled_c1_S, nilc_ptr, lenSl_sl, lenSl_nil, eqPtr_ptr, eqPtr_nil, eqPtr_ptr', eqSl_sl, eqSl_nil, ptrAt_ptr, Option.bind_some, Option.map_some, ld1_get', ldN_get', st_get', get_put', get_new', put_put', ldB_cells, ldNB_cells, stB_cells, H.next_new, H.next_put, List.getElem?_cons_zero, List.getElem?_cons_succ, Nat.zero_add, Nat.add_zero, Nat.reduceAdd, Nat.reduceLeDiff, Nat.reduceLT, Nat.reduceMul, Nat.reduceSub, Nat.reduceEqDiff, Int.reduceEq, Int.reduceLT, Int.reduceLE, Int.reduceNeg, V.one, V.cells, V.beq, V.beqs, ckB_some, asI_int, asB_bool, asIAny, asS, List.length_cons, List.length_nil, Nat.beq_refl, List.all_cons, List.all_nil, Bool.and_true, Bool.and_false, Bool.true_and, Bool.false_and, Bool.not_true, Bool.not_false, Bool.or_false, Bool.false_or, Bool.or_self, Bool.and_self, decide_true, decide_false, if_true, if_false, splice, List.take_succ_cons, List.take_zero, List.drop_succ_cons, List.drop_zero, List.cons_append, List.nil_append, List.set_cons_zero, List.set_cons_succ, reduceCtorEq, fill, repl, opd, boxc, finV, resAllV, resOfV, result, eqV, eqIfc, aggCells, part, W_call, Nat.reduceBEq, Nat.beq_eq, hcg, hd1]
      exact Ev.some (.inr ⟨by simp, rfl, rfl, fg, wg⟩)
  · rintro ⟨x', env, g⟩ ⟨rfl, rfl, fg, wg⟩
    simp only at fg wg ⊢
    rw [S.withylaw09_filled_c1_e0_eq]
    have hcg := fg.get f0.ok hcfg (by simp [hbne.symm])
    have hU := fillH_U64 hr l e k.S
    have hrow : RowIs g.get (.sl bw 0 k.size (.ex k.size)) (k.row (fillH k l e k.S)) := ⟨by rw [row_length]; omega, .inr ⟨bw, _, _, by rw [row_length], wg⟩⟩
    obtain ⟨⟨v1, g1⟩, e1, rfl, f1⟩ := refGrays_spec hr fg.ok hrow (row_U64 hU)
    rw [hv] at e1
    have wg1 := f1.get fg.ok wg (by simp)
    have hsz : 4 ≤ k.size := by unfold Cfg.size Cfg.base; omega
    have i2 := sl_idx1 (b := bw) (n := k.size) (i := 2) (c := .ex k.size) (by omega)
    have hgl := graysN_le k (fillH k l e k.S)
    have hw : wr .u64 ((graysN k (fillH k l e k.S) : Nat) : Int) = (graysN k (fillH k l e k.S) : Nat) := wru64 (by omega) (by omega)
    have hpl : 2 < (k.row (fillH k l e k.S)).length := by rw [row_length]; omega
    have hle : decide (2 + 1 ≤ ((k.row (fillH k l e k.S)).map (V.int .u64)).length) = true := decide_eq_true (by rw [List.length_map]; exact hpl)
    have hset : (k.row (fillH k l e k.S)).set 2 (graysN k (fillH k l e k.S) : Nat) = k.row (fillF k l e) := row_set (l := .grays) trivial
    have hbl1 : bw < g1.next := f1.lt (fg.lt (f0.ok.lt w0))
    obtain ⟨⟨v2, g2⟩, e2, p, q, rfl, f2, q1, q2, M⟩ := memOf_spec (x := .sl bw 0 k.size (.ex k.size)) (ws := k.row (fillF k l e)) (f1.ok.put hbl1 (some (.cells ((k.row (fillF k l e)).map (.int .u64)) .rw))) ⟨by rw [row_length]; omega, .inr ⟨bw, _, _, by rw [row_length], get_put_self _ _ _⟩⟩
      (by intro q; have := row_length k (fillF k l e); rw [q] at this; simp only [List.length_nil] at this; omega) (by rw [row_length]; omega)
      (row_U64 fun w => by
        unfold fillF wset
        split
        · exact ⟨by omega, by omega⟩
        · exact hU w)
    have hsp := row_splice hpl (kd := .u64) (v := (graysN k (fillH k l e k.S) : Nat))
    rw [hset] at hsp
    rw [← hsp] at e2
    have ht : decide (Bk.rw = Bk.ro) = false := rfl
    simp only [List.take_succ_cons, Nat.reduceAdd] at e2
    simp only [S.withylaw09_filled_c1_e0, nilc_ptr, lenSl_sl, lenSl_nil, eqPtr_ptr, eqPtr_nil, eqPtr_ptr', eqSl_sl, eqSl_nil, ptrAt_ptr, Option.bind_some, Option.map_some, ld1_get', ldN_get', st_get', get_put', get_new', put_put', ldB_cells, ldNB_cells, stB_cells, H.next_new, H.next_put, List.getElem?_cons_zero, List.getElem?_cons_succ, Nat.zero_add, Nat.add_zero, Nat.reduceAdd, Nat.reduceLeDiff, Nat.reduceLT, Nat.reduceMul, Nat.reduceSub, Nat.reduceEqDiff, Int.reduceEq, Int.reduceLT, Int.reduceLE, Int.reduceNeg, V.one, V.cells, V.beq, V.beqs, ckB_some, asI_int, asB_bool, asIAny, asS, List.length_cons, List.length_nil, Nat.beq_refl, List.all_cons, List.all_nil, Bool.and_true, Bool.and_false, Bool.true_and, Bool.false_and, Bool.not_true, Bool.not_false, Bool.or_false, Bool.false_or, Bool.or_self, Bool.and_self, decide_true, decide_false, if_true, if_false, splice, List.take_succ_cons, List.take_zero, List.drop_succ_cons, List.drop_zero, List.cons_append, List.nil_append, List.set_cons_zero, List.set_cons_succ, reduceCtorEq, fill, repl, opd, boxc, finV, resAllV, resOfV, result, eqV, eqIfc, aggCells, part, W_call, Nat.reduceBEq, Nat.beq_eq, hcg, e1, hw, show indexAV 1 (.sl bw 0 k.size (.ex k.size)) (.int .i64 2) = some (.ptr bw 2) from i2, wg1, hle, ht, e2]
    have f12 : Fr [bw] g0 g2 := ((fg.trans f1 (by simp)).put (.inl (by simp)) hbl1 _).trans f2 (by simp)
    refine Ev.some ⟨p, q, rfl, hfr0.trans f12 (by simp; omega), ?_, ?_, M⟩
    · have := fg.le; have := f1.le; have := hfr0.le; rw [H.next_put] at q1; simp only at q1; omega
    · have := fg.le; have := f1.le; have := hfr0.le; rw [H.next_put] at q2; simp only at q2; omega
end Wm
end

section
/- Slices that grow: what is appended, one element at a time. -/
namespace Wm
attribute [local congr] bind_congr1
attribute [local irreducible] wr

/-- The block of a slice. -/
def V.blk : V → List Nat
  | .sl b _ _ _ => [b]
  | _ => []

/-- A slice that grew: elements of 'e' cells. -/
def Grown (g : Nat → Option Blk) (x : V) (e : Nat) (l : List V) : Prop :=
  (x = .nilsl ∧ l = []) ∨ ∃ b n, x = .sl b 0 n (.op e) ∧ l.length = n * e ∧ g b = some (.cells l (.gr e))

theorem Grown.nil (g : Nat → Option Blk) (e : Nat) : Grown g .nilsl e [] := .inl ⟨rfl, rfl⟩
theorem Grown.len {g : Nat → Option Blk} {x : V} {e : Nat} {l : List V} (G : Grown g x e l) (he : 0 < e) : ∃ n, lenSl x = some n ∧ l.length = n * e := by
  obtain ⟨rfl, rfl⟩ | ⟨b, n, rfl, hl, _⟩ := G
  · exact ⟨0, rfl, by simp⟩
  · exact ⟨n, rfl, hl⟩
theorem Grown.len1 {g : Nat → Option Blk} {x : V} {l : List V} (G : Grown g x 1 l) : lenSl x = some l.length := by
  obtain ⟨n, h1, h2⟩ := G.len (by omega)
  rw [h1, h2, Nat.mul_one]
theorem Grown.fr {g g' : H} {L : List Nat} {x : V} {e : Nat} {l : List V} (G : Grown g.get x e l) (ok : g.ok) (F : Fr L g g') (h : ∀ b ∈ x.blk, b ∉ L) : Grown g'.get x e l := by
  obtain h1 | ⟨b, n, rfl, hl, hb⟩ := G
  · exact .inl h1
  · exact .inr ⟨b, n, rfl, hl, F.get ok hb (h b (by simp [V.blk]))⟩
theorem Grown.lt {g : H} {x : V} {e : Nat} {l : List V} (G : Grown g.get x e l) (ok : g.ok) : ∀ b ∈ x.blk, b < g.next := by
  obtain ⟨rfl, rfl⟩ | ⟨b, n, rfl, hl, hb⟩ := G
  · simp [V.blk]
  · intro c hc; simp only [V.blk, List.mem_singleton] at hc; subst hc; exact ok.lt hb
/-- No block of another kind is its own. -/
theorem Grown.ne {g : Nat → Option Blk} {x : V} {e : Nat} {l : List V} (G : Grown g x e l) {b : Nat} {cs : List V} {k : Bk} (hb : g b = some (.cells cs k)) (hk : k ≠ .gr e) : b ∉ x.blk := by
  obtain ⟨rfl, rfl⟩ | ⟨b', n, rfl, hl, hb'⟩ := G
  · simp [V.blk]
  · simp only [V.blk, List.mem_singleton]
    rintro rfl
    rw [hb] at hb'
    simp only [Option.some.injEq, Blk.cells.injEq] at hb'
    exact hk hb'.2
/-- An element. -/
theorem Grown.at1 {g : H} {x : V} {l : List V} (G : Grown g.get x 1 l) {i : Nat} {v : V} (hv : l[i]? = some v) (h1 : v.one = true) : ∃ b, indexAV 1 x (.int .i64 (i : Int)) = some (.ptr b i) ∧ g.ld1 (.ptr b i) = some v := by
  have hi := lt_of_get hv
  obtain ⟨rfl, rfl⟩ | ⟨b, n, rfl, hl, hb⟩ := G
  · simp at hv
  · refine ⟨b, sl_idx1 (by omega), ?_⟩
    rw [ld1_get', hb, ldB_cells, hv]; simp only [h1]

theorem Grown.push {g : H} (ok : g.ok) {x : V} {e : Nat} {l new : List V} {nb : Nat} {k : Bk} {bytes : Nat} (G : Grown g.get x e l) (hn : g.get nb = some (.cells new k)) (hlen : new.length = e) (h1 : new.all V.one = true) (he : 0 < e) (hb : 0 < bytes ∧ bytes ≤ 1000) (hs : l.length ≤ 1000000) :
    ∃ x' g', g.append e bytes x (.sl nb 0 1 (.ex 1)) = some (x', g') ∧ Fr x.blk g g' ∧ Grown g'.get x' e (l ++ new) ∧ (∀ b ∈ x'.blk, g.next ≤ b) ∧ x'.blk ≠ [] := by
  have hslc : g.slc e (.sl nb 0 1 (.ex 1)) = some new := by
    rw [slc_get hn (by omega), List.drop_zero, List.take_of_length_le (by omega)]
  obtain ⟨rfl, rfl⟩ | ⟨b, n, rfl, hl, hbk⟩ := G
  · refine ⟨_, _, append_nil (n := 1) rfl hslc (by omega) h1 (by omega) he hb.1, (Fr.refl ok).new _, .inr ⟨_, _, rfl, by simp; omega, ?_⟩, by simp [V.blk], by simp [V.blk]⟩
    rw [List.nil_append]; exact get_new_self _ _
  · have hnn : n ≤ 1000000 := by
      have : n * 1 ≤ n * e := Nat.mul_le_mul_left _ he
      omega
    have hold : g.slc e (.sl b 0 n (.op e)) = some l := by rw [slc_get hbk (by omega), List.drop_zero, List.take_of_length_le (by omega)]
    have hsz : (n + 1 + (n + 1) / 2 + 1000) * bytes ≤ 281474976710656 := by
      have : (n + 1 + (n + 1) / 2 + 1000) * bytes ≤ 2000000 * 1000 := Nat.mul_le_mul (by omega) hb.2
      omega
    refine ⟨_, _, append_op (n := 1) rfl hslc hold hbk h1 hsz he hb.1, ?_, .inr ⟨_, _, rfl, by rw [List.length_append, hl, hlen, Nat.add_mul, Nat.one_mul], get_new_self _ _⟩, by simp [V.blk], by simp [V.blk]⟩
    exact ((Fr.refl ok).put (.inl (by simp [V.blk])) (ok.lt hbk) _).new _

/-- A row of numbers of a kind that is only read, or nil. -/
def RowN (kd : Go.IntKind) (g : Nat → Option Blk) (x : V) (ws : List Int) : Prop := (x = .nilsl ∧ ws = []) ∨ ∃ b c k, x = .sl b 0 ws.length c ∧ g b = some (.cells (ws.map (.int kd)) k)
theorem RowN.len {kd : Go.IntKind} {g : Nat → Option Blk} {x : V} {ws : List Int} (h : RowN kd g x ws) : lenSl x = some ws.length := by
  obtain ⟨rfl, rfl⟩ | ⟨b, c, k, rfl, _⟩ := h <;> rfl
theorem RowN.at {kd : Go.IntKind} {g : H} {x : V} {ws : List Int} (h : RowN kd g.get x ws) {i : Nat} {w : Int} (hw : ws[i]? = some w) : ∃ b, indexAV 1 x (.int .i64 (i : Int)) = some (.ptr b i) ∧ g.ld1 (.ptr b i) = some (.int kd w) := by
  have hi := lt_of_get hw
  obtain ⟨rfl, rfl⟩ | ⟨b, c, k, rfl, hb⟩ := h
  · simp at hw
  · refine ⟨b, sl_idx1 hi, ?_⟩
    rw [ld1_get', hb, ldB_cells, List.getElem?_map, hw]; rfl
theorem RowN.fr {kd : Go.IntKind} {g g' : H} {L : List Nat} {x : V} {ws : List Int} (h : RowN kd g.get x ws) (ok : g.ok) (F : Fr L g g') (hL : ∀ b ∈ x.blk, b ∉ L) : RowN kd g'.get x ws := by
  obtain h1 | ⟨b, c, k, rfl, hb⟩ := h
  · exact .inl h1
  · exact .inr ⟨b, c, k, rfl, F.get ok hb (hL b (by simp [V.blk]))⟩
theorem RowN.lt {kd : Go.IntKind} {g : H} {x : V} {ws : List Int} (h : RowN kd g.get x ws) (ok : g.ok) : ∀ b ∈ x.blk, b < g.next := by
  obtain ⟨rfl, rfl⟩ | ⟨b, c, k, rfl, hb⟩ := h
  · simp [V.blk]
  · intro c' hc; simp only [V.blk, List.mem_singleton] at hc; subst hc; exact ok.lt hb
end Wm
end

section
/- What arguments are, as lists of typed things. -/
namespace Wm

theorem chunks {α : Type} {P : List V → Prop} {enc : α → List V} {Q : α → Prop} {z : Nat} (hP : ∀ c, P c → ∃ y, c = enc y ∧ Q y) :
    ∀ (n : Nat) (cs : List V), cs.length = n * z → (∀ i, i < n → P ((cs.drop (i * z)).take z)) → ∃ ys : List α, cs = (ys.map enc).flatten ∧ ys.length = n ∧ ∀ y ∈ ys, Q y
  | 0, cs, hl, _ => ⟨[], by simpa using hl, rfl, by simp⟩
  | n + 1, cs, hl, h => by
    obtain ⟨y, hy, qy⟩ := hP _ (h 0 (by omega))
    have hl2 : (cs.drop z).length = n * z := by rw [List.length_drop, hl, Nat.add_mul]; omega
    obtain ⟨ys, h1, h2, h3⟩ := chunks hP n (cs.drop z) hl2 (fun i hi => by
      have := h (i + 1) (by omega)
      rw [Nat.add_mul, Nat.one_mul, Nat.add_comm (i * z) z, ← List.drop_drop] at this
      exact this)
    refine ⟨y :: ys, ?_, by simp [h2], fun x hx => ?_⟩
    · rw [List.map_cons, List.flatten_cons, ← h1, ← hy, Nat.zero_mul, List.drop_zero, List.take_append_drop]
    · rcases List.mem_cons.mp hx with rfl | hx
      · exact qy
      · exact h3 x hx

theorem flat_ones {α β : Type} (f : α → β) (l : List α) : (l.map fun m => [f m]).flatten = l.map f := by
  induction l with
  | nil => rfl
  | cons x l ih => simp only [List.map_cons, List.flatten_cons, ih, List.cons_append, List.nil_append]

theorem rowN_of {g : Nat → Option Blk} {kd : Go.IntKind} {by' : Nat} {v : V} (h : CellOk g (.sl by' [.int kd]) v) :
    ∃ ws, RowN kd g v ws ∧ (∀ w ∈ ws, (Go.Lit.int kd w).wf = true) ∧ ws.length * by' ≤ 140737488351232 ∧ ws.length ≤ Go.maxLen := by
  unfold CellOk at h
  rcases h with rfl | ⟨b, n, cs, rfl, ⟨h1, h2⟩, h3, h4, h5⟩
  · exact ⟨[], .inl ⟨rfl, rfl⟩, by simp, by simp, by simp⟩
  · obtain ⟨ws, e1, e2, e3⟩ := chunks (α := Int) (enc := fun m => [V.int kd m]) (Q := fun w => (Go.Lit.int kd w).wf = true) (P := CellsOk g [.int kd]) (fun c hc => by
      obtain ⟨v, vs, rfl, ⟨m, rfl, hm⟩, h⟩ := hc
      unfold CellsOk at h
      subst h
      exact ⟨m, rfl, hm⟩) n cs h4 h5
    have e4 : cs = ws.map (.int kd) := by
      rw [e1]; exact flat_ones _ ws
    subst e2
    exact ⟨ws, .inr ⟨b, _, .ro, rfl, by rw [h3, e4]⟩, e3, h2, h1⟩

theorem wf_i64 {n : Int} (h : (Go.Lit.int .i64 n).wf = true) : -9223372036854775808 ≤ n ∧ n ≤ 9223372036854775807 := by
  simpa [Go.Lit.wf, Go.IntKind.min, Go.IntKind.max, Go.IntKind.signed, Go.IntKind.bits] using h
theorem wf_u64 {n : Int} (h : (Go.Lit.int .u64 n).wf = true) : U64 n := by
  have : 0 ≤ n ∧ n ≤ 18446744073709551615 := by simpa [Go.Lit.wf, Go.IntKind.min, Go.IntKind.max, Go.IntKind.signed, Go.IntKind.bits] using h
  exact ⟨this.1, by omega⟩

def hdrSh : List CSh := [.int .i64, .int .i64, .bool, .int .i64, .int .i64, .int .i64]
theorem rowH_of {g : Nat → Option Blk} {by' : Nat} {v : V} (h : CellOk g (.sl by' hdrSh) v) :
    ∃ l, RowH g v l ∧ (∀ y ∈ l, y.i64) ∧ l.length * by' ≤ 140737488351232 ∧ l.length ≤ Go.maxLen := by
  unfold CellOk at h
  rcases h with rfl | ⟨b, n, cs, rfl, ⟨h1, h2⟩, h3, h4, h5⟩
  · exact ⟨[], .inl ⟨rfl, rfl⟩, by simp, by simp, by simp⟩
  · obtain ⟨ws, e1, e2, e3⟩ := chunks (α := Hdr) (enc := Hdr.cs) (Q := Hdr.i64) (P := CellsOk g hdrSh) (fun c hc => by
      obtain ⟨_, _, rfl, ⟨y0, rfl, b0⟩, _, _, rfl, ⟨y1, rfl, b1⟩, _, _, rfl, ⟨y2, rfl⟩, _, _, rfl, ⟨y3, rfl, b3⟩, _, _, rfl, ⟨y4, rfl, b4⟩, _, _, rfl, ⟨y5, rfl, b5⟩, rfl⟩ := hc
      exact ⟨⟨y0, y1, y2, y3, y4, y5⟩, rfl, (wf_i64 b0).2, (wf_i64 b1).2, (wf_i64 b3).2, (wf_i64 b4).2, (wf_i64 b5).2⟩) n cs h4 h5
    subst e2
    exact ⟨ws, .inr ⟨b, _, .ro, rfl, by rw [h3, e1]⟩, e3, h2, h1⟩
end Wm
end

section
/- Shades over words by what they are. -/
namespace Wm
attribute [local congr] bind_congr1
attribute [local irreducible] wr

section
variable {k : Cfg} {f : Wd → Int} {n : Int} {t : Touch} {l : Wd}
theorem Mem.there_row (hl : l.ok k) : (⟨k.row f, n, t⟩ : Mem).there (l.pos k : Nat) = true := by
  unfold Mem.there
  simp only [row_length, natlt (pos_lt hl), Bool.and_true]
  exact decide_eq_true (Int.natCast_nonneg _)
theorem Mem.w_row (hl : l.ok k) : (⟨k.row f, n, t⟩ : Mem).w (l.pos k : Nat) = f l := by
  unfold Mem.w; rw [Int.toNat_natCast, row_getD hl]
theorem Mem.touch_row (hl : l.ok k) (kd v : Int) : (⟨k.row f, n, t⟩ : Mem).touch kd (l.pos k : Nat) v = ⟨k.row (wset f l v), wr .i64 (n + 1), ⟨kd, (l.pos k : Nat), f l, v⟩⟩ := by
  unfold Mem.touch; rw [Mem.w_row hl, Int.toNat_natCast, row_set hl]
theorem wset_self : wset f l (f l) = f := by funext m; unfold wset; split; subst_vars; rfl; rfl
theorem Mem.val_row (hl : l.ok k) : (⟨k.row f, n, t⟩ : Mem).val (l.pos k : Nat) = f l := by
  unfold Mem.val; rw [Mem.there_row hl, if_pos rfl, Mem.w_row hl]
theorem Mem.load_row (hl : l.ok k) : (⟨k.row f, n, t⟩ : Mem).load (l.pos k : Nat) = ⟨k.row f, wr .i64 (n + 1), ⟨1, (l.pos k : Nat), f l, f l⟩⟩ := by
  unfold Mem.load; rw [Mem.there_row hl, if_pos rfl, Mem.w_row hl, Mem.touch_row hl, wset_self]
theorem Mem.store_row (hl : l.ok k) (v : Int) : (⟨k.row f, n, t⟩ : Mem).store (l.pos k : Nat) v = ⟨k.row (wset f l v), wr .i64 (n + 1), ⟨2, (l.pos k : Nat), f l, v⟩⟩ := by
  unfold Mem.store; rw [Mem.there_row hl, if_pos rfl, Mem.touch_row hl]
theorem Mem.add_row (hl : l.ok k) (v : Int) : (⟨k.row f, n, t⟩ : Mem).add (l.pos k : Nat) v = ⟨k.row (wset f l (wr .u64 (f l + v))), wr .i64 (n + 1), ⟨4, (l.pos k : Nat), f l, wr .u64 (f l + v)⟩⟩ := by
  unfold Mem.add; rw [Mem.there_row hl, if_pos rfl, Mem.w_row hl, Mem.touch_row hl]
theorem Mem.swaps_row (hl : l.ok k) (old : Int) : (⟨k.row f, n, t⟩ : Mem).swaps (l.pos k : Nat) old = decide (f l = old) := by
  unfold Mem.swaps; rw [Mem.there_row hl, Mem.w_row hl, Bool.true_and]
theorem Mem.swap_row (hl : l.ok k) (old now : Int) : (⟨k.row f, n, t⟩ : Mem).swap (l.pos k : Nat) old now = ⟨k.row (if f l = old then wset f l now else f), wr .i64 (n + 1), ⟨3, (l.pos k : Nat), f l, if f l = old then now else f l⟩⟩ := by
  unfold Mem.swap; rw [Mem.there_row hl, if_pos rfl, Mem.w_row hl, Mem.touch_row hl]
  split
  · rfl
  · rw [wset_self]
end

/-- A memory whose words are these. -/
def MemF (h : H) (p pw : Nat) (k : Cfg) (f : Wd → Int) (n : Int) : Prop := ∃ t, MemAt h p pw ⟨k.row f, n, t⟩
theorem MemF.fr {h h' : H} {L : List Nat} {p pw : Nat} {k : Cfg} {f : Wd → Int} {n : Int} (M : MemF h p pw k f n) (ok : h.ok) (F : Fr L h h') (h1 : p ∉ L) (h2 : pw ∉ L) : MemF h' p pw k f n :=
  let ⟨t, m⟩ := M; ⟨t, m.fr ok F h1 h2⟩
theorem MemF.u64 {h : H} {p pw : Nat} {k : Cfg} {f : Wd → Int} {n : Int} (M : MemF h p pw k f n) {l : Wd} (hl : l.ok k) : U64 (f l) := by
  obtain ⟨t, m⟩ := M
  exact m.u64 _ (List.mem_of_getElem? (row_at hl))
theorem MemF.pos {h : H} {p pw : Nat} {k : Cfg} {f : Wd → Int} {n : Int} (M : MemF h p pw k f n) : k.row f ≠ [] := by
  intro q; have := row_length k f; rw [q] at this; unfold Cfg.size Cfg.base at this; simp only [List.length_nil] at this; omega
theorem MemF.lt {h : H} {p pw : Nat} {k : Cfg} {f : Wd → Int} {n : Int} (M : MemF h p pw k f n) (ok : h.ok) : p < h.next ∧ pw < h.next ∧ p ≠ pw := by
  obtain ⟨t, ne, ⟨c, ho⟩, ⟨kk, _, hr⟩, _, _⟩ := M
  exact ⟨ok.lt ho, ok.lt hr, ne⟩

theorem MemF.touches {h : H} {p pw : Nat} {k : Cfg} {f : Wd → Int} {n : Int} (M : MemF h p pw k f n) : C 107 [.ptr p 0] h = some (.int .i64 n, h) := by
  obtain ⟨t, m⟩ := M; exact m.touches
theorem MemF.words {h : H} {p pw : Nat} {k : Cfg} {f : Wd → Int} {n : Int} (M : MemF h p pw k f n) (ok : h.ok) :
    Ev (C 94 [.ptr p 0] h) fun r => ∃ q, r.1 = .sl q 0 k.size (.op 1) ∧ Fr [] h r.2 ∧ h.next ≤ q ∧ r.2.get q = some (.cells ((k.row f).map (.int .u64)) (.gr 1)) := by
  have hne := M.pos
  obtain ⟨t, m⟩ := M
  have := m.words ok hne
  simp only [row_length] at this
  exact this

/-- A shade's state. -/
structure Sh where
  grew : Bool
  next : Int
  was : Int
def Sh.step (q : Nat) (e : Int) (s : Sh) (f : Wd → Int) : Sh × (Wd → Int) :=
  if s.next = 0 then (⟨s.grew, if white (f (.header q)) e then 1 else 4, f (.header q)⟩, f)
  else if s.next = 1 then (⟨s.grew, 2, s.was⟩, wset f .grays (wr .u64 (f .grays + 1)))
  else if s.next = 2 then (if f (.header q) = s.was then (⟨true, 4, s.was⟩, wset f (.header q) (shaded s.was e)) else (⟨s.grew, 3, s.was⟩, f))
  else if s.next = 3 then (⟨s.grew, 0, s.was⟩, wset f .grays (wr .u64 (f .grays + 18446744073709551615)))
  else (s, f)
/-- Does it touch the memory? -/
def Sh.works (s : Sh) : Bool := decide (s.next = 0) || decide (s.next = 1) || decide (s.next = 2) || decide (s.next = 3)

def ShAt (h : H) (b : Nat) (k : Cfg) (q : Nat) (e : Int) (s : Sh) : Prop := h.get b = some (.cells (Shade.cs ⟨s.grew, ((Wd.header q).pos k : Nat), e, s.next, s.was⟩) .rw) ∧ U64 s.was
theorem ShAt.fr {h h' : H} {L : List Nat} {b : Nat} {k : Cfg} {q : Nat} {e : Int} {s : Sh} (S : ShAt h b k q e s) (ok : h.ok) (F : Fr L h h') (h1 : b ∉ L) : ShAt h' b k q e s := ⟨F.get ok S.1 h1, S.2⟩

theorem shade_abs {k : Cfg} {q : Nat} (hq : q < k.S) (e : Int) (s : Sh) (f : Wd → Int) (n : Int) (t : Touch) :
    ∃ t', Shade.step ⟨s.grew, ((Wd.header q).pos k : Nat), e, s.next, s.was⟩ ⟨k.row f, n, t⟩ = (⟨(s.step q e f).1.grew, ((Wd.header q).pos k : Nat), e, (s.step q e f).1.next, (s.step q e f).1.was⟩, ⟨k.row (s.step q e f).2, if s.works then wr .i64 (n + 1) else n, t'⟩) := by
  have hl : (Wd.header q).ok k := hq
  have h2 : (2 : Int) = ((Wd.grays.pos k : Nat) : Int) := rfl
  obtain ⟨grew, next, was⟩ := s
  unfold Shade.step Sh.step Sh.works
  simp only
  by_cases c0 : next = 0
  · subst c0
    simp only [if_true, decide_true, Bool.true_or, Mem.val_row hl, Mem.load_row hl]
    exact ⟨_, rfl⟩
  · by_cases c1 : next = 1
    · subst c1
      simp only [if_true, Int.reduceEq, if_false, decide_true, decide_false, Bool.true_or, Bool.or_true, Bool.false_or]
      rw [show (Mem.add ⟨k.row f, n, t⟩ 2 1) = _ from Mem.add_row (l := .grays) trivial 1]
      exact ⟨_, rfl⟩
    · by_cases c2 : next = 2
      · subst c2
        simp only [if_true, Int.reduceEq, if_false, decide_true, decide_false, Bool.true_or, Bool.or_true, Bool.false_or, Mem.swaps_row hl, Mem.swap_row hl]
        by_cases hw : f (.header q) = was
        · simp only [hw, decide_true, if_true]; exact ⟨_, rfl⟩
        · simp only [hw, decide_false, Bool.false_eq_true, if_false]; exact ⟨_, rfl⟩
      · by_cases c3 : next = 3
        · subst c3
          simp only [if_true, Int.reduceEq, if_false, decide_true, decide_false, Bool.true_or, Bool.or_true, Bool.false_or]
          rw [show (Mem.add ⟨k.row f, n, t⟩ 2 18446744073709551615) = _ from Mem.add_row (l := .grays) trivial _]
          exact ⟨_, rfl⟩
        · simp only [c0, c1, c2, c3, if_false, decide_false, Bool.false_or, Bool.false_eq_true]
          exact ⟨_, rfl⟩

theorem ShAt.step {h : H} (ok : h.ok) {b p pw : Nat} {k : Cfg} {q : Nat} (hq : q < k.S) {e : Int} (he : U64 e) {s : Sh} {f : Wd → Int} {n : Int} (S : ShAt h b k q e s) (M : MemF h p pw k f n) (h1 : b ≠ p) (h2 : b ≠ pw) :
    Ev (C 91 [.ptr b 0, .ptr p 0] h) fun r => r.1 = .bool (decide ((s.step q e f).1.next = 4)) ∧ Fr [b, p, pw] h r.2 ∧ ShAt r.2 b k q e (s.step q e f).1 ∧ MemF r.2 p pw k (s.step q e f).2 (if s.works then wr .i64 (n + 1) else n) := by
  have hu := M.u64 (show (Wd.header q).ok k from hq)
  obtain ⟨t, m⟩ := M
  obtain ⟨S1, S2⟩ := S
  obtain ⟨t', e'⟩ := shade_abs hq e s f n t
  have := shadeStep_spec ok S1 m h1 h2 he S2
  rw [e'] at this
  refine this.mono fun r ⟨r1, r2, r3, r4⟩ => ⟨r1, r2, ⟨r3, ?_⟩, ⟨_, r4⟩⟩
  unfold Sh.step
  split
  · exact hu
  · split
    · exact S2
    · split
      · split <;> exact S2
      · split <;> exact S2

theorem NewShade_spec {k : Cfg} (hr : k.R = true) {q : Nat} (hq : q < k.S) (e : Int) {h : H} (ok : h.ok) :
    Ev (C 90 [k.v, .int .i64 (q : Int), .int .u64 e] h) fun r => ∃ b, r.1 = .ptr b 0 ∧ Fr [] h r.2 ∧ h.next ≤ b ∧ ShAt r.2 b k q e ⟨false, 0, 0⟩ :=
  (newShade_spec hr hq e ok).mono fun _ ⟨b, h1, h2, h3, h4⟩ => ⟨b, h1, h2, h3, h4, ⟨by decide, by decide⟩⟩

theorem Same_spec {h : H} {x y : V} {a b : List Int} (hx : RowIs h.get x a) (hy : RowIs h.get y b) (hla : a.length ≤ 65536) (hlb : b.length ≤ 65536) : C 95 [x, y] h = some (.bool (decide (a = b)), h) := by
  have hev : Ev (C 95 [x, y] h) fun r => r = (.bool (decide (a = b)), h) := by
    refine call_ev (af := F.withyref06_Same) (by kernel_rfl) rfl ?_
    rw [S.withyref06_Same_eq]
    simp only [S.withyref06_Same, hx.len, hy.len, Option.bind_some]
    by_cases hl : a.length = b.length
    · simp only [hl, decide_true, Bool.not_true]
      refine loop_ev (α := Nat) (fun i => S.withyref06_Same_c1_E x y (.int .i64 i)) (fun i g => g = h ∧ i ≤ a.length ∧ ∀ j, j < i → a[j]? = b[j]?) (fun i _ => a.length - i)
        (fun r => r.2.2 = h ∧ ((r.1 = .exit 0 ∧ r.2.1 = S.withyref06_Same_c1_O .dead ∧ a = b) ∨ (r.1 = .ret ∧ r.2.1 = S.withyref06_Same_c1_O (.bool false) ∧ a ≠ b))) 0 rfl ⟨rfl, Nat.zero_le _, fun j hj => absurd hj (Nat.not_lt_zero _)⟩ ?_ ?_
      · rintro i g ⟨rfl, hi, hj⟩
        rw [S.withyref06_Same_c1_eq]
        by_cases hic : i < a.length
        · have e1 := natlt hic
          obtain ⟨p1, x1, x2⟩ := hx.at (i := (i : Int)) (by omega) (by omega)
          obtain ⟨p2, y1, y2⟩ := hy.at (i := (i : Int)) (by omega) (by omega)
          have w1 : wr .i64 ((i : Int) + 1) = ((i + 1 : Nat) : Int) := by rw [wr64 (by omega) (by omega)]; rfl
          have ha : a[i]? = some a[i] := List.getElem?_eq_getElem hic
          have hb : b[i]? = some (b[i]'(hl ▸ hic)) := List.getElem?_eq_getElem (hl ▸ hic)
          simp only [Int.toNat_natCast, ha, hb, Option.getD_some] at x2 y2
          simp only [S.withyref06_Same_c1_S, hx.len, Option.bind_some, e1, x1, x2, y1, y2, asI_int, w1]
          by_cases he : a[i] = b[i]'(hl ▸ hic)
          · simp only [he, decide_true, Bool.not_true]
            refine Ev.some (.inl ⟨i + 1, rfl, rfl, ⟨rfl, hic, fun j hj' => ?_⟩, Nat.sub_lt_sub_left hic (Nat.lt_succ_self i)⟩)
            rcases Nat.lt_succ_iff_lt_or_eq.mp hj' with q | rfl
            · exact hj j q
            · rw [ha, hb, he]
          · simp only [he, decide_false, Bool.not_false]
            refine Ev.some (.inr ⟨by simp, rfl, .inr ⟨rfl, rfl, fun q => he ?_⟩⟩)
            subst q; rfl
        · have e1 : decide ((i : Int) < (a.length : Int)) = false := decide_eq_false (by omega)
          simp only [S.withyref06_Same_c1_S, hx.len, Option.bind_some, e1]
          refine Ev.some (.inr ⟨by simp, rfl, .inl ⟨rfl, rfl, List.ext_getElem? fun j => ?_⟩⟩)
          by_cases hjl : j < i
          · exact hj j hjl
          · rw [List.getElem?_eq_none (by omega), List.getElem?_eq_none (by omega)]
      · rintro ⟨x', env, g⟩ ⟨rfl, ⟨rfl, rfl, rfl⟩ | ⟨rfl, rfl, hne⟩⟩
        · simp only; rw [S.withyref06_Same_c1_e0_eq]; simp only [decide_true]; exact Ev.some rfl
        · simp only; rw [S.withyref06_Same_c1_r_eq, decide_eq_false hne]; exact Ev.some rfl
    · have hne : a ≠ b := fun q => hl (by rw [q])
      have : ¬ ((a.length : Int) = (b.length : Int)) := by omega
      simp only [this, hne, decide_false, Bool.not_false]
      exact Ev.some rfl
  obtain ⟨r, e, rfl⟩ := hev
  exact e
end Wm
end

section
/- The law ShadeAlone, of my machine. -/
namespace Wm
attribute [local congr] bind_congr1
attribute [local irreducible] wr

/-- A number made one of so many. -/
def pickT (x : Int) (n : Nat) : Nat := (x % 18446744073709551616 % (n : Int)).toNat
theorem pickT_lt (x : Int) {n : Nat} (hn : 0 < n) : pickT x n < n := by
  unfold pickT
  have h1 := Int.emod_nonneg (x % 18446744073709551616) (show (n : Int) ≠ 0 by omega)
  have h2 := Int.emod_lt_of_pos (x % 18446744073709551616) (show (0 : Int) < n by omega)
  omega
theorem pick_ar (x : Int) {n : Nat} (hn : 0 < n) (h2 : n ≤ 1000) : arith .rem .u64 (wr .u64 x) (wr .u64 (n : Int)) = some ((pickT x n : Nat) : Int) := by
  have e1 : wr .u64 x = x % 18446744073709551616 := by simp only [wr]
  have h3 := Int.emod_nonneg (x % 18446744073709551616) (show (n : Int) ≠ 0 by omega)
  rw [wru64 (n := (n : Int)) (by omega) (by omega), e1]
  simp only [arith, decide_eq_false (show ¬ ((n : Int) = 0) by omega)]
  rw [tm (by omega)]
  unfold pickT
  congr 1; omega

theorem repl_hdr (n : Nat) : repl Hdr.zero.cs n = ((List.replicate n Hdr.zero).map Hdr.cs).flatten := by
  induction n with
  | zero => rfl
  | succ n ih => simp only [repl, ih, List.replicate_succ, List.map_cons, List.flatten_cons]

theorem splice_hdr : ∀ (l : List Hdr) (q : Nat) (x : Hdr), q < l.length → splice (l.map Hdr.cs).flatten (q * 6) x.cs = ((l.set q x).map Hdr.cs).flatten
  | [], q, x, h => by simp at h
  | y :: l, 0, x, _ => by
    have hy : y.cs.length = 6 := rfl
    have hx : x.cs.length = 6 := rfl
    simp only [splice, List.map_cons, List.flatten_cons, Nat.zero_mul, List.take_zero, List.nil_append, List.set_cons_zero, hx, Nat.zero_add]
    rw [List.drop_left' hy]
  | y :: l, q + 1, x, h => by
    have ih := splice_hdr l q x (by simpa using h)
    have hy : y.cs.length = 6 := rfl
    have hx : x.cs.length = 6 := rfl
    simp only [splice, hx] at ih ⊢
    simp only [List.map_cons, List.flatten_cons, List.set_cons_succ]
    rw [← ih, show (q + 1) * 6 = 6 + q * 6 by omega, List.take_append, List.take_of_length_le (by omega), hy, show 6 + q * 6 - 6 = q * 6 by omega, List.drop_append, List.drop_of_length_le (by omega), hy, show 6 + q * 6 + 6 - 6 = q * 6 + 6 by omega]
    simp only [List.nil_append, List.append_assoc]

theorem cs_one (x : Hdr) : x.cs.all V.one = true := rfl

/-- One header among others that are nothing. -/
def oneH (n q : Nat) (x : Hdr) : List Hdr := (List.replicate n Hdr.zero).set q x
theorem oneH_i64 {n q : Nat} {x : Hdr} (hx : x.i64) : ∀ y ∈ oneH n q x, y.i64 := by
  intro y hy
  rcases List.mem_or_eq_of_mem_set hy with h | rfl
  · rw [List.eq_of_mem_replicate h]; unfold Hdr.i64 Hdr.zero; simp only; omega
  · exact hx
theorem oneH_len (n q : Nat) (x : Hdr) : (oneH n q x).length = n := by unfold oneH; rw [List.length_set, List.length_replicate]
theorem oneH_at {n q : Nat} {x : Hdr} (hq : q < n) : (oneH n q x)[q]? = some x := by
  unfold oneH; rw [List.getElem?_set_self (by rw [List.length_replicate]; exact hq)]

theorem Cfg.s_S {k : Cfg} (hr : k.R = true) : k.s = (k.S : Int) := by have := Cfg.R_iff.mp hr; unfold Cfg.S; omega

/-- The header of the slot, and the grays, in the memory of one header. -/
def oneF (k : Cfg) (q : Nat) (x : Hdr) (e : Int) : Wd → Int := fillF k (oneH k.S q x) e
theorem oneF_grays {k : Cfg} {q : Nat} {x : Hdr} {e : Int} : 0 ≤ oneF k q x e .grays ∧ oneF k q x e .grays ≤ k.S := by
  unfold oneF fillF
  rw [wset_same]
  have := graysN_le k (fillH k (oneH k.S q x) e k.S)
  omega

/-- What a lone shade does: n steps. -/
def Sh.run (q : Nat) (e : Int) (f : Wd → Int) : Nat → Sh × (Wd → Int)
  | 0 => (⟨false, 0, 0⟩, f)
  | n + 1 => Sh.step q e (Sh.run q e f n).1 (Sh.run q e f n).2

theorem Sh.run1 (q : Nat) (e : Int) (f : Wd → Int) : Sh.run q e f 1 = (⟨false, if white (f (.header q)) e then 1 else 4, f (.header q)⟩, f) := rfl
theorem Sh.run_black {q : Nat} {e : Int} {f : Wd → Int} (hw : white (f (.header q)) e = false) : ∀ n, Sh.run q e f (n + 1) = (⟨false, 4, f (.header q)⟩, f)
  | 0 => by rw [Sh.run1, hw]; rfl
  | n + 1 => by rw [Sh.run, Sh.run_black hw n]; rfl
theorem Sh.run2 {q : Nat} {e : Int} {f : Wd → Int} (hw : white (f (.header q)) e = true) : Sh.run q e f 2 = (⟨false, 2, f (.header q)⟩, wset f .grays (wr .u64 (f .grays + 1))) := by
  rw [Sh.run, Sh.run1, hw]; rfl
theorem Sh.run3 {q : Nat} {e : Int} {f : Wd → Int} (hw : white (f (.header q)) e = true) : Sh.run q e f 3 = (⟨true, 4, f (.header q)⟩, wset (wset f .grays (wr .u64 (f .grays + 1))) (.header q) (shaded (f (.header q)) e)) := by
  rw [Sh.run, Sh.run2 hw]
  unfold Sh.step
  simp only [Int.reduceEq, if_false, if_true]
  rw [if_pos (by rw [wset_ne (by simp)])]
theorem Sh.run_over {q : Nat} {e : Int} {f : Wd → Int} (hw : white (f (.header q)) e = true) : ∀ n, Sh.run q e f (n + 3) = (⟨true, 4, f (.header q)⟩, wset (wset f .grays (wr .u64 (f .grays + 1))) (.header q) (shaded (f (.header q)) e))
  | 0 => Sh.run3 hw
  | n + 1 => by rw [show n + 1 + 3 = (n + 3) + 1 from rfl, Sh.run, Sh.run_over hw n]; rfl
/-- After how many steps it is over. -/
def Sh.last (q : Nat) (e : Int) (f : Wd → Int) : Nat := if white (f (.header q)) e then 2 else 0
theorem Sh.run_next (q : Nat) (e : Int) (f : Wd → Int) (n : Nat) (hn : n ≤ Sh.last q e f) : decide ((Sh.run q e f (n + 1)).1.next = 4) = decide (n = Sh.last q e f) ∧ (Sh.run q e f n).1.works = true := by
  unfold Sh.last at hn ⊢
  cases hw : white (f (.header q)) e with
  | false =>
    rw [hw] at hn
    simp only [Bool.false_eq_true, if_false] at hn ⊢
    have : n = 0 := by omega
    subst this
    rw [Sh.run_black hw]; exact ⟨rfl, rfl⟩
  | true =>
    rw [hw] at hn
    simp only [if_true] at hn ⊢
    have : n = 0 ∨ n = 1 ∨ n = 2 := by omega
    rcases this with rfl | rfl | rfl
    · rw [Sh.run1, hw]; exact ⟨rfl, rfl⟩
    · rw [Sh.run2 hw, Sh.run1, hw]; exact ⟨rfl, rfl⟩
    · rw [Sh.run3 hw, Sh.run2 hw]; exact ⟨rfl, rfl⟩

theorem wr1 {n : Nat} (h : n ≤ 1000000) : wr .i64 ((n : Int) + 1) = ((n + 1 : Nat) : Int) := by rw [wr64 (by omega) (by omega)]; rfl
theorem ar3a {n l : Nat} (hn : n ≤ l) (hl : l ≤ 2) : n ≤ 1000000 ∧ decide ((n : Int) < 9) = true := ⟨by omega, decide_eq_true (by omega)⟩
theorem ar3b {n l : Nat} (hn : n ≤ l) (hl : l ≤ 2) (hne : n ≠ l) : n + 1 ≤ l ∧ 3 - (n + 1) < 3 - n := by omega
theorem row_i64 {k : Cfg} (hr : k.R = true) (f : Wd → Int) : (k.row f).length ≤ 9223372036854775807 ∧ (k.row f).length ≤ 65536 := by
  have := Cfg.bounds hr; rw [row_length]; omega
theorem rowIs {k : Cfg} (hr : k.R = true) {g : H} {x : Nat} {c : Cap} {f : Wd → Int} {kk : Bk} (h : g.get x = some (.cells ((k.row f).map (.int .u64)) kk)) : RowIs g.get (.sl x 0 k.size c) (k.row f) := ⟨(row_i64 hr f).1, .inr ⟨x, c, kk, by rw [row_length], h⟩⟩

def shShadeAlone : List (Bool × List CSh) := [(true, [.int .i64, .int .i64, .int .i64, .int .i64, .int .i64, .int .i64]), (true, [.int .i64, .int .i64, .bool, .int .i64, .int .i64, .int .i64]), (false, [.int .i64]), (false, [.int .u64])]

/-- What stands behind the beginning of the laws of one shade. -/
structure OneAt (k : Cfg) (g : H) (c x : Nat) (q : Nat) (y : Hdr) : Prop where
  ok : g.ok
  cfg : g.get c = some (.cells [.int .i64 k.s, .int .i64 k.a, .int .i64 k.c, .int .i64 k.hd, .int .i64 k.g, .int .i64 k.st] .rw)
  row : RowH g.get (.sl x 0 k.S (.ex k.S)) (oneH k.S q y)

theorem lawShadeAlone (h : H) (us : List V) (_ : h.ok) (ha : ArgsOk h.get shShadeAlone us) : Ev (C 16 us h) fun r => r.1 = .bool true := by
  obtain ⟨_, _, rfl, ⟨_, rfl, _, _, rfl, ⟨s, rfl, _⟩, _, _, rfl, ⟨a, rfl, _⟩, _, _, rfl, ⟨c, rfl, _⟩, _, _, rfl, ⟨hd, rfl, _⟩, _, _, rfl, ⟨g, rfl, _⟩, _, _, rfl, ⟨st, rfl, _⟩, rfl⟩, _, _, rfl, ⟨_, rfl, _, _, rfl, ⟨y0, rfl, b0⟩, _, _, rfl, ⟨y1, rfl, b1⟩, _, _, rfl, ⟨y2, rfl⟩, _, _, rfl, ⟨y3, rfl, b3⟩, _, _, rfl, ⟨y4, rfl, b4⟩, _, _, rfl, ⟨y5, rfl, b5⟩, rfl⟩, _, _, rfl, ⟨_, _, hslot, ⟨slot, rfl, _⟩, rfl⟩, _, _, rfl, ⟨_, _, he, ⟨e, rfl, be⟩, rfl⟩, rfl⟩ := ha
  cases hslot; cases he
  refine ⟨_, call_closed (v := .bool true) (af := F.withylaw09_ShadeAlone) (by kernel_rfl) rfl (by rfl) (by rfl) h ?_, rfl⟩
  rw [S.withylaw09_ShadeAlone_eq]
  have okE := H.ok_empty
  generalize H.empty = hE at okE ⊢
  have hfit := Fit_spec ⟨s, a, c, hd, g, st⟩
  have hr := Cfg.fit_R ⟨s, a, c, hd, g, st⟩
  have hbd := Cfg.fit_bd ⟨s, a, c, hd, g, st⟩
  generalize Cfg.fit ⟨s, a, c, hd, g, st⟩ = k at hfit hr hbd
  have hU := wf_u64 be
  have hyi : (⟨y0, y1, y2, y3, y4, y5⟩ : Hdr).i64 := ⟨(wf_i64 b0).2, (wf_i64 b1).2, (wf_i64 b3).2, (wf_i64 b4).2, (wf_i64 b5).2⟩
  have hb := Cfg.bounds hr
  have hS := Cfg.s_S hr
  have hv : ∀ k : Cfg, k.v = .agg [.int .i64 k.s, .int .i64 k.a, .int .i64 k.c, .int .i64 k.hd, .int .i64 k.g, .int .i64 k.st] := fun _ => rfl
  rw [hv, hv] at hfit
  simp only at hfit
  have hpick := pick_ar slot (n := k.S) (by omega) (by omega)
  rw [← hS] at hpick
  have hq := pickT_lt slot (n := k.S) (by omega)
  generalize pickT slot k.S = q at hpick hq
  have hwq : wr .i64 (q : Int) = q := wr64 (by omega) (by omega)
  have hmk : ∀ g : H, g.mkSl 6 48 [.int .i64 0, .int .i64 0, .bool false, .int .i64 0, .int .i64 0, .int .i64 0] k.s k.s = some (.sl g.next 0 k.S (.ex k.S), g.new (.cells ((List.replicate k.S Hdr.zero).map Hdr.cs).flatten .rw)) := fun g => by
    rw [hS]
    refine (mkSl_ok (h := g) (e := 6) (b := 48) (z := Hdr.zero.cs) (l := (k.S : Int)) (c := (k.S : Int)) (by omega) (by omega) (by omega) (by omega) rfl (by omega)).trans ?_
    simp only [Int.toNat_natCast, repl_hdr]
  have hidx : ∀ b, indexAV 6 (.sl b 0 k.S (.ex k.S)) (.int .i64 (q : Int)) = some (.ptr b (q * 6)) := fun b => sl_idx hq
  have hspl := splice_hdr (List.replicate k.S Hdr.zero) q ⟨y0, y1, y2, y3, y4, y5⟩ (by rw [List.length_replicate]; exact hq)
  have hlen6 : ((List.replicate k.S Hdr.zero).map Hdr.cs).flatten.length = k.S * 6 := by rw [flat_length (hdrs6 _), List.length_map, List.length_replicate]
  have hle : decide (q * 6 + 6 ≤ ((List.replicate k.S Hdr.zero).map Hdr.cs).flatten.length) = true := decide_eq_true (by rw [hlen6]; omega)
  have ht : decide (Bk.rw = Bk.ro) = false := rfl
  have n1 : ∀ x : Nat, x ≠ x + 1 := fun x => by omega
  have n2 : ∀ x : Nat, x + 1 ≠ x := fun x => by omega
  have n3 : ∀ x : Nat, x ≠ x + 1 + 1 := fun x => by omega
  have n4 : ∀ x : Nat, x + 1 ≠ x + 1 + 1 := fun x => by omega
  have n5 : ∀ x : Nat, x + 1 + 1 ≠ x := fun x => by omega
  have n6 : ∀ x : Nat, x + 1 + 1 ≠ x + 1 := fun x => by omega
  simp only [S.withylaw09_ShadeAlone, nilc_ptr, lenSl_sl, lenSl_nil, eqPtr_ptr, eqPtr_nil, eqPtr_ptr', eqSl_sl, eqSl_nil, ptrAt_ptr, Option.bind_some, Option.map_some, ld1_get', ldN_get', st_get', get_put', get_new', put_put', ldB_cells, ldNB_cells, stB_cells, H.next_new, H.next_put, List.getElem?_cons_zero, List.getElem?_cons_succ, Nat.zero_add, Nat.add_zero, Nat.reduceAdd, Nat.reduceLeDiff, Nat.reduceLT, Nat.reduceMul, Nat.reduceSub, Nat.reduceEqDiff, Int.reduceEq, Int.reduceLT, Int.reduceLE, Int.reduceNeg, V.one, V.cells, V.beq, V.beqs, ckB_some, asI_int, asB_bool, asIAny, asS, List.length_cons, List.length_nil, Nat.beq_refl, List.all_cons, List.all_nil, Bool.and_true, Bool.and_false, Bool.true_and, Bool.false_and, Bool.not_true, Bool.not_false, Bool.or_false, Bool.false_or, Bool.or_self, Bool.and_self, decide_true, decide_false, if_true, if_false, splice, List.take_succ_cons, List.take_zero, List.drop_succ_cons, List.drop_zero, List.cons_append, List.nil_append, List.set_cons_zero, List.set_cons_succ, reduceCtorEq, fill, repl, opd, boxc, finV, resAllV, resOfV, result, eqV, eqIfc, aggCells, part, W_call, Nat.reduceBEq, Nat.beq_eq, hfit, hpick, hwq, n1, n2]
  rw [hmk]
  simp only [H.next_new, H.next_put]
  generalize hg0 : ((hE.new _).new _).put hE.next _ = g0
  have hc0 : g0.get hE.next = some (.cells [.int .i64 k.s, .int .i64 k.a, .int .i64 k.c, .int .i64 k.hd, .int .i64 k.g, .int .i64 k.st] .rw) := by rw [← hg0]; exact get_put_self _ _ _
  have hy0 : g0.get (hE.next + 1) = some (.cells [.int .i64 y0, .int .i64 y1, .bool y2, .int .i64 y3, .int .i64 y4, .int .i64 y5] .rw) := by
    rw [← hg0, get_put_ne (n2 _)]; exact get_new_self _ _
  have ok0 : g0.ok := by rw [← hg0]; exact ((okE.new _).new _).put (by simp only [H.next_new]; omega) _
  have hn0 : g0.next = hE.next + 2 := by rw [← hg0]; rfl
  have hnn : hE.next + 1 ≠ g0.next := by rw [hn0]; omega
  have hnn0 : hE.next ≠ g0.next := by rw [hn0]; omega
  rw [show hE.next + 1 + 1 = g0.next from hn0.symm]
  simp only [nilc_ptr, lenSl_sl, lenSl_nil, eqPtr_ptr, eqPtr_nil, eqPtr_ptr', eqSl_sl, eqSl_nil, ptrAt_ptr, Option.bind_some, Option.map_some, ld1_get', ldN_get', st_get', get_put', get_new', put_put', ldB_cells, ldNB_cells, stB_cells, H.next_new, H.next_put, List.getElem?_cons_zero, List.getElem?_cons_succ, Nat.zero_add, Nat.add_zero, Nat.reduceAdd, Nat.reduceLeDiff, Nat.reduceLT, Nat.reduceMul, Nat.reduceSub, Nat.reduceEqDiff, Int.reduceEq, Int.reduceLT, Int.reduceLE, Int.reduceNeg, V.one, V.cells, V.beq, V.beqs, ckB_some, asI_int, asB_bool, asIAny, asS, List.length_cons, List.length_nil, Nat.beq_refl, List.all_cons, List.all_nil, Bool.and_true, Bool.and_false, Bool.true_and, Bool.false_and, Bool.not_true, Bool.not_false, Bool.or_false, Bool.false_or, Bool.or_self, Bool.and_self, decide_true, decide_false, if_true, if_false, splice, List.take_succ_cons, List.take_zero, List.drop_succ_cons, List.drop_zero, List.cons_append, List.nil_append, List.set_cons_zero, List.set_cons_succ, reduceCtorEq, fill, repl, opd, boxc, finV, resAllV, resOfV, result, eqV, eqIfc, aggCells, part, W_call, Nat.reduceBEq, Nat.beq_eq, hnn, hnn0, hy0, hc0, hidx, hle, ht]
  refine Ev.bind (filled_spec (k := k) (l := oneH k.S q ⟨y0, y1, y2, y3, y4, y5⟩) hr ?_ ?_ (oneH_i64 hyi) hU) ?_
  · exact (ok0.new _).put (by simp only [H.next_new]; omega) _
  · exact .inr ⟨_, .ex k.S, .rw, by rw [oneH_len], by rw [get_put_self]; exact congrArg (fun l => some (Blk.cells l .rw)) hspl⟩
  rintro ⟨v1, g1⟩ ⟨p, pw, rfl, f1, q1, q2, M⟩
  have hc1 := f1.get ((ok0.new _).put (by simp only [H.next_new]; omega) _) (show _ = some (Blk.cells [.int .i64 k.s, .int .i64 k.a, .int .i64 k.c, .int .i64 k.hd, .int .i64 k.g, .int .i64 k.st] .rw) from by rw [get_put_ne hnn0, get_new_ne hnn0]; exact hc0) (by simp)
  have ok1 := f1.ok
  have M1 : MemF g1 p pw k (oneF k q ⟨y0, y1, y2, y3, y4, y5⟩ e) 0 := ⟨_, M⟩
  clear hg0 hc0 hy0 ok0 hn0 hnn hnn0 f1 M hmk hidx hspl hlen6 hle ht n1 n2 n3 n4 n5 n6 hpick hfit q1 q2
  have hog := oneF_grays (k := k) (q := q) (x := ⟨y0, y1, y2, y3, y4, y5⟩) (e := e)
  generalize oneF k q ⟨y0, y1, y2, y3, y4, y5⟩ e = f at M1 hog
  generalize hE.next = cb at hc1 ⊢
  simp only [nilc_ptr, lenSl_sl, lenSl_nil, eqPtr_ptr, eqPtr_nil, eqPtr_ptr', eqSl_sl, eqSl_nil, ptrAt_ptr, Option.bind_some, Option.map_some, ld1_get', ldN_get', st_get', get_put', get_new', put_put', ldB_cells, ldNB_cells, stB_cells, H.next_new, H.next_put, List.getElem?_cons_zero, List.getElem?_cons_succ, Nat.zero_add, Nat.add_zero, Nat.reduceAdd, Nat.reduceLeDiff, Nat.reduceLT, Nat.reduceMul, Nat.reduceSub, Nat.reduceEqDiff, Int.reduceEq, Int.reduceLT, Int.reduceLE, Int.reduceNeg, V.one, V.cells, V.beq, V.beqs, ckB_some, asI_int, asB_bool, asIAny, asS, List.length_cons, List.length_nil, Nat.beq_refl, List.all_cons, List.all_nil, Bool.and_true, Bool.and_false, Bool.true_and, Bool.false_and, Bool.not_true, Bool.not_false, Bool.or_false, Bool.false_or, Bool.or_self, Bool.and_self, decide_true, decide_false, if_true, if_false, splice, List.take_succ_cons, List.take_zero, List.drop_succ_cons, List.drop_zero, List.cons_append, List.nil_append, List.set_cons_zero, List.set_cons_succ, reduceCtorEq, fill, repl, opd, boxc, finV, resAllV, resOfV, result, eqV, eqIfc, aggCells, part, W_call, Nat.reduceBEq, Nat.beq_eq, hc1]
  refine Ev.bind (NewShade_spec hr hq e ok1) ?_
  rintro ⟨v2, g2⟩ ⟨b, rfl, f2, hb2, S2⟩
  have hc2 := f2.get ok1 hc1 (by simp)
  have ok2 := f2.ok
  obtain ⟨pl, pwl, pne⟩ := M1.lt ok1
  have M2 := M1.fr ok1 f2 (by simp) (by simp)
  have nb1 : b ≠ p := by omega
  have nb2 : b ≠ pw := by omega
  have hat : ∀ h, C 108 [.agg [.int .i64 k.s, .int .i64 k.a, .int .i64 k.c, .int .i64 k.hd, .int .i64 k.g, .int .i64 k.st], .agg [.str ⟨⟨[104, 101, 97, 100, 101, 114]⟩⟩, .int .i64 (q : Int), .int .i64 0]] h = some (.int .i64 ((Wd.header q).pos k : Nat), h) := at_wd hr (l := .header q) hq
  simp only [nilc_ptr, lenSl_sl, lenSl_nil, eqPtr_ptr, eqPtr_nil, eqPtr_ptr', eqSl_sl, eqSl_nil, ptrAt_ptr, Option.bind_some, Option.map_some, ld1_get', ldN_get', st_get', get_put', get_new', put_put', ldB_cells, ldNB_cells, stB_cells, H.next_new, H.next_put, List.getElem?_cons_zero, List.getElem?_cons_succ, Nat.zero_add, Nat.add_zero, Nat.reduceAdd, Nat.reduceLeDiff, Nat.reduceLT, Nat.reduceMul, Nat.reduceSub, Nat.reduceEqDiff, Int.reduceEq, Int.reduceLT, Int.reduceLE, Int.reduceNeg, V.one, V.cells, V.beq, V.beqs, ckB_some, asI_int, asB_bool, asIAny, asS, List.length_cons, List.length_nil, Nat.beq_refl, List.all_cons, List.all_nil, Bool.and_true, Bool.and_false, Bool.true_and, Bool.false_and, Bool.not_true, Bool.not_false, Bool.or_false, Bool.false_or, Bool.or_self, Bool.and_self, decide_true, decide_false, if_true, if_false, splice, List.take_succ_cons, List.take_zero, List.drop_succ_cons, List.drop_zero, List.cons_append, List.nil_append, List.set_cons_zero, List.set_cons_succ, reduceCtorEq, fill, repl, opd, boxc, finV, resAllV, resOfV, result, eqV, eqIfc, aggCells, part, W_call, Nat.reduceBEq, Nat.beq_eq, awake09, hc2, hat]
  refine Ev.bind (M2.words ok2) ?_
  rintro ⟨v3, g3⟩ ⟨x3, rfl, f3, hx3, W3⟩
  have hpos := pos_lt (show (Wd.header q).ok k from hq)
  have hix : ∀ (b : Nat) (c : Cap), indexAV 1 (.sl b 0 k.size c) (.int .i64 ((Wd.header q).pos k : Nat)) = some (.ptr b ((Wd.header q).pos k)) := fun b c => sl_idx1 hpos
  have hrow : ((k.row f).map (V.int .u64))[(Wd.header q).pos k]? = some (.int .u64 (f (.header q))) := by rw [List.getElem?_map, row_at (show (Wd.header q).ok k from hq)]; rfl
  have hu := M2.u64 (show (Wd.header q).ok k from hq)
  simp only [nilc_ptr, lenSl_sl, lenSl_nil, eqPtr_ptr, eqPtr_nil, eqPtr_ptr', eqSl_sl, eqSl_nil, ptrAt_ptr, Option.bind_some, Option.map_some, ld1_get', ldN_get', st_get', get_put', get_new', put_put', ldB_cells, ldNB_cells, stB_cells, H.next_new, H.next_put, List.getElem?_cons_zero, List.getElem?_cons_succ, Nat.zero_add, Nat.add_zero, Nat.reduceAdd, Nat.reduceLeDiff, Nat.reduceLT, Nat.reduceMul, Nat.reduceSub, Nat.reduceEqDiff, Int.reduceEq, Int.reduceLT, Int.reduceLE, Int.reduceNeg, V.one, V.cells, V.beq, V.beqs, ckB_some, asI_int, asB_bool, asIAny, asS, List.length_cons, List.length_nil, Nat.beq_refl, List.all_cons, List.all_nil, Bool.and_true, Bool.and_false, Bool.true_and, Bool.false_and, Bool.not_true, Bool.not_false, Bool.or_false, Bool.false_or, Bool.or_self, Bool.and_self, decide_true, decide_false, if_true, if_false, splice, List.take_succ_cons, List.take_zero, List.drop_succ_cons, List.drop_zero, List.cons_append, List.nil_append, List.set_cons_zero, List.set_cons_succ, reduceCtorEq, fill, repl, opd, boxc, finV, resAllV, resOfV, result, eqV, eqIfc, aggCells, part, W_call, Nat.reduceBEq, Nat.beq_eq, hix, W3, hrow, refLives_spec hu]
  have ok3 := f3.ok
  have M3 := M2.fr ok2 f3 (by simp) (by simp)
  have S3 := S2.fr ok2 f3 (by simp)
  have W3r : RowIs g3.get (.sl x3 0 k.size (.op 1)) (k.row f) := ⟨by rw [row_length]; omega, .inr ⟨x3, _, _, by rw [row_length], W3⟩⟩
  have hx3n : x3 ≠ b ∧ x3 ≠ p ∧ x3 ≠ pw := by
    have := f2.le
    have := ok2.lt S2.1
    omega
  have main : Ev ((W.loop (S.withylaw09_ShadeAlone_c1_B W) (S.withylaw09_ShadeAlone_c1_E (.int .u64 e) (.ptr p 0) (.ptr b 0) (.int .i64 ((Wd.header q).pos k : Nat)) (.sl x3 0 k.size (.op 1)) (.bool (white (f (.header q)) e)) (.int .i64 (0 : Nat))) g3).bind fun p29 => S.withylaw09_ShadeAlone_K2 W p29.1 p29.2.1 p29.2.2) fun r => r.1 = .bool true := by
    have hlast : Sh.last q e f ≤ 2 := by unfold Sh.last; split <;> omega
    refine loop_ev (α := Nat) (fun n => S.withylaw09_ShadeAlone_c1_E (.int .u64 e) (.ptr p 0) (.ptr b 0) (.int .i64 ((Wd.header q).pos k : Nat)) (.sl x3 0 k.size (.op 1)) (.bool (white (f (.header q)) e)) (.int .i64 n))
      (fun n g => n ≤ Sh.last q e f ∧ Fr [b, p, pw] g3 g ∧ ShAt g b k q e (Sh.run q e f n).1 ∧ MemF g p pw k (Sh.run q e f n).2 n) (fun n _ => 3 - n)
      (fun r => r.1 = .exit 0 ∧ r.2.1 = S.withylaw09_ShadeAlone_c1_O (.int .u64 e) (.ptr p 0) (.ptr b 0) (.int .i64 ((Wd.header q).pos k : Nat)) (.sl x3 0 k.size (.op 1)) (.bool (white (f (.header q)) e)) (.int .i64 (Sh.last q e f : Nat)) ∧ Fr [b, p, pw] g3 r.2.2 ∧ ShAt r.2.2 b k q e (Sh.run q e f (Sh.last q e f + 1)).1 ∧ MemF r.2.2 p pw k (Sh.run q e f (Sh.last q e f + 1)).2 (Sh.last q e f + 1 : Nat))
      0 rfl ⟨Nat.zero_le _, .refl ok3, S3, M3⟩ ?_ ?_
    · rintro n g ⟨hn, fg, Sg, Mg⟩
      rw [S.withylaw09_ShadeAlone_c1_eq]
      obtain ⟨⟨v, g'⟩, e1, r1, r2, r3, r4⟩ := Sg.step fg.ok hq hU Mg nb1 nb2
      obtain ⟨n1, n2⟩ := Sh.run_next q e f n hn
      have hst : decide ((Sh.step q e (Sh.run q e f n).1 (Sh.run q e f n).2).1.next = 4) = decide (n = Sh.last q e f) := n1
      rw [hst] at r1
      rw [n2, if_pos rfl] at r4
      simp only at r1 r2 r3 r4
      subst r1
      obtain ⟨ha1, hlt9⟩ := ar3a hn hlast
      have hw1 := wr1 ha1
      rw [hw1] at r4
      simp only [S.withylaw09_ShadeAlone_c1_S, hlt9, W_call, e1, Option.bind_some, asB_bool, hw1]
      by_cases hnl : n = Sh.last q e f
      · simp only [decide_eq_true hnl, Bool.not_true]
        subst hnl
        exact Ev.some (.inr ⟨by simp, rfl, rfl, fg.trans' r2, r3, r4⟩)
      · simp only [decide_eq_false hnl, Bool.not_false]
        exact Ev.some (.inl ⟨n + 1, rfl, rfl, ⟨(ar3b hn hlast hnl).1, fg.trans' r2, r3, r4⟩, (ar3b hn hlast hnl).2⟩)
    · rintro ⟨x', env, g⟩ ⟨rfl, rfl, fg, Sg, Mg⟩
      simp only at fg Sg Mg ⊢
      rw [S.withylaw09_ShadeAlone_c1_e0_eq]
      have okg := fg.ok
      have hover : (Sh.run q e f (Sh.last q e f + 1)).1.next = 4 ∧ (Sh.run q e f (Sh.last q e f + 1)).1.grew = white (f (.header q)) e ∧ (Sh.run q e f (Sh.last q e f + 1)).2 = (if white (f (.header q)) e then wset (wset f .grays (wr .u64 (f .grays + 1))) (.header q) (shaded (f (.header q)) e) else f) := by
        unfold Sh.last
        cases hw : white (f (.header q)) e with
        | false => simp only [Bool.false_eq_true, if_false, Sh.run_black hw, and_self]
        | true => simp only [if_true, Sh.run3 hw, and_self]
      obtain ⟨o1, o2, o3⟩ := hover
      generalize Sh.run q e f (Sh.last q e f + 1) = R at Sg Mg o1 o2 o3
      have hst : Sh.step q e R.1 R.2 = R := by
        unfold Sh.step; rw [o1]; rfl
      have hwk : R.1.works = false := by unfold Sh.works; rw [o1]; rfl
      obtain ⟨⟨v, g'⟩, e1, r1, r2, r3, r4⟩ := Sg.step okg hq hU Mg nb1 nb2
      rw [hst] at r1 r3 r4
      rw [hwk] at r4
      simp only [o1, decide_true, Bool.false_eq_true, if_false] at r1 r2 r3 r4
      subst r1
      have t1 := Mg.touches
      have t2 := r4.touches
      simp only [S.withylaw09_ShadeAlone_c1_e0, W_call, t1, t2, e1, Option.bind_some, asB_bool, asI_int, Bool.not_true, decide_true]
      have hx3g' : g'.get x3 = some (.cells ((k.row f).map (.int .u64)) (.gr 1)) := r2.get okg (fg.get ok3 W3 (by simp [hx3n])) (by simp [hx3n])
      obtain ⟨⟨v6, g6⟩, e6, x6, rfl, f6, hx6, W6⟩ := r4.words r2.ok
      have hx3g6 := f6.get r2.ok hx3g' (by simp)
      have S6 := r3.fr r2.ok f6 (by simp)
      simp only [e6, Option.bind_some]
      cases hw : white (f (.header q)) e with
      | false =>
        have hl0 : Sh.last q e f = 0 := by unfold Sh.last; rw [hw]; rfl
        rw [hw] at o2 o3
        simp only [Bool.false_eq_true, if_false] at o3
        rw [o3] at W6
        have hsame := Same_spec (h := g6) (x := .sl x6 0 k.size (.op 1)) (y := .sl x3 0 k.size (.op 1)) (a := k.row f) (b := k.row f) (rowIs hr W6) (rowIs hr hx3g6) (row_i64 hr f).2 (row_i64 hr f).2
        rw [decide_eq_true rfl] at hsame
        have S61 := S6.1
        rw [o2] at S61
        unfold Shade.cs at S61
        simp only at S61
        have hz : decide (((0 : Nat) : Int) = 0) = true := rfl
        have hz1 : decide (((0 + 1 : Nat) : Int) = 1) = true := rfl
        simp only [hl0, hz, hz1, Bool.not_false, nilc_ptr, lenSl_sl, lenSl_nil, eqPtr_ptr, eqPtr_nil, eqPtr_ptr', eqSl_sl, eqSl_nil, ptrAt_ptr, Option.bind_some, Option.map_some, ld1_get', ldN_get', st_get', get_put', get_new', put_put', ldB_cells, ldNB_cells, stB_cells, H.next_new, H.next_put, List.getElem?_cons_zero, List.getElem?_cons_succ, Nat.zero_add, Nat.add_zero, Nat.reduceAdd, Nat.reduceLeDiff, Nat.reduceLT, Nat.reduceMul, Nat.reduceSub, Nat.reduceEqDiff, Int.reduceEq, Int.reduceLT, Int.reduceLE, Int.reduceNeg, V.one, V.cells, V.beq, V.beqs, ckB_some, asI_int, asB_bool, asIAny, asS, List.length_cons, List.length_nil, Nat.beq_refl, List.all_cons, List.all_nil, Bool.and_true, Bool.and_false, Bool.true_and, Bool.false_and, Bool.not_true, Bool.not_false, Bool.or_false, Bool.false_or, Bool.or_self, Bool.and_self, decide_true, decide_false, if_true, if_false, splice, List.take_succ_cons, List.take_zero, List.drop_succ_cons, List.drop_zero, List.cons_append, List.nil_append, List.set_cons_zero, List.set_cons_succ, reduceCtorEq, fill, repl, opd, boxc, finV, resAllV, resOfV, result, eqV, eqIfc, aggCells, part, W_call, Nat.reduceBEq, Nat.beq_eq, S61, hsame]
        exact Ev.some rfl
      | true =>
        have hl0 : Sh.last q e f = 2 := by unfold Sh.last; rw [hw]; rfl
        rw [hw] at o2 o3
        simp only [if_true] at o3
        have S61 := S6.1
        rw [o2] at S61
        unfold Shade.cs at S61
        simp only at S61
        have hz : decide (((2 : Nat) : Int) = 2) = true := rfl
        have hz1 : decide (((2 + 1 : Nat) : Int) = 3) = true := rfl
        have hrow6 : ((k.row R.2).map (V.int .u64))[(Wd.header q).pos k]? = some (.int .u64 (shaded (f (.header q)) e)) := by
          rw [List.getElem?_map, row_at (show (Wd.header q).ok k from hq), o3, wset_same]; rfl
        have hsu : U64 (shaded (f (.header q)) e) := by unfold shaded; rw [hw]; exact word_U64 (shadedH_right _ _)
        have hmk : markedW (shaded (f (.header q)) e) e = true := by
          obtain ⟨hlv, -⟩ := (white_iff _ _).mp hw
          have hsr := shadedH_right (f (.header q)) e
          unfold shaded
          rw [hw, if_pos rfl]
          unfold markedW lives
          rw [okT_word hsr, unp_word hsr]
          unfold lives at hlv
          simp only [Bool.and_eq_true] at hlv
          simp only [shadedH, decide_true, Bool.true_and, Bool.and_true]
          exact hlv.2
        simp only [hl0, hz, hz1, Bool.not_true, nilc_ptr, lenSl_sl, lenSl_nil, eqPtr_ptr, eqPtr_nil, eqPtr_ptr', eqSl_sl, eqSl_nil, ptrAt_ptr, Option.bind_some, Option.map_some, ld1_get', ldN_get', st_get', get_put', get_new', put_put', ldB_cells, ldNB_cells, stB_cells, H.next_new, H.next_put, List.getElem?_cons_zero, List.getElem?_cons_succ, Nat.zero_add, Nat.add_zero, Nat.reduceAdd, Nat.reduceLeDiff, Nat.reduceLT, Nat.reduceMul, Nat.reduceSub, Nat.reduceEqDiff, Int.reduceEq, Int.reduceLT, Int.reduceLE, Int.reduceNeg, V.one, V.cells, V.beq, V.beqs, ckB_some, asI_int, asB_bool, asIAny, asS, List.length_cons, List.length_nil, Nat.beq_refl, List.all_cons, List.all_nil, Bool.and_true, Bool.and_false, Bool.true_and, Bool.false_and, Bool.not_true, Bool.not_false, Bool.or_false, Bool.false_or, Bool.or_self, Bool.and_self, decide_true, decide_false, if_true, if_false, splice, List.take_succ_cons, List.take_zero, List.drop_succ_cons, List.drop_zero, List.cons_append, List.nil_append, List.set_cons_zero, List.set_cons_succ, reduceCtorEq, fill, repl, opd, boxc, finV, resAllV, resOfV, result, eqV, eqIfc, aggCells, part, W_call, Nat.reduceBEq, Nat.beq_eq, S61, hix, W6, hrow6, refMarked_spec hsu hU, hmk]
        exact Ev.some rfl
  cases hlv : lives (f (.header q)) with
  | false =>
    have hwh : white (f (.header q)) e = false := by unfold white; rw [hlv]; rfl
    rw [hwh] at main
    simp only
    exact main
  | true =>
    have hwh : white (f (.header q)) e = !markedW (f (.header q)) e := by unfold white markedW; rw [hlv]; rfl
    simp only [nilc_ptr, lenSl_sl, lenSl_nil, eqPtr_ptr, eqPtr_nil, eqPtr_ptr', eqSl_sl, eqSl_nil, ptrAt_ptr, Option.bind_some, Option.map_some, ld1_get', ldN_get', st_get', get_put', get_new', put_put', ldB_cells, ldNB_cells, stB_cells, H.next_new, H.next_put, List.getElem?_cons_zero, List.getElem?_cons_succ, Nat.zero_add, Nat.add_zero, Nat.reduceAdd, Nat.reduceLeDiff, Nat.reduceLT, Nat.reduceMul, Nat.reduceSub, Nat.reduceEqDiff, Int.reduceEq, Int.reduceLT, Int.reduceLE, Int.reduceNeg, V.one, V.cells, V.beq, V.beqs, ckB_some, asI_int, asB_bool, asIAny, asS, List.length_cons, List.length_nil, Nat.beq_refl, List.all_cons, List.all_nil, Bool.and_true, Bool.and_false, Bool.true_and, Bool.false_and, Bool.not_true, Bool.not_false, Bool.or_false, Bool.false_or, Bool.or_self, Bool.and_self, decide_true, decide_false, if_true, if_false, splice, List.take_succ_cons, List.take_zero, List.drop_succ_cons, List.drop_zero, List.cons_append, List.nil_append, List.set_cons_zero, List.set_cons_succ, reduceCtorEq, fill, repl, opd, boxc, finV, resAllV, resOfV, result, eqV, eqIfc, aggCells, part, W_call, Nat.reduceBEq, Nat.beq_eq, hix, W3, hrow, refMarked_spec hu hU]
    rw [← hwh]
    exact main
end Wm
end

section
/- The law ShadeTwice, of my machine. -/
namespace Wm
attribute [local congr] bind_congr1
attribute [local irreducible] wr

theorem white_shaded {w e : Int} (hw : white w e = true) : white (shaded w e) e = false := by
  have hsr := shadedH_right w e
  unfold shaded
  rw [hw, if_pos rfl]
  unfold white
  rw [unp_word hsr]
  simp [shadedH]
theorem run_white (q : Nat) (e : Int) (f : Wd → Int) : white ((Sh.run q e f (Sh.last q e f + 1)).2 (.header q)) e = false ∧ (Sh.run q e f (Sh.last q e f + 1)).1.next = 4 := by
  unfold Sh.last
  cases hw : white (f (.header q)) e with
  | false => simp only [Bool.false_eq_true, if_false, Sh.run_black hw, and_self, hw]
  | true => simp only [if_true, Sh.run3 hw, and_self, wset_same, white_shaded hw]

theorem ar9a {n l : Nat} (hn : n ≤ l) (hl : l ≤ 2) : n ≤ 1000000 ∧ decide ((n : Int) < 9) = true := ⟨by omega, decide_eq_true (by omega)⟩

def shShadeTwice : List (Bool × List CSh) := [(true, [.int .i64, .int .i64, .int .i64, .int .i64, .int .i64, .int .i64]), (true, [.int .i64, .int .i64, .bool, .int .i64, .int .i64, .int .i64]), (false, [.int .i64]), (false, [.int .u64])]

theorem lawShadeTwice (h : H) (us : List V) (_ : h.ok) (ha : ArgsOk h.get shShadeTwice us) : Ev (C 10 us h) fun r => r.1 = .bool true := by
  obtain ⟨_, _, rfl, ⟨_, rfl, _, _, rfl, ⟨s, rfl, _⟩, _, _, rfl, ⟨a, rfl, _⟩, _, _, rfl, ⟨c, rfl, _⟩, _, _, rfl, ⟨hd, rfl, _⟩, _, _, rfl, ⟨g, rfl, _⟩, _, _, rfl, ⟨st, rfl, _⟩, rfl⟩, _, _, rfl, ⟨_, rfl, _, _, rfl, ⟨y0, rfl, b0⟩, _, _, rfl, ⟨y1, rfl, b1⟩, _, _, rfl, ⟨y2, rfl⟩, _, _, rfl, ⟨y3, rfl, b3⟩, _, _, rfl, ⟨y4, rfl, b4⟩, _, _, rfl, ⟨y5, rfl, b5⟩, rfl⟩, _, _, rfl, ⟨_, _, hslot, ⟨slot, rfl, _⟩, rfl⟩, _, _, rfl, ⟨_, _, he, ⟨e, rfl, be⟩, rfl⟩, rfl⟩ := ha
  cases hslot; cases he
  refine ⟨_, call_closed (v := .bool true) (af := F.withylaw09_ShadeTwice) (by kernel_rfl) rfl (by rfl) (by rfl) h ?_, rfl⟩
  rw [S.withylaw09_ShadeTwice_eq]
  have okE := H.ok_empty
  generalize H.empty = hE at okE ⊢
  have hfit := Fit_spec ⟨s, a, c, hd, g, st⟩
  have hr := Cfg.fit_R ⟨s, a, c, hd, g, st⟩
  have hbd := Cfg.fit_bd ⟨s, a, c, hd, g, st⟩
  generalize Cfg.fit ⟨s, a, c, hd, g, st⟩ = k at hfit hr hbd
  have hU := wf_u64 be
  have hyi : (⟨y0, y1, y2, y3, y4, y5⟩ : Hdr).i64 := ⟨(wf_i64 b0).2, (wf_i64 b1).2, (wf_i64 b3).2, (wf_i64 b4).2, (wf_i64 b5).2⟩
  have hb := Cfg.bounds hr
  have hS := Cfg.s_S hr
  have hv : ∀ k : Cfg, k.v = .agg [.int .i64 k.s, .int .i64 k.a, .int .i64 k.c, .int .i64 k.hd, .int .i64 k.g, .int .i64 k.st] := fun _ => rfl
  rw [hv, hv] at hfit
  simp only at hfit
  have hpick := pick_ar slot (n := k.S) (by omega) (by omega)
  rw [← hS] at hpick
  have hq := pickT_lt slot (n := k.S) (by omega)
  generalize pickT slot k.S = q at hpick hq
  have hwq : wr .i64 (q : Int) = q := wr64 (by omega) (by omega)
  have hmk : ∀ g : H, g.mkSl 6 48 [.int .i64 0, .int .i64 0, .bool false, .int .i64 0, .int .i64 0, .int .i64 0] k.s k.s = some (.sl g.next 0 k.S (.ex k.S), g.new (.cells ((List.replicate k.S Hdr.zero).map Hdr.cs).flatten .rw)) := fun g => by
    rw [hS]
    refine (mkSl_ok (h := g) (e := 6) (b := 48) (z := Hdr.zero.cs) (l := (k.S : Int)) (c := (k.S : Int)) (by omega) (by omega) (by omega) (by omega) rfl (by omega)).trans ?_
    simp only [Int.toNat_natCast, repl_hdr]
  have hidx : ∀ b, indexAV 6 (.sl b 0 k.S (.ex k.S)) (.int .i64 (q : Int)) = some (.ptr b (q * 6)) := fun b => sl_idx hq
  have hspl := splice_hdr (List.replicate k.S Hdr.zero) q ⟨y0, y1, y2, y3, y4, y5⟩ (by rw [List.length_replicate]; exact hq)
  have hlen6 : ((List.replicate k.S Hdr.zero).map Hdr.cs).flatten.length = k.S * 6 := by rw [flat_length (hdrs6 _), List.length_map, List.length_replicate]
  have hle : decide (q * 6 + 6 ≤ ((List.replicate k.S Hdr.zero).map Hdr.cs).flatten.length) = true := decide_eq_true (by rw [hlen6]; omega)
  have ht : decide (Bk.rw = Bk.ro) = false := rfl
  have n1 : ∀ x : Nat, x ≠ x + 1 := fun x => by omega
  have n2 : ∀ x : Nat, x + 1 ≠ x := fun x => by omega
  have n3 : ∀ x : Nat, x ≠ x + 1 + 1 := fun x => by omega
  have n4 : ∀ x : Nat, x + 1 ≠ x + 1 + 1 := fun x => by omega
  have n5 : ∀ x : Nat, x + 1 + 1 ≠ x := fun x => by omega
  have n6 : ∀ x : Nat, x + 1 + 1 ≠ x + 1 := fun x => by omega
  simp only [S.withylaw09_ShadeTwice, nilc_ptr, lenSl_sl, lenSl_nil, eqPtr_ptr, eqPtr_nil, eqPtr_ptr', eqSl_sl, eqSl_nil, ptrAt_ptr, Option.bind_some, Option.map_some, ld1_get', ldN_get', st_get', get_put', get_new', put_put', ldB_cells, ldNB_cells, stB_cells, H.next_new, H.next_put, List.getElem?_cons_zero, List.getElem?_cons_succ, Nat.zero_add, Nat.add_zero, Nat.reduceAdd, Nat.reduceLeDiff, Nat.reduceLT, Nat.reduceMul, Nat.reduceSub, Nat.reduceEqDiff, Int.reduceEq, Int.reduceLT, Int.reduceLE, Int.reduceNeg, V.one, V.cells, V.beq, V.beqs, ckB_some, asI_int, asB_bool, asIAny, asS, List.length_cons, List.length_nil, Nat.beq_refl, List.all_cons, List.all_nil, Bool.and_true, Bool.and_false, Bool.true_and, Bool.false_and, Bool.not_true, Bool.not_false, Bool.or_false, Bool.false_or, Bool.or_self, Bool.and_self, decide_true, decide_false, if_true, if_false, splice, List.take_succ_cons, List.take_zero, List.drop_succ_cons, List.drop_zero, List.cons_append, List.nil_append, List.set_cons_zero, List.set_cons_succ, reduceCtorEq, fill, repl, opd, boxc, finV, resAllV, resOfV, result, eqV, eqIfc, aggCells, part, W_call, Nat.reduceBEq, Nat.beq_eq, hfit, hpick, hwq, n1, n2]
  rw [hmk]
  simp only [H.next_new, H.next_put]
  generalize hg0 : ((hE.new _).new _).put hE.next _ = g0
  have hc0 : g0.get hE.next = some (.cells [.int .i64 k.s, .int .i64 k.a, .int .i64 k.c, .int .i64 k.hd, .int .i64 k.g, .int .i64 k.st] .rw) := by rw [← hg0]; exact get_put_self _ _ _
  have hy0 : g0.get (hE.next + 1) = some (.cells [.int .i64 y0, .int .i64 y1, .bool y2, .int .i64 y3, .int .i64 y4, .int .i64 y5] .rw) := by
    rw [← hg0, get_put_ne (n2 _)]; exact get_new_self _ _
  have ok0 : g0.ok := by rw [← hg0]; exact ((okE.new _).new _).put (by simp only [H.next_new]; omega) _
  have hn0 : g0.next = hE.next + 2 := by rw [← hg0]; rfl
  have hnn : hE.next + 1 ≠ g0.next := by rw [hn0]; omega
  have hnn0 : hE.next ≠ g0.next := by rw [hn0]; omega
  rw [show hE.next + 1 + 1 = g0.next from hn0.symm]
  simp only [nilc_ptr, lenSl_sl, lenSl_nil, eqPtr_ptr, eqPtr_nil, eqPtr_ptr', eqSl_sl, eqSl_nil, ptrAt_ptr, Option.bind_some, Option.map_some, ld1_get', ldN_get', st_get', get_put', get_new', put_put', ldB_cells, ldNB_cells, stB_cells, H.next_new, H.next_put, List.getElem?_cons_zero, List.getElem?_cons_succ, Nat.zero_add, Nat.add_zero, Nat.reduceAdd, Nat.reduceLeDiff, Nat.reduceLT, Nat.reduceMul, Nat.reduceSub, Nat.reduceEqDiff, Int.reduceEq, Int.reduceLT, Int.reduceLE, Int.reduceNeg, V.one, V.cells, V.beq, V.beqs, ckB_some, asI_int, asB_bool, asIAny, asS, List.length_cons, List.length_nil, Nat.beq_refl, List.all_cons, List.all_nil, Bool.and_true, Bool.and_false, Bool.true_and, Bool.false_and, Bool.not_true, Bool.not_false, Bool.or_false, Bool.false_or, Bool.or_self, Bool.and_self, decide_true, decide_false, if_true, if_false, splice, List.take_succ_cons, List.take_zero, List.drop_succ_cons, List.drop_zero, List.cons_append, List.nil_append, List.set_cons_zero, List.set_cons_succ, reduceCtorEq, fill, repl, opd, boxc, finV, resAllV, resOfV, result, eqV, eqIfc, aggCells, part, W_call, Nat.reduceBEq, Nat.beq_eq, hnn, hnn0, hy0, hc0, hidx, hle, ht]
  refine Ev.bind (filled_spec (k := k) (l := oneH k.S q ⟨y0, y1, y2, y3, y4, y5⟩) hr ?_ ?_ (oneH_i64 hyi) hU) ?_
  · exact (ok0.new _).put (by simp only [H.next_new]; omega) _
  · exact .inr ⟨_, .ex k.S, .rw, by rw [oneH_len], by rw [get_put_self]; exact congrArg (fun l => some (Blk.cells l .rw)) hspl⟩
  rintro ⟨v1, g1⟩ ⟨p, pw, rfl, f1, q1, q2, M⟩
  have hc1 := f1.get ((ok0.new _).put (by simp only [H.next_new]; omega) _) (show _ = some (Blk.cells [.int .i64 k.s, .int .i64 k.a, .int .i64 k.c, .int .i64 k.hd, .int .i64 k.g, .int .i64 k.st] .rw) from by rw [get_put_ne hnn0, get_new_ne hnn0]; exact hc0) (by simp)
  have ok1 := f1.ok
  have M1 : MemF g1 p pw k (oneF k q ⟨y0, y1, y2, y3, y4, y5⟩ e) 0 := ⟨_, M⟩
  clear hg0 hc0 hy0 ok0 hn0 hnn hnn0 f1 M hmk hidx hspl hlen6 hle ht n1 n2 n3 n4 n5 n6 hpick hfit q1 q2
  have hog := oneF_grays (k := k) (q := q) (x := ⟨y0, y1, y2, y3, y4, y5⟩) (e := e)
  generalize oneF k q ⟨y0, y1, y2, y3, y4, y5⟩ e = f at M1 hog
  generalize hE.next = cb at hc1 ⊢
  simp only [nilc_ptr, lenSl_sl, lenSl_nil, eqPtr_ptr, eqPtr_nil, eqPtr_ptr', eqSl_sl, eqSl_nil, ptrAt_ptr, Option.bind_some, Option.map_some, ld1_get', ldN_get', st_get', get_put', get_new', put_put', ldB_cells, ldNB_cells, stB_cells, H.next_new, H.next_put, List.getElem?_cons_zero, List.getElem?_cons_succ, Nat.zero_add, Nat.add_zero, Nat.reduceAdd, Nat.reduceLeDiff, Nat.reduceLT, Nat.reduceMul, Nat.reduceSub, Nat.reduceEqDiff, Int.reduceEq, Int.reduceLT, Int.reduceLE, Int.reduceNeg, V.one, V.cells, V.beq, V.beqs, ckB_some, asI_int, asB_bool, asIAny, asS, List.length_cons, List.length_nil, Nat.beq_refl, List.all_cons, List.all_nil, Bool.and_true, Bool.and_false, Bool.true_and, Bool.false_and, Bool.not_true, Bool.not_false, Bool.or_false, Bool.false_or, Bool.or_self, Bool.and_self, decide_true, decide_false, if_true, if_false, splice, List.take_succ_cons, List.take_zero, List.drop_succ_cons, List.drop_zero, List.cons_append, List.nil_append, List.set_cons_zero, List.set_cons_succ, reduceCtorEq, fill, repl, opd, boxc, finV, resAllV, resOfV, result, eqV, eqIfc, aggCells, part, W_call, Nat.reduceBEq, Nat.beq_eq, hc1]
  refine Ev.bind (NewShade_spec hr hq e ok1) ?_
  rintro ⟨v2, g2⟩ ⟨b, rfl, f2, hb2, S2⟩
  dsimp only at f2 hb2 S2
  have hc2 := f2.get ok1 hc1 (by simp)
  have ok2 := f2.ok
  obtain ⟨pl, pwl, pne⟩ := M1.lt ok1
  have M2 := M1.fr ok1 f2 (by simp) (by simp)
  have nb1 : b ≠ p := by omega
  have nb2 : b ≠ pw := by omega
  simp only [nilc_ptr, lenSl_sl, lenSl_nil, eqPtr_ptr, eqPtr_nil, eqPtr_ptr', eqSl_sl, eqSl_nil, ptrAt_ptr, Option.bind_some, Option.map_some, ld1_get', ldN_get', st_get', get_put', get_new', put_put', ldB_cells, ldNB_cells, stB_cells, H.next_new, H.next_put, List.getElem?_cons_zero, List.getElem?_cons_succ, Nat.zero_add, Nat.add_zero, Nat.reduceAdd, Nat.reduceLeDiff, Nat.reduceLT, Nat.reduceMul, Nat.reduceSub, Nat.reduceEqDiff, Int.reduceEq, Int.reduceLT, Int.reduceLE, Int.reduceNeg, V.one, V.cells, V.beq, V.beqs, ckB_some, asI_int, asB_bool, asIAny, asS, List.length_cons, List.length_nil, Nat.beq_refl, List.all_cons, List.all_nil, Bool.and_true, Bool.and_false, Bool.true_and, Bool.false_and, Bool.not_true, Bool.not_false, Bool.or_false, Bool.false_or, Bool.or_self, Bool.and_self, decide_true, decide_false, if_true, if_false, splice, List.take_succ_cons, List.take_zero, List.drop_succ_cons, List.drop_zero, List.cons_append, List.nil_append, List.set_cons_zero, List.set_cons_succ, reduceCtorEq, fill, repl, opd, boxc, finV, resAllV, resOfV, result, eqV, eqIfc, aggCells, part, W_call, Nat.reduceBEq, Nat.beq_eq, hc2, V.beq]
  refine Ev.bind (NewShade_spec hr hq e ok2) ?_
  rintro ⟨v3, g3⟩ ⟨b', rfl, f3, hb3, T3⟩
  dsimp only at f3 hb3 T3
  have ok3 := f3.ok
  have bl := ok2.lt S2.1
  have le2 := f2.le
  have M3 := M2.fr ok2 f3 (by simp) (by simp)
  have S3 := S2.fr ok2 f3 (by simp)
  have nc1 : b' ≠ p := by omega
  have nc2 : b' ≠ pw := by omega
  have nc3 : b' ≠ b := by omega
  simp only [nilc_ptr, lenSl_sl, lenSl_nil, eqPtr_ptr, eqPtr_nil, eqPtr_ptr', eqSl_sl, eqSl_nil, ptrAt_ptr, Option.bind_some, Option.map_some, ld1_get', ldN_get', st_get', get_put', get_new', put_put', ldB_cells, ldNB_cells, stB_cells, H.next_new, H.next_put, List.getElem?_cons_zero, List.getElem?_cons_succ, Nat.zero_add, Nat.add_zero, Nat.reduceAdd, Nat.reduceLeDiff, Nat.reduceLT, Nat.reduceMul, Nat.reduceSub, Nat.reduceEqDiff, Int.reduceEq, Int.reduceLT, Int.reduceLE, Int.reduceNeg, V.one, V.cells, V.beq, V.beqs, ckB_some, asI_int, asB_bool, asIAny, asS, List.length_cons, List.length_nil, Nat.beq_refl, List.all_cons, List.all_nil, Bool.and_true, Bool.and_false, Bool.true_and, Bool.false_and, Bool.not_true, Bool.not_false, Bool.or_false, Bool.false_or, Bool.or_self, Bool.and_self, decide_true, decide_false, if_true, if_false, splice, List.take_succ_cons, List.take_zero, List.drop_succ_cons, List.drop_zero, List.cons_append, List.nil_append, List.set_cons_zero, List.set_cons_succ, reduceCtorEq, fill, repl, opd, boxc, finV, resAllV, resOfV, result, eqV, eqIfc, aggCells, part, W_call, Nat.reduceBEq, Nat.beq_eq, awake09]
  have hlast : Sh.last q e f ≤ 2 := by unfold Sh.last; split <;> omega
  refine loop_ev (α := Nat) (fun n => S.withylaw09_ShadeTwice_c1_E (.ptr p 0) (.ptr b 0) (.ptr b' 0) (.int .i64 n))
    (fun n g => n ≤ Sh.last q e f ∧ Fr [b, p, pw] g3 g ∧ ShAt g b k q e (Sh.run q e f n).1 ∧ MemF g p pw k (Sh.run q e f n).2 n) (fun n _ => 3 - n)
    (fun r => r.1 = .exit 0 ∧ r.2.1 = S.withylaw09_ShadeTwice_c1_O (.ptr p 0) (.ptr b' 0) ∧ Fr [b, p, pw] g3 r.2.2 ∧ ShAt r.2.2 b k q e (Sh.run q e f (Sh.last q e f + 1)).1 ∧ MemF r.2.2 p pw k (Sh.run q e f (Sh.last q e f + 1)).2 (Sh.last q e f + 1 : Nat))
    0 rfl ⟨Nat.zero_le _, .refl ok3, S3, M3⟩ ?_ ?_
  · rintro n g ⟨hn, fg, Sg, Mg⟩
    rw [S.withylaw09_ShadeTwice_c1_eq]
    obtain ⟨⟨v, g'⟩, e1, r1, r2, r3, r4⟩ := Sg.step fg.ok hq hU Mg nb1 nb2
    obtain ⟨n1, n2⟩ := Sh.run_next q e f n hn
    have hst : decide ((Sh.step q e (Sh.run q e f n).1 (Sh.run q e f n).2).1.next = 4) = decide (n = Sh.last q e f) := n1
    rw [hst] at r1
    rw [n2, if_pos rfl] at r4
    simp only at r1 r2 r3 r4
    subst r1
    obtain ⟨ha1, hlt9⟩ := ar3a hn hlast
    have hw1 := wr1 ha1
    rw [hw1] at r4
    simp only [S.withylaw09_ShadeTwice_c1_S, hlt9, W_call, e1, Option.bind_some, asB_bool, hw1]
    by_cases hnl : n = Sh.last q e f
    · simp only [decide_eq_true hnl, Bool.not_true]
      subst hnl
      exact Ev.some (.inr ⟨by simp, rfl, rfl, fg.trans' r2, r3, r4⟩)
    · simp only [decide_eq_false hnl, Bool.not_false]
      exact Ev.some (.inl ⟨n + 1, rfl, rfl, ⟨(ar3b hn hlast hnl).1, fg.trans' r2, r3, r4⟩, (ar3b hn hlast hnl).2⟩)
  · rintro ⟨x', env, g⟩ ⟨rfl, rfl, fg, Sg, Mg⟩
    simp only at fg Sg Mg ⊢
    rw [S.withylaw09_ShadeTwice_c1_e0_eq]
    have okg := fg.ok
    obtain ⟨w1, w2⟩ := run_white q e f
    have Tg := T3.fr ok3 fg (by simp [nc1, nc2, nc3])
    generalize Sh.run q e f (Sh.last q e f + 1) = R at Sg Mg w1 w2
    simp only [S.withylaw09_ShadeTwice_c1_e0]
    refine Ev.bind (Mg.words okg) ?_
    rintro ⟨v4, g4⟩ ⟨x4, rfl, f4, hx4, W4⟩
    dsimp only at f4 hx4 W4
    have M4 := Mg.fr okg f4 (by simp) (by simp)
    have T4 := Tg.fr okg f4 (by simp)
    have hst : Sh.step q e ⟨false, 0, 0⟩ R.2 = (⟨false, 4, R.2 (.header q)⟩, R.2) := by
      unfold Sh.step; rw [if_pos rfl, w1]; rfl
    refine Ev.bind (T4.step f4.ok hq hU M4 nc1 nc2) ?_
    rintro ⟨v5, g5⟩ ⟨r1, r2, r3, r4⟩
    rw [hst] at r1 r3 r4
    simp only [decide_true] at r1 r2 r3 r4
    subst r1
    have x4n : x4 ≠ b' ∧ x4 ≠ p ∧ x4 ≠ pw := by
      have h1 := okg.lt Tg.1
      obtain ⟨h2, h3, _⟩ := Mg.lt okg
      clear w1 w2 hst hq hS hyi hb hbd
      omega
    have W5 := r2.get f4.ok W4 (by simp [x4n])
    have S61 := r3.1
    unfold Shade.cs at S61
    simp only at S61
    simp only [nilc_ptr, lenSl_sl, lenSl_nil, eqPtr_ptr, eqPtr_nil, eqPtr_ptr', eqSl_sl, eqSl_nil, ptrAt_ptr, Option.bind_some, Option.map_some, ld1_get', ldN_get', st_get', get_put', get_new', put_put', ldB_cells, ldNB_cells, stB_cells, H.next_new, H.next_put, List.getElem?_cons_zero, List.getElem?_cons_succ, Nat.zero_add, Nat.add_zero, Nat.reduceAdd, Nat.reduceLeDiff, Nat.reduceLT, Nat.reduceMul, Nat.reduceSub, Nat.reduceEqDiff, Int.reduceEq, Int.reduceLT, Int.reduceLE, Int.reduceNeg, V.one, V.cells, V.beq, V.beqs, ckB_some, asI_int, asB_bool, asIAny, asS, List.length_cons, List.length_nil, Nat.beq_refl, List.all_cons, List.all_nil, Bool.and_true, Bool.and_false, Bool.true_and, Bool.false_and, Bool.not_true, Bool.not_false, Bool.or_false, Bool.false_or, Bool.or_self, Bool.and_self, decide_true, decide_false, if_true, if_false, splice, List.take_succ_cons, List.take_zero, List.drop_succ_cons, List.drop_zero, List.cons_append, List.nil_append, List.set_cons_zero, List.set_cons_succ, reduceCtorEq, fill, repl, opd, boxc, finV, resAllV, resOfV, result, eqV, eqIfc, aggCells, part, W_call, Nat.reduceBEq, Nat.beq_eq, S61]
    refine Ev.bind (r4.words r2.ok) ?_
    rintro ⟨v6, g6⟩ ⟨x6, rfl, f6, hx6, W6⟩
    dsimp only at f6 hx6 W6
    have W56 := f6.get r2.ok W5 (by simp)
    have hsame := Same_spec (h := g6) (x := .sl x6 0 k.size (.op 1)) (y := .sl x4 0 k.size (.op 1)) (a := k.row R.2) (b := k.row R.2) (rowIs hr W6) (rowIs hr W56) (row_i64 hr _).2 (row_i64 hr _).2
    rw [decide_eq_true rfl] at hsame
    simp only [hsame, Option.bind_some]
    exact Ev.some rfl
end Wm
end

section
/- Any number of shades in one epoch: what holds behind each step. No program in sight. -/
namespace Wm
attribute [local irreducible] wr

theorem filter_upd (n q : Nat) (p p' : Nat → Bool) (h : ∀ i, i ≠ q → p' i = p i) : ((List.range n).filter p').length + (if q < n then (if p q then 1 else 0) else 0) = ((List.range n).filter p).length + (if q < n then (if p' q then 1 else 0) else 0) := by
  induction n with
  | zero => simp
  | succ n ih =>
    rw [List.range_succ, List.filter_append, List.filter_append, List.length_append, List.length_append]
    by_cases hq : n = q
    · subst hq
      rw [if_neg (Nat.lt_irrefl _), if_neg (Nat.lt_irrefl _)] at ih
      rw [if_pos (Nat.lt_succ_self _), if_pos (Nat.lt_succ_self _)]
      have h1 : ∀ r : Nat → Bool, ([n].filter r).length = if r n then 1 else 0 := fun r => by cases hr : r n <;> simp [hr]
      rw [h1, h1]; omega
    · have h1 : [n].filter p' = [n].filter p := by simp [List.filter_cons, h n hq]
      rw [h1]
      have h2 : (q < n + 1) ↔ q < n := by omega
      simp only [h2]
      omega

theorem graysN_wset {k : Cfg} {q : Nat} (hq : q < k.S) (f : Wd → Int) (v : Int) : graysN k (wset f (.header q) v) + (if grayW (f (.header q)) then 1 else 0) = graysN k f + (if grayW v then 1 else 0) := by
  have := filter_upd k.S q (fun i => grayW (f (.header i))) (fun i => grayW (wset f (.header q) v (.header i))) (fun i hi => by
    have : wset f (.header q) v (.header i) = f (.header i) := wset_ne (by simpa using hi)
    simp only [this])
  rw [if_pos hq, if_pos hq] at this
  simp only [wset_same] at this
  exact this
theorem graysN_other {k : Cfg} (f : Wd → Int) {l : Wd} (hl : ∀ q, Wd.header q ≠ l) (v : Int) : graysN k (wset f l v) = graysN k f := by
  unfold graysN
  congr 1
  apply List.filter_congr
  intro q _
  rw [wset_ne (hl q)]

abbrev Shs := List (Nat × Sh)
def holdsOne (p : Nat × Sh) : Bool := decide (p.2.next = 2) || decide (p.2.next = 3)
def grewAt (q : Nat) (p : Nat × Sh) : Bool := decide (p.1 = q) && p.2.grew

def okSh (k : Cfg) (e : Int) (f0 f : Wd → Int) (p : Nat × Sh) : Prop :=
  p.1 < k.S ∧ (p.2.next = 0 ∨ ((p.2.next = 1 ∨ p.2.next = 2) ∧ white p.2.was e = true ∧ p.2.was = f0 (.header p.1)) ∨ ((p.2.next = 3 ∨ p.2.next = 4) ∧ white (f (.header p.1)) e = false))

structure Inv (k : Cfg) (e : Int) (f0 : Wd → Int) (l : Shs) (f : Wd → Int) : Prop where
  hdr : ∀ q, q < k.S → f (.header q) = f0 (.header q) ∨ (white (f0 (.header q)) e = true ∧ f (.header q) = shaded (f0 (.header q)) e)
  sh : ∀ p ∈ l, okSh k e f0 f p
  grays : f .grays = (graysN k f : Int) + (l.countP holdsOne : Nat)
  grew : ∀ q, q < k.S → l.countP (grewAt q) = if f (.header q) = f0 (.header q) then 0 else 1
  few : l.length ≤ 100000
  marked : ∀ q, q < k.S → grayW (f0 (.header q)) = true → white (f0 (.header q)) e = false

/-- How many steps of its own are left at most. -/
def pot (e : Int) (f : Wd → Int) (p : Nat × Sh) : Nat :=
  if p.2.next = 4 then 0 else if p.2.next = 3 then 2 else if p.2.next = 2 then 3 else if p.2.next = 1 then 4 else if white (f (.header p.1)) e then 5 else 1

theorem shaded_ne {w e : Int} (hw : white w e = true) : shaded w e ≠ w := fun q => by
  have := white_shaded hw
  rw [q, hw] at this; cases this
theorem gray_shaded {w e : Int} (hw : white w e = true) : grayW (shaded w e) = true := by
  unfold shaded grayW
  rw [hw, if_pos rfl, okT_word (shadedH_right w e), unp_word (shadedH_right w e)]; rfl

theorem wr_up {x : Int} (h0 : 0 ≤ x) (h1 : x ≤ 1000000) : wr .u64 (x + 1) = x + 1 := wru64 (by omega) (by omega)
theorem wr_down {x : Int} (h0 : 1 ≤ x) (h1 : x ≤ 1000000) : wr .u64 (x + 18446744073709551615) = x - 1 := by simp only [wr]; omega

theorem Inv.bound {k : Cfg} {e : Int} {f0 f : Wd → Int} {l : Shs} (I : Inv k e f0 l f) : 0 ≤ f .grays ∧ (graysN k f : Int) ≤ f .grays ∧ f .grays ≤ (k.S : Int) + l.length := by
  have h1 := graysN_le k f
  have h2 : l.countP holdsOne ≤ l.length := List.countP_le_length
  rw [I.grays]; omega

theorem Inv.step {k : Cfg} (hS : k.S ≤ 64) {e : Int} {f0 f : Wd → Int} {l : Shs} (I : Inv k e f0 l f) {i q : Nat} {s : Sh} (hi : l[i]? = some (q, s)) :
    Inv k e f0 (l.set i (q, (s.step q e f).1)) (s.step q e f).2 ∧ (s.next ≠ 4 → pot e (s.step q e f).2 (q, (s.step q e f).1) < pot e f (q, s)) := by
  obtain ⟨hil, hie⟩ := List.getElem?_eq_some_iff.mp hi
  have hmem : (q, s) ∈ l := List.mem_of_getElem? hi
  obtain ⟨hq, hs⟩ := I.sh _ hmem
  simp only at hq hs
  have hset : ∀ (p : Nat × Sh → Bool) (t : Nat × Sh), (l.set i t).countP p + (if p (q, s) then 1 else 0) = l.countP p + (if p t then 1 else 0) := by
    intro p t
    have h1 : 0 < l.countP p ∨ p (q, s) = false := by
      cases hp : p (q, s) with
      | false => exact .inr rfl
      | true => exact .inl (List.countP_pos_iff.mpr ⟨_, hmem, hp⟩)
    rw [List.countP_set hil, hie]
    rcases h1 with h1 | h1
    · have h2 : (if p (q, s) = true then 1 else 0) ≤ 1 := by split <;> omega
      omega
    · rw [h1]; simp
  have hlen : ∀ t, (l.set i t).length ≤ 100000 := fun t => by rw [List.length_set]; exact I.few
  have hb := I.bound
  have hfew := I.few
  have hsame : ∀ (t : Sh), t.grew = s.grew → (∀ q', (l.set i (q, t)).countP (grewAt q') = l.countP (grewAt q')) := by
    intro t ht q'
    have := hset (grewAt q') (q, t)
    unfold grewAt at this ⊢
    simp only [ht] at this
    omega
  have hmems : ∀ (t : Sh) (f' : Wd → Int), (∀ p, okSh k e f0 f p → okSh k e f0 f' p) → okSh k e f0 f' (q, t) → ∀ p ∈ l.set i (q, t), okSh k e f0 f' p := by
    intro t f' h1 h2 p hp
    rcases List.mem_or_eq_of_mem_set hp with h3 | rfl
    · exact h1 p (I.sh p h3)
    · exact h2
  have hgr : ∀ (v : Int) (p), okSh k e f0 f p → okSh k e f0 (wset f .grays v) p := fun v p hp => by
    unfold okSh at hp ⊢
    rw [wset_ne (by simp)]; exact hp
  have hgr2 : ∀ (v : Int) (q' : Nat), wset f .grays v (.header q') = f (.header q') := fun v q' => wset_ne (by simp)
  obtain ⟨grew, next, was⟩ := s
  simp only at hs
  unfold Sh.step
  simp only
  by_cases c0 : next = 0
  · subst c0
    simp only [if_true]
    have hpot : pot e f (q, ⟨grew, 0, was⟩) = if white (f (.header q)) e then 5 else 1 := rfl
    cases hw : white (f (.header q)) e with
    | true =>
      simp only [if_true]
      have hf0 : f (.header q) = f0 (.header q) := by
        rcases I.hdr q hq with h1 | ⟨h1, h2⟩
        · exact h1
        · rw [h2, white_shaded h1] at hw; cases hw
      refine ⟨⟨I.hdr, hmems _ f (fun _ h => h) ⟨hq, .inr (.inl ⟨.inl rfl, hw, hf0⟩)⟩, ?_, fun q' hq' => by rw [hsame ⟨grew, 1, _⟩ rfl]; exact I.grew q' hq', hlen _, I.marked⟩, fun _ => ?_⟩
      · have := hset holdsOne (q, ⟨grew, 1, f (.header q)⟩)
        simp only [holdsOne, Int.reduceEq, decide_false, Bool.or_self, Bool.false_eq_true, if_false] at this
        rw [I.grays]; unfold holdsOne at *; omega
      · rw [hpot, hw]; unfold pot; simp
    | false =>
      simp only [Bool.false_eq_true, if_false]
      refine ⟨⟨I.hdr, hmems _ f (fun _ h => h) ⟨hq, .inr (.inr ⟨.inr rfl, hw⟩)⟩, ?_, fun q' hq' => by rw [hsame ⟨grew, 4, _⟩ rfl]; exact I.grew q' hq', hlen _, I.marked⟩, fun _ => ?_⟩
      · have := hset holdsOne (q, ⟨grew, 4, f (.header q)⟩)
        simp only [holdsOne, Int.reduceEq, decide_false, Bool.or_self, Bool.false_eq_true, if_false] at this
        rw [I.grays]; unfold holdsOne at *; omega
      · rw [hpot, hw]; unfold pot; simp
  · by_cases c1 : next = 1
    · subst c1
      simp only [Int.reduceEq, if_false, if_true]
      obtain ⟨hw, hw0⟩ : white was e = true ∧ was = f0 (.header q) := by
        rcases hs with h1 | ⟨_, h2⟩ | ⟨h1, _⟩
        · omega
        · exact h2
        · omega
      refine ⟨⟨fun q' hq' => by rw [hgr2]; exact I.hdr q' hq', hmems _ _ (hgr _) ⟨hq, .inr (.inl ⟨.inr rfl, hw, hw0⟩)⟩, ?_, fun q' hq' => by rw [hsame ⟨grew, 2, was⟩ rfl, hgr2]; exact I.grew q' hq', hlen _, I.marked⟩, fun _ => by unfold pot; simp⟩
      have := hset holdsOne (q, ⟨grew, 2, was⟩)
      simp only [holdsOne, Int.reduceEq, decide_false, decide_true, Bool.or_self, Bool.false_eq_true, if_false, Bool.true_or, if_true] at this
      rw [wset_same, wr_up hb.1 (by omega), graysN_other f (fun _ => by simp), I.grays]; unfold holdsOne at *; omega
    · by_cases c2 : next = 2
      · subst c2
        simp only [Int.reduceEq, if_false, if_true]
        obtain ⟨hw, hw0⟩ : white was e = true ∧ was = f0 (.header q) := by
          rcases hs with h1 | ⟨_, h2⟩ | ⟨h1, _⟩
          · omega
          · exact h2
          · omega
        by_cases hc : f (.header q) = was
        · rw [if_pos hc]
          simp only
          have hself : wset f (.header q) (shaded was e) (.header q) = shaded was e := wset_same _ _ _
          have hoth : ∀ q', q' ≠ q → wset f (.header q) (shaded was e) (.header q') = f (.header q') := fun q' h => wset_ne (by simpa using h)
          have hblack := white_shaded hw
          refine ⟨⟨fun q' hq' => ?_, hmems _ _ (fun p hp => ?_) ⟨hq, .inr (.inr ⟨.inr rfl, ?_⟩)⟩, ?_, fun q' hq' => ?_, hlen _, I.marked⟩, fun _ => by unfold pot; simp⟩
          · by_cases hqq : q' = q
            · subst hqq; rw [hself, ← hw0]; exact .inr ⟨hw, rfl⟩
            · rw [hoth q' hqq]; exact I.hdr q' hq'
          · unfold okSh at hp ⊢
            refine ⟨hp.1, ?_⟩
            rcases hp.2 with h1 | h1 | ⟨h1, h2⟩
            · exact .inl h1
            · exact .inr (.inl h1)
            · refine .inr (.inr ⟨h1, ?_⟩)
              by_cases hqq : p.1 = q
              · rw [hqq, hself]; exact hblack
              · rw [hoth _ hqq]; exact h2
          · rw [hself]; exact hblack
          · have h1 := hset holdsOne (q, ⟨true, 4, was⟩)
            have h2 := graysN_wset hq f (shaded was e)
            have h3 : grayW (f (.header q)) = false := by
              cases hg : grayW (f (.header q)) with
              | false => rfl
              | true =>
                have := I.marked q hq (by rw [← hw0, ← hc]; exact hg)
                rw [← hw0, hw] at this; cases this
            rw [gray_shaded hw, h3] at h2
            simp only [holdsOne, Int.reduceEq, decide_false, decide_true, Bool.or_self, Bool.false_eq_true, if_false, Bool.true_or, if_true] at h1 h2
            rw [wset_ne (by simp), I.grays]; unfold holdsOne at *; omega
          · have h1 := hset (grewAt q') (q, ⟨true, 4, was⟩)
            have h2 := I.grew q' hq'
            by_cases hqq : q' = q
            · subst hqq
              rw [hself, if_neg (by rw [← hw0]; exact shaded_ne hw)]
              rw [if_pos (by rw [hc, hw0])] at h2
              have hg : grew = false := by
                cases hgg : grew with
                | false => rfl
                | true =>
                  have : 0 < l.countP (grewAt q') := List.countP_pos_iff.mpr ⟨_, hmem, by simp [grewAt, hgg]⟩
                  omega
              subst hg
              simp [grewAt] at h1
              omega
            · rw [hoth q' hqq]
              have hne : ¬ q = q' := fun h => hqq h.symm
              simp [grewAt, hne] at h1
              rw [h1]; exact h2
        · rw [if_neg hc]
          simp only
          have hblack : white (f (.header q)) e = false := by
            rcases I.hdr q hq with h1 | ⟨h1, h2⟩
            · exact absurd (h1.trans hw0.symm) hc
            · rw [h2]; exact white_shaded h1
          refine ⟨⟨I.hdr, hmems _ f (fun _ h => h) ⟨hq, .inr (.inr ⟨.inl rfl, hblack⟩)⟩, ?_, fun q' hq' => by rw [hsame ⟨grew, 3, was⟩ rfl]; exact I.grew q' hq', hlen _, I.marked⟩, fun _ => by unfold pot; simp⟩
          have := hset holdsOne (q, ⟨grew, 3, was⟩)
          simp only [holdsOne, Int.reduceEq, decide_false, decide_true, Bool.or_self, Bool.false_eq_true, if_false, Bool.true_or, Bool.false_or, if_true] at this
          rw [I.grays]; unfold holdsOne at *; omega
      · by_cases c3 : next = 3
        · subst c3
          simp only [Int.reduceEq, if_false, if_true]
          have hblack : white (f (.header q)) e = false := by
            rcases hs with h1 | ⟨h1, _⟩ | ⟨_, h2⟩
            · omega
            · omega
            · exact h2
          have hone : 1 ≤ l.countP holdsOne := List.countP_pos_iff.mpr ⟨_, hmem, rfl⟩
          refine ⟨⟨fun q' hq' => by rw [hgr2]; exact I.hdr q' hq', hmems _ _ (hgr _) ⟨hq, .inl rfl⟩, ?_, fun q' hq' => by rw [hsame ⟨grew, 0, was⟩ rfl, hgr2]; exact I.grew q' hq', hlen _, I.marked⟩, fun _ => ?_⟩
          · have := hset holdsOne (q, ⟨grew, 0, was⟩)
            simp only [holdsOne, Int.reduceEq, decide_false, decide_true, Bool.or_self, Bool.false_eq_true, if_false, Bool.true_or, Bool.false_or, if_true] at this
            have hgi := I.grays
            rw [wset_same, wr_down (by omega) (by omega), graysN_other f (fun _ => by simp), hgi]; unfold holdsOne at *; omega
          · unfold pot; simp [hgr2, hblack]
        · have c4 : next = 4 := by omega
          subst c4
          simp only [Int.reduceEq, if_false]
          have hsl : l.set i (q, ⟨grew, 4, was⟩) = l := by rw [← hie]; exact List.set_getElem_self hil
          rw [hsl]
          exact ⟨I, fun h => absurd rfl h⟩
end Wm
end

section
/- The law ShadePlays: many shades in the heap, their making and their steps. -/
namespace Wm
attribute [local congr] bind_congr1
attribute [local irreducible] wr

def ptrs (bs : List Nat) : List V := bs.map fun b => V.ptr b 0
theorem ptrs_one (bs : List Nat) : (ptrs bs).all V.one = true := by
  unfold ptrs; rw [List.all_map, List.all_eq_true]; intro _ _; rfl

/-- Shades that stand in these blocks. -/
structure ShsAt (g : H) (k : Cfg) (e : Int) (bs : List Nat) (l : Shs) : Prop where
  len : bs.length = l.length
  at' : ∀ (i q : Nat) (s : Sh), l[i]? = some (q, s) → ∃ b, bs[i]? = some b ∧ ShAt g b k q e s

theorem ShsAt.fr {g g' : H} {L : List Nat} {k : Cfg} {e : Int} {bs : List Nat} {l : Shs} (S : ShsAt g k e bs l) (ok : g.ok) (F : Fr L g g') (h : ∀ b ∈ bs, b ∉ L) : ShsAt g' k e bs l :=
  ⟨S.len, fun i q s hi => by
    obtain ⟨b, h1, h2⟩ := S.at' i q s hi
    exact ⟨b, h1, h2.fr ok F (h b (List.mem_of_getElem? h1))⟩⟩

theorem ShsAt.step {g : H} (ok : g.ok) {k : Cfg} {e : Int} (hU : U64 e) {p pw : Nat} {bs : List Nat} {l : Shs} {f : Wd → Int} {n : Int} (S : ShsAt g k e bs l) (hq : ∀ x ∈ l, x.1 < k.S) (M : MemF g p pw k f n)
    (nd : bs.Nodup) (h1 : p ∉ bs) (h2 : pw ∉ bs) {i q : Nat} {s : Sh} (hi : l[i]? = some (q, s)) {b : Nat} (hb : bs[i]? = some b) :
    Ev (C 91 [.ptr b 0, .ptr p 0] g) fun r => r.1 = .bool (decide ((s.step q e f).1.next = 4)) ∧ Fr (p :: pw :: bs) g r.2 ∧ ShsAt r.2 k e bs (l.set i (q, (s.step q e f).1)) ∧ MemF r.2 p pw k (s.step q e f).2 (if s.works then wr .i64 (n + 1) else n) := by
  obtain ⟨b', hb', hs⟩ := S.at' i q s hi
  rw [hb] at hb'; cases hb'
  have hbm := List.mem_of_getElem? hb
  have n1 : b ≠ p := fun h => h1 (h ▸ hbm)
  have n2 : b ≠ pw := fun h => h2 (h ▸ hbm)
  refine (hs.step ok (hq _ (List.mem_of_getElem? hi)) hU M n1 n2).mono fun r ⟨r1, r2, r3, r4⟩ => ⟨r1, r2.mono fun c hc => .inl ?_, ⟨by rw [List.length_set]; exact S.len, fun j q' s' hj => ?_⟩, r4⟩
  · simp only [List.mem_cons, List.not_mem_nil, or_false] at hc ⊢
    rcases hc with rfl | rfl | rfl
    · exact .inr (.inr hbm)
    · exact .inl rfl
    · exact .inr (.inl rfl)
  · by_cases hij : i = j
    · subst hij
      rw [List.getElem?_set_self (lt_of_get hi)] at hj
      cases hj
      exact ⟨b, hb, r3⟩
    · rw [List.getElem?_set_ne hij] at hj
      obtain ⟨c, hc, hcs⟩ := S.at' j q' s' hj
      refine ⟨c, hc, hcs.fr ok r2 ?_⟩
      have hcm := List.mem_of_getElem? hc
      simp only [List.mem_cons, List.not_mem_nil, or_false, not_or]
      refine ⟨?_, fun h => h1 (h ▸ hcm), fun h => h2 (h ▸ hcm)⟩
      rintro rfl
      have := (List.getElem?_inj (lt_of_get hb) nd).mp (hb.trans hc.symm)
      exact hij this

theorem wr_small {n : Nat} (h : n ≤ 1000000) : wr .i64 (n : Int) = (n : Int) := wr64 (by omega) (by omega)
def newShs (k : Cfg) (ws : List Int) : Shs := ws.map fun w => (pickT w k.S, ⟨false, 0, 0⟩)

section
variable {k : Cfg} (hr : k.R = true) (hS64 : k.S ≤ 12) {e : Int} {g0 : H} (ok0 : g0.ok) {cb : Nat} (hc0 : g0.get cb = some (.cells [.int .i64 k.s, .int .i64 k.a, .int .i64 k.c, .int .i64 k.hd, .int .i64 k.g, .int .i64 k.st] .rw))
  {x3 : V} {ws : List Int} (hx3 : RowN .i64 g0.get x3 ws) (hm : ws.length ≤ 10)
include hr hS64 ok0 hc0 hx3 hm

theorem plays_make (x4 x11 x12 : V) {Q : V × H → Prop}
    (hout : ∀ (x : V) (bs : List Nat) (g : H), Fr [] g0 g → Grown g.get x 1 (ptrs bs) → (∀ b ∈ x.blk, g0.next ≤ b) → bs.Nodup → (∀ b ∈ bs, g0.next ≤ b ∧ b < g.next) → ShsAt g k e bs (newShs k ws) → Ev (S.withylaw09_ShadePlays_c4_e0 W e x3 x4 (.ptr cb 0) x11 x12 x g) Q) :
    Ev ((W.loop (S.withylaw09_ShadePlays_c4_B W) (S.withylaw09_ShadePlays_c4_E (.int .u64 e) x3 x4 (.ptr cb 0) x11 x12 .nilsl (.int .i64 (0 : Nat))) g0).bind fun p1 => S.withylaw09_ShadePlays_K4 W p1.1 p1.2.1 p1.2.2) Q := by
  have hb := Cfg.bounds hr
  have hks := Cfg.s_S hr
  refine loop_ev (α := Nat × V) (fun a => S.withylaw09_ShadePlays_c4_E (.int .u64 e) x3 x4 (.ptr cb 0) x11 x12 a.2 (.int .i64 a.1))
    (fun a g => a.1 ≤ ws.length ∧ Fr [] g0 g ∧ ∃ bs : List Nat, Grown g.get a.2 1 (ptrs bs) ∧ (∀ b ∈ a.2.blk, g0.next ≤ b) ∧ bs.Nodup ∧ (∀ b ∈ bs, g0.next ≤ b ∧ b < g.next) ∧ ShsAt g k e bs (newShs k (ws.take a.1))) (fun a _ => ws.length - a.1)
    (fun r => ∃ x bs, r.1 = .exit 0 ∧ r.2.1 = S.withylaw09_ShadePlays_c4_O (.int .u64 e) x3 x4 (.ptr cb 0) x11 x12 x ∧ Fr [] g0 r.2.2 ∧ Grown r.2.2.get x 1 (ptrs bs) ∧ (∀ b ∈ x.blk, g0.next ≤ b) ∧ bs.Nodup ∧ (∀ b ∈ bs, g0.next ≤ b ∧ b < r.2.2.next) ∧ ShsAt r.2.2 k e bs (newShs k ws))
    (0, .nilsl) rfl ⟨Nat.zero_le _, .refl ok0, [], .nil _ _, by simp [V.blk], List.nodup_nil, by simp, ⟨rfl, by simp [newShs]⟩⟩ ?_ ?_
  · rintro ⟨i, x⟩ g ⟨hi, fg, bs, hG, hGb, nd, hbs, hSh⟩
    simp only at hi hG hGb hSh ⊢
    rw [S.withylaw09_ShadePlays_c4_eq]
    by_cases hic : i < ws.length
    · have hn10 : bs.length ≤ 10 := Nat.le_trans (by rw [hSh.len]; unfold newShs; rw [List.length_map, List.length_take]; exact Nat.min_le_right _ _) hm
      have hn100 : (ptrs bs).length ≤ 1000000 := by unfold ptrs; rw [List.length_map]; exact Nat.le_trans hn10 (by decide)
      have hw : ws[i]? = some ws[i] := List.getElem?_eq_getElem hic
      obtain ⟨b3, i1, i2⟩ := (hx3.fr ok0 fg (by simp)).at hw
      have hcg := fg.get ok0 hc0 (by simp)
      have hpk := pick_ar ws[i] (n := k.S) hb.1.1 (Nat.le_trans hS64 (by decide))
      rw [← hks] at hpk
      have hq := pickT_lt ws[i] (n := k.S) hb.1.1
      have hwq := wr_small (n := pickT ws[i] k.S) (Nat.le_of_lt (Nat.lt_of_lt_of_le hq (Nat.le_trans hS64 (by decide))))
      have hw1 := wr1 (n := i) (Nat.le_trans hi (Nat.le_trans hm (by decide)))
      have hns := NewShade_spec hr hq e fg.ok
      have hmu : ws.length - (i + 1) < ws.length - i := Nat.sub_lt_sub_left hic (Nat.lt_succ_self i)
      simp only [S.withylaw09_ShadePlays_c4_S, hx3.len, Option.bind_some, natlt hic, nilc_ptr, lenSl_sl, lenSl_nil, eqPtr_ptr, eqPtr_nil, eqPtr_ptr', eqSl_sl, eqSl_nil, ptrAt_ptr, Option.bind_some, Option.map_some, ld1_get', ldN_get', st_get', get_put', get_new', put_put', ldB_cells, ldNB_cells, stB_cells, H.next_new, H.next_put, List.getElem?_cons_zero, List.getElem?_cons_succ, Nat.zero_add, Nat.add_zero, Nat.reduceAdd, Nat.reduceLeDiff, Nat.reduceLT, Nat.reduceMul, Nat.reduceSub, Nat.reduceEqDiff, Int.reduceEq, Int.reduceLT, Int.reduceLE, Int.reduceNeg, V.one, V.cells, V.beq, V.beqs, ckB_some, asI_int, asB_bool, asIAny, asS, List.length_cons, List.length_nil, Nat.beq_refl, List.all_cons, List.all_nil, Bool.and_true, Bool.and_false, Bool.true_and, Bool.false_and, Bool.not_true, Bool.not_false, Bool.or_false, Bool.false_or, Bool.or_self, Bool.and_self, decide_true, decide_false, if_true, if_false, splice, List.take_succ_cons, List.take_zero, List.drop_succ_cons, List.drop_zero, List.cons_append, List.nil_append, List.set_cons_zero, List.set_cons_succ, reduceCtorEq, fill, repl, opd, boxc, finV, resAllV, resOfV, result, eqV, eqIfc, aggCells, part, W_call, Nat.reduceBEq, Nat.beq_eq, hcg, i1, i2, hpk, hwq]
      refine Ev.bind hns ?_
      rintro ⟨v1, g1⟩ ⟨b, rfl, f1, hbn, hbs1⟩
      dsimp only at f1 hbn hbs1
      simp only [nilc_ptr, lenSl_sl, lenSl_nil, eqPtr_ptr, eqPtr_nil, eqPtr_ptr', eqSl_sl, eqSl_nil, ptrAt_ptr, Option.bind_some, Option.map_some, ld1_get', ldN_get', st_get', get_put', get_new', put_put', ldB_cells, ldNB_cells, stB_cells, H.next_new, H.next_put, List.getElem?_cons_zero, List.getElem?_cons_succ, Nat.zero_add, Nat.add_zero, Nat.reduceAdd, Nat.reduceLeDiff, Nat.reduceLT, Nat.reduceMul, Nat.reduceSub, Nat.reduceEqDiff, Int.reduceEq, Int.reduceLT, Int.reduceLE, Int.reduceNeg, V.one, V.cells, V.beq, V.beqs, ckB_some, asI_int, asB_bool, asIAny, asS, List.length_cons, List.length_nil, Nat.beq_refl, List.all_cons, List.all_nil, Bool.and_true, Bool.and_false, Bool.true_and, Bool.false_and, Bool.not_true, Bool.not_false, Bool.or_false, Bool.false_or, Bool.or_self, Bool.and_self, decide_true, decide_false, if_true, if_false, splice, List.take_succ_cons, List.take_zero, List.drop_succ_cons, List.drop_zero, List.cons_append, List.nil_append, List.set_cons_zero, List.set_cons_succ, reduceCtorEq, fill, repl, opd, boxc, finV, resAllV, resOfV, result, eqV, eqIfc, aggCells, part, W_call, Nat.reduceBEq, Nat.beq_eq]
      have ok1 := f1.ok
      have hG1 : Grown (g1.new (.cells [.ptr b 0] .rw)).get x 1 (ptrs bs) := (hG.fr fg.ok f1 (by simp)).fr ok1 ((Fr.refl (L := []) ok1).new _) (by simp)
      obtain ⟨x', g2, e2, f2, hG2, hx2, hx2n⟩ := hG1.push (ok1.new _) (get_new_self _ _) rfl rfl (by decide) (bytes := 8) (by decide) hn100
      simp only [e2, Option.bind_some, hw1]
      have f12 : Fr x.blk g g2 := ((f1.mono (by simp)).new _).trans' f2
      have hxb : ∀ c ∈ x.blk, g0.next ≤ c := hGb
      have hbx : b ∉ x.blk := by
        have h1 := hG.lt fg.ok
        intro hc
        exact absurd (h1 b hc) (Nat.not_lt_of_le hbn)
      have hgg1 : g1.next ≤ g2.next := Nat.le_trans (Nat.le_succ _) f2.le
      have hgg : g.next ≤ g2.next := Nat.le_trans f1.le hgg1
      have hbg : b < g2.next := Nat.lt_of_lt_of_le (ok1.lt hbs1.1) hgg1
      have hx20 : ∀ c ∈ x'.blk, g0.next ≤ c := fun c hc => Nat.le_trans (Nat.le_trans fg.le f1.le) (Nat.le_trans (Nat.le_succ _) (hx2 c hc))
      refine Ev.some (.inl ⟨(i + 1, x'), rfl, rfl, ⟨hic, fg.trans f12 (fun c hc => .inr (hGb c hc)), bs ++ [b], ?_, ?_, ?_, ?_, ?_⟩, hmu⟩)
      · have : ptrs (bs ++ [b]) = ptrs bs ++ [.ptr b 0] := by unfold ptrs; rw [List.map_append]; rfl
        rw [this]; exact hG2
      · exact hx20
      · rw [List.nodup_append]
        refine ⟨nd, by simp, fun c hc d hd => ?_⟩
        simp only [List.mem_singleton] at hd
        subst hd
        exact Nat.ne_of_lt (Nat.lt_of_lt_of_le (hbs c hc).2 hbn)
      · intro c hc
        simp only [List.mem_append, List.mem_singleton] at hc
        rcases hc with hc | rfl
        · exact ⟨(hbs c hc).1, Nat.lt_of_lt_of_le (hbs c hc).2 hgg⟩
        · exact ⟨Nat.le_trans fg.le hbn, hbg⟩
      · have hnew : newShs k (ws.take (i + 1)) = newShs k (ws.take i) ++ [(pickT ws[i] k.S, ⟨false, 0, 0⟩)] := by
          unfold newShs; rw [List.take_add_one, hw, List.map_append]; rfl
        rw [hnew]
        have hlen : bs.length = (newShs k (ws.take i)).length := hSh.len
        refine ⟨by rw [List.length_append, List.length_append, hlen]; rfl, fun j q s hj => ?_⟩
        by_cases hjl : j < (newShs k (ws.take i)).length
        · rw [List.getElem?_append_left hjl] at hj
          obtain ⟨c, hc1, hc2⟩ := hSh.at' j q s hj
          refine ⟨c, by rw [List.getElem?_append_left (by rw [hlen]; exact hjl)]; exact hc1, hc2.fr fg.ok f12 ?_⟩
          exact hG.ne hc2.1 (by simp)
        · have hj2 : j = (newShs k (ws.take i)).length := by
            have := lt_of_get hj
            rw [List.length_append, List.length_singleton] at this
            omega
          subst hj2
          rw [List.getElem?_append_right (Nat.le_refl _), Nat.sub_self, List.getElem?_cons_zero] at hj
          cases hj
          refine ⟨b, by rw [← hlen, List.getElem?_append_right (Nat.le_refl _), Nat.sub_self]; rfl, ?_⟩
          exact (hbs1.fr ok1 ((Fr.refl (L := []) ok1).new _) (by simp)).fr (ok1.new _) f2 hbx
    · have : i = ws.length := Nat.le_antisymm hi (Nat.le_of_not_lt hic)
      subst this
      have hlt : decide ((ws.length : Int) < (ws.length : Int)) = false := decide_eq_false (by omega)
      simp only [S.withylaw09_ShadePlays_c4_S, hx3.len, Option.bind_some, hlt]
      rw [List.take_length] at hSh
      exact Ev.some (.inr ⟨by simp, x, bs, rfl, rfl, fg, hG, hGb, nd, hbs, hSh⟩)
  · rintro ⟨x', env, g⟩ ⟨x, bs, rfl, rfl, h1, h2, h3, h4, h5, h6⟩
    simp only at h1 h2 h3 h4 h5 h6 ⊢
    rw [S.withylaw09_ShadePlays_c4_e0_eq]
    exact hout x bs g h1 h2 h3 h4 h5 h6
end
end Wm
end

section
/- The law ShadePlays: the picks. -/
namespace Wm
attribute [local congr] bind_congr1
attribute [local irreducible] wr

theorem ar_total {i a b : Nat} (h1 : a ≤ 20000000000000) (h2 : b ≤ 10) : decide ((i : Int) < wr .i64 ((a : Int) + wr .i64 (12 * (b : Int)))) = decide (i < a + 12 * b) := by
  rw [wr64 (n := 12 * (b : Int)) (by omega) (by omega), wr64 (by omega) (by omega)]
  rw [decide_eq_decide]; omega
theorem ar_up {i : Nat} (hi : i ≤ 30000000000000) : wr .i64 ((i : Int) + 1) = ((i + 1 : Nat) : Int) := by rw [wr64 (by omega) (by omega)]; rfl
theorem ar_upI {n : Int} (h0 : 0 ≤ n) (hn : n ≤ 30000000000000) : wr .i64 (n + 1) = n + 1 := wr64 (by omega) (by omega)
theorem ar_touch {n n' : Int} (h0 : 0 ≤ n) (hn : n ≤ 30000000000000) (h : n' = n ∨ n' = n + 1) : decide (wr .i64 (n + 1) < n') = false := by
  rw [ar_upI h0 hn]; exact decide_eq_false (by omega)
theorem ar_bd {n n' : Int} {i : Nat} (h0 : 0 ≤ n) (hn : n ≤ i) (h : n' = n ∨ n' = n + 1) : 0 ≤ n' ∧ n' ≤ ((i + 1 : Nat) : Int) := by omega
theorem ar_n {n : Int} {i : Nat} (hn : n ≤ i) (hi : i ≤ 30000000000000) : n ≤ 30000000000000 := by omega
theorem ar_mod {x : Int} {m : Nat} (h0 : 0 ≤ x) (hm : 0 < m) : arith .rem .i64 x (m : Int) = some ((x.toNat % m : Nat) : Int) := by
  obtain ⟨a, rfl⟩ : ∃ a : Nat, x = a := ⟨x.toNat, by omega⟩
  simp only [arith, decide_eq_false (show ¬ ((m : Int) = 0) by omega), Int.toNat_natCast]
  rw [tm (by omega)]; rfl
theorem ar_le {a : Int} {g s m : Nat} (h0 : (g : Int) ≤ a) (h1 : a ≤ (s : Int) + m) (hs : s ≤ 64) (hm : m ≤ 10) (hg : g ≤ 64) :
    decide (a < wr .u64 (g : Int)) = false ∧ decide (wr .u64 (wr .i64 ((s : Int) + (m : Int))) < a) = false := by
  rw [wru64 (n := (g : Int)) (by omega) (by omega), wr64 (by omega) (by omega), wru64 (by omega) (by omega)]
  exact ⟨decide_eq_false (by omega), decide_eq_false (by omega)⟩

theorem two_lt (k : Cfg) : 2 < k.size := by unfold Cfg.size Cfg.base; omega
/-- What stays while the shades go on. -/
structure Stay (k : Cfg) (e : Int) (g0 : H) (p pw cb xb : Nat) (x3 x4 x13 : V) (ws pks : List Int) (f0 : Wd → Int) (bs : List Nat) : Prop where
  hr : k.R = true
  s12 : k.S ≤ 12
  hU : U64 e
  ok0 : g0.ok
  cfg : g0.get cb = some (.cells [.int .i64 k.s, .int .i64 k.a, .int .i64 k.c, .int .i64 k.hd, .int .i64 k.g, .int .i64 k.st] .rw)
  row : g0.get xb = some (.cells ((k.row f0).map (.int .u64)) (.gr 1))
  hx3 : RowN .i64 g0.get x3 ws
  hx4 : RowN .i64 g0.get x4 pks
  hG : Grown g0.get x13 1 (ptrs bs)
  nd : bs.Nodup
  lenb : bs.length = ws.length
  few : ws.length ≤ 10
  fewp : pks.length ≤ 20000000000000
  ncb : cb ∉ p :: pw :: bs
  nxb : xb ∉ p :: pw :: bs
  nx3 : ∀ b ∈ x3.blk, b ∉ p :: pw :: bs
  nx4 : ∀ b ∈ x4.blk, b ∉ p :: pw :: bs
  nx13 : ∀ b ∈ x13.blk, b ∉ p :: pw :: bs
  np : p ∉ bs
  npw : pw ∉ bs

/-- What is so behind each step. -/
structure Goes (k : Cfg) (e : Int) (g0 : H) (p pw : Nat) (ws : List Int) (f0 : Wd → Int) (bs : List Nat) (l : Shs) (f : Wd → Int) (n : Int) (g : H) : Prop where
  fr : Fr (p :: pw :: bs) g0 g
  mem : MemF g p pw k f n
  sh : ShsAt g k e bs l
  inv : Inv k e f0 l f
  who : l.map (·.1) = ws.map fun w => pickT w k.S

section
variable {k : Cfg} {e : Int} {g0 : H} {p pw cb xb : Nat} {x3 x4 x13 : V} {ws pks : List Int} {f0 : Wd → Int} {bs : List Nat}
variable (T : Stay k e g0 p pw cb xb x3 x4 x13 ws pks f0 bs)

theorem Goes.len {l : Shs} {f : Wd → Int} {n : Int} {g : H} (G : Goes k e g0 p pw ws f0 bs l f n g) : l.length = ws.length := by
  have := congrArg List.length G.who; simpa using this

theorem who_set {l : Shs} {i q : Nat} {s s' : Sh} (hi : l[i]? = some (q, s)) : (l.set i (q, s')).map (·.1) = l.map (·.1) := by
  rw [List.map_set]
  obtain ⟨h1, h2⟩ := List.getElem?_eq_some_iff.mp hi
  have : (l.map (·.1))[i]'(by rw [List.length_map]; exact h1) = q := by rw [List.getElem_map, h2]
  conv => lhs; rw [← this]
  exact List.set_getElem_self _
include T

/-- A step of one of them. -/
theorem Goes.step {l : Shs} {f : Wd → Int} {n : Int} {g : H} (G : Goes k e g0 p pw ws f0 bs l f n g) (h0 : 0 ≤ n) (hn : n ≤ 30000000000000) {i q : Nat} {s : Sh} (hi : l[i]? = some (q, s)) {b : Nat} (hb : bs[i]? = some b) :
    Ev (C 91 [.ptr b 0, .ptr p 0] g) fun r => r.1 = .bool (decide ((s.step q e f).1.next = 4)) ∧ ∃ n', (n' = n ∨ n' = n + 1) ∧ Goes k e g0 p pw ws f0 bs (l.set i (q, (s.step q e f).1)) (s.step q e f).2 n' r.2 := by
  have hS := T.s12
  have hstep := G.inv.step (Nat.le_trans hS (by decide)) hi
  refine (G.sh.step G.fr.ok T.hU (fun x hx => (G.inv.sh x hx).1) G.mem T.nd T.np T.npw hi hb).mono fun r ⟨r1, r2, r3, r4⟩ => ⟨r1, ?_⟩
  have hw := ar_upI h0 hn
  refine ⟨if s.works then n + 1 else n, by split <;> simp, G.fr.trans' r2, ?_, r3, hstep.1, by rw [who_set hi]; exact G.who⟩
  cases hwk : s.works with
  | true => rw [hwk] at r4; simp only [if_true] at r4 ⊢; rw [hw] at r4; exact r4
  | false => rw [hwk] at r4; simp only [Bool.false_eq_true, if_false] at r4 ⊢; exact r4

theorem Goes.ptr {l : Shs} {f : Wd → Int} {n : Int} {g : H} (G : Goes k e g0 p pw ws f0 bs l f n g) {i : Nat} (hi : i < bs.length) :
    ∃ b q s c, bs[i]? = some b ∧ l[i]? = some (q, s) ∧ indexAV 1 x13 (.int .i64 (i : Int)) = some (.ptr c i) ∧ g.ld1 (.ptr c i) = some (.ptr b 0) := by
  have hl : i < l.length := by rw [G.len, ← T.lenb]; exact hi
  have hb : bs[i]? = some bs[i] := List.getElem?_eq_getElem hi
  have hp : (ptrs bs)[i]? = some (.ptr bs[i] 0) := by unfold ptrs; rw [List.getElem?_map, hb]; rfl
  obtain ⟨c, h1, h2⟩ := (T.hG.fr T.ok0 G.fr T.nx13).at1 hp rfl
  obtain ⟨q, s⟩ : Nat × Sh := l[i]
  exact ⟨bs[i], l[i].1, l[i].2, c, hb, by rw [List.getElem?_eq_getElem hl], h1, h2⟩

theorem plays_one {l : Shs} {f : Wd → Int} {n : Int} {g : H} (G : Goes k e g0 p pw ws f0 bs l f n g) {i : Nat} (h0 : 0 ≤ n) (hn : n ≤ i) (hi : i ≤ 30000000000000) {x16 : Int} (h16 : 0 ≤ x16) (hne : 0 < bs.length) {Q : AX × List V × H → Prop}
    (hout : ∀ l f n g, Goes k e g0 p pw ws f0 bs l f n g → 0 ≤ n → n ≤ ((i + 1 : Nat) : Int) → Ev (some (AX.normal, S.withylaw09_ShadePlays_c6_E (.int .u64 e) x3 x4 (.ptr cb 0) (.ptr p 0) (.sl xb 0 k.size (.op 1)) x13 (.int .i64 ((i + 1 : Nat) : Int)), g)) Q) :
    Ev (S.withylaw09_ShadePlays_c14_n W e x3 x4 (.ptr cb 0) (.ptr p 0) (.sl xb 0 k.size (.op 1)) x13 (i : Int) x16 g) Q := by
  have hj : x16.toNat % bs.length < bs.length := Nat.mod_lt _ hne
  obtain ⟨b, q, s, c, hb, hl, i1, i2⟩ := G.ptr T hj
  have hlen13 : lenSl x13 = some bs.length := by
    have := T.hG.len1; unfold ptrs at this; rw [List.length_map] at this; exact this
  have hmod := ar_mod h16 hne
  have hw1 := ar_up hi
  obtain ⟨⟨v, g1⟩, e1, r1, n', hn', G1⟩ := G.step T h0 (ar_n hn hi) hl hb
  dsimp only at r1 G1
  simp only [S.withylaw09_ShadePlays_c14_n, W_call, G.mem.touches, Option.bind_some, hlen13, hmod, i1, i2, e1]
  obtain ⟨⟨v2, g2⟩, e2, x2, rfl, f2, hx2, W2⟩ := G1.mem.words G1.fr.ok
  dsimp only at f2 hx2 W2
  simp only [e2, Option.bind_some]
  have hpm : p ∈ p :: pw :: bs := by simp
  have okg1 := G1.fr.ok
  have M2 := G1.mem.fr okg1 f2 (by simp) (by simp)
  obtain ⟨hn0, hn'i⟩ := ar_bd h0 hn hn'
  have G2 : Goes k e g0 p pw ws f0 bs (l.set (x16.toNat % bs.length) (q, (s.step q e f).1)) (s.step q e f).2 n' g2 :=
    ⟨G1.fr.trans f2 (by simp), M2, G1.sh.fr okg1 f2 (by simp), G1.inv, G1.who⟩
  generalize l.set (x16.toNat % bs.length) (q, (s.step q e f).1) = l' at G2
  generalize (s.step q e f).2 = f' at G2 W2 M2
  have okg2 := f2.ok
  have hbnd := G2.inv.bound
  have hgl := graysN_le k f'
  have hb64 := T.s12
  have hll := G2.len
  have hfew := T.few
  have hlb := T.lenb
  have hks := Cfg.s_S T.hr
  obtain ⟨hc1, hc2⟩ := ar_le (a := f' .grays) (g := graysN k f') (s := k.S) (m := bs.length) hbnd.2.1 (by rw [hlb, ← hll]; exact hbnd.2.2) (Nat.le_trans hb64 (by decide)) (Nat.le_trans (Nat.le_of_eq hlb) hfew) (Nat.le_trans hgl (Nat.le_trans hb64 (by decide)))
  have hix2 : indexAV 1 (.sl x2 0 k.size (.op 1)) (.int .i64 2) = some (.ptr x2 2) := sl_idx1 (i := 2) (two_lt k)
  have hrow2 : ((k.row f').map (V.int .u64))[2]? = some (.int .u64 (f' .grays)) := by
    rw [List.getElem?_map, show (k.row f')[2]? = some (f' .grays) from row_at (l := .grays) trivial]; rfl
  have hcg : g2.get cb = _ := G2.fr.get T.ok0 T.cfg T.ncb
  have hu : ∀ w ∈ k.row f', U64 w := by obtain ⟨t, m⟩ := M2; exact m.u64
  obtain ⟨⟨v3, g3⟩, e3, rfl, f3⟩ := refGrays_spec T.hr okg2 (rowIs T.hr (c := .op 1) W2) hu
  dsimp only at f3
  have hv : k.v = .agg [.int .i64 k.s, .int .i64 k.a, .int .i64 k.c, .int .i64 k.hd, .int .i64 k.g, .int .i64 k.st] := rfl
  rw [hv] at e3
  have W3 := f3.get okg2 W2 (by simp)
  have hcg3 := f3.get okg2 hcg (by simp)
  have ht2 := ar_touch h0 (ar_n hn hi) hn'
  rw [hks] at hcg3
  rw [S.withylaw09_ShadePlays_c16_eq]
  simp only [S.withylaw09_ShadePlays_c16_S, W_call, M2.touches, asI_int, Option.bind_some, ht2, hix2, ld1_get', W2, ldB_cells, hrow2, V.one, nilc_ptr, lenSl_sl, lenSl_nil, eqPtr_ptr, eqPtr_nil, eqPtr_ptr', eqSl_sl, eqSl_nil, ptrAt_ptr, Option.bind_some, Option.map_some, ld1_get', ldN_get', st_get', get_put', get_new', put_put', ldB_cells, ldNB_cells, stB_cells, H.next_new, H.next_put, List.getElem?_cons_zero, List.getElem?_cons_succ, Nat.zero_add, Nat.add_zero, Nat.reduceAdd, Nat.reduceLeDiff, Nat.reduceLT, Nat.reduceMul, Nat.reduceSub, Nat.reduceEqDiff, Int.reduceEq, Int.reduceLT, Int.reduceLE, Int.reduceNeg, V.one, V.cells, V.beq, V.beqs, ckB_some, asI_int, asB_bool, asIAny, asS, List.length_cons, List.length_nil, Nat.beq_refl, List.all_cons, List.all_nil, Bool.and_true, Bool.and_false, Bool.true_and, Bool.false_and, Bool.not_true, Bool.not_false, Bool.or_false, Bool.false_or, Bool.or_self, Bool.and_self, decide_true, decide_false, if_true, if_false, splice, List.take_succ_cons, List.take_zero, List.drop_succ_cons, List.drop_zero, List.cons_append, List.nil_append, List.set_cons_zero, List.set_cons_succ, reduceCtorEq, fill, repl, opd, boxc, finV, resAllV, resOfV, result, eqV, eqIfc, aggCells, part, W_call, Nat.reduceBEq, Nat.beq_eq, hcg, e3, W3, hcg3, hc1, hlen13, hc2]
  rw [S.withylaw09_ShadePlays_c16_n_eq]
  simp only [S.withylaw09_ShadePlays_c16_n, hw1]
  exact hout l' f' n' g3 ⟨G2.fr.trans f3 (by simp), M2.fr okg2 f3 (by simp) (by simp), G2.sh.fr okg2 f3 (by simp), G2.inv, G2.who⟩ hn0 hn'i
end
end Wm
end

section
/- The law ShadePlays: all picks; then each goes on till it is done. -/
namespace Wm
attribute [local congr] bind_congr1
attribute [local irreducible] wr

theorem pot_le (e : Int) (f : Wd → Int) (p : Nat × Sh) : pot e f p ≤ 5 := by
  unfold pot; repeat (first | split | omega)
theorem ar_20 {j : Nat} (h : j ≤ 5) : decide ((j : Int) < 20) = true ∧ wr .i64 ((j : Int) + 1) = ((j + 1 : Nat) : Int) := ⟨decide_eq_true (by omega), by rw [wr64 (by omega) (by omega)]; rfl⟩
theorem ar_pot {a b j : Nat} (h : b < a) (hj : j + a ≤ 5) : j + 1 + b ≤ 5 ∧ j ≤ 5 ∧ j + 1 ≤ 5 ∧ 6 - (j + 1) < 6 - j := by omega
theorem ar_in {x : Int} {m : Nat} (h0 : ¬ x < 0) : 0 ≤ x := by omega
theorem ar_dec1 {a b : Nat} (h : ¬ a < b) : decide ((a : Int) < (b : Int)) = false := decide_eq_false (by omega)

section
variable {k : Cfg} {e : Int} {g0 : H} {p pw cb xb : Nat} {x3 x4 x13 : V} {ws pks : List Int} {f0 : Wd → Int} {bs : List Nat}
variable (T : Stay k e g0 p pw cb xb x3 x4 x13 ws pks f0 bs)
include T

theorem Stay.len13 : lenSl x13 = some bs.length := by
  have := T.hG.len1; unfold ptrs at this; rw [List.length_map] at this; exact this

theorem plays_picks {l : Shs} {f : Wd → Int} {g : H} (G : Goes k e g0 p pw ws f0 bs l f 0 g) {Q : V × H → Prop}
    (hout : ∀ l f n g, Goes k e g0 p pw ws f0 bs l f n g → 0 ≤ n → n ≤ 21000000000000 → Ev (S.withylaw09_ShadePlays_c6_e2 W e x3 (.ptr cb 0) .dead (.ptr p 0) (.sl xb 0 k.size (.op 1)) x13 g) Q) :
    Ev ((W.loop (S.withylaw09_ShadePlays_c6_B W) (S.withylaw09_ShadePlays_c6_E (.int .u64 e) x3 x4 (.ptr cb 0) (.ptr p 0) (.sl xb 0 k.size (.op 1)) x13 (.int .i64 (0 : Nat))) g).bind fun p0 => S.withylaw09_ShadePlays_K6 W p0.1 p0.2.1 p0.2.2) Q := by
  have hl4 := T.hx4.len
  have hl13 := T.len13
  have hb10 : bs.length ≤ 10 := Nat.le_trans (Nat.le_of_eq T.lenb) T.few
  have htot : ∀ i : Nat, decide ((i : Int) < wr .i64 ((pks.length : Int) + wr .i64 (12 * (bs.length : Int)))) = decide (i < pks.length + 12 * bs.length) := fun i => ar_total T.fewp hb10
  have hbig : pks.length + 12 * bs.length ≤ 20000000000120 := by have := T.fewp; omega
  refine loop_ev (α := Nat) (fun i => S.withylaw09_ShadePlays_c6_E (.int .u64 e) x3 x4 (.ptr cb 0) (.ptr p 0) (.sl xb 0 k.size (.op 1)) x13 (.int .i64 i))
    (fun i g => i ≤ pks.length + 12 * bs.length ∧ ∃ l f n, Goes k e g0 p pw ws f0 bs l f n g ∧ 0 ≤ n ∧ n ≤ (i : Int)) (fun i _ => pks.length + 12 * bs.length - i)
    (fun r => r.1 = .exit 2 ∧ r.2.1 = S.withylaw09_ShadePlays_c6_O (.int .u64 e) x3 (.ptr cb 0) .dead (.ptr p 0) (.sl xb 0 k.size (.op 1)) x13 ∧ ∃ l f n, Goes k e g0 p pw ws f0 bs l f n r.2.2 ∧ 0 ≤ n ∧ n ≤ 21000000000000)
    0 rfl ⟨Nat.zero_le _, l, f, 0, G, Int.le_refl _, Int.le_refl _⟩ ?_ ?_
  · rintro i g ⟨hi, l, f, n, G, hn0, hn⟩
    rw [S.withylaw09_ShadePlays_c6_eq]
    simp only [S.withylaw09_ShadePlays_c6_S, S.withylaw09_ShadePlays_c9_eq, S.withylaw09_ShadePlays_c9_S, hl4, hl13, Option.bind_some, htot]
    rw [S.withylaw09_ShadePlays_c9_n_eq]
    by_cases hit : i < pks.length + 12 * bs.length
    · have hi3 : i ≤ 30000000000000 := by omega
      have hmu : pks.length + 12 * bs.length - (i + 1) < pks.length + 12 * bs.length - i := Nat.sub_lt_sub_left hit (Nat.lt_succ_self i)
      have hw1 := ar_up hi3
      have hskip : Ev (some (AX.normal, S.withylaw09_ShadePlays_c6_E (.int .u64 e) x3 x4 (.ptr cb 0) (.ptr p 0) (.sl xb 0 k.size (.op 1)) x13 (.int .i64 ((i + 1 : Nat) : Int)), g)) fun r => (∃ a', r.1 = .normal ∧ r.2.1 = S.withylaw09_ShadePlays_c6_E (.int .u64 e) x3 x4 (.ptr cb 0) (.ptr p 0) (.sl xb 0 k.size (.op 1)) x13 (.int .i64 (a' : Nat)) ∧ (a' ≤ pks.length + 12 * bs.length ∧ ∃ l f n, Goes k e g0 p pw ws f0 bs l f n r.2.2 ∧ 0 ≤ n ∧ n ≤ (a' : Int)) ∧ pks.length + 12 * bs.length - a' < pks.length + 12 * bs.length - i) ∨ (r.1 ≠ .normal ∧ (r.1 = .exit 2 ∧ r.2.1 = S.withylaw09_ShadePlays_c6_O (.int .u64 e) x3 (.ptr cb 0) .dead (.ptr p 0) (.sl xb 0 k.size (.op 1)) x13 ∧ ∃ l f n, Goes k e g0 p pw ws f0 bs l f n r.2.2 ∧ 0 ≤ n ∧ n ≤ 21000000000000)) :=
        Ev.some (.inl ⟨i + 1, rfl, rfl, ⟨hit, l, f, n, G, hn0, Int.le_trans hn (Int.ofNat_le.mpr (Nat.le_succ i))⟩, hmu⟩)
      have hgo : ∀ x16 : Int, 0 ≤ x16 → 0 < bs.length → Ev (S.withylaw09_ShadePlays_c14_n W e x3 x4 (.ptr cb 0) (.ptr p 0) (.sl xb 0 k.size (.op 1)) x13 (i : Int) x16 g) fun r => (∃ a', r.1 = .normal ∧ r.2.1 = S.withylaw09_ShadePlays_c6_E (.int .u64 e) x3 x4 (.ptr cb 0) (.ptr p 0) (.sl xb 0 k.size (.op 1)) x13 (.int .i64 (a' : Nat)) ∧ (a' ≤ pks.length + 12 * bs.length ∧ ∃ l f n, Goes k e g0 p pw ws f0 bs l f n r.2.2 ∧ 0 ≤ n ∧ n ≤ (a' : Int)) ∧ pks.length + 12 * bs.length - a' < pks.length + 12 * bs.length - i) ∨ (r.1 ≠ .normal ∧ (r.1 = .exit 2 ∧ r.2.1 = S.withylaw09_ShadePlays_c6_O (.int .u64 e) x3 (.ptr cb 0) .dead (.ptr p 0) (.sl xb 0 k.size (.op 1)) x13 ∧ ∃ l f n, Goes k e g0 p pw ws f0 bs l f n r.2.2 ∧ 0 ≤ n ∧ n ≤ 21000000000000)) := fun x16 h16 hne =>
        plays_one T G hn0 hn hi3 h16 hne fun l f n g G' h0' hn' => Ev.some (.inl ⟨i + 1, rfl, rfl, ⟨hit, l, f, n, G', h0', hn'⟩, hmu⟩)
      have hi0 : (0 : Int) ≤ (i : Int) := Int.natCast_nonneg i
      have hneg : decide ((i : Int) < 0) = false := decide_eq_false (Int.not_lt.mpr hi0)
      simp only [S.withylaw09_ShadePlays_c9_n, decide_eq_true hit]
      rw [S.withylaw09_ShadePlays_c12_eq]
      by_cases hip : i < pks.length
      · have hpk : pks[i]? = some pks[i] := List.getElem?_eq_getElem hip
        obtain ⟨bp, p1, p2⟩ := (T.hx4.fr T.ok0 G.fr T.nx4).at hpk
        have hd := natlt hip
        by_cases h300 : (i : Int) < 300
        · have h300' : ¬ (300 ≤ (i : Int)) := Int.not_le.mpr h300
          simp only [S.withylaw09_ShadePlays_c12_S, hl4, Option.bind_some, hd, decide_eq_true h300, p1, p2]
          rw [S.withylaw09_ShadePlays_c12_n_eq]
          simp only [S.withylaw09_ShadePlays_c12_n]
          rw [S.withylaw09_ShadePlays_c14_eq]
          simp only [S.withylaw09_ShadePlays_c14_S, hl4, Option.bind_some, hd, decide_eq_false h300', hl13]
          by_cases hx0 : pks[i] < 0
          · simp only [decide_eq_true hx0, Option.bind_some]
            rw [S.withylaw09_ShadePlays_c14_e3_eq]
            simp only [S.withylaw09_ShadePlays_c14_e3, hw1]
            exact hskip
          · simp only [decide_eq_false hx0]
            by_cases hxl : (bs.length : Int) ≤ pks[i]
            · simp only [decide_eq_true hxl, Option.bind_some]
              rw [S.withylaw09_ShadePlays_c14_e3_eq]
              simp only [S.withylaw09_ShadePlays_c14_e3, hw1]
              exact hskip
            · simp only [decide_eq_false hxl]
              have hne : 0 < bs.length := by
                clear hi3 hmu hw1 hskip hgo
                omega
              have hne' : ¬ ((bs.length : Int) = 0) := by
                clear hi3 hmu hw1 hskip hgo
                omega
              simp only [decide_eq_false hne', Option.bind_some]
              rw [S.withylaw09_ShadePlays_c14_n_eq]
              exact hgo _ (Int.not_lt.mp hx0) hne
        · have h300' : (300 : Int) ≤ (i : Int) := Int.not_lt.mp h300
          simp only [S.withylaw09_ShadePlays_c12_S, hl4, Option.bind_some, hd, decide_eq_false h300]
          rw [S.withylaw09_ShadePlays_c12_n_eq]
          simp only [S.withylaw09_ShadePlays_c12_n]
          rw [S.withylaw09_ShadePlays_c14_eq]
          simp only [S.withylaw09_ShadePlays_c14_S, hl4, Option.bind_some, hd, decide_eq_true h300']
          rw [S.withylaw09_ShadePlays_c14_e3_eq]
          simp only [S.withylaw09_ShadePlays_c14_e3, hw1]
          exact hskip
      · have hd := ar_dec1 hip
        simp only [S.withylaw09_ShadePlays_c12_S, hl4, Option.bind_some, hd]
        rw [S.withylaw09_ShadePlays_c12_n_eq]
        simp only [S.withylaw09_ShadePlays_c12_n]
        rw [S.withylaw09_ShadePlays_c14_eq]
        by_cases hbz : (bs.length : Int) = 0
        · simp only [S.withylaw09_ShadePlays_c14_S, hl4, Option.bind_some, hd, hl13, decide_eq_true hbz]
          rw [S.withylaw09_ShadePlays_c14_e3_eq]
          simp only [S.withylaw09_ShadePlays_c14_e3, hw1]
          exact hskip
        · have hne : 0 < bs.length := Nat.pos_of_ne_zero fun h => hbz (by rw [h]; rfl)
          simp only [S.withylaw09_ShadePlays_c14_S, hl4, Option.bind_some, hd, hl13, decide_eq_false hbz]
          rw [S.withylaw09_ShadePlays_c14_n_eq]
          exact hgo _ hi0 hne
    · simp only [S.withylaw09_ShadePlays_c9_n, decide_eq_false hit]
      have hn3 : n ≤ 21000000000000 := by omega
      exact Ev.some (.inr ⟨by simp, rfl, rfl, l, f, n, G, hn0, hn3⟩)
  · rintro ⟨x', env, g⟩ ⟨rfl, rfl, l, f, n, G, h0, hn⟩
    simp only at G ⊢
    rw [S.withylaw09_ShadePlays_c6_e2_eq]
    exact hout l f n g G h0 hn

/-- Each goes on till it is done. -/
theorem plays_ends {l : Shs} {f : Wd → Int} {n : Int} {g : H} (G : Goes k e g0 p pw ws f0 bs l f n g) (hn0 : 0 ≤ n) (hn : n ≤ 21000000000000) {Q : V × H → Prop}
    (hout : ∀ l f n g, Goes k e g0 p pw ws f0 bs l f n g → (∀ x ∈ l, x.2.next = 4) → Ev (S.withylaw09_ShadePlays_c18_e4 W e x3 (.ptr cb 0) .dead (.ptr p 0) (.sl xb 0 k.size (.op 1)) x13 g) Q) :
    Ev (S.withylaw09_ShadePlays_c6_e2 W e x3 (.ptr cb 0) .dead (.ptr p 0) (.sl xb 0 k.size (.op 1)) x13 g) Q := by
  have hl13 := T.len13
  have hb10 : bs.length ≤ 10 := Nat.le_trans (Nat.le_of_eq T.lenb) T.few
  simp only [S.withylaw09_ShadePlays_c6_e2]
  refine loop_ev (α := Nat) (fun i => S.withylaw09_ShadePlays_c18_E (.int .u64 e) x3 (.ptr cb 0) (.ptr p 0) (.sl xb 0 k.size (.op 1)) x13 (.int .i64 i))
    (fun i g => i ≤ bs.length ∧ ∃ l f n, Goes k e g0 p pw ws f0 bs l f n g ∧ 0 ≤ n ∧ n ≤ 21000000000000 + 10 * (i : Int) ∧ ∀ j q s, j < i → l[j]? = some (q, s) → s.next = 4) (fun i _ => bs.length - i)
    (fun r => r.1 = .exit 4 ∧ r.2.1 = S.withylaw09_ShadePlays_c18_O (.int .u64 e) x3 (.ptr cb 0) .dead (.ptr p 0) (.sl xb 0 k.size (.op 1)) x13 ∧ ∃ l f n, Goes k e g0 p pw ws f0 bs l f n r.2.2 ∧ ∀ x ∈ l, x.2.next = 4)
    0 rfl ⟨Nat.zero_le _, l, f, n, G, hn0, by omega, fun j q s hj => absurd hj (Nat.not_lt_zero _)⟩ ?_ ?_
  · rintro i g ⟨hi, l, f, n, G, hn0, hn, hdone⟩
    rw [S.withylaw09_ShadePlays_c18_eq]
    by_cases hic : i < bs.length
    · simp only [S.withylaw09_ShadePlays_c18_S, hl13, Option.bind_some, natlt hic]
      have hmu : bs.length - (i + 1) < bs.length - i := Nat.sub_lt_sub_left hic (Nat.lt_succ_self i)
      refine loop_ev (α := Nat) (fun j => S.withylaw09_ShadePlays_c21_E (.int .u64 e) x3 (.ptr cb 0) (.ptr p 0) (.sl xb 0 k.size (.op 1)) x13 (.int .i64 i) (.int .i64 j))
        (fun j g => ∃ l f n, Goes k e g0 p pw ws f0 bs l f n g ∧ 0 ≤ n ∧ n ≤ 21000000000000 + 10 * (i : Int) + j ∧ (∀ j q s, j < i → l[j]? = some (q, s) → s.next = 4) ∧ ∃ q s, l[i]? = some (q, s) ∧ j + pot e f (q, s) ≤ 5) (fun j _ => 6 - j)
        (fun r => r.1 = .exit 6 ∧ r.2.1 = S.withylaw09_ShadePlays_c21_O (.int .u64 e) x3 (.ptr cb 0) (.ptr p 0) (.sl xb 0 k.size (.op 1)) x13 (.int .i64 i) ∧ ∃ l f n, Goes k e g0 p pw ws f0 bs l f n r.2.2 ∧ 0 ≤ n ∧ n ≤ 21000000000000 + 10 * (i : Int) + 6 ∧ (∀ j q s, j < i + 1 → l[j]? = some (q, s) → s.next = 4))
        0 rfl ?_ ?_ ?_
      · obtain ⟨b, q, s, c, hb, hl, i1, i2⟩ := G.ptr T hic
        exact ⟨l, f, n, G, hn0, by omega, hdone, q, s, hl, by have := pot_le e f (q, s); omega⟩
      · rintro j g ⟨l, f, n, G, hn0, hn, hdone, q, s, hl, hpot⟩
        rw [S.withylaw09_ShadePlays_c21_eq]
        obtain ⟨b, q', s', c, hb, hl', i1, i2⟩ := G.ptr T hic
        rw [hl] at hl'; cases hl'
        have hj5 : j ≤ 5 := Nat.le_trans (Nat.le_add_right _ _) hpot
        have hn3 : n ≤ 30000000000000 := by omega
        obtain ⟨⟨v, g1⟩, e1, r1, n', hn', G1⟩ := G.step T hn0 hn3 hl hb
        dsimp only at r1 G1
        subst r1
        have hst := G.inv.step (Nat.le_trans T.s12 (by decide)) hl
        obtain ⟨h20, hw1⟩ := ar_20 hj5
        have hn1 : 0 ≤ n' ∧ n' ≤ 21000000000000 + 10 * (i : Int) + ((j + 1 : Nat) : Int) := by
          clear hw1 h20 hst hdone
          omega
        have hset : ∀ t : Nat × Sh, ∀ j q s, j < i → (l.set i t)[j]? = some (q, s) → s.next = 4 := fun t j q s hj h => by
          rw [List.getElem?_set_ne (by omega)] at h
          exact hdone j q s hj h
        simp only [S.withylaw09_ShadePlays_c21_S, h20, i1, i2, Option.bind_some, W_call, e1, asB_bool, hw1]
        by_cases h4 : (s.step q e f).1.next = 4
        · simp only [decide_eq_true h4, Bool.not_true]
          refine Ev.some (.inr ⟨by simp, rfl, rfl, _, _, n', G1, hn1.1, ?_, fun j q s hj h => ?_⟩)
          · have := hn1.2
            clear hw1 h20 hst hdone
            omega
          · by_cases hji : j = i
            · subst hji
              rw [List.getElem?_set_self (lt_of_get hl)] at h
              cases h; exact h4
            · exact hset _ j q s (by omega) h
        · simp only [decide_eq_false h4, Bool.not_false]
          have hs4 : s.next ≠ 4 := fun h => h4 (by unfold Sh.step; rw [h]; simp [h])
          have hlt := hst.2 hs4
          obtain ⟨q1, q2, q3, q4⟩ := ar_pot hlt hpot
          exact Ev.some (.inl ⟨j + 1, rfl, rfl, ⟨_, _, n', G1, hn1.1, hn1.2, hset _, q, _, List.getElem?_set_self (lt_of_get hl), q1⟩, q4⟩)
      · rintro ⟨x', env, g⟩ ⟨rfl, rfl, l, f, n, G, hn0, hn, hdone⟩
        simp only at G ⊢
        rw [S.withylaw09_ShadePlays_c21_e6_eq]
        obtain ⟨b, q, s, c, hb, hl, i1, i2⟩ := G.ptr T hic
        have hn3 : n ≤ 30000000000000 := by omega
        obtain ⟨⟨v, g1⟩, e1, r1, n', hn', G1⟩ := G.step T hn0 hn3 hl hb
        dsimp only at r1 G1
        have h4 := hdone i q s (Nat.lt_succ_self i) hl
        have hstp : s.step q e f = (s, f) := by unfold Sh.step; rw [h4]; rfl
        rw [hstp] at r1 G1
        simp only [h4, decide_true] at r1
        have hsl : l.set i (q, s) = l := by
          obtain ⟨h1, h2⟩ := List.getElem?_eq_some_iff.mp hl
          rw [← h2]; exact List.set_getElem_self h1
        rw [hsl] at G1
        subst r1
        have hw1 := ar_up (i := i) (by omega)
        have hn1 : 0 ≤ n' ∧ n' ≤ 21000000000000 + 10 * ((i + 1 : Nat) : Int) := by
          clear hw1 hdone hstp
          omega
        simp only [S.withylaw09_ShadePlays_c21_e6, i1, i2, Option.bind_some, W_call, e1, asB_bool, Bool.not_true, hw1]
        exact Ev.some (.inl ⟨i + 1, rfl, rfl, ⟨hic, l, f, n', G1, hn1.1, hn1.2, hdone⟩, hmu⟩)
    · have : i = bs.length := Nat.le_antisymm hi (Nat.le_of_not_lt hic)
      subst this
      have hlt : decide ((bs.length : Int) < (bs.length : Int)) = false := ar_dec1 hic
      simp only [S.withylaw09_ShadePlays_c18_S, hl13, Option.bind_some, hlt]
      refine Ev.some (.inr ⟨by simp, rfl, rfl, l, f, n, G, fun x hx => ?_⟩)
      obtain ⟨j, hj, he⟩ := List.mem_iff_getElem.mp hx
      exact hdone j x.1 x.2 (by have := G.len; have := T.lenb; omega) (by rw [List.getElem?_eq_getElem hj, he])
  · rintro ⟨x', env, g⟩ ⟨rfl, rfl, l, f, n, G, hdone⟩
    simp only at G ⊢
    rw [S.withylaw09_ShadePlays_c18_e4_eq]
    exact hout l f n g G hdone
end
end Wm
end

section
/- The law ShadePlays: what is looked at in the end. -/
namespace Wm
attribute [local congr] bind_congr1
attribute [local irreducible] wr

def grewP (p : Nat × Sh) : Bool := p.2.grew
def moved (f0 f : Wd → Int) (q : Nat) : Bool := !decide (f (.header q) = f0 (.header q))
def movedN (f0 f : Wd → Int) (n : Nat) : Nat := ((List.range n).filter (moved f0 f)).length
theorem movedN_succ (f0 f : Wd → Int) (n : Nat) : movedN f0 f (n + 1) = movedN f0 f n + if moved f0 f n then 1 else 0 := by
  unfold movedN
  rw [List.range_succ, List.filter_append, List.length_append]
  congr 1
  cases h : moved f0 f n <;> simp [h]
theorem moved_sum {k : Cfg} {e : Int} {f0 f : Wd → Int} {l : Shs} (I : Inv k e f0 l f) : movedN f0 f k.S = l.countP grewP := by
  have h1 : ∀ n, n ≤ k.S → movedN f0 f n = l.countP fun p => decide (p.1 < n) && p.2.grew := by
    intro n
    induction n with
    | zero => intro _; simp [movedN]
    | succ n ih =>
      intro hn
      rw [movedN_succ, ih (by omega)]
      have h2 := I.grew n hn
      have h3 : (l.countP fun p => decide (p.1 < n + 1) && p.2.grew) = (l.countP fun p => decide (p.1 < n) && p.2.grew) + l.countP (grewAt n) := by
        clear h2 ih I
        induction l with
        | nil => rfl
        | cons p l ih =>
          simp only [List.countP_cons, ih]
          have : (if (decide (p.1 < n + 1) && p.2.grew) = true then 1 else 0) = (if (decide (p.1 < n) && p.2.grew) = true then 1 else 0) + (if grewAt n p = true then 1 else 0) := by
            unfold grewAt
            cases p.2.grew
            · simp
            · simp only [Bool.and_true, decide_eq_true_eq]
              by_cases a1 : p.1 < n
              · rw [if_pos (by omega), if_pos a1, if_neg (by omega)]
              · by_cases a2 : p.1 = n
                · rw [if_pos (by omega), if_neg a1, if_pos a2]
                · rw [if_neg (by omega), if_neg a1, if_neg a2]
          omega
      rw [h3, h2]
      unfold moved
      by_cases h4 : f (.header n) = f0 (.header n)
      · simp [h4]
      · simp [h4]
  rw [h1 k.S (Nat.le_refl _)]
  apply List.countP_congr
  intro p hp
  unfold grewP
  simp [(I.sh p hp).1]

/-- What a slot's header is to be, when so many of those that shade were looked at. -/
def wantT (e : Int) (f0 : Wd → Int) (qs : List Nat) (q : Nat) : Int := if white (f0 (.header q)) e = true ∧ q ∈ qs then shaded (f0 (.header q)) e else f0 (.header q)
theorem want_end {k : Cfg} {e : Int} {f0 f : Wd → Int} {l : Shs} (I : Inv k e f0 l f) (h4 : ∀ x ∈ l, x.2.next = 4) {q : Nat} (hq : q < k.S) : f (.header q) = wantT e f0 (l.map (·.1)) q := by
  unfold wantT
  by_cases hw : white (f0 (.header q)) e = true
  · by_cases hm : q ∈ l.map (·.1)
    · rw [if_pos ⟨hw, hm⟩]
      obtain ⟨x, hx, rfl⟩ := List.mem_map.mp hm
      have h1 := (I.sh x hx).2
      have h2 := h4 x hx
      have h3 : white (f (.header x.1)) e = false := by
        rcases h1 with h1 | ⟨h1, _⟩ | ⟨_, h1⟩
        · omega
        · omega
        · exact h1
      rcases I.hdr x.1 hq with h | ⟨_, h⟩
      · rw [h, hw] at h3; cases h3
      · exact h
    · rw [if_neg fun h => hm h.2]
      have h1 := I.grew q hq
      have h2 : l.countP (grewAt q) = 0 := List.countP_eq_zero.mpr fun x hx h => hm (by
        unfold grewAt at h
        simp only [Bool.and_eq_true, decide_eq_true_eq] at h
        exact List.mem_map.mpr ⟨x, hx, h.1⟩)
      rw [h2] at h1
      by_cases h3 : f (.header q) = f0 (.header q)
      · exact h3
      · rw [if_neg h3] at h1; cases h1
  · rw [if_neg fun h => hw h.1]
    rcases I.hdr q hq with h | ⟨h, _⟩
    · exact h
    · exact absurd h hw

theorem ar_dec0 {a b : Nat} (h : ¬ a < b) : decide ((a : Int) < (b : Int)) = false := decide_eq_false (by omega)
theorem ar_m1 {x : Int} (h0 : -1000000 ≤ x) (h1 : x ≤ 1000000) : wr .i64 (x - 1) = x - 1 := wr64 (by omega) (by omega)

section
variable {k : Cfg} {e : Int} {g0 : H} {p pw cb xb : Nat} {x3 x4 x13 : V} {ws pks : List Int} {f0 : Wd → Int} {bs : List Nat}
variable (T : Stay k e g0 p pw cb xb x3 x4 x13 ws pks f0 bs)
include T

/-- One that shades is looked at for a slot. -/
theorem plays_want {g1 : H} (ok1 : g1.ok) (hc1 : g1.get cb = some (.cells [.int .i64 k.s, .int .i64 k.a, .int .i64 k.c, .int .i64 k.hd, .int .i64 k.g, .int .i64 k.st] .rw))
    (hw1 : g1.get xb = some (.cells ((k.row f0).map (.int .u64)) (.gr 1))) (h3 : RowN .i64 g1.get x3 ws) (hu0 : ∀ l : Wd, l.ok k → U64 (f0 l)) {s : Nat} (hs : s < k.S) (x21 : V) (x22 : Int) {Q : AX × List V × H → Prop}
    (hout : ∀ g, Fr [] g1 g → Ev (S.withylaw09_ShadePlays_c28_e12 W e x3 (.ptr cb 0) (.sl xb 0 k.size (.op 1)) x21 x22 (s : Int) ((Wd.header s).pos k : Nat) (wantT e f0 (ws.map fun w => pickT w k.S) s) g) Q) :
    Ev ((W.loop (S.withylaw09_ShadePlays_c28_B W) (S.withylaw09_ShadePlays_c28_E (.int .u64 e) x3 (.ptr cb 0) (.sl xb 0 k.size (.op 1)) x21 (.int .i64 x22) (.int .i64 (s : Int)) (.int .i64 ((Wd.header s).pos k : Nat)) (.int .u64 (f0 (.header s))) (.int .i64 (0 : Nat))) g1).bind fun p7 => S.withylaw09_ShadePlays_K30 W p7.1 p7.2.1 p7.2.2) Q := by
  have hks := Cfg.s_S T.hr
  have hS := T.s12
  have hb := Cfg.bounds T.hr
  have hl3 := h3.len
  have hpos := pos_lt (show (Wd.header s).ok k from hs)
  have hix : indexAV 1 (.sl xb 0 k.size (.op 1)) (.int .i64 ((Wd.header s).pos k : Nat)) = some (.ptr xb ((Wd.header s).pos k)) := sl_idx1 hpos
  have hrow : ((k.row f0).map (V.int .u64))[(Wd.header s).pos k]? = some (.int .u64 (f0 (.header s))) := by rw [List.getElem?_map, row_at (show (Wd.header s).ok k from hs)]; rfl
  have hus := hu0 (.header s) hs
  refine loop_ev (α := Nat) (fun i => S.withylaw09_ShadePlays_c28_E (.int .u64 e) x3 (.ptr cb 0) (.sl xb 0 k.size (.op 1)) x21 (.int .i64 x22) (.int .i64 (s : Int)) (.int .i64 ((Wd.header s).pos k : Nat)) (.int .u64 (wantT e f0 ((ws.take i).map fun w => pickT w k.S) s)) (.int .i64 i))
    (fun i g => i ≤ ws.length ∧ Fr [] g1 g) (fun i _ => ws.length - i)
    (fun r => r.1 = .exit 12 ∧ r.2.1 = S.withylaw09_ShadePlays_c28_O (.int .u64 e) x3 (.ptr cb 0) (.sl xb 0 k.size (.op 1)) x21 (.int .i64 x22) (.int .i64 (s : Int)) (.int .i64 ((Wd.header s).pos k : Nat)) (.int .u64 (wantT e f0 (ws.map fun w => pickT w k.S) s)) ∧ Fr [] g1 r.2.2)
    0 (by rw [List.take_zero]; unfold wantT; simp) ⟨Nat.zero_le _, .refl ok1⟩ ?_ ?_
  · rintro i g ⟨hi, fg⟩
    rw [S.withylaw09_ShadePlays_c28_eq]
    by_cases hic : i < ws.length
    · have hw : ws[i]? = some ws[i] := List.getElem?_eq_getElem hic
      have hmu : ws.length - (i + 1) < ws.length - i := Nat.sub_lt_sub_left hic (Nat.lt_succ_self i)
      have htk : (ws.take (i + 1)).map (fun w => pickT w k.S) = (ws.take i).map (fun w => pickT w k.S) ++ [pickT ws[i] k.S] := by rw [List.take_add_one, hw, List.map_append]; rfl
      obtain ⟨b3, i1, i2⟩ := (h3.fr ok1 fg (by simp)).at hw
      rw [ld1_get'] at i2
      have hcg := fg.get ok1 hc1 (by simp)
      have hwg := fg.get ok1 hw1 (by simp)
      have hpk := pick_ar ws[i] (n := k.S) hb.1.1 (Nat.le_trans hS (by decide))
      have hq := pickT_lt ws[i] (n := k.S) hb.1.1
      rw [← hks] at hpk
      have hwq := wr_small (n := pickT ws[i] k.S) (Nat.le_of_lt (Nat.lt_of_lt_of_le hq (Nat.le_trans hS (by decide))))
      have hwi := wr1 (n := i) (Nat.le_trans hi (Nat.le_trans T.few (by decide)))
      generalize hy : ((pickT ws[i] k.S : Nat) : Int) = y at hpk hwq
      have hys : decide (y = (s : Int)) = decide (pickT ws[i] k.S = s) := by rw [decide_eq_decide, ← hy]; exact Int.ofNat_inj
      have hne3 : ∀ b c, indexAV 1 x3 (.int .i64 (i : Int)) = some (.ptr b c) → b < g.next := by
        intro b c h
        obtain ⟨_, rfl⟩ | ⟨b', c', kk, rfl, hb'⟩ := h3.fr ok1 fg (by simp)
        · simp at hic
        · rw [sl_idx1 hic] at h; cases h
          exact fg.ok.lt hb'
      have hb3 : b3 ≠ g.next := Nat.ne_of_lt (hne3 _ _ i1)
      have hcn : cb ≠ g.next := fg.ok.ne0 hcg
      simp only [S.withylaw09_ShadePlays_c28_S, hl3, Option.bind_some, natlt hic, hix, ld1_get', hwg, ldB_cells, hrow, V.one, W_call, refUnp_spec hus, List.getElem?_cons_zero, List.getElem?_cons_succ]
      have hst : (g.new (.cells [.int .i64 0, .int .i64 0, .bool false, .int .i64 0, .int .i64 0, .int .i64 0] .rw)).st 6 (.ptr g.next 0) (.agg (unp (f0 (.header s))).cs) = some ((g.new (.cells [.int .i64 0, .int .i64 0, .bool false, .int .i64 0, .int .i64 0, .int .i64 0] .rw)).put g.next (some (.cells (unp (f0 (.header s))).cs .rw))) := by
        unfold Hdr.cs; simp only [nilc_ptr, lenSl_sl, lenSl_nil, eqPtr_ptr, eqPtr_nil, eqPtr_ptr', eqSl_sl, eqSl_nil, ptrAt_ptr, Option.bind_some, Option.map_some, ld1_get', ldN_get', st_get', get_put', get_new', put_put', ldB_cells, ldNB_cells, stB_cells, H.next_new, H.next_put, List.getElem?_cons_zero, List.getElem?_cons_succ, Nat.zero_add, Nat.add_zero, Nat.reduceAdd, Nat.reduceLeDiff, Nat.reduceLT, Nat.reduceMul, Nat.reduceSub, Nat.reduceEqDiff, Int.reduceEq, Int.reduceLT, Int.reduceLE, Int.reduceNeg, V.one, V.cells, V.beq, V.beqs, ckB_some, asI_int, asB_bool, asIAny, asS, List.length_cons, List.length_nil, Nat.beq_refl, List.all_cons, List.all_nil, Bool.and_true, Bool.and_false, Bool.true_and, Bool.false_and, Bool.not_true, Bool.not_false, Bool.or_false, Bool.false_or, Bool.or_self, Bool.and_self, decide_true, decide_false, if_true, if_false, splice, List.take_succ_cons, List.take_zero, List.drop_succ_cons, List.drop_zero, List.cons_append, List.nil_append, List.set_cons_zero, List.set_cons_succ, reduceCtorEq, fill, repl, opd, boxc, finV, resAllV, resOfV, result, eqV, eqIfc, aggCells, part, W_call, Nat.reduceBEq, Nat.beq_eq]
      rw [hst]
      simp only [Option.bind_some]
      generalize hg2 : (g.new (.cells [.int .i64 0, .int .i64 0, .bool false, .int .i64 0, .int .i64 0, .int .i64 0] .rw)).put g.next (some (.cells (unp (f0 (.header s))).cs .rw)) = g2
      have f2 : Fr [] g g2 := by rw [← hg2]; exact ((Fr.refl fg.ok).new _).put (.inr (Nat.le_refl _)) (Nat.lt_succ_self _) _
      have hg2n : g2.get g.next = some (.cells (unp (f0 (.header s))).cs .rw) := by rw [← hg2]; exact get_put_self _ _ _
      have hcg2 := f2.get fg.ok hcg (by simp)
      have hb32 : g2.get b3 = g.get b3 := by rw [← hg2, get_put_ne hb3, get_new_ne hb3]
      rw [← hb32] at i2
      have hUn := unp_right (f0 (.header s))
      rw [S.withylaw09_ShadePlays_c31_eq]
      have key : S.withylaw09_ShadePlays_c31_S W e x3 (.ptr cb 0) (.sl xb 0 k.size (.op 1)) x21 x22 (s : Int) ((Wd.header s).pos k : Nat) (wantT e f0 ((ws.take i).map fun w => pickT w k.S) s) (i : Int) (.ptr g.next 0) (okT (f0 (.header s))) g2 =
          some (.normal, S.withylaw09_ShadePlays_c31_O (.int .u64 e) x3 (.ptr cb 0) (.sl xb 0 k.size (.op 1)) x21 (.int .i64 x22) (.int .i64 (s : Int)) (.int .i64 ((Wd.header s).pos k : Nat)) (.int .u64 (wantT e f0 ((ws.take i).map fun w => pickT w k.S) s)) (.int .i64 (i : Int)) (.ptr g.next 0) (.bool (decide (pickT ws[i] k.S = s) && white (f0 (.header s)) e)), g2) := by
        unfold white lives
        unfold Hdr.cs at hg2n
        simp only [S.withylaw09_ShadePlays_c31_S, i1, i2, Option.bind_some, ld1_get', ptrAt_ptr, Nat.zero_add, hcg2, asIAny, ldB_cells, List.getElem?_cons_zero, V.one]
        rw [hpk, Option.bind_some, hwq, hys]
        cases decide (pickT ws[i] k.S = s) with
        | false => simp only [Bool.false_and]
        | true =>
          cases okT (f0 (.header s)) with
          | false => simp only [Bool.false_and, Bool.true_and]
          | true =>
            by_cases k1 : (unp (f0 (.header s))).kind = 1
            · simp only [nilc_ptr, lenSl_sl, lenSl_nil, eqPtr_ptr, eqPtr_nil, eqPtr_ptr', eqSl_sl, eqSl_nil, ptrAt_ptr, Option.bind_some, Option.map_some, ld1_get', ldN_get', st_get', get_put', get_new', put_put', ldB_cells, ldNB_cells, stB_cells, H.next_new, H.next_put, List.getElem?_cons_zero, List.getElem?_cons_succ, Nat.zero_add, Nat.add_zero, Nat.reduceAdd, Nat.reduceLeDiff, Nat.reduceLT, Nat.reduceMul, Nat.reduceSub, Nat.reduceEqDiff, Int.reduceEq, Int.reduceLT, Int.reduceLE, Int.reduceNeg, V.one, V.cells, V.beq, V.beqs, ckB_some, asI_int, asB_bool, asIAny, asS, List.length_cons, List.length_nil, Nat.beq_refl, List.all_cons, List.all_nil, Bool.and_true, Bool.and_false, Bool.true_and, Bool.false_and, Bool.not_true, Bool.not_false, Bool.or_false, Bool.false_or, Bool.or_self, Bool.and_self, decide_true, decide_false, if_true, if_false, splice, List.take_succ_cons, List.take_zero, List.drop_succ_cons, List.drop_zero, List.cons_append, List.nil_append, List.set_cons_zero, List.set_cons_succ, reduceCtorEq, fill, repl, opd, boxc, finV, resAllV, resOfV, result, eqV, eqIfc, aggCells, part, W_call, Nat.reduceBEq, Nat.beq_eq, hg2n, k1, refBlack_spec T.hU, Bool.true_or]
            · by_cases k2 : (unp (f0 (.header s))).kind = 2
              · simp only [nilc_ptr, lenSl_sl, lenSl_nil, eqPtr_ptr, eqPtr_nil, eqPtr_ptr', eqSl_sl, eqSl_nil, ptrAt_ptr, Option.bind_some, Option.map_some, ld1_get', ldN_get', st_get', get_put', get_new', put_put', ldB_cells, ldNB_cells, stB_cells, H.next_new, H.next_put, List.getElem?_cons_zero, List.getElem?_cons_succ, Nat.zero_add, Nat.add_zero, Nat.reduceAdd, Nat.reduceLeDiff, Nat.reduceLT, Nat.reduceMul, Nat.reduceSub, Nat.reduceEqDiff, Int.reduceEq, Int.reduceLT, Int.reduceLE, Int.reduceNeg, V.one, V.cells, V.beq, V.beqs, ckB_some, asI_int, asB_bool, asIAny, asS, List.length_cons, List.length_nil, Nat.beq_refl, List.all_cons, List.all_nil, Bool.and_true, Bool.and_false, Bool.true_and, Bool.false_and, Bool.not_true, Bool.not_false, Bool.or_false, Bool.false_or, Bool.or_self, Bool.and_self, decide_true, decide_false, if_true, if_false, splice, List.take_succ_cons, List.take_zero, List.drop_succ_cons, List.drop_zero, List.cons_append, List.nil_append, List.set_cons_zero, List.set_cons_succ, reduceCtorEq, fill, repl, opd, boxc, finV, resAllV, resOfV, result, eqV, eqIfc, aggCells, part, W_call, Nat.reduceBEq, Nat.beq_eq, hg2n, k2, refBlack_spec T.hU]
              · simp only [nilc_ptr, lenSl_sl, lenSl_nil, eqPtr_ptr, eqPtr_nil, eqPtr_ptr', eqSl_sl, eqSl_nil, ptrAt_ptr, Option.bind_some, Option.map_some, ld1_get', ldN_get', st_get', get_put', get_new', put_put', ldB_cells, ldNB_cells, stB_cells, H.next_new, H.next_put, List.getElem?_cons_zero, List.getElem?_cons_succ, Nat.zero_add, Nat.add_zero, Nat.reduceAdd, Nat.reduceLeDiff, Nat.reduceLT, Nat.reduceMul, Nat.reduceSub, Nat.reduceEqDiff, Int.reduceEq, Int.reduceLT, Int.reduceLE, Int.reduceNeg, V.one, V.cells, V.beq, V.beqs, ckB_some, asI_int, asB_bool, asIAny, asS, List.length_cons, List.length_nil, Nat.beq_refl, List.all_cons, List.all_nil, Bool.and_true, Bool.and_false, Bool.true_and, Bool.false_and, Bool.not_true, Bool.not_false, Bool.or_false, Bool.false_or, Bool.or_self, Bool.and_self, decide_true, decide_false, if_true, if_false, splice, List.take_succ_cons, List.take_zero, List.drop_succ_cons, List.drop_zero, List.cons_append, List.nil_append, List.set_cons_zero, List.set_cons_succ, reduceCtorEq, fill, repl, opd, boxc, finV, resAllV, resOfV, result, eqV, eqIfc, aggCells, part, W_call, Nat.reduceBEq, Nat.beq_eq, hg2n, k1, k2]
      rw [key]
      simp only [Option.bind_some]
      rw [S.withylaw09_ShadePlays_c31_n_eq]
      by_cases hcond : (decide (pickT ws[i] k.S = s) && white (f0 (.header s)) e) = true
      · obtain ⟨c1, c2⟩ := Bool.and_eq_true_iff.mp hcond
        have c1' := of_decide_eq_true c1
        have hwant : wantT e f0 ((ws.take (i + 1)).map fun w => pickT w k.S) s = (shadedH (f0 (.header s)) e).word := by
          unfold wantT
          rw [htk, if_pos ⟨c2, by rw [c1']; simp⟩]
          unfold shaded; rw [c2, if_pos rfl]
        have hpk2 := refPack_spec (shadedH_right (f0 (.header s)) e)
        unfold shadedH Hdr.cs at hpk2
        simp only at hpk2
        unfold Hdr.cs at hg2n
        rw [hcond]
        simp only [S.withylaw09_ShadePlays_c31_n, nilc_ptr, lenSl_sl, lenSl_nil, eqPtr_ptr, eqPtr_nil, eqPtr_ptr', eqSl_sl, eqSl_nil, ptrAt_ptr, Option.bind_some, Option.map_some, ld1_get', ldN_get', st_get', get_put', get_new', put_put', ldB_cells, ldNB_cells, stB_cells, H.next_new, H.next_put, List.getElem?_cons_zero, List.getElem?_cons_succ, Nat.zero_add, Nat.add_zero, Nat.reduceAdd, Nat.reduceLeDiff, Nat.reduceLT, Nat.reduceMul, Nat.reduceSub, Nat.reduceEqDiff, Int.reduceEq, Int.reduceLT, Int.reduceLE, Int.reduceNeg, V.one, V.cells, V.beq, V.beqs, ckB_some, asI_int, asB_bool, asIAny, asS, List.length_cons, List.length_nil, Nat.beq_refl, List.all_cons, List.all_nil, Bool.and_true, Bool.and_false, Bool.true_and, Bool.false_and, Bool.not_true, Bool.not_false, Bool.or_false, Bool.false_or, Bool.or_self, Bool.and_self, decide_true, decide_false, if_true, if_false, splice, List.take_succ_cons, List.take_zero, List.drop_succ_cons, List.drop_zero, List.cons_append, List.nil_append, List.set_cons_zero, List.set_cons_succ, reduceCtorEq, fill, repl, opd, boxc, finV, resAllV, resOfV, result, eqV, eqIfc, aggCells, part, W_call, Nat.reduceBEq, Nat.beq_eq, refBlack_spec T.hU, hg2n, hpk2, hwi]
        refine Ev.some (.inl ⟨i + 1, rfl, by rw [hwant]; rfl, ⟨hic, ?_⟩, hmu⟩)
        exact (fg.trans f2 (by simp)).put (.inr fg.le) (f2.ok.lt hg2n) _
      · rw [Bool.not_eq_true] at hcond
        have hwant : wantT e f0 ((ws.take (i + 1)).map fun w => pickT w k.S) s = wantT e f0 ((ws.take i).map fun w => pickT w k.S) s := by
          unfold wantT
          rw [htk]
          cases hwh : white (f0 (.header s)) e with
          | false => simp
          | true =>
            rw [hwh, Bool.and_true] at hcond
            have := of_decide_eq_false hcond
            have h2 : ¬ s = pickT ws[i] k.S := fun h => this h.symm
            simp only [List.mem_append, List.mem_singleton, h2, or_false]
        rw [hcond]
        simp only [S.withylaw09_ShadePlays_c31_n, hwi]
        exact Ev.some (.inl ⟨i + 1, rfl, by rw [hwant], ⟨hic, fg.trans f2 (by simp)⟩, hmu⟩)
    · have : i = ws.length := Nat.le_antisymm hi (Nat.le_of_not_lt hic)
      subst this
      simp only [S.withylaw09_ShadePlays_c28_S, hl3, Option.bind_some, ar_dec0 hic]
      rw [List.take_length]
      exact Ev.some (.inr ⟨by simp, rfl, rfl, fg⟩)
  · rintro ⟨x', env, g⟩ ⟨rfl, rfl, fg⟩
    simp only at fg ⊢
    rw [S.withylaw09_ShadePlays_c28_e12_eq]
    exact hout g fg
end
end Wm
end

section
/- The law ShadePlays, of my machine. -/
namespace Wm
attribute [local congr] bind_congr1
attribute [local irreducible] wr

theorem ar_eq0 {a b : Nat} {x : Int} (h : x = (a : Int) - b) (e : a = b) : x = 0 := by omega
theorem ar_D {a b : Nat} {x : Int} (h : x = (a : Int) - b) (ha : a ≤ 10) (hb : b ≤ 12) : wr .i64 (x - 1) = (a : Int) - ((b + 1 : Nat) : Int) := by rw [wr64 (by omega) (by omega)]; omega

section
variable {k : Cfg} {e : Int} {g0 : H} {p pw cb xb : Nat} {x3 x4 x13 : V} {ws pks : List Int} {f0 : Wd → Int} {bs : List Nat}
variable (T : Stay k e g0 p pw cb xb x3 x4 x13 ws pks f0 bs)
include T

theorem plays_look (hu0 : ∀ l : Wd, l.ok k → U64 (f0 l)) {l : Shs} {f : Wd → Int} {n : Int} {g : H} (G : Goes k e g0 p pw ws f0 bs l f n g) (h4 : ∀ x ∈ l, x.2.next = 4) :
    Ev (S.withylaw09_ShadePlays_c18_e4 W e x3 (.ptr cb 0) .dead (.ptr p 0) (.sl xb 0 k.size (.op 1)) x13 g) fun r => r.1 = .bool true := by
  have hl13 := T.len13
  have hks := Cfg.s_S T.hr
  have okg := G.fr.ok
  have hll := G.len
  simp only [S.withylaw09_ShadePlays_c18_e4, W_call]
  refine Ev.bind (G.mem.words okg) ?_
  rintro ⟨v1, g1⟩ ⟨x21, rfl, f1, hx21, W1⟩
  dsimp only at f1 hx21 W1
  have ok1 := f1.ok
  have fr1 : Fr (p :: pw :: bs) g0 g1 := G.fr.trans f1 (by simp)
  have hcg1 := fr1.get T.ok0 T.cfg T.ncb
  have hwg1 := fr1.get T.ok0 T.row T.nxb
  have h31 := T.hx3.fr T.ok0 fr1 T.nx3
  have hG1 := T.hG.fr T.ok0 fr1 T.nx13
  have hsh1 := G.sh.fr okg f1 (by simp)
  have I := G.inv
  have hwho := G.who
  have hfu : ∀ w : Wd, w.ok k → U64 (f w) := fun w hw => G.mem.u64 hw
  clear G f1 hx21
  have hout2 : Ev (S.withylaw09_ShadePlays_c23_e8 W e x3 (.ptr cb 0) (.sl xb 0 k.size (.op 1)) (.sl x21 0 k.size (.op 1)) (l.countP grewP : Nat) g1) fun r => r.1 = .bool true := by
    simp only [S.withylaw09_ShadePlays_c23_e8]
    have hsum := moved_sum I
    have hcp : l.countP grewP ≤ 10 := Nat.le_trans List.countP_le_length (by rw [hll]; exact T.few)
    refine loop_ev (α := Nat × Int) (fun a => S.withylaw09_ShadePlays_c25_E (.int .u64 e) x3 (.ptr cb 0) (.sl xb 0 k.size (.op 1)) (.sl x21 0 k.size (.op 1)) (.int .i64 a.2) (.int .i64 (a.1 : Int)))
      (fun a g => a.1 ≤ k.S ∧ a.2 = ((l.countP grewP : Nat) : Int) - (movedN f0 f a.1 : Nat) ∧ Fr [] g1 g) (fun a _ => k.S - a.1)
      (fun r => r.1 = .exit 10 ∧ r.2.1 = S.withylaw09_ShadePlays_c25_O (.ptr cb 0) .dead (.sl x21 0 k.size (.op 1)) (.int .i64 0) ∧ Fr [] g1 r.2.2)
      (0, ((l.countP grewP : Nat) : Int)) rfl ⟨Nat.zero_le _, by simp [movedN], .refl ok1⟩ ?_ ?_
    · rintro ⟨s, x22⟩ g ⟨hs, hx22, fg⟩
      simp only at hs hx22 ⊢
      have hcg := fg.get ok1 hcg1 (by simp)
      have hwg := fg.get ok1 hwg1 (by simp)
      have hxg := fg.get ok1 W1 (by simp)
      rw [S.withylaw09_ShadePlays_c25_eq]
      by_cases hsS : s < k.S
      · have hd : decide ((s : Int) < k.s) = true := by rw [hks]; exact natlt hsS
        have hat : ∀ h, C 108 [.agg [.int .i64 k.s, .int .i64 k.a, .int .i64 k.c, .int .i64 k.hd, .int .i64 k.g, .int .i64 k.st], .agg [.str ⟨⟨[104, 101, 97, 100, 101, 114]⟩⟩, .int .i64 (s : Int), .int .i64 0]] h = some (.int .i64 ((Wd.header s).pos k : Nat), h) := at_wd T.hr (l := .header s) hsS
        have hpos := pos_lt (show (Wd.header s).ok k from hsS)
        have hix : ∀ b, indexAV 1 (.sl b 0 k.size (.op 1)) (.int .i64 ((Wd.header s).pos k : Nat)) = some (.ptr b ((Wd.header s).pos k)) := fun b => sl_idx1 hpos
        have hrow : ∀ f : Wd → Int, ((k.row f).map (V.int .u64))[(Wd.header s).pos k]? = some (.int .u64 (f (.header s))) := fun f => by rw [List.getElem?_map, row_at (show (Wd.header s).ok k from hsS)]; rfl
        have hmu : k.S - (s + 1) < k.S - s := Nat.sub_lt_sub_left hsS (Nat.lt_succ_self s)
        simp only [S.withylaw09_ShadePlays_c25_S, ptrAt_ptr, Nat.zero_add, ld1_get', ldN_get', hcg, ldB_cells, ldNB_cells, List.getElem?_cons_zero, V.one, Option.bind_some, asI_int, hd, List.length_cons, List.length_nil, Nat.reduceAdd, Nat.reduceLeDiff, decide_true, List.drop_zero, List.take_succ_cons, List.take_zero, W_call, hat, hix, hwg, hrow]
        refine plays_want T fg.ok hcg hwg (h31.fr ok1 fg (by simp)) hu0 hsS _ x22 ?_
        intro g2 f2
        have hwg2 := f2.get fg.ok hwg (by simp)
        have hxg2 := f2.get fg.ok hxg (by simp)
        have hfw := want_end I h4 hsS
        rw [hwho] at hfw
        rw [← hfw]
        have hw1 := wr1 (n := s) (Nat.le_trans hs (Nat.le_trans T.s12 (by decide)))
        have hm := movedN_succ f0 f s
        have hD : movedN f0 f s ≤ 12 := Nat.le_trans (by unfold movedN; have := List.length_filter_le (moved f0 f) (List.range s); rwa [List.length_range] at this) (Nat.le_trans hs T.s12)
        by_cases hmv : f (.header s) = f0 (.header s)
        · have hz : movedN f0 f (s + 1) = movedN f0 f s := by rw [hm]; unfold moved; rw [decide_eq_true hmv]; rfl
          simp only [S.withylaw09_ShadePlays_c28_e12, hix, ld1_get', hwg2, hxg2, ldB_cells, hrow, V.one, Option.bind_some, asI_int, decide_eq_true hmv, Bool.not_true, hmv, decide_true, hw1]
          exact Ev.some (.inl ⟨(s + 1, x22), rfl, rfl, ⟨hsS, by rw [hx22, hz], fg.trans f2 (by simp)⟩, hmu⟩)
        · have hz : movedN f0 f (s + 1) = movedN f0 f s + 1 := by rw [hm]; unfold moved; rw [decide_eq_false hmv]; rfl
          have hdx := ar_D hx22 hcp hD
          simp only [S.withylaw09_ShadePlays_c28_e12, hix, ld1_get', hwg2, hxg2, ldB_cells, hrow, V.one, Option.bind_some, asI_int, decide_eq_false hmv, Bool.not_false, Bool.not_true, decide_true, hw1]
          exact Ev.some (.inl ⟨(s + 1, wr .i64 (x22 - 1)), rfl, rfl, ⟨hsS, by rw [hdx, hz], fg.trans f2 (by simp)⟩, hmu⟩)
      · have : s = k.S := Nat.le_antisymm hs (Nat.le_of_not_lt hsS)
        subst this
        have hd : decide ((k.S : Int) < k.s) = false := by rw [hks]; exact ar_dec0 hsS
        have hx0 := ar_eq0 hx22 hsum.symm
        simp only [S.withylaw09_ShadePlays_c25_S, ptrAt_ptr, Nat.zero_add, ld1_get', hcg, ldB_cells, List.getElem?_cons_zero, V.one, Option.bind_some, asI_int, hd]
        exact Ev.some (.inr ⟨by simp, rfl, by rw [hx0], fg⟩)
    · rintro ⟨x', env, g⟩ ⟨rfl, rfl, fg⟩
      simp only at fg ⊢
      rw [S.withylaw09_ShadePlays_c25_e10_eq]
      have hcg := fg.get ok1 hcg1 (by simp)
      have hxg := fg.get ok1 W1 (by simp)
      obtain ⟨⟨v3, g3⟩, e3, rfl, f3⟩ := refGrays_spec T.hr fg.ok (rowIs T.hr (c := .op 1) hxg) (fun w hw => by
        obtain ⟨l, hl, rfl⟩ := List.mem_map.mp hw
        exact hfu l (mem_locs.mp hl))
      dsimp only at f3
      have hv : k.v = .agg [.int .i64 k.s, .int .i64 k.a, .int .i64 k.c, .int .i64 k.hd, .int .i64 k.g, .int .i64 k.st] := rfl
      rw [hv] at e3
      have hxg3 := f3.get fg.ok hxg (by simp)
      have hix2 : indexAV 1 (.sl x21 0 k.size (.op 1)) (.int .i64 2) = some (.ptr x21 2) := sl_idx1 (i := 2) (two_lt k)
      have hrow2 : ((k.row f).map (V.int .u64))[2]? = some (.int .u64 (f .grays)) := by
        rw [List.getElem?_map, show (k.row f)[2]? = some (f .grays) from row_at (l := .grays) trivial]; rfl
      have hgr : f .grays = (graysN k f : Int) := by
        rw [I.grays]
        have : l.countP holdsOne = 0 := List.countP_eq_zero.mpr fun x hx => by
          unfold holdsOne; rw [h4 x hx]; decide
        rw [this]; simp
      have hgl := graysN_le k f
      have hwg : wr .u64 ((graysN k f : Nat) : Int) = (graysN k f : Nat) := wru64 (Int.natCast_nonneg _) (by have := T.s12; omega)
      have hz : decide ((0 : Int) = 0) = true := rfl
      simp only [S.withylaw09_ShadePlays_c25_e10, hz, hix2, Option.bind_some, ld1_get', hxg, ldB_cells, hrow2, V.one, ldN_get', hcg, ldNB_cells, List.length_cons, List.length_nil, Nat.reduceAdd, Nat.reduceLeDiff, decide_true, List.drop_zero, List.take_succ_cons, List.take_zero, W_call, e3, hxg3, ckB_some, V.beq, BEq.rfl, Bool.and_self, asIAny, asI_int, Nat.zero_add]
      rw [hwg, hgr]
      simp only [decide_true, awake09, Option.bind_some]
      exact Ev.some rfl
  refine loop_ev (α := Nat) (fun i => S.withylaw09_ShadePlays_c23_E (.int .u64 e) x3 (.ptr cb 0) (.sl xb 0 k.size (.op 1)) x13 (.sl x21 0 k.size (.op 1)) (.int .i64 ((l.take i).countP grewP : Nat)) (.int .i64 i))
    (fun i g => i ≤ bs.length ∧ g = g1) (fun i _ => bs.length - i)
    (fun r => r.1 = .exit 8 ∧ r.2.1 = S.withylaw09_ShadePlays_c23_O (.int .u64 e) x3 (.ptr cb 0) (.sl xb 0 k.size (.op 1)) (.sl x21 0 k.size (.op 1)) (.int .i64 (l.countP grewP : Nat)) ∧ r.2.2 = g1)
    0 rfl ⟨Nat.zero_le _, rfl⟩ ?_ ?_
  · rintro i g ⟨hi, rfl⟩
    rw [S.withylaw09_ShadePlays_c23_eq]
    by_cases hic : i < bs.length
    · have hil : i < l.length := by rw [hll, ← T.lenb]; exact hic
      have hli : l[i]? = some l[i] := List.getElem?_eq_getElem hil
      obtain ⟨b, hb1, hb2⟩ := hsh1.at' i l[i].1 l[i].2 hli
      have hp : (ptrs bs)[i]? = some (.ptr b 0) := by unfold ptrs; rw [List.getElem?_map, hb1]; rfl
      obtain ⟨c, j1, j2⟩ := hG1.at1 hp rfl
      have hb21 := hb2.1
      unfold Shade.cs at hb21
      simp only at hb21
      have hmu : bs.length - (i + 1) < bs.length - i := Nat.sub_lt_sub_left hic (Nat.lt_succ_self i)
      have hw1 := wr1 (n := i) (Nat.le_trans hi (Nat.le_trans (Nat.le_of_eq T.lenb) (Nat.le_trans T.few (by decide))))
      have hct : (l.take i).countP grewP ≤ 1000000 := Nat.le_trans List.countP_le_length (by rw [List.length_take]; exact Nat.le_trans (Nat.min_le_left _ _) (Nat.le_trans hi (Nat.le_trans (Nat.le_of_eq T.lenb) (Nat.le_trans T.few (by decide)))))
      have hw2 := wr1 hct
      have htk : (l.take (i + 1)).countP grewP = (l.take i).countP grewP + (if grewP l[i] then 1 else 0) := by
        rw [List.take_add_one, hli, List.countP_append]; simp [List.countP_cons]
      simp only [S.withylaw09_ShadePlays_c23_S, hl13, Option.bind_some, natlt hic, j1, j2, nilc_ptr, ptrAt_ptr, ld1_get', hb21, Nat.zero_add, ldB_cells, List.getElem?_cons_zero, V.one, asB_bool]
      cases hg : l[i].2.grew with
      | true =>
        have : grewP l[i] = true := hg
        rw [this] at htk
        simp only [hw1, hw2]
        exact Ev.some (.inl ⟨i + 1, rfl, by rw [htk]; rfl, ⟨hic, rfl⟩, hmu⟩)
      | false =>
        have : grewP l[i] = false := hg
        rw [this] at htk
        simp only [hw1]
        exact Ev.some (.inl ⟨i + 1, rfl, by rw [htk]; rfl, ⟨hic, rfl⟩, hmu⟩)
    · have hib : i = bs.length := Nat.le_antisymm hi (Nat.le_of_not_lt hic)
      have hil : l.length ≤ i := by rw [hll, ← T.lenb]; exact Nat.le_of_not_lt hic
      simp only [S.withylaw09_ShadePlays_c23_S, hl13, Option.bind_some, ar_dec0 hic, List.take_of_length_le hil]
      exact Ev.some (.inr ⟨by simp, rfl, rfl, rfl⟩)
  · rintro ⟨x', env, g⟩ ⟨rfl, rfl, rfl⟩
    simp only
    rw [S.withylaw09_ShadePlays_c23_e8_eq]
    exact hout2
end
end Wm
end

section
/- The law ShadePlays, of my machine. -/
namespace Wm
attribute [local congr] bind_congr1
attribute [local irreducible] wr

def shShadePlays : List (Bool × List CSh) := [(true, [.int .i64, .int .i64, .int .i64, .int .i64, .int .i64, .int .i64]), (false, [.sl 48 hdrSh]), (false, [.int .u64]), (false, [.sl 8 [.int .i64]]), (false, [.sl 8 [.int .i64]])]

theorem fillF_U64 {k : Cfg} (hr : k.R = true) (l : List Hdr) (e : Int) (w : Wd) : U64 (fillF k l e w) := by
  unfold fillF wset
  split
  · have := graysN_le k (fillH k l e k.S); have := (Cfg.bounds hr).1; exact ⟨by omega, by omega⟩
  · exact fillH_U64 hr l e k.S w
/-- At first nobody did anything. -/
theorem inv0 {k : Cfg} {l : List Hdr} {e : Int} {ws : List Int} (hS : 0 < k.S) (hw : ws.length ≤ 10) : Inv k e (fillF k l e) (newShs k ws) (fillF k l e) where
  hdr q hq := .inl rfl
  sh p hp := by
    obtain ⟨w, _, rfl⟩ := List.mem_map.mp hp
    exact ⟨pickT_lt w hS, .inl rfl⟩
  grays := by
    have h1 : (newShs k ws).countP holdsOne = 0 := List.countP_eq_zero.mpr fun x hx => by
      obtain ⟨w, _, rfl⟩ := List.mem_map.mp hx; simp [holdsOne]
    rw [h1]
    have h2 : graysN k (fillF k l e) = graysN k (fillH k l e k.S) := by unfold fillF; exact graysN_other _ (fun _ => by simp) _
    rw [h2]; unfold fillF; rw [wset_same]; simp
  grew q hq := by
    have h1 : (newShs k ws).countP (grewAt q) = 0 := List.countP_eq_zero.mpr fun x hx => by
      obtain ⟨w, _, rfl⟩ := List.mem_map.mp hx; simp [grewAt]
    rw [h1, if_pos rfl]
  few := by unfold newShs; rw [List.length_map]; omega
  marked q hq hg := by
    have h1 : fillF k l e (.header q) = headF l e q := by
      unfold fillF; rw [wset_ne (by simp)]; simp only [fillH]; rw [if_pos hq]
    rw [h1] at hg ⊢
    unfold headF at hg ⊢
    split at hg
    · rename_i y hy
      split at hg
      · rename_i hr
        rw [if_pos hr]
        unfold grayW at hg
        rw [unp_word hr] at hg
        unfold white
        rw [unp_word hr]
        unfold fixG at hg ⊢
        simp only [Bool.and_eq_true, decide_eq_true_eq] at hg
        simp [hg.2.2]
      · rename_i hr
        rw [if_neg hr]; rfl
    · rfl

theorem lawShadePlays (h : H) (us : List V) (ok : h.ok) (ha : ArgsOk h.get shShadePlays us) : Ev (C 15 us h) fun r => r.1 = .bool true := by
  obtain ⟨_, _, rfl, ⟨_, rfl, _, _, rfl, ⟨s, rfl, _⟩, _, _, rfl, ⟨a, rfl, _⟩, _, _, rfl, ⟨c, rfl, _⟩, _, _, rfl, ⟨hd, rfl, _⟩, _, _, rfl, ⟨g, rfl, _⟩, _, _, rfl, ⟨st, rfl, _⟩, rfl⟩, _, _, rfl, ⟨_, _, hx1, hx1c, rfl⟩, _, _, rfl, ⟨_, _, he, ⟨e, rfl, be⟩, rfl⟩, _, _, rfl, ⟨_, _, hx3, hx3c, rfl⟩, _, _, rfl, ⟨_, _, hx4, hx4c, rfl⟩, rfl⟩ := ha
  cases hx1; cases he; cases hx3; cases hx4
  rename_i x1 x3 x4
  obtain ⟨hl, hx1, hi1, _, _⟩ := rowH_of hx1c
  obtain ⟨ws, hx3, hw3, _, _⟩ := rowN_of hx3c
  obtain ⟨pks, hx4, hw4, hp8, _⟩ := rowN_of hx4c
  refine call_ev (af := F.withylaw09_ShadePlays) (by kernel_rfl) rfl ?_
  rw [S.withylaw09_ShadePlays_eq]
  have hfit := Fit_spec ⟨s, a, c, hd, g, st⟩
  have hr := Cfg.fit_R ⟨s, a, c, hd, g, st⟩
  have hbd := Cfg.fit_bd ⟨s, a, c, hd, g, st⟩
  generalize Cfg.fit ⟨s, a, c, hd, g, st⟩ = k at hfit hr hbd
  have hU := wf_u64 be
  have hS1 : 0 < k.S := (Cfg.bounds hr).1.1
  have hv : ∀ k : Cfg, k.v = .agg [.int .i64 k.s, .int .i64 k.a, .int .i64 k.c, .int .i64 k.hd, .int .i64 k.g, .int .i64 k.st] := fun _ => rfl
  rw [hv, hv] at hfit
  simp only at hfit
  simp only [S.withylaw09_ShadePlays, nilc_ptr, lenSl_sl, lenSl_nil, eqPtr_ptr, eqPtr_nil, eqPtr_ptr', eqSl_sl, eqSl_nil, ptrAt_ptr, Option.bind_some, Option.map_some, ld1_get', ldN_get', st_get', get_put', get_new', put_put', ldB_cells, ldNB_cells, stB_cells, H.next_new, H.next_put, List.getElem?_cons_zero, List.getElem?_cons_succ, Nat.zero_add, Nat.add_zero, Nat.reduceAdd, Nat.reduceLeDiff, Nat.reduceLT, Nat.reduceMul, Nat.reduceSub, Nat.reduceEqDiff, Int.reduceEq, Int.reduceLT, Int.reduceLE, Int.reduceNeg, V.one, V.cells, V.beq, V.beqs, ckB_some, asI_int, asB_bool, asIAny, asS, List.length_cons, List.length_nil, Nat.beq_refl, List.all_cons, List.all_nil, Bool.and_true, Bool.and_false, Bool.true_and, Bool.false_and, Bool.not_true, Bool.not_false, Bool.or_false, Bool.false_or, Bool.or_self, Bool.and_self, decide_true, decide_false, if_true, if_false, splice, List.take_succ_cons, List.take_zero, List.drop_succ_cons, List.drop_zero, List.cons_append, List.nil_append, List.set_cons_zero, List.set_cons_succ, reduceCtorEq, fill, repl, opd, boxc, finV, resAllV, resOfV, result, eqV, eqIfc, aggCells, part, W_call, Nat.reduceBEq, Nat.beq_eq, hfit]
  generalize hg0 : (h.new _).put h.next _ = g0
  have hc0 : g0.get h.next = some (.cells [.int .i64 k.s, .int .i64 k.a, .int .i64 k.c, .int .i64 k.hd, .int .i64 k.g, .int .i64 k.st] .rw) := by rw [← hg0]; exact get_put_self _ _ _
  have f0 : Fr [] h g0 := by rw [← hg0]; exact ((Fr.refl ok).new _).put (.inr (Nat.le_refl _)) (Nat.lt_succ_self _) _
  have hcl : h.next < g0.next := f0.ok.lt hc0
  have hx10 : RowH g0.get x1 hl := hx1.fr ok f0 (by simp)
  refine Ev.bind (filled_spec (k := k) (l := hl) hr f0.ok hx10 hi1 hU) ?_
  rintro ⟨v1, g1⟩ ⟨p, pw, rfl, f1, hp1, hp2, M1⟩
  dsimp only at f1 hp1 hp2 M1
  have ok1 := f1.ok
  have hc1 := f1.get f0.ok hc0 (by simp)
  have f01 : Fr [] h g1 := f0.trans' f1
  have hx31 := hx3.fr ok f01 (by simp)
  have hx41 := hx4.fr ok f01 (by simp)
  have lt3 := hx3.lt ok
  have lt4 := hx4.lt ok
  have M1' : MemF g1 p pw k (fillF k hl e) 0 := ⟨_, M1⟩
  rw [S.withylaw09_ShadePlays_c2_eq]
  simp only [S.withylaw09_ShadePlays_c2_S, hx3.len, Option.bind_some]
  by_cases h10 : 10 < ws.length
  · have hd : decide ((10 : Int) < (ws.length : Int)) = true := decide_eq_true (by omega)
    simp only [hd, Option.bind_some]
    rw [S.withylaw09_ShadePlays_c2_n_eq]
    simp only [S.withylaw09_ShadePlays_c2_n, hx3.len, Option.bind_some, hd, W_call, awake09]
    exact Ev.some rfl
  · have hd : decide ((10 : Int) < (ws.length : Int)) = false := decide_eq_false (by omega)
    have hw10 : ws.length ≤ 10 := Nat.le_of_not_lt h10
    simp only [hd, eqV, eqPtr_ptr, Option.bind_some, W_call, awake09, asB_bool, Bool.not_true]
    rw [S.withylaw09_ShadePlays_c2_n_eq]
    simp only [S.withylaw09_ShadePlays_c2_n, W_call]
    refine Ev.bind (M1'.words ok1) ?_
    rintro ⟨v2, g2⟩ ⟨xb, rfl, f2, hxb, W2⟩
    dsimp only at f2 hxb W2
    have ok2 := f2.ok
    have hc2 := f2.get ok1 hc1 (by simp)
    have hx32 := hx31.fr ok1 f2 (by simp)
    have hx42 := hx41.fr ok1 f2 (by simp)
    have M2 := M1'.fr ok1 f2 (by simp) (by simp)
    obtain ⟨pl, pwl, pne⟩ := M1'.lt ok1
    refine plays_make hr hbd.1 ok2 hc2 hx32 hw10 x4 (.ptr p 0) (.sl xb 0 k.size (.op 1)) ?_
    intro x bs g3 f3 hG hxb3 nd hbs hSh
    have ok3 := f3.ok
    have hlen : bs.length = ws.length := by rw [hSh.len]; unfold newShs; rw [List.length_map]
    have hle0 : h.next ≤ g0.next := f0.le
    have hle1 : g0.next ≤ g1.next := f1.le
    have hle2 : g1.next ≤ g2.next := f2.le
    have hxbl := ok2.lt W2
    have nall : ∀ c, c < g2.next → c ≠ p → c ≠ pw → c ∉ p :: pw :: bs := by
      intro c hc n1 n2
      simp only [List.mem_cons, not_or]
      exact ⟨n1, n2, fun hm => absurd hc (Nat.not_lt_of_le (hbs c hm).1)⟩
    have nold : ∀ c, c < h.next → c ∉ p :: pw :: bs := fun c hc =>
      nall c (Nat.lt_of_lt_of_le hc (Nat.le_trans hle0 (Nat.le_trans hle1 hle2))) (Nat.ne_of_lt (Nat.lt_of_lt_of_le hc (Nat.le_trans hle0 hp1))) (Nat.ne_of_lt (Nat.lt_of_lt_of_le hc (Nat.le_trans hle0 hp2)))
    have T : Stay k e g3 p pw h.next xb x3 x4 x ws pks (fillF k hl e) bs :=
      { hr := hr, s12 := hbd.1, hU := hU, ok0 := ok3, cfg := f3.get ok2 hc2 (by simp), row := f3.get ok2 W2 (by simp), hx3 := hx32.fr ok2 f3 (by simp), hx4 := hx42.fr ok2 f3 (by simp), hG := hG, nd := nd, lenb := hlen, few := hw10, fewp := by omega
        ncb := nall _ (Nat.lt_of_lt_of_le hcl (Nat.le_trans hle1 hle2)) (Nat.ne_of_lt (Nat.lt_of_lt_of_le hcl hp1)) (Nat.ne_of_lt (Nat.lt_of_lt_of_le hcl hp2))
        nxb := nall _ hxbl (Nat.ne_of_gt (Nat.lt_of_lt_of_le pl hxb)) (Nat.ne_of_gt (Nat.lt_of_lt_of_le pwl hxb))
        nx3 := fun c hc => nold c (lt3 c hc)
        nx4 := fun c hc => nold c (lt4 c hc)
        nx13 := fun c hc => by
          have h1 := hxb3 c hc
          have h2 : c ≠ p := Nat.ne_of_gt (Nat.lt_of_lt_of_le pl (Nat.le_trans hle2 h1))
          have h3 : c ≠ pw := Nat.ne_of_gt (Nat.lt_of_lt_of_le pwl (Nat.le_trans hle2 h1))
          simp only [List.mem_cons, not_or]
          refine ⟨h2, h3, fun hm => ?_⟩
          obtain ⟨i, hi, he⟩ := List.mem_iff_getElem.mp hm
          have hil : i < (newShs k ws).length := by rw [← hSh.len]; exact hi
          obtain ⟨b, hb1, hb2⟩ := hSh.at' i _ _ (List.getElem?_eq_getElem hil)
          rw [List.getElem?_eq_getElem hi, he] at hb1
          cases hb1
          exact hG.ne hb2.1 (by simp) hc
        np := fun hm => absurd (Nat.lt_of_lt_of_le pl hle2) (Nat.not_lt_of_le (hbs p hm).1)
        npw := fun hm => absurd (Nat.lt_of_lt_of_le pwl hle2) (Nat.not_lt_of_le (hbs pw hm).1) }
    have G : Goes k e g3 p pw ws (fillF k hl e) bs (newShs k ws) (fillF k hl e) 0 g3 :=
      ⟨.refl ok3, M2.fr ok2 f3 (by simp) (by simp), hSh, inv0 hS1 hw10, by unfold newShs; rw [List.map_map]; rfl⟩
    simp only [S.withylaw09_ShadePlays_c4_e0]
    refine plays_picks T G fun l f n g G hn0 hn => ?_
    exact plays_ends T G hn0 hn fun l f n g G h4 => plays_look T (fun w _ => fillF_U64 hr hl e w) G h4
end Wm
end

