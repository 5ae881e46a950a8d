/- What the functions of plan come to. -/
import Derived.Test.YtmhebljpahogaaaWmProgShadeGrays
import Derived.Test.YtmhebljpahogaaaWmTxtShadeGraysA
set_option linter.all false
namespace Wm

theorem between_spec (x lo hi : Int) (h : H) : C 376 [.int .i64 x, .int .i64 lo, .int .i64 hi] h = some (.bool (decide (lo ≤ x) && decide (x ≤ hi)), h) := by
  refine call_closed (af := F.plan_between) (by kernel_rfl) rfl (by rfl) (by rfl) h ?_
  rw [S.plan_between_eq]
  unfold S.plan_between
  by_cases h1 : lo ≤ x <;> simp [h1, Ev.iff_some]

/-- A config, as a value. -/
def cfgV (s a c hd g st : Int) : V := .agg [.int .i64 s, .int .i64 a, .int .i64 c, .int .i64 hd, .int .i64 g, .int .i64 st]
/-- Is it right? -/
def cfgR (s a c hd g st : Int) : Bool := (decide (1 ≤ s) && decide (s ≤ 64)) && (decide (0 ≤ a) && decide (a ≤ 8)) && (decide (1 ≤ c) && decide (c ≤ 8)) && (decide (1 ≤ hd) && decide (hd ≤ 16)) && (decide (1 ≤ g) && decide (g ≤ 1048576)) && (decide (0 ≤ st) && decide (st ≤ 64))

theorem ld1_new {h : H} {cs : List V} {k : Bk} (o : Nat) : (h.new (.cells cs k)).ld1 (.ptr h.next o) = match cs[o]? with
    | some v => match V.one v with
      | true => some v
      | false => none
    | none => none := by
  simp only [H.ld1, get_new_self]; rfl

theorem planRight_spec (s a c hd g st : Int) (h : H) : C 263 [cfgV s a c hd g st] h = some (.bool (cfgR s a c hd g st), h) := by
  refine call_closed (af := F.plan_Right) (by kernel_rfl) rfl (by rfl) (by rfl) h ?_
  unfold cfgV
  rw [S.plan_Right_eq]
  simp only [S.plan_Right, ld1_new, V.one, List.getElem?_cons_zero, List.getElem?_cons_succ, Option.bind_some, W_call, between_spec]
  unfold cfgR
  generalize (decide (1 ≤ s) && decide (s ≤ 64)) = b1
  generalize (decide (0 ≤ a) && decide (a ≤ 8)) = b2
  generalize (decide (1 ≤ c) && decide (c ≤ 8)) = b3
  generalize (decide (1 ≤ hd) && decide (hd ≤ 16)) = b4
  generalize (decide (1 ≤ g) && decide (g ≤ 1048576)) = b5
  cases b1 <;> cases b2 <;> cases b3 <;> cases b4 <;> cases b5 <;> simp [Ev.iff_some]

theorem ref06Right_spec (s a c hd g st : Int) (h : H) : C 85 [cfgV s a c hd g st] h = some (.bool (cfgR s a c hd g st), h) := by
  refine call_closed (af := F.withyref06_Right) (by kernel_rfl) rfl (by rfl) (by rfl) h ?_
  unfold cfgV
  rw [S.withyref06_Right_eq]
  simp only [S.withyref06_Right, ld1_new, V.one, List.getElem?_cons_zero, List.getElem?_cons_succ, Option.bind_some, asI, decide_true]
  unfold cfgR
  by_cases h1 : 1 ≤ s <;> simp only [h1, decide_true, decide_false, Bool.false_and, Bool.true_and, Ev.iff_some]
  by_cases h2 : s ≤ 64 <;> simp only [h2, decide_true, decide_false, Bool.false_and, Bool.true_and, Ev.iff_some]
  by_cases h3 : 0 ≤ a <;> simp only [h3, decide_true, decide_false, Bool.false_and, Bool.true_and, Ev.iff_some]
  by_cases h4 : a ≤ 8 <;> simp only [h4, decide_true, decide_false, Bool.false_and, Bool.true_and, Ev.iff_some]
  by_cases h5 : 1 ≤ c <;> simp only [h5, decide_true, decide_false, Bool.false_and, Bool.true_and, Ev.iff_some]
  by_cases h6 : c ≤ 8 <;> simp only [h6, decide_true, decide_false, Bool.false_and, Bool.true_and, Ev.iff_some]
  by_cases h7 : 1 ≤ hd <;> simp only [h7, decide_true, decide_false, Bool.false_and, Bool.true_and, Ev.iff_some]
  by_cases h8 : hd ≤ 16 <;> simp only [h8, decide_true, decide_false, Bool.false_and, Bool.true_and, Ev.iff_some]
  by_cases h9 : 1 ≤ g <;> simp only [h9, decide_true, decide_false, Bool.false_and, Bool.true_and, Ev.iff_some]
  by_cases h10 : g ≤ 1048576 <;> simp only [h10, decide_true, decide_false, Bool.false_and, Bool.true_and, Ev.iff_some]
  by_cases h11 : 0 ≤ st <;> simp only [h11, decide_true, decide_false, Bool.false_and, Bool.true_and, Ev.iff_some]

end Wm
