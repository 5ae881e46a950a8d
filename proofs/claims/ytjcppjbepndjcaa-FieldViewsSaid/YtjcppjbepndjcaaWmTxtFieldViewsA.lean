/- PRINTED by my tool: what functions come to, stretch by stretch. -/
import Derived.KernelRfl
import Derived.Test.YtjcppjbepndjcaaWmShal
import Derived.Test.YtjcppjbepndjcaaWmFnsFieldViewsA
set_option linter.all false
section
open Wm
namespace Wm.S
def dd : Nat → List V → List V
  | 0, l => l
  | n + 1, l => .dead :: dd n l
end Wm.S

end
section
/- PRINTED by my tool (wip/wm/tool/Gen.lean): what a function comes to, stretch by stretch. -/
namespace Wm.S
open Wm
set_option maxRecDepth 100000
set_option linter.unusedVariables false


def plan_between (M : Env) (a0 : Int) (a1 : Int) (a2 : Int) (h : H) : Option (V × H) :=
 match (decide (a1 ≤ a0)) with
 | true => (
 some ((.bool (decide (a0 ≤ a2))), h))
 | false => (
 some ((.bool false), h))

theorem plan_between_eq (M : Env) (a0 : Int) (a1 : Int) (a2 : Int) (h : H) : evalF M F.plan_between [(.int .i64 a0), (.int .i64 a1), (.int .i64 a2)] h = plan_between M a0 a1 a2 h := by kernel_rfl

end Wm.S
end

section
/- PRINTED by my tool (wip/wm/tool/Gen.lean): what a function comes to, stretch by stretch. -/
namespace Wm.S
open Wm
set_option maxRecDepth 100000
set_option linter.unusedVariables false


def plan_Right (M : Env) (a0_0 : Int) (a0_1 : Int) (a0_2 : Int) (a0_3 : Int) (a0_4 : Int) (a0_5 : Int) (h : H) : Option (V × H) :=
 let h0 := h.new (.cells [(.int .i64 a0_0), (.int .i64 a0_1), (.int .i64 a0_2), (.int .i64 a0_3), (.int .i64 a0_4), (.int .i64 a0_5)] .rw)
 (h0.ld1 (.ptr h.next 0)).bind fun v1 =>
 (M.call 376 [v1, (.int .i64 1), (.int .i64 64)] h0).bind fun p2 =>
 match p2.1 with
 | .bool true => (
 (p2.2.ld1 (.ptr h.next 1)).bind fun v3 =>
 (M.call 376 [v3, (.int .i64 0), (.int .i64 8)] p2.2).bind fun p4 =>
 match p4.1 with
 | .bool true => (
 (p4.2.ld1 (.ptr h.next 2)).bind fun v5 =>
 (M.call 376 [v5, (.int .i64 1), (.int .i64 8)] p4.2).bind fun p6 =>
 match p6.1 with
 | .bool true => (
 (p6.2.ld1 (.ptr h.next 3)).bind fun v7 =>
 (M.call 376 [v7, (.int .i64 1), (.int .i64 16)] p6.2).bind fun p8 =>
 match p8.1 with
 | .bool true => (
 (p8.2.ld1 (.ptr h.next 4)).bind fun v9 =>
 (M.call 376 [v9, (.int .i64 1), (.int .i64 1048576)] p8.2).bind fun p10 =>
 match p10.1 with
 | .bool true => (
 (p10.2.ld1 (.ptr h.next 5)).bind fun v11 =>
 (M.call 376 [v11, (.int .i64 0), (.int .i64 64)] p10.2).bind fun p12 =>
 some (p12.1, p12.2))
 | .bool false => (
 some ((.bool false), p10.2))
 | .tup [] => (
 (asB p10.1).bind fun b11 =>
 some ((match b11 with | true => (.tup []) | false => (.bool false) : V), p10.2))
 | _ => none)
 | .bool false => (
 some ((.bool false), p8.2))
 | .tup [] => (
 (asB p8.1).bind fun b9 =>
 match (match b9 with | true => (.tup []) | false => (.bool false) : V) with
 | .bool true => (
 (p8.2.ld1 (.ptr h.next 5)).bind fun v10 =>
 (M.call 376 [v10, (.int .i64 0), (.int .i64 64)] p8.2).bind fun p11 =>
 some (p11.1, p11.2))
 | .bool false => (
 some ((.bool false), p8.2))
 | .tup [] => (
 (asB (match b9 with | true => (.tup []) | false => (.bool false) : V)).bind fun b10 =>
 some ((match b10 with | true => (.tup []) | false => (.bool false) : V), p8.2))
 | _ => none)
 | _ => none)
 | .bool false => (
 some ((.bool false), p6.2))
 | .tup [] => (
 (asB p6.1).bind fun b7 =>
 match (match b7 with | true => (.tup []) | false => (.bool false) : V) with
 | .bool true => (
 (p6.2.ld1 (.ptr h.next 4)).bind fun v8 =>
 (M.call 376 [v8, (.int .i64 1), (.int .i64 1048576)] p6.2).bind fun p9 =>
 match p9.1 with
 | .bool true => (
 (p9.2.ld1 (.ptr h.next 5)).bind fun v10 =>
 (M.call 376 [v10, (.int .i64 0), (.int .i64 64)] p9.2).bind fun p11 =>
 some (p11.1, p11.2))
 | .bool false => (
 some ((.bool false), p9.2))
 | .tup [] => (
 (asB p9.1).bind fun b10 =>
 some ((match b10 with | true => (.tup []) | false => (.bool false) : V), p9.2))
 | _ => none)
 | .bool false => (
 some ((.bool false), p6.2))
 | .tup [] => (
 (asB (match b7 with | true => (.tup []) | false => (.bool false) : V)).bind fun b8 =>
 match (match b8 with | true => (.tup []) | false => (.bool false) : V) with
 | .bool true => (
 (p6.2.ld1 (.ptr h.next 5)).bind fun v9 =>
 (M.call 376 [v9, (.int .i64 0), (.int .i64 64)] p6.2).bind fun p10 =>
 some (p10.1, p10.2))
 | .bool false => (
 some ((.bool false), p6.2))
 | .tup [] => (
 (asB (match b8 with | true => (.tup []) | false => (.bool false) : V)).bind fun b9 =>
 some ((match b9 with | true => (.tup []) | false => (.bool false) : V), p6.2))
 | _ => none)
 | _ => none)
 | _ => none)
 | .bool false => (
 some ((.bool false), p4.2))
 | .tup [] => (
 (asB p4.1).bind fun b5 =>
 match (match b5 with | true => (.tup []) | false => (.bool false) : V) with
 | .bool true => (
 (p4.2.ld1 (.ptr h.next 3)).bind fun v6 =>
 (M.call 376 [v6, (.int .i64 1), (.int .i64 16)] p4.2).bind fun p7 =>
 match p7.1 with
 | .bool true => (
 (p7.2.ld1 (.ptr h.next 4)).bind fun v8 =>
 (M.call 376 [v8, (.int .i64 1), (.int .i64 1048576)] p7.2).bind fun p9 =>
 match p9.1 with
 | .bool true => (
 (p9.2.ld1 (.ptr h.next 5)).bind fun v10 =>
 (M.call 376 [v10, (.int .i64 0), (.int .i64 64)] p9.2).bind fun p11 =>
 some (p11.1, p11.2))
 | .bool false => (
 some ((.bool false), p9.2))
 | .tup [] => (
 (asB p9.1).bind fun b10 =>
 some ((match b10 with | true => (.tup []) | false => (.bool false) : V), p9.2))
 | _ => none)
 | .bool false => (
 some ((.bool false), p7.2))
 | .tup [] => (
 (asB p7.1).bind fun b8 =>
 match (match b8 with | true => (.tup []) | false => (.bool false) : V) with
 | .bool true => (
 (p7.2.ld1 (.ptr h.next 5)).bind fun v9 =>
 (M.call 376 [v9, (.int .i64 0), (.int .i64 64)] p7.2).bind fun p10 =>
 some (p10.1, p10.2))
 | .bool false => (
 some ((.bool false), p7.2))
 | .tup [] => (
 (asB (match b8 with | true => (.tup []) | false => (.bool false) : V)).bind fun b9 =>
 some ((match b9 with | true => (.tup []) | false => (.bool false) : V), p7.2))
 | _ => none)
 | _ => none)
 | .bool false => (
 some ((.bool false), p4.2))
 | .tup [] => (
 (asB (match b5 with | true => (.tup []) | false => (.bool false) : V)).bind fun b6 =>
 match (match b6 with | true => (.tup []) | false => (.bool false) : V) with
 | .bool true => (
 (p4.2.ld1 (.ptr h.next 4)).bind fun v7 =>
 (M.call 376 [v7, (.int .i64 1), (.int .i64 1048576)] p4.2).bind fun p8 =>
 match p8.1 with
 | .bool true => (
 (p8.2.ld1 (.ptr h.next 5)).bind fun v9 =>
 (M.call 376 [v9, (.int .i64 0), (.int .i64 64)] p8.2).bind fun p10 =>
 some (p10.1, p10.2))
 | .bool false => (
 some ((.bool false), p8.2))
 | .tup [] => (
 (asB p8.1).bind fun b9 =>
 some ((match b9 with | true => (.tup []) | false => (.bool false) : V), p8.2))
 | _ => none)
 | .bool false => (
 some ((.bool false), p4.2))
 | .tup [] => (
 (asB (match b6 with | true => (.tup []) | false => (.bool false) : V)).bind fun b7 =>
 match (match b7 with | true => (.tup []) | false => (.bool false) : V) with
 | .bool true => (
 (p4.2.ld1 (.ptr h.next 5)).bind fun v8 =>
 (M.call 376 [v8, (.int .i64 0), (.int .i64 64)] p4.2).bind fun p9 =>
 some (p9.1, p9.2))
 | .bool false => (
 some ((.bool false), p4.2))
 | .tup [] => (
 (asB (match b7 with | true => (.tup []) | false => (.bool false) : V)).bind fun b8 =>
 some ((match b8 with | true => (.tup []) | false => (.bool false) : V), p4.2))
 | _ => none)
 | _ => none)
 | _ => none)
 | _ => none)
 | .bool false => (
 some ((.bool false), p2.2))
 | .tup [] => (
 (asB p2.1).bind fun b3 =>
 match (match b3 with | true => (.tup []) | false => (.bool false) : V) with
 | .bool true => (
 (p2.2.ld1 (.ptr h.next 2)).bind fun v4 =>
 (M.call 376 [v4, (.int .i64 1), (.int .i64 8)] p2.2).bind fun p5 =>
 match p5.1 with
 | .bool true => (
 (p5.2.ld1 (.ptr h.next 3)).bind fun v6 =>
 (M.call 376 [v6, (.int .i64 1), (.int .i64 16)] p5.2).bind fun p7 =>
 match p7.1 with
 | .bool true => (
 (p7.2.ld1 (.ptr h.next 4)).bind fun v8 =>
 (M.call 376 [v8, (.int .i64 1), (.int .i64 1048576)] p7.2).bind fun p9 =>
 match p9.1 with
 | .bool true => (
 (p9.2.ld1 (.ptr h.next 5)).bind fun v10 =>
 (M.call 376 [v10, (.int .i64 0), (.int .i64 64)] p9.2).bind fun p11 =>
 some (p11.1, p11.2))
 | .bool false => (
 some ((.bool false), p9.2))
 | .tup [] => (
 (asB p9.1).bind fun b10 =>
 some ((match b10 with | true => (.tup []) | false => (.bool false) : V), p9.2))
 | _ => none)
 | .bool false => (
 some ((.bool false), p7.2))
 | .tup [] => (
 (asB p7.1).bind fun b8 =>
 match (match b8 with | true => (.tup []) | false => (.bool false) : V) with
 | .bool true => (
 (p7.2.ld1 (.ptr h.next 5)).bind fun v9 =>
 (M.call 376 [v9, (.int .i64 0), (.int .i64 64)] p7.2).bind fun p10 =>
 some (p10.1, p10.2))
 | .bool false => (
 some ((.bool false), p7.2))
 | .tup [] => (
 (asB (match b8 with | true => (.tup []) | false => (.bool false) : V)).bind fun b9 =>
 some ((match b9 with | true => (.tup []) | false => (.bool false) : V), p7.2))
 | _ => none)
 | _ => none)
 | .bool false => (
 some ((.bool false), p5.2))
 | .tup [] => (
 (asB p5.1).bind fun b6 =>
 match (match b6 with | true => (.tup []) | false => (.bool false) : V) with
 | .bool true => (
 (p5.2.ld1 (.ptr h.next 4)).bind fun v7 =>
 (M.call 376 [v7, (.int .i64 1), (.int .i64 1048576)] p5.2).bind fun p8 =>
 match p8.1 with
 | .bool true => (
 (p8.2.ld1 (.ptr h.next 5)).bind fun v9 =>
 (M.call 376 [v9, (.int .i64 0), (.int .i64 64)] p8.2).bind fun p10 =>
 some (p10.1, p10.2))
 | .bool false => (
 some ((.bool false), p8.2))
 | .tup [] => (
 (asB p8.1).bind fun b9 =>
 some ((match b9 with | true => (.tup []) | false => (.bool false) : V), p8.2))
 | _ => none)
 | .bool false => (
 some ((.bool false), p5.2))
 | .tup [] => (
 (asB (match b6 with | true => (.tup []) | false => (.bool false) : V)).bind fun b7 =>
 match (match b7 with | true => (.tup []) | false => (.bool false) : V) with
 | .bool true => (
 (p5.2.ld1 (.ptr h.next 5)).bind fun v8 =>
 (M.call 376 [v8, (.int .i64 0), (.int .i64 64)] p5.2).bind fun p9 =>
 some (p9.1, p9.2))
 | .bool false => (
 some ((.bool false), p5.2))
 | .tup [] => (
 (asB (match b7 with | true => (.tup []) | false => (.bool false) : V)).bind fun b8 =>
 some ((match b8 with | true => (.tup []) | false => (.bool false) : V), p5.2))
 | _ => none)
 | _ => none)
 | _ => none)
 | .bool false => (
 some ((.bool false), p2.2))
 | .tup [] => (
 (asB (match b3 with | true => (.tup []) | false => (.bool false) : V)).bind fun b4 =>
 match (match b4 with | true => (.tup []) | false => (.bool false) : V) with
 | .bool true => (
 (p2.2.ld1 (.ptr h.next 3)).bind fun v5 =>
 (M.call 376 [v5, (.int .i64 1), (.int .i64 16)] p2.2).bind fun p6 =>
 match p6.1 with
 | .bool true => (
 (p6.2.ld1 (.ptr h.next 4)).bind fun v7 =>
 (M.call 376 [v7, (.int .i64 1), (.int .i64 1048576)] p6.2).bind fun p8 =>
 match p8.1 with
 | .bool true => (
 (p8.2.ld1 (.ptr h.next 5)).bind fun v9 =>
 (M.call 376 [v9, (.int .i64 0), (.int .i64 64)] p8.2).bind fun p10 =>
 some (p10.1, p10.2))
 | .bool false => (
 some ((.bool false), p8.2))
 | .tup [] => (
 (asB p8.1).bind fun b9 =>
 some ((match b9 with | true => (.tup []) | false => (.bool false) : V), p8.2))
 | _ => none)
 | .bool false => (
 some ((.bool false), p6.2))
 | .tup [] => (
 (asB p6.1).bind fun b7 =>
 match (match b7 with | true => (.tup []) | false => (.bool false) : V) with
 | .bool true => (
 (p6.2.ld1 (.ptr h.next 5)).bind fun v8 =>
 (M.call 376 [v8, (.int .i64 0), (.int .i64 64)] p6.2).bind fun p9 =>
 some (p9.1, p9.2))
 | .bool false => (
 some ((.bool false), p6.2))
 | .tup [] => (
 (asB (match b7 with | true => (.tup []) | false => (.bool false) : V)).bind fun b8 =>
 some ((match b8 with | true => (.tup []) | false => (.bool false) : V), p6.2))
 | _ => none)
 | _ => none)
 | .bool false => (
 some ((.bool false), p2.2))
 | .tup [] => (
 (asB (match b4 with | true => (.tup []) | false => (.bool false) : V)).bind fun b5 =>
 match (match b5 with | true => (.tup []) | false => (.bool false) : V) with
 | .bool true => (
 (p2.2.ld1 (.ptr h.next 4)).bind fun v6 =>
 (M.call 376 [v6, (.int .i64 1), (.int .i64 1048576)] p2.2).bind fun p7 =>
 match p7.1 with
 | .bool true => (
 (p7.2.ld1 (.ptr h.next 5)).bind fun v8 =>
 (M.call 376 [v8, (.int .i64 0), (.int .i64 64)] p7.2).bind fun p9 =>
 some (p9.1, p9.2))
 | .bool false => (
 some ((.bool false), p7.2))
 | .tup [] => (
 (asB p7.1).bind fun b8 =>
 some ((match b8 with | true => (.tup []) | false => (.bool false) : V), p7.2))
 | _ => none)
 | .bool false => (
 some ((.bool false), p2.2))
 | .tup [] => (
 (asB (match b5 with | true => (.tup []) | false => (.bool false) : V)).bind fun b6 =>
 match (match b6 with | true => (.tup []) | false => (.bool false) : V) with
 | .bool true => (
 (p2.2.ld1 (.ptr h.next 5)).bind fun v7 =>
 (M.call 376 [v7, (.int .i64 0), (.int .i64 64)] p2.2).bind fun p8 =>
 some (p8.1, p8.2))
 | .bool false => (
 some ((.bool false), p2.2))
 | .tup [] => (
 (asB (match b6 with | true => (.tup []) | false => (.bool false) : V)).bind fun b7 =>
 some ((match b7 with | true => (.tup []) | false => (.bool false) : V), p2.2))
 | _ => none)
 | _ => none)
 | _ => none)
 | _ => none)
 | _ => none

theorem plan_Right_eq (M : Env) (a0_0 : Int) (a0_1 : Int) (a0_2 : Int) (a0_3 : Int) (a0_4 : Int) (a0_5 : Int) (h : H) : evalF M F.plan_Right [(.agg [(.int .i64 a0_0), (.int .i64 a0_1), (.int .i64 a0_2), (.int .i64 a0_3), (.int .i64 a0_4), (.int .i64 a0_5)])] h = plan_Right M a0_0 a0_1 a0_2 a0_3 a0_4 a0_5 h := by kernel_rfl

end Wm.S
end

section
/- PRINTED by my tool (wip/wm/tool/Gen.lean): what a function comes to, stretch by stretch. -/
namespace Wm.S
open Wm
set_option maxRecDepth 100000
set_option linter.unusedVariables false


def withyref06_Right (M : Env) (a0_0 : Int) (a0_1 : Int) (a0_2 : Int) (a0_3 : Int) (a0_4 : Int) (a0_5 : Int) (h : H) : Option (V × H) :=
 let h0 := h.new (.cells [(.int .i64 a0_0), (.int .i64 a0_1), (.int .i64 a0_2), (.int .i64 a0_3), (.int .i64 a0_4), (.int .i64 a0_5)] .rw)
 (h0.ld1 (.ptr h.next 0)).bind fun v1 =>
 (asI .i64 v1).bind fun n2 =>
 match (decide (1 ≤ n2)) with
 | true => (
 (h0.ld1 (.ptr h.next 0)).bind fun v3 =>
 (asI .i64 v3).bind fun n4 =>
 match (decide (n4 ≤ 64)) with
 | true => (
 (h0.ld1 (.ptr h.next 1)).bind fun v5 =>
 (asI .i64 v5).bind fun n6 =>
 match (decide (0 ≤ n6)) with
 | true => (
 (h0.ld1 (.ptr h.next 1)).bind fun v7 =>
 (asI .i64 v7).bind fun n8 =>
 match (decide (n8 ≤ 8)) with
 | true => (
 (h0.ld1 (.ptr h.next 2)).bind fun v9 =>
 (asI .i64 v9).bind fun n10 =>
 match (decide (1 ≤ n10)) with
 | true => (
 (h0.ld1 (.ptr h.next 2)).bind fun v11 =>
 (asI .i64 v11).bind fun n12 =>
 match (decide (n12 ≤ 8)) with
 | true => (
 (h0.ld1 (.ptr h.next 3)).bind fun v13 =>
 (asI .i64 v13).bind fun n14 =>
 match (decide (1 ≤ n14)) with
 | true => (
 (h0.ld1 (.ptr h.next 3)).bind fun v15 =>
 (asI .i64 v15).bind fun n16 =>
 match (decide (n16 ≤ 16)) with
 | true => (
 (h0.ld1 (.ptr h.next 4)).bind fun v17 =>
 (asI .i64 v17).bind fun n18 =>
 match (decide (1 ≤ n18)) with
 | true => (
 (h0.ld1 (.ptr h.next 4)).bind fun v19 =>
 (asI .i64 v19).bind fun n20 =>
 match (decide (n20 ≤ 1048576)) with
 | true => (
 (h0.ld1 (.ptr h.next 5)).bind fun v21 =>
 (asI .i64 v21).bind fun n22 =>
 match (decide (0 ≤ n22)) with
 | true => (
 (h0.ld1 (.ptr h.next 5)).bind fun v23 =>
 (asI .i64 v23).bind fun n24 =>
 some ((.bool (decide (n24 ≤ 64))), h0))
 | false => (
 some ((.bool false), h0)))
 | false => (
 some ((.bool false), h0)))
 | false => (
 some ((.bool false), h0)))
 | false => (
 some ((.bool false), h0)))
 | false => (
 some ((.bool false), h0)))
 | false => (
 some ((.bool false), h0)))
 | false => (
 some ((.bool false), h0)))
 | false => (
 some ((.bool false), h0)))
 | false => (
 some ((.bool false), h0)))
 | false => (
 some ((.bool false), h0)))
 | false => (
 some ((.bool false), h0))

theorem withyref06_Right_eq (M : Env) (a0_0 : Int) (a0_1 : Int) (a0_2 : Int) (a0_3 : Int) (a0_4 : Int) (a0_5 : Int) (h : H) : evalF M F.withyref06_Right [(.agg [(.int .i64 a0_0), (.int .i64 a0_1), (.int .i64 a0_2), (.int .i64 a0_3), (.int .i64 a0_4), (.int .i64 a0_5)])] h = withyref06_Right M a0_0 a0_1 a0_2 a0_3 a0_4 a0_5 h := by kernel_rfl

end Wm.S
end

section
/- PRINTED by my tool (wip/wm/tool/Gen.lean): what a function comes to, stretch by stretch. -/
namespace Wm.S
open Wm
set_option maxRecDepth 100000
set_option linter.unusedVariables false


def plan_Header (M : Env) (a0_0 : Int) (a0_1 : Int) (a0_2 : Int) (a0_3 : Int) (a0_4 : Int) (a0_5 : Int) (a1 : Int) (h : H) : Option (V × H) :=
 let h0 := h.new (.cells [(.int .i64 a0_0), (.int .i64 a0_1), (.int .i64 a0_2), (.int .i64 a0_3), (.int .i64 a0_4), (.int .i64 a0_5)] .rw)
 (h0.ldN 6 (.ptr h.next 0)).bind fun v1 =>
 (M.call 375 [v1, (.int .i64 a1), (.int .i64 0)] h0).bind fun p2 =>
 some (p2.1, p2.2)

theorem plan_Header_eq (M : Env) (a0_0 : Int) (a0_1 : Int) (a0_2 : Int) (a0_3 : Int) (a0_4 : Int) (a0_5 : Int) (a1 : Int) (h : H) : evalF M F.plan_Header [(.agg [(.int .i64 a0_0), (.int .i64 a0_1), (.int .i64 a0_2), (.int .i64 a0_3), (.int .i64 a0_4), (.int .i64 a0_5)]), (.int .i64 a1)] h = plan_Header M a0_0 a0_1 a0_2 a0_3 a0_4 a0_5 a1 h := by kernel_rfl

end Wm.S
end

section
/- PRINTED by my tool (wip/wm/tool/Gen.lean): what a function comes to, stretch by stretch. -/
namespace Wm.S
open Wm
set_option maxRecDepth 100000
set_option linter.unusedVariables false


def plan_within (M : Env) (a0_0 : Int) (a0_1 : Int) (a0_2 : Int) (a0_3 : Int) (a0_4 : Int) (a0_5 : Int) (a1 : Int) (a2 : Int) (h : H) : Option (V × H) :=
 let h0 := h.new (.cells [(.int .i64 a0_0), (.int .i64 a0_1), (.int .i64 a0_2), (.int .i64 a0_3), (.int .i64 a0_4), (.int .i64 a0_5)] .rw)
 (h0.ldN 6 (.ptr h.next 0)).bind fun v1 =>
 (M.call 263 [v1] h0).bind fun p2 =>
 (asB p2.1).bind fun b3 =>
 match (!b3) with
 | true => (
 some ((.int .i64 (-1)), p2.2))
 | false => (
 (p2.2.ld1 (.ptr h.next 0)).bind fun v4 =>
 (asI .i64 v4).bind fun n5 =>
 (M.call 376 [(.int .i64 a1), (.int .i64 0), (.int .i64 (wr .i64 (n5 - 1)))] p2.2).bind fun p6 =>
 (asB p6.1).bind fun b7 =>
 match (!b7) with
 | true => (
 some ((.int .i64 (-1)), p6.2))
 | false => (
 (p6.2.ldN 6 (.ptr h.next 0)).bind fun v8 =>
 (M.call 378 [v8] p6.2).bind fun p9 =>
 (asI .i64 p9.1).bind fun n10 =>
 (M.call 376 [(.int .i64 a2), (.int .i64 0), (.int .i64 (wr .i64 (n10 - 1)))] p9.2).bind fun p11 =>
 (asB p11.1).bind fun b12 =>
 match (!b12) with
 | true => (
 some ((.int .i64 (-1)), p11.2))
 | false => (
 (p11.2.ldN 6 (.ptr h.next 0)).bind fun v13 =>
 (p11.2.ldN 6 (.ptr h.next 0)).bind fun v14 =>
 (M.call 377 [v13] p11.2).bind fun p15 =>
 match ckB (p15.2.ldN 6 (.ptr h.next 0)) v14 with
 | true => (
 (M.call 378 [v14] p15.2).bind fun p16 =>
 (asI .i64 p16.1).bind fun n17 =>
 (asI .i64 p15.1).bind fun n18 =>
 some ((.int .i64 (wr .i64 ((wr .i64 (n18 + (wr .i64 (a1 * n17)))) + a2))), p16.2))
 | false => none)))

theorem plan_within_eq (M : Env) (a0_0 : Int) (a0_1 : Int) (a0_2 : Int) (a0_3 : Int) (a0_4 : Int) (a0_5 : Int) (a1 : Int) (a2 : Int) (h : H) : evalF M F.plan_within [(.agg [(.int .i64 a0_0), (.int .i64 a0_1), (.int .i64 a0_2), (.int .i64 a0_3), (.int .i64 a0_4), (.int .i64 a0_5)]), (.int .i64 a1), (.int .i64 a2)] h = plan_within M a0_0 a0_1 a0_2 a0_3 a0_4 a0_5 a1 a2 h := by kernel_rfl

end Wm.S
end

section
/- PRINTED by my tool (wip/wm/tool/Gen.lean): what a function comes to, stretch by stretch. -/
namespace Wm.S
open Wm
set_option maxRecDepth 100000
set_option linter.unusedVariables false


def plan_slots (M : Env) (a0_0 : Int) (a0_1 : Int) (a0_2 : Int) (a0_3 : Int) (a0_4 : Int) (a0_5 : Int) (h : H) : Option (V × H) :=
 let h0 := h.new (.cells [(.int .i64 a0_0), (.int .i64 a0_1), (.int .i64 a0_2), (.int .i64 a0_3), (.int .i64 a0_4), (.int .i64 a0_5)] .rw)
 (h0.ld1 (.ptr h.next 2)).bind fun v1 =>
 (h0.ld1 (.ptr h.next 3)).bind fun v2 =>
 (asI .i64 v2).bind fun n3 =>
 (asI .i64 v1).bind fun n4 =>
 some ((.int .i64 (wr .i64 (4 + (wr .i64 (n4 * (wr .i64 ((wr .i64 (1 + n3)) + 2))))))), h0)

theorem plan_slots_eq (M : Env) (a0_0 : Int) (a0_1 : Int) (a0_2 : Int) (a0_3 : Int) (a0_4 : Int) (a0_5 : Int) (h : H) : evalF M F.plan_slots [(.agg [(.int .i64 a0_0), (.int .i64 a0_1), (.int .i64 a0_2), (.int .i64 a0_3), (.int .i64 a0_4), (.int .i64 a0_5)])] h = plan_slots M a0_0 a0_1 a0_2 a0_3 a0_4 a0_5 h := by kernel_rfl

end Wm.S
end

section
/- PRINTED by my tool (wip/wm/tool/Gen.lean): what a function comes to, stretch by stretch. -/
namespace Wm.S
open Wm
set_option maxRecDepth 100000
set_option linter.unusedVariables false


def plan_room (M : Env) (a0_0 : Int) (a0_1 : Int) (a0_2 : Int) (a0_3 : Int) (a0_4 : Int) (a0_5 : Int) (h : H) : Option (V × H) :=
 let h0 := h.new (.cells [(.int .i64 a0_0), (.int .i64 a0_1), (.int .i64 a0_2), (.int .i64 a0_3), (.int .i64 a0_4), (.int .i64 a0_5)] .rw)
 (h0.ld1 (.ptr h.next 1)).bind fun v1 =>
 (asI .i64 v1).bind fun n2 =>
 some ((.int .i64 (wr .i64 (2 + (max n2 3)))), h0)

theorem plan_room_eq (M : Env) (a0_0 : Int) (a0_1 : Int) (a0_2 : Int) (a0_3 : Int) (a0_4 : Int) (a0_5 : Int) (h : H) : evalF M F.plan_room [(.agg [(.int .i64 a0_0), (.int .i64 a0_1), (.int .i64 a0_2), (.int .i64 a0_3), (.int .i64 a0_4), (.int .i64 a0_5)])] h = plan_room M a0_0 a0_1 a0_2 a0_3 a0_4 a0_5 h := by kernel_rfl

end Wm.S
end

section
/- PRINTED by my tool (wip/wm/tool/Gen.lean): what a function comes to, stretch by stretch. -/
namespace Wm.S
open Wm
set_option maxRecDepth 100000
set_option linter.unusedVariables false


def word_some (M : Env) (a0 : Int) (a1 : Int) (h : H) : Option (V × H) :=
 match (decide (1 ≤ a1)) with
 | true => (
 match (decide (a1 ≤ 64)) with
 | true => (
 match (decide (0 ≤ a0)) with
 | true => (
 some ((.bool (decide (a0 ≤ (wr .i64 (64 - a1))))), h))
 | false => (
 some ((.bool false), h)))
 | false => (
 some ((.bool false), h)))
 | false => (
 some ((.bool false), h))

theorem word_some_eq (M : Env) (a0 : Int) (a1 : Int) (h : H) : evalF M F.word_some [(.int .i64 a0), (.int .i64 a1)] h = word_some M a0 a1 h := by kernel_rfl

end Wm.S
end

section
/- PRINTED by my tool (wip/wm/tool/Gen.lean): what a function comes to, stretch by stretch. -/
namespace Wm.S
open Wm
set_option maxRecDepth 100000
set_option linter.unusedVariables false


def word_mask (M : Env) (a0 : Int) (h : H) : Option (V × H) :=
 (shiftI true .u64 1 a0).bind fun n0 =>
 some ((.int .u64 (wr .u64 (n0 - 1))), h)

theorem word_mask_eq (M : Env) (a0 : Int) (h : H) : evalF M F.word_mask [(.int .i64 a0)] h = word_mask M a0 h := by kernel_rfl

end Wm.S
end

section
/- PRINTED by my tool (wip/wm/tool/Gen.lean): what a function comes to, stretch by stretch. -/
namespace Wm.S
open Wm
set_option maxRecDepth 100000
set_option linter.unusedVariables false


def word_Get (M : Env) (a0 : Int) (a1 : Int) (a2 : Int) (h : H) : Option (V × H) :=
 (M.call 441 [(.int .i64 a1), (.int .i64 a2)] h).bind fun p0 =>
 (asB p0.1).bind fun b1 =>
 match (!b1) with
 | true => (
 some ((.int .u64 0), p0.2))
 | false => (
 (shiftI false .u64 a0 a1).bind fun n2 =>
 (M.call 449 [(.int .i64 a2)] p0.2).bind fun p3 =>
 (asI .u64 p3.1).bind fun n4 =>
 some ((.int .u64 (and64 n2 n4)), p3.2))

theorem word_Get_eq (M : Env) (a0 : Int) (a1 : Int) (a2 : Int) (h : H) : evalF M F.word_Get [(.int .u64 a0), (.int .i64 a1), (.int .i64 a2)] h = word_Get M a0 a1 a2 h := by kernel_rfl

end Wm.S
end

section
/- PRINTED by my tool (wip/wm/tool/Gen.lean): what a function comes to, stretch by stretch. -/
namespace Wm.S
open Wm
set_option maxRecDepth 100000
set_option linter.unusedVariables false

def word_Unpack_c1_B (M : Env) : List V → H → Option (AX × List V × H) :=
 fun env h => evalC M F.word_Unpack_c1 env h fun x env h => match x with
 | .normal => some (.normal, keepOf [0, 6, 7, 10, 11, 12] 0 env, h)
 | x => some (x, keepOf [4, 5, 6] 0 env, h)

def word_Unpack_c1_E (x0 x6 x7 x10 x11 x12 : V) : List V := x0 :: dd 5 (x6 :: x7 :: dd 2 (x10 :: x11 :: x12 :: dd 19 []))
def word_Unpack_c1_O (x4 x5 x6 : V) : List V := dd 4 (x4 :: x5 :: x6 :: dd 25 [])

def word_Unpack_K0 (M : Env) : AX → List V → H → Option (V × H) :=
 fun x env h => fin F.word_Unpack x env h

def word_Unpack_K1 (M : Env) : AX → List V → H → Option (V × H) :=
 fun x env h => match x with | .normal => evalC M F.word_Unpack_c0 env h (fun x env h => word_Unpack_K0 M x env h) | x => word_Unpack_K0 M x env h

def word_Unpack_K2 (M : Env) : AX → List V → H → Option (V × H) :=
 fun x env h => match x with | .exit j => (match Nat.beq j 0 with | true => word_Unpack_K1 M .normal env h | false => word_Unpack_K1 M (.exit j) env h) | x => word_Unpack_K1 M x env h

def word_Unpack (M : Env) (a0 : Int) (a1 : V) (h : H) : Option (V × H) :=
 (lenSl a1).bind fun n0 =>
 (M.loop (word_Unpack_c1_B M) (word_Unpack_c1_E (.int .u64 a0) .nilsl (.int .i64 0) a1 (.int .i64 ((n0 : Nat) : Int)) (.int .i64 0)) h).bind fun p1 => word_Unpack_K2 M p1.1 p1.2.1 p1.2.2

def word_Unpack_c1_S (M : Env) (x0 : Int) (x6 : V) (x7 : Int) (x10 : V) (x11 : Int) (x12 : Int) (h : H) : Option (AX × List V × H) :=
 match (decide (x12 < x11)) with
 | true => (
 (indexAV 1 x10 (.int .i64 x12)).bind fun v0 =>
 (h.ld1 v0).bind fun v1 =>
 (M.call 441 [(.int .i64 x7), v1] h).bind fun p2 =>
 (asB p2.1).bind fun b3 =>
 match (!b3) with
 | true => (
 some (.ret, (word_Unpack_c1_O .nilsl (.bool false) x6), p2.2))
 | false => (
 (M.call 396 [(.int .u64 x0), (.int .i64 x7), v1] p2.2).bind fun p4 =>
 (fill (repl [(.int .u64 0)] 1) [] [(0, 1, .c p4.1)]).bind fun cs5 =>
 let h6 := p4.2.new (.cells cs5 .rw)
 (h6.append 1 8 x6 (.sl p4.2.next 0 1 (.ex 1))).bind fun p7 =>
 (asI .i64 v1).bind fun n8 =>
 some (.normal, (word_Unpack_c1_E (.int .u64 x0) p7.1 (.int .i64 (wr .i64 (x7 + n8))) x10 (.int .i64 x11) (.int .i64 (wr .i64 (x12 + 1)))), p7.2)))
 | false => (
 some ((.exit 0), (word_Unpack_c1_O .dead .dead x6), h))

def word_Unpack_c1_e0 (M : Env) (x4 : V) (x5 : V) (x6 : V) (h : H) : Option (V × H) :=
 some ((.tup [x6, (.bool true)]), h)

theorem word_Unpack_eq (M : Env) (a0 : Int) (a1 : V) (h : H) : evalF M F.word_Unpack [(.int .u64 a0), a1] h = word_Unpack M a0 a1 h := by kernel_rfl

theorem word_Unpack_c1_eq (M : Env) (x0 : Int) (x6 : V) (x7 : Int) (x10 : V) (x11 : Int) (x12 : Int) (h : H) : word_Unpack_c1_B M (word_Unpack_c1_E (.int .u64 x0) x6 (.int .i64 x7) x10 (.int .i64 x11) (.int .i64 x12)) h = word_Unpack_c1_S M x0 x6 x7 x10 x11 x12 h := by kernel_rfl

theorem word_Unpack_c1_e0_eq (M : Env) (x4 : V) (x5 : V) (x6 : V) (h : H) : word_Unpack_K2 M (.exit 0) (word_Unpack_c1_O x4 x5 x6) h = word_Unpack_c1_e0 M x4 x5 x6 h := by kernel_rfl

end Wm.S
end

section
/- PRINTED by my tool (wip/wm/tool/Gen.lean): what a function comes to, stretch by stretch. -/
namespace Wm.S
open Wm
set_option maxRecDepth 100000
set_option linter.unusedVariables false


def head_Unpack (M : Env) (a0 : Int) (h : H) : Option (V × H) :=
 let h0 := h.new (.cells [(.int .i64 0), (.int .i64 0), (.bool false), (.int .i64 0), (.int .i64 0), (.int .i64 0)] .rw)
 let h1 := h0.new (.cells [(.int .i64 3), (.int .i64 1), (.int .i64 1), (.int .i64 4), (.int .i64 7), (.int .i64 32), (.int .i64 16)] .rw)
 (M.call 379 [(.int .u64 a0), (.sl h0.next 0 7 (.ex 7))] h1).bind fun p2 =>
 match p2.1 with
 | .tup vs3 => ((vs3[0]?).bind fun v4 =>
 match p2.1 with
 | .tup vs5 => ((vs5[1]?).bind fun v6 =>
 (lenSl v4).bind fun n7 =>
 match (decide (((n7 : Nat) : Int) < 7)) with
 | true => (
 (p2.2.st 6 (.ptr h.next 0) (.agg [(.int .i64 0), (.int .i64 0), (.bool false), (.int .i64 0), (.int .i64 0), (.int .i64 0)])).bind fun h8 =>
 finV h8 [.cell true 6 (.ptr h.next 0), .v (.bool false)])
 | false => (
 (indexAV 1 v4 (.int .i64 0)).bind fun v8 =>
 (p2.2.ld1 v8).bind fun v9 =>
 (asI .u64 v9).bind fun n10 =>
 match (decide (4 < n10)) with
 | true => (
 (p2.2.st 6 (.ptr h.next 0) (.agg [(.int .i64 0), (.int .i64 0), (.bool false), (.int .i64 0), (.int .i64 0), (.int .i64 0)])).bind fun h11 =>
 finV h11 [.cell true 6 (.ptr h.next 0), .v (.bool false)])
 | false => (
 (indexAV 1 v4 (.int .i64 4)).bind fun v11 =>
 (p2.2.ld1 v11).bind fun v12 =>
 (asI .u64 v12).bind fun n13 =>
 match (!decide (n13 = 0)) with
 | true => (
 (p2.2.st 6 (.ptr h.next 0) (.agg [(.int .i64 0), (.int .i64 0), (.bool false), (.int .i64 0), (.int .i64 0), (.int .i64 0)])).bind fun h14 =>
 finV h14 [.cell true 6 (.ptr h.next 0), .v (.bool false)])
 | false => (
 (indexAV 1 v4 (.int .i64 0)).bind fun v14 =>
 (p2.2.ld1 v14).bind fun v15 =>
 (asIAny v15).bind fun n16 =>
 (indexAV 1 v4 (.int .i64 1)).bind fun v17 =>
 (p2.2.ld1 v17).bind fun v18 =>
 (asIAny v18).bind fun n19 =>
 (indexAV 1 v4 (.int .i64 2)).bind fun v20 =>
 (p2.2.ld1 v20).bind fun v21 =>
 (asI .u64 v21).bind fun n22 =>
 (indexAV 1 v4 (.int .i64 3)).bind fun v23 =>
 (p2.2.ld1 v23).bind fun v24 =>
 (asIAny v24).bind fun n25 =>
 (indexAV 1 v4 (.int .i64 5)).bind fun v26 =>
 (p2.2.ld1 v26).bind fun v27 =>
 (asIAny v27).bind fun n28 =>
 (indexAV 1 v4 (.int .i64 6)).bind fun v29 =>
 (p2.2.ld1 v29).bind fun v30 =>
 (asIAny v30).bind fun n31 =>
 (p2.2.st 6 (.ptr h.next 0) (.agg [(.int .i64 (wr .i64 n16)), (.int .i64 (wr .i64 n19)), (.bool (decide (n22 = 1))), (.int .i64 (wr .i64 n25)), (.int .i64 (wr .i64 n28)), (.int .i64 (wr .i64 n31))])).bind fun h32 =>
 finV h32 [.cell true 6 (.ptr h.next 0), .v (.bool true)]))))
 | _ => none)
 | _ => none

theorem head_Unpack_eq (M : Env) (a0 : Int) (h : H) : evalF M F.head_Unpack [(.int .u64 a0)] h = head_Unpack M a0 h := by kernel_rfl

end Wm.S
end

section
/- PRINTED by my tool (wip/wm/tool/Gen.lean): what a function comes to, stretch by stretch. -/
namespace Wm.S
open Wm
set_option maxRecDepth 100000
set_option linter.unusedVariables false


end Wm.S
end

section
/- PRINTED by my tool (wip/wm/tool/Gen.lean): what a function comes to, stretch by stretch. -/
namespace Wm.S
open Wm
set_option maxRecDepth 100000
set_option linter.unusedVariables false

def withyref06_Words_c1_B (M : Env) : List V → H → Option (AX × List V × H) :=
 fun env h => evalC M F.withyref06_Words_c1 env h fun x env h => match x with
 | .normal => some (.normal, keepOf [1, 3, 4] 0 env, h)
 | x => some (x, keepOf [1, 3] 0 env, h)

def withyref06_Words_c1_E (x1 x3 x4 : V) : List V := dd 1 (x1 :: dd 1 (x3 :: x4 :: dd 78 []))
def withyref06_Words_c1_O (x1 x3 : V) : List V := dd 1 (x1 :: dd 1 (x3 :: dd 79 []))

def withyref06_Words_c3_B (M : Env) : List V → H → Option (AX × List V × H) :=
 fun env h => evalC M F.withyref06_Words_c3 env h fun x env h => match x with
 | .normal => some (.normal, keepOf [1, 3, 5] 0 env, h)
 | x => some (x, keepOf [1, 3] 0 env, h)

def withyref06_Words_c3_E (x1 x3 x5 : V) : List V := dd 1 (x1 :: dd 1 (x3 :: dd 1 (x5 :: dd 77 [])))
def withyref06_Words_c3_O (x1 x3 : V) : List V := dd 1 (x1 :: dd 1 (x3 :: dd 79 []))

def withyref06_Words_c5_B (M : Env) : List V → H → Option (AX × List V × H) :=
 fun env h => evalC M F.withyref06_Words_c5 env h fun x env h => match x with
 | .normal => some (.normal, keepOf [1, 3, 5, 6] 0 env, h)
 | x => some (x, keepOf [1, 3, 5] 0 env, h)

def withyref06_Words_c5_E (x1 x3 x5 x6 : V) : List V := dd 1 (x1 :: dd 1 (x3 :: dd 1 (x5 :: x6 :: dd 76 [])))
def withyref06_Words_c5_O (x1 x3 x5 : V) : List V := dd 1 (x1 :: dd 1 (x3 :: dd 1 (x5 :: dd 77 [])))

def withyref06_Words_c7_B (M : Env) : List V → H → Option (AX × List V × H) :=
 fun env h => evalC M F.withyref06_Words_c7 env h fun x env h => match x with
 | .normal => some (.normal, keepOf [1, 3, 7] 0 env, h)
 | x => some (x, keepOf [1, 3] 0 env, h)

def withyref06_Words_c7_E (x1 x3 x7 : V) : List V := dd 1 (x1 :: dd 1 (x3 :: dd 3 (x7 :: dd 75 [])))
def withyref06_Words_c7_O (x1 x3 : V) : List V := dd 1 (x1 :: dd 1 (x3 :: dd 79 []))

def withyref06_Words_c9_B (M : Env) : List V → H → Option (AX × List V × H) :=
 fun env h => evalC M F.withyref06_Words_c9 env h fun x env h => match x with
 | .normal => some (.normal, keepOf [1, 3, 8] 0 env, h)
 | x => some (x, keepOf [3] 0 env, h)

def withyref06_Words_c9_E (x1 x3 x8 : V) : List V := dd 1 (x1 :: dd 1 (x3 :: dd 4 (x8 :: dd 74 [])))
def withyref06_Words_c9_O (x3 : V) : List V := dd 3 (x3 :: dd 79 [])

def withyref06_Words_c11_B (M : Env) : List V → H → Option (AX × List V × H) :=
 fun env h => evalC M F.withyref06_Words_c11 env h fun x env h => match x with
 | .normal => some (.normal, keepOf [1, 3, 8, 9] 0 env, h)
 | x => some (x, keepOf [1, 3, 8] 0 env, h)

def withyref06_Words_c11_E (x1 x3 x8 x9 : V) : List V := dd 1 (x1 :: dd 1 (x3 :: dd 4 (x8 :: x9 :: dd 73 [])))
def withyref06_Words_c11_O (x1 x3 x8 : V) : List V := dd 1 (x1 :: dd 1 (x3 :: dd 4 (x8 :: dd 74 [])))

def withyref06_Words_K0 (M : Env) : AX → List V → H → Option (V × H) :=
 fun x env h => fin F.withyref06_Words x env h

def withyref06_Words_K1 (M : Env) : AX → List V → H → Option (V × H) :=
 fun x env h => match x with | .normal => evalC M F.withyref06_Words_c0 env h (fun x env h => withyref06_Words_K0 M x env h) | x => withyref06_Words_K0 M x env h

def withyref06_Words_K2 (M : Env) : AX → List V → H → Option (V × H) :=
 fun x env h => match x with | .exit j => (match Nat.beq j 0 with | true => withyref06_Words_K1 M .normal env h | false => withyref06_Words_K1 M (.exit j) env h) | x => withyref06_Words_K1 M x env h

def withyref06_Words_K3 (M : Env) : AX → List V → H → Option (V × H) :=
 fun x env h => match x with | .normal => evalC M F.withyref06_Words_c2 env h (fun x env h => withyref06_Words_K0 M x env h) | x => withyref06_Words_K0 M x env h

def withyref06_Words_K4 (M : Env) : AX → List V → H → Option (V × H) :=
 fun x env h => match x with | .exit j => (match Nat.beq j 2 with | true => withyref06_Words_K3 M .normal env h | false => withyref06_Words_K3 M (.exit j) env h) | x => withyref06_Words_K3 M x env h

def withyref06_Words_K5 (M : Env) : AX → List V → H → Option (AX × List V × H) :=
 fun x env h => match x with | .normal => some (.normal, keepOf [1, 3, 5] 0 env, h) | x => some (x, keepOf [1, 3] 0 env, h)

def withyref06_Words_K6 (M : Env) : AX → List V → H → Option (AX × List V × H) :=
 fun x env h => match x with | .normal => evalC M F.withyref06_Words_c4 env h (fun x env h => withyref06_Words_K5 M x env h) | x => withyref06_Words_K5 M x env h

def withyref06_Words_K7 (M : Env) : AX → List V → H → Option (AX × List V × H) :=
 fun x env h => match x with | .exit j => (match Nat.beq j 3 with | true => withyref06_Words_K6 M .normal env h | false => withyref06_Words_K6 M (.exit j) env h) | x => withyref06_Words_K6 M x env h

def withyref06_Words_K8 (M : Env) : AX → List V → H → Option (AX × List V × H) :=
 fun x env h => match x with | .exit j => (match Nat.beq j 4 with | true => withyref06_Words_K7 M .normal env h | false => withyref06_Words_K7 M (.exit j) env h) | x => withyref06_Words_K7 M x env h

def withyref06_Words_K9 (M : Env) : AX → List V → H → Option (V × H) :=
 fun x env h => match x with | .normal => evalC M F.withyref06_Words_c6 env h (fun x env h => withyref06_Words_K0 M x env h) | x => withyref06_Words_K0 M x env h

def withyref06_Words_K10 (M : Env) : AX → List V → H → Option (V × H) :=
 fun x env h => match x with | .exit j => (match Nat.beq j 6 with | true => withyref06_Words_K9 M .normal env h | false => withyref06_Words_K9 M (.exit j) env h) | x => withyref06_Words_K9 M x env h

def withyref06_Words_K11 (M : Env) : AX → List V → H → Option (V × H) :=
 fun x env h => match x with | .normal => evalC M F.withyref06_Words_c8 env h (fun x env h => withyref06_Words_K0 M x env h) | x => withyref06_Words_K0 M x env h

def withyref06_Words_K12 (M : Env) : AX → List V → H → Option (V × H) :=
 fun x env h => match x with | .exit j => (match Nat.beq j 8 with | true => withyref06_Words_K11 M .normal env h | false => withyref06_Words_K11 M (.exit j) env h) | x => withyref06_Words_K11 M x env h

def withyref06_Words_K13 (M : Env) : AX → List V → H → Option (AX × List V × H) :=
 fun x env h => match x with | .normal => some (.normal, keepOf [1, 3, 8] 0 env, h) | x => some (x, keepOf [3] 0 env, h)

def withyref06_Words_K14 (M : Env) : AX → List V → H → Option (AX × List V × H) :=
 fun x env h => match x with | .normal => evalC M F.withyref06_Words_c10 env h (fun x env h => withyref06_Words_K13 M x env h) | x => withyref06_Words_K13 M x env h

def withyref06_Words_K15 (M : Env) : AX → List V → H → Option (AX × List V × H) :=
 fun x env h => match x with | .exit j => (match Nat.beq j 9 with | true => withyref06_Words_K14 M .normal env h | false => withyref06_Words_K14 M (.exit j) env h) | x => withyref06_Words_K14 M x env h

def withyref06_Words_K16 (M : Env) : AX → List V → H → Option (AX × List V × H) :=
 fun x env h => match x with | .exit j => (match Nat.beq j 10 with | true => withyref06_Words_K15 M .normal env h | false => withyref06_Words_K15 M (.exit j) env h) | x => withyref06_Words_K15 M x env h

def withyref06_Words (M : Env) (a0_0 : Int) (a0_1 : Int) (a0_2 : Int) (a0_3 : Int) (a0_4 : Int) (a0_5 : Int) (h : H) : Option (V × H) :=
 let h0 := h.new (.cells [(.int .i64 a0_0), (.int .i64 a0_1), (.int .i64 a0_2), (.int .i64 a0_3), (.int .i64 a0_4), (.int .i64 a0_5)] .rw)
 let h1 := h0.new (.cells [(.str ⟨⟨[99, 108, 111, 99, 107]⟩⟩), (.int .i64 0), (.int .i64 0), (.str ⟨⟨[101, 112, 111, 99, 104]⟩⟩), (.int .i64 0), (.int .i64 0), (.str ⟨⟨[103, 114, 97, 121, 115]⟩⟩), (.int .i64 0), (.int .i64 0), (.str ⟨⟨[116, 111, 112]⟩⟩), (.int .i64 0), (.int .i64 0)] .rw)
 (M.loop (withyref06_Words_c1_B M) (withyref06_Words_c1_E (.ptr h.next 0) (.sl h0.next 0 4 (.ex 4)) (.int .i64 0)) h1).bind fun p2 => withyref06_Words_K2 M p2.1 p2.2.1 p2.2.2

def withyref06_Words_c1_S (M : Env) (x1 : V) (x3 : V) (x4 : Int) (h : H) : Option (AX × List V × H) :=
 (ptrAt x1 2).bind fun v0 =>
 (h.ld1 v0).bind fun v1 =>
 (asI .i64 v1).bind fun n2 =>
 match (decide (x4 < n2)) with
 | true => (
 let h3 := h.new (.cells [(.str ⟨⟨[112, 105, 110]⟩⟩), (.int .i64 x4), (.int .i64 0)] .rw)
 (h3.append 3 32 x3 (.sl h.next 0 1 (.ex 1))).bind fun p4 =>
 some (.normal, (withyref06_Words_c1_E x1 p4.1 (.int .i64 (wr .i64 (x4 + 1)))), p4.2))
 | false => (
 some ((.exit 0), (withyref06_Words_c1_O x1 x3), h))

def withyref06_Words_c1_e0 (M : Env) (x1 : V) (x3 : V) (h : H) : Option (V × H) :=
 (M.loop (withyref06_Words_c3_B M) (withyref06_Words_c3_E x1 x3 (.int .i64 0)) h).bind fun p0 => withyref06_Words_K4 M p0.1 p0.2.1 p0.2.2

def withyref06_Words_c3_S (M : Env) (x1 : V) (x3 : V) (x5 : Int) (h : H) : Option (AX × List V × H) :=
 (ptrAt x1 2).bind fun v0 =>
 (h.ld1 v0).bind fun v1 =>
 (asI .i64 v1).bind fun n2 =>
 match (decide (x5 < n2)) with
 | true => (
 (M.loop (withyref06_Words_c5_B M) (withyref06_Words_c5_E x1 x3 (.int .i64 x5) (.int .i64 0)) h).bind fun p3 => withyref06_Words_K8 M p3.1 p3.2.1 p3.2.2)
 | false => (
 some ((.exit 2), (withyref06_Words_c3_O x1 x3), h))

def withyref06_Words_c3_e2 (M : Env) (x1 : V) (x3 : V) (h : H) : Option (V × H) :=
 (M.loop (withyref06_Words_c7_B M) (withyref06_Words_c7_E x1 x3 (.int .i64 0)) h).bind fun p0 => withyref06_Words_K10 M p0.1 p0.2.1 p0.2.2

def withyref06_Words_c5_S (M : Env) (x1 : V) (x3 : V) (x5 : Int) (x6 : Int) (h : H) : Option (AX × List V × H) :=
 (ptrAt x1 3).bind fun v0 =>
 (h.ld1 v0).bind fun v1 =>
 (asI .i64 v1).bind fun n2 =>
 match (decide (x6 < n2)) with
 | true => (
 let h3 := h.new (.cells [(.str ⟨⟨[101, 110, 116, 114, 121]⟩⟩), (.int .i64 x5), (.int .i64 x6)] .rw)
 (h3.append 3 32 x3 (.sl h.next 0 1 (.ex 1))).bind fun p4 =>
 some (.normal, (withyref06_Words_c5_E x1 p4.1 (.int .i64 x5) (.int .i64 (wr .i64 (x6 + 1)))), p4.2))
 | false => (
 some ((.exit 4), (withyref06_Words_c5_O x1 x3 (.int .i64 x5)), h))

def withyref06_Words_c5_e4 (M : Env) (x1 : V) (x3 : V) (x5 : Int) (h : H) : Option (AX × List V × H) :=
 some (.normal, (withyref06_Words_c3_E x1 x3 (.int .i64 (wr .i64 (x5 + 1)))), h)

def withyref06_Words_c7_S (M : Env) (x1 : V) (x3 : V) (x7 : Int) (h : H) : Option (AX × List V × H) :=
 (ptrAt x1 2).bind fun v0 =>
 (h.ld1 v0).bind fun v1 =>
 (asI .i64 v1).bind fun n2 =>
 match (decide (x7 < n2)) with
 | true => (
 let h3 := h.new (.cells [(.str ⟨⟨[118, 105, 101, 119]⟩⟩), (.int .i64 x7), (.int .i64 0), (.str ⟨⟨[115, 116, 97, 114, 116]⟩⟩), (.int .i64 x7), (.int .i64 0)] .rw)
 (h3.append 3 32 x3 (.sl h.next 0 2 (.ex 2))).bind fun p4 =>
 some (.normal, (withyref06_Words_c7_E x1 p4.1 (.int .i64 (wr .i64 (x7 + 1)))), p4.2))
 | false => (
 some ((.exit 6), (withyref06_Words_c7_O x1 x3), h))

def withyref06_Words_c7_e6 (M : Env) (x1 : V) (x3 : V) (h : H) : Option (V × H) :=
 (M.loop (withyref06_Words_c9_B M) (withyref06_Words_c9_E x1 x3 (.int .i64 0)) h).bind fun p0 => withyref06_Words_K12 M p0.1 p0.2.1 p0.2.2

def withyref06_Words_c9_S (M : Env) (x1 : V) (x3 : V) (x8 : Int) (h : H) : Option (AX × List V × H) :=
 (ptrAt x1 0).bind fun v0 =>
 (h.ld1 v0).bind fun v1 =>
 (asI .i64 v1).bind fun n2 =>
 match (decide (x8 < n2)) with
 | true => (
 let h3 := h.new (.cells [(.str ⟨⟨[104, 101, 97, 100, 101, 114]⟩⟩), (.int .i64 x8), (.int .i64 0), (.str ⟨⟨[108, 105, 110, 107]⟩⟩), (.int .i64 x8), (.int .i64 0)] .rw)
 (h3.append 3 32 x3 (.sl h.next 0 2 (.ex 2))).bind fun p4 =>
 (M.loop (withyref06_Words_c11_B M) (withyref06_Words_c11_E x1 p4.1 (.int .i64 x8) (.int .i64 0)) p4.2).bind fun p5 => withyref06_Words_K16 M p5.1 p5.2.1 p5.2.2)
 | false => (
 some ((.exit 8), (withyref06_Words_c9_O x3), h))

def withyref06_Words_c9_e8 (M : Env) (x3 : V) (h : H) : Option (V × H) :=
 some (x3, h)

def withyref06_Words_c11_S (M : Env) (x1 : V) (x3 : V) (x8 : Int) (x9 : Int) (h : H) : Option (AX × List V × H) :=
 (h.ldN 6 x1).bind fun v0 =>
 (M.call 149 [v0] h).bind fun p1 =>
 (asI .i64 p1.1).bind fun n2 =>
 match (decide (x9 < n2)) with
 | true => (
 let h3 := p1.2.new (.cells [(.str ⟨⟨[98, 111, 100, 121]⟩⟩), (.int .i64 x8), (.int .i64 x9)] .rw)
 (h3.append 3 32 x3 (.sl p1.2.next 0 1 (.ex 1))).bind fun p4 =>
 some (.normal, (withyref06_Words_c11_E x1 p4.1 (.int .i64 x8) (.int .i64 (wr .i64 (x9 + 1)))), p4.2))
 | false => (
 some ((.exit 10), (withyref06_Words_c11_O x1 x3 (.int .i64 x8)), p1.2))

def withyref06_Words_c11_e10 (M : Env) (x1 : V) (x3 : V) (x8 : Int) (h : H) : Option (AX × List V × H) :=
 some (.normal, (withyref06_Words_c9_E x1 x3 (.int .i64 (wr .i64 (x8 + 1)))), h)

theorem withyref06_Words_eq (M : Env) (a0_0 : Int) (a0_1 : Int) (a0_2 : Int) (a0_3 : Int) (a0_4 : Int) (a0_5 : Int) (h : H) : evalF M F.withyref06_Words [(.agg [(.int .i64 a0_0), (.int .i64 a0_1), (.int .i64 a0_2), (.int .i64 a0_3), (.int .i64 a0_4), (.int .i64 a0_5)])] h = withyref06_Words M a0_0 a0_1 a0_2 a0_3 a0_4 a0_5 h := by kernel_rfl

theorem withyref06_Words_c1_eq (M : Env) (x1 : V) (x3 : V) (x4 : Int) (h : H) : withyref06_Words_c1_B M (withyref06_Words_c1_E x1 x3 (.int .i64 x4)) h = withyref06_Words_c1_S M x1 x3 x4 h := by kernel_rfl

theorem withyref06_Words_c1_e0_eq (M : Env) (x1 : V) (x3 : V) (h : H) : withyref06_Words_K2 M (.exit 0) (withyref06_Words_c1_O x1 x3) h = withyref06_Words_c1_e0 M x1 x3 h := by kernel_rfl

theorem withyref06_Words_c3_eq (M : Env) (x1 : V) (x3 : V) (x5 : Int) (h : H) : withyref06_Words_c3_B M (withyref06_Words_c3_E x1 x3 (.int .i64 x5)) h = withyref06_Words_c3_S M x1 x3 x5 h := by kernel_rfl

theorem withyref06_Words_c3_e2_eq (M : Env) (x1 : V) (x3 : V) (h : H) : withyref06_Words_K4 M (.exit 2) (withyref06_Words_c3_O x1 x3) h = withyref06_Words_c3_e2 M x1 x3 h := by kernel_rfl

theorem withyref06_Words_c5_eq (M : Env) (x1 : V) (x3 : V) (x5 : Int) (x6 : Int) (h : H) : withyref06_Words_c5_B M (withyref06_Words_c5_E x1 x3 (.int .i64 x5) (.int .i64 x6)) h = withyref06_Words_c5_S M x1 x3 x5 x6 h := by kernel_rfl

theorem withyref06_Words_c5_e4_eq (M : Env) (x1 : V) (x3 : V) (x5 : Int) (h : H) : withyref06_Words_K8 M (.exit 4) (withyref06_Words_c5_O x1 x3 (.int .i64 x5)) h = withyref06_Words_c5_e4 M x1 x3 x5 h := by kernel_rfl

theorem withyref06_Words_c7_eq (M : Env) (x1 : V) (x3 : V) (x7 : Int) (h : H) : withyref06_Words_c7_B M (withyref06_Words_c7_E x1 x3 (.int .i64 x7)) h = withyref06_Words_c7_S M x1 x3 x7 h := by kernel_rfl

theorem withyref06_Words_c7_e6_eq (M : Env) (x1 : V) (x3 : V) (h : H) : withyref06_Words_K10 M (.exit 6) (withyref06_Words_c7_O x1 x3) h = withyref06_Words_c7_e6 M x1 x3 h := by kernel_rfl

theorem withyref06_Words_c9_eq (M : Env) (x1 : V) (x3 : V) (x8 : Int) (h : H) : withyref06_Words_c9_B M (withyref06_Words_c9_E x1 x3 (.int .i64 x8)) h = withyref06_Words_c9_S M x1 x3 x8 h := by kernel_rfl

theorem withyref06_Words_c9_e8_eq (M : Env) (x3 : V) (h : H) : withyref06_Words_K12 M (.exit 8) (withyref06_Words_c9_O x3) h = withyref06_Words_c9_e8 M x3 h := by kernel_rfl

theorem withyref06_Words_c11_eq (M : Env) (x1 : V) (x3 : V) (x8 : Int) (x9 : Int) (h : H) : withyref06_Words_c11_B M (withyref06_Words_c11_E x1 x3 (.int .i64 x8) (.int .i64 x9)) h = withyref06_Words_c11_S M x1 x3 x8 x9 h := by kernel_rfl

theorem withyref06_Words_c11_e10_eq (M : Env) (x1 : V) (x3 : V) (x8 : Int) (h : H) : withyref06_Words_K16 M (.exit 10) (withyref06_Words_c11_O x1 x3 (.int .i64 x8)) h = withyref06_Words_c11_e10 M x1 x3 x8 h := by kernel_rfl

end Wm.S
end

section
/- PRINTED by my tool (wip/wm/tool/Gen.lean): what a function comes to, stretch by stretch. -/
namespace Wm.S
open Wm
set_option maxRecDepth 100000
set_option linter.unusedVariables false


def withyref06_Room (M : Env) (a0_0 : Int) (a0_1 : Int) (a0_2 : Int) (a0_3 : Int) (a0_4 : Int) (a0_5 : Int) (h : H) : Option (V × H) :=
 let h0 := h.new (.cells [(.int .i64 a0_0), (.int .i64 a0_1), (.int .i64 a0_2), (.int .i64 a0_3), (.int .i64 a0_4), (.int .i64 a0_5)] .rw)
 (h0.ld1 (.ptr h.next 1)).bind fun v1 =>
 (asI .i64 v1).bind fun n2 =>
 match (decide (n2 < 3)) with
 | true => (
 some ((.int .i64 3), h0))
 | false => (
 (h0.ld1 (.ptr h.next 1)).bind fun v3 =>
 some (v3, h0))

theorem withyref06_Room_eq (M : Env) (a0_0 : Int) (a0_1 : Int) (a0_2 : Int) (a0_3 : Int) (a0_4 : Int) (a0_5 : Int) (h : H) : evalF M F.withyref06_Room [(.agg [(.int .i64 a0_0), (.int .i64 a0_1), (.int .i64 a0_2), (.int .i64 a0_3), (.int .i64 a0_4), (.int .i64 a0_5)])] h = withyref06_Room M a0_0 a0_1 a0_2 a0_3 a0_4 a0_5 h := by kernel_rfl

end Wm.S
end

section
/- PRINTED by my tool (wip/wm/tool/Gen.lean): what a function comes to, stretch by stretch. -/
namespace Wm.S
open Wm
set_option maxRecDepth 100000
set_option linter.unusedVariables false

def withyref06_At_c1_B (M : Env) : List V → H → Option (AX × List V × H) :=
 fun env h => evalC M F.withyref06_At_c1 env h fun x env h => match x with
 | .normal => some (.normal, keepOf [3, 5, 6] 0 env, h)
 | x => some (x, keepOf [4] 0 env, h)

def withyref06_At_c1_E (x3 x5 x6 : V) : List V := dd 3 (x3 :: dd 1 (x5 :: x6 :: dd 18 []))
def withyref06_At_c1_O (x4 : V) : List V := dd 4 (x4 :: dd 20 [])

def withyref06_At_K0 (M : Env) : AX → List V → H → Option (V × H) :=
 fun x env h => fin F.withyref06_At x env h

def withyref06_At_K1 (M : Env) : AX → List V → H → Option (V × H) :=
 fun x env h => match x with | .normal => evalC M F.withyref06_At_c0 env h (fun x env h => withyref06_At_K0 M x env h) | x => withyref06_At_K0 M x env h

def withyref06_At_K2 (M : Env) : AX → List V → H → Option (V × H) :=
 fun x env h => match x with | .exit j => (match Nat.beq j 0 with | true => withyref06_At_K1 M .normal env h | false => withyref06_At_K1 M (.exit j) env h) | x => withyref06_At_K1 M x env h

def withyref06_At (M : Env) (a0_0 : Int) (a0_1 : Int) (a0_2 : Int) (a0_3 : Int) (a0_4 : Int) (a0_5 : Int) (a1_0 : ByteArray) (a1_1 : Int) (a1_2 : Int) (h : H) : Option (V × H) :=
 let h0 := h.new (.cells [(.int .i64 a0_0), (.int .i64 a0_1), (.int .i64 a0_2), (.int .i64 a0_3), (.int .i64 a0_4), (.int .i64 a0_5)] .rw)
 let h1 := h0.new (.cells [(.str a1_0), (.int .i64 a1_1), (.int .i64 a1_2)] .rw)
 (h1.ldN 6 (.ptr h.next 0)).bind fun v2 =>
 (M.call 85 [v2] h1).bind fun p3 =>
 (asB p3.1).bind fun b4 =>
 match (!b4) with
 | true => (
 some ((.int .i64 (-1)), p3.2))
 | false => (
 (p3.2.ldN 6 (.ptr h.next 0)).bind fun v5 =>
 (M.call 87 [v5] p3.2).bind fun p6 =>
 (M.loop (withyref06_At_c1_B M) (withyref06_At_c1_E (.ptr h0.next 0) p6.1 (.int .i64 0)) p6.2).bind fun p7 => withyref06_At_K2 M p7.1 p7.2.1 p7.2.2)

def withyref06_At_c1_S (M : Env) (x3 : V) (x5 : V) (x6 : Int) (h : H) : Option (AX × List V × H) :=
 (lenSl x5).bind fun n0 =>
 match (decide (x6 < ((n0 : Nat) : Int))) with
 | true => (
 (indexAV 3 x5 (.int .i64 x6)).bind fun v1 =>
 (h.ldN 3 v1).bind fun v2 =>
 (h.ldN 3 x3).bind fun v3 =>
 (eqV (.agg [(0, .str), (1, .int), (2, .int)]) v2 v3).bind fun b4 =>
 match b4 with
 | true => (
 some (.ret, (withyref06_At_c1_O (.int .i64 x6)), h))
 | false => (
 some (.normal, (withyref06_At_c1_E x3 x5 (.int .i64 (wr .i64 (x6 + 1)))), h)))
 | false => (
 some ((.exit 0), (withyref06_At_c1_O .dead), h))

def withyref06_At_c1_r (M : Env) (x4 : Int) (h : H) : Option (V × H) :=
 some ((.int .i64 x4), h)

theorem withyref06_At_eq (M : Env) (a0_0 : Int) (a0_1 : Int) (a0_2 : Int) (a0_3 : Int) (a0_4 : Int) (a0_5 : Int) (a1_0 : ByteArray) (a1_1 : Int) (a1_2 : Int) (h : H) : evalF M F.withyref06_At [(.agg [(.int .i64 a0_0), (.int .i64 a0_1), (.int .i64 a0_2), (.int .i64 a0_3), (.int .i64 a0_4), (.int .i64 a0_5)]), (.agg [(.str a1_0), (.int .i64 a1_1), (.int .i64 a1_2)])] h = withyref06_At M a0_0 a0_1 a0_2 a0_3 a0_4 a0_5 a1_0 a1_1 a1_2 h := by kernel_rfl

theorem withyref06_At_c1_eq (M : Env) (x3 : V) (x5 : V) (x6 : Int) (h : H) : withyref06_At_c1_B M (withyref06_At_c1_E x3 x5 (.int .i64 x6)) h = withyref06_At_c1_S M x3 x5 x6 h := by kernel_rfl

theorem withyref06_At_c1_r_eq (M : Env) (x4 : Int) (h : H) : withyref06_At_K2 M .ret (withyref06_At_c1_O (.int .i64 x4)) h = withyref06_At_c1_r M x4 h := by kernel_rfl

end Wm.S
end

section
/- PRINTED by my tool (wip/wm/tool/Gen.lean): what a function comes to, stretch by stretch. -/
namespace Wm.S
open Wm
set_option maxRecDepth 100000
set_option linter.unusedVariables false

end Wm.S
end

section
/- PRINTED by my tool (wip/wm/tool/Gen.lean): what a function comes to, stretch by stretch. -/
namespace Wm.S
open Wm
set_option maxRecDepth 100000
set_option linter.unusedVariables false

end Wm.S
end

section
/- PRINTED by my tool (wip/wm/tool/Gen.lean): what a function comes to, stretch by stretch. -/
namespace Wm.S
open Wm
set_option maxRecDepth 100000
set_option linter.unusedVariables false


end Wm.S
end

section
/- PRINTED by my tool (wip/wm/tool/Gen.lean): what a function comes to, stretch by stretch. -/
namespace Wm.S
open Wm
set_option maxRecDepth 100000
set_option linter.unusedVariables false

def withyref06_Memory_c1_B (M : Env) : List V → H → Option (AX × List V × H) :=
 fun env h => evalC M F.withyref06_Memory_c1 env h fun x env h => match x with
 | .normal => some (.normal, keepOf [1, 3, 4, 5] 0 env, h)
 | x => some (x, keepOf [4] 0 env, h)

def withyref06_Memory_c1_E (x1 x3 x4 x5 : V) : List V := dd 1 (x1 :: dd 1 (x3 :: x4 :: x5 :: dd 43 []))
def withyref06_Memory_c1_O (x4 : V) : List V := dd 4 (x4 :: dd 44 [])

def withyref06_Memory_K0 (M : Env) : AX → List V → H → Option (V × H) :=
 fun x env h => fin F.withyref06_Memory x env h

def withyref06_Memory_K1 (M : Env) : AX → List V → H → Option (V × H) :=
 fun x env h => match x with | .normal => evalC M F.withyref06_Memory_c0 env h (fun x env h => withyref06_Memory_K0 M x env h) | x => withyref06_Memory_K0 M x env h

def withyref06_Memory_K2 (M : Env) : AX → List V → H → Option (V × H) :=
 fun x env h => match x with | .exit j => (match Nat.beq j 0 with | true => withyref06_Memory_K1 M .normal env h | false => withyref06_Memory_K1 M (.exit j) env h) | x => withyref06_Memory_K1 M x env h

def withyref06_Memory (M : Env) (a0_0 : Int) (a0_1 : Int) (a0_2 : Int) (a0_3 : Int) (a0_4 : Int) (a0_5 : Int) (h : H) : Option (V × H) :=
 let h0 := h.new (.cells [(.int .i64 a0_0), (.int .i64 a0_1), (.int .i64 a0_2), (.int .i64 a0_3), (.int .i64 a0_4), (.int .i64 a0_5)] .rw)
 (h0.ldN 6 (.ptr h.next 0)).bind fun v1 =>
 (M.call 87 [v1] h0).bind fun p2 =>
 (lenSl p2.1).bind fun n3 =>
 (p2.2.mkSl 1 8 [(.int .u64 0)] ((n3 : Nat) : Int) ((n3 : Nat) : Int)).bind fun p4 =>
 (indexAV 1 p4.1 (.int .i64 0)).bind fun v5 =>
 (p4.2.st 1 v5 (.int .u64 1)).bind fun h6 =>
 (indexAV 1 p4.1 (.int .i64 3)).bind fun v7 =>
 (h6.st 1 v7 (.int .u64 1)).bind fun h8 =>
 (M.loop (withyref06_Memory_c1_B M) (withyref06_Memory_c1_E (.ptr h.next 0) p2.1 p4.1 (.int .i64 0)) h8).bind fun p9 => withyref06_Memory_K2 M p9.1 p9.2.1 p9.2.2

def withyref06_Memory_c1_S (M : Env) (x1 : V) (x3 : V) (x4 : V) (x5 : Int) (h : H) : Option (AX × List V × H) :=
 (lenSl x3).bind fun n0 =>
 match (decide (x5 < ((n0 : Nat) : Int))) with
 | true => (
 (indexAV 3 x3 (.int .i64 x5)).bind fun v1 =>
 (ptrAt v1 0).bind fun v2 =>
 (h.ld1 v2).bind fun v3 =>
 (eqV .str v3 (.str ⟨⟨[108, 105, 110, 107]⟩⟩)).bind fun b4 =>
 match b4 with
 | true => (
 (indexAV 3 x3 (.int .i64 x5)).bind fun v5 =>
 (ptrAt v5 1).bind fun v6 =>
 (h.ld1 v6).bind fun v7 =>
 (asI .i64 v7).bind fun n8 =>
 (ptrAt x1 0).bind fun v9 =>
 (h.ld1 v9).bind fun v10 =>
 (asI .i64 v10).bind fun n11 =>
 match (decide ((wr .i64 (n8 + 1)) < n11)) with
 | true => (
 (indexAV 3 x3 (.int .i64 x5)).bind fun v12 =>
 (ptrAt v12 1).bind fun v13 =>
 (h.ld1 v13).bind fun v14 =>
 (asI .i64 v14).bind fun n15 =>
 (indexAV 1 x4 (.int .i64 x5)).bind fun v16 =>
 (h.st 1 v16 (.int .u64 (wr .u64 (wr .i64 (n15 + 2))))).bind fun h17 =>
 some (.normal, (withyref06_Memory_c1_E x1 x3 x4 (.int .i64 (wr .i64 (x5 + 1)))), h17))
 | false => (
 some (.normal, (withyref06_Memory_c1_E x1 x3 x4 (.int .i64 (wr .i64 (x5 + 1)))), h)))
 | false => (
 some (.normal, (withyref06_Memory_c1_E x1 x3 x4 (.int .i64 (wr .i64 (x5 + 1)))), h)))
 | false => (
 some ((.exit 0), (withyref06_Memory_c1_O x4), h))

def withyref06_Memory_c1_e0 (M : Env) (x4 : V) (h : H) : Option (V × H) :=
 some (x4, h)

theorem withyref06_Memory_eq (M : Env) (a0_0 : Int) (a0_1 : Int) (a0_2 : Int) (a0_3 : Int) (a0_4 : Int) (a0_5 : Int) (h : H) : evalF M F.withyref06_Memory [(.agg [(.int .i64 a0_0), (.int .i64 a0_1), (.int .i64 a0_2), (.int .i64 a0_3), (.int .i64 a0_4), (.int .i64 a0_5)])] h = withyref06_Memory M a0_0 a0_1 a0_2 a0_3 a0_4 a0_5 h := by kernel_rfl

theorem withyref06_Memory_c1_eq (M : Env) (x1 : V) (x3 : V) (x4 : V) (x5 : Int) (h : H) : withyref06_Memory_c1_B M (withyref06_Memory_c1_E x1 x3 x4 (.int .i64 x5)) h = withyref06_Memory_c1_S M x1 x3 x4 x5 h := by kernel_rfl

theorem withyref06_Memory_c1_e0_eq (M : Env) (x4 : V) (h : H) : withyref06_Memory_K2 M (.exit 0) (withyref06_Memory_c1_O x4) h = withyref06_Memory_c1_e0 M x4 h := by kernel_rfl

end Wm.S
end

section
/- PRINTED by my tool (wip/wm/tool/Gen.lean): what a function comes to, stretch by stretch. -/
namespace Wm.S
open Wm
set_option maxRecDepth 100000
set_option linter.unusedVariables false


def mem_Mem_Size (M : Env) (a0 : V) (h : H) : Option (V × H) :=
 (eqV .ptr a0 .nilp).bind fun b0 =>
 match b0 with
 | true => (
 some ((.int .i64 0), h))
 | false => (
 (nilc a0).bind fun v1 =>
 (ptrAt v1 0).bind fun v2 =>
 (h.ld1 v2).bind fun v3 =>
 (lenSl v3).bind fun n4 =>
 some ((.int .i64 ((n4 : Nat) : Int)), h))

theorem mem_Mem_Size_eq (M : Env) (a0 : V) (h : H) : evalF M F.mem_Mem_Size [a0] h = mem_Mem_Size M a0 h := by kernel_rfl

end Wm.S
end

section
/- PRINTED by my tool (wip/wm/tool/Gen.lean): what a function comes to, stretch by stretch. -/
namespace Wm.S
open Wm
set_option maxRecDepth 100000
set_option linter.unusedVariables false


def mem_Mem_there (M : Env) (a0 : V) (a1 : Int) (h : H) : Option (V × H) :=
 match (decide (0 ≤ a1)) with
 | true => (
 (M.call 413 [a0] h).bind fun p0 =>
 (asI .i64 p0.1).bind fun n1 =>
 some ((.bool (decide (a1 < n1))), p0.2))
 | false => (
 some ((.bool false), h))

theorem mem_Mem_there_eq (M : Env) (a0 : V) (a1 : Int) (h : H) : evalF M F.mem_Mem_there [a0, (.int .i64 a1)] h = mem_Mem_there M a0 a1 h := by kernel_rfl

end Wm.S
end

section
/- PRINTED by my tool (wip/wm/tool/Gen.lean): what a function comes to, stretch by stretch. -/
namespace Wm.S
open Wm
set_option maxRecDepth 100000
set_option linter.unusedVariables false


def mem_Mem_touch (M : Env) (a0 : V) (a1 : Int) (a2 : Int) (a3 : Int) (h : H) : Option (V × H) :=
 (nilc a0).bind fun v0 =>
 (ptrAt v0 1).bind fun v1 =>
 (h.ld1 v1).bind fun v2 =>
 (asI .i64 v2).bind fun n3 =>
 (nilc a0).bind fun v4 =>
 (ptrAt v4 1).bind fun v5 =>
 (h.st 1 v5 (.int .i64 (wr .i64 (n3 + 1)))).bind fun h6 =>
 (nilc a0).bind fun v7 =>
 (ptrAt v7 0).bind fun v8 =>
 (h6.ld1 v8).bind fun v9 =>
 (indexAV 1 v9 (.int .i64 a2)).bind fun v10 =>
 (h6.ld1 v10).bind fun v11 =>
 (fill [(.int .i64 0), (.int .i64 0), (.int .u64 0), (.int .u64 0)] [] [(0, 1, .c (.int .i64 a1)), (1, 1, .c (.int .i64 a2)), (2, 1, .c v11), (3, 1, .c (.int .u64 a3))]).bind fun cs12 =>
 (nilc a0).bind fun v13 =>
 (ptrAt v13 2).bind fun v14 =>
 (h6.st 4 v14 (.agg cs12)).bind fun h15 =>
 (nilc a0).bind fun v16 =>
 (ptrAt v16 0).bind fun v17 =>
 (h15.ld1 v17).bind fun v18 =>
 (indexAV 1 v18 (.int .i64 a2)).bind fun v19 =>
 (h15.st 1 v19 (.int .u64 a3)).bind fun h20 =>
 some ((.tup []), h20)

theorem mem_Mem_touch_eq (M : Env) (a0 : V) (a1 : Int) (a2 : Int) (a3 : Int) (h : H) : evalF M F.mem_Mem_touch [a0, (.int .i64 a1), (.int .i64 a2), (.int .u64 a3)] h = mem_Mem_touch M a0 a1 a2 a3 h := by kernel_rfl

end Wm.S
end

section
/- PRINTED by my tool (wip/wm/tool/Gen.lean): what a function comes to, stretch by stretch. -/
namespace Wm.S
open Wm
set_option maxRecDepth 100000
set_option linter.unusedVariables false


def mem_Mem_Load (M : Env) (a0 : V) (a1 : Int) (h : H) : Option (V × H) :=
 (M.call 346 [a0, (.int .i64 a1)] h).bind fun p0 =>
 (asB p0.1).bind fun b1 =>
 match (!b1) with
 | true => (
 some ((.int .u64 0), p0.2))
 | false => (
 (nilc a0).bind fun v2 =>
 (ptrAt v2 0).bind fun v3 =>
 (p0.2.ld1 v3).bind fun v4 =>
 (indexAV 1 v4 (.int .i64 a1)).bind fun v5 =>
 (p0.2.ld1 v5).bind fun v6 =>
 (M.call 347 [a0, (.int .i64 1), (.int .i64 a1), v6] p0.2).bind fun p7 =>
 (nilc a0).bind fun v8 =>
 (ptrAt v8 0).bind fun v9 =>
 (p7.2.ld1 v9).bind fun v10 =>
 (indexAV 1 v10 (.int .i64 a1)).bind fun v11 =>
 (p7.2.ld1 v11).bind fun v12 =>
 some (v12, p7.2))

theorem mem_Mem_Load_eq (M : Env) (a0 : V) (a1 : Int) (h : H) : evalF M F.mem_Mem_Load [a0, (.int .i64 a1)] h = mem_Mem_Load M a0 a1 h := by kernel_rfl

end Wm.S
end

section
/- PRINTED by my tool (wip/wm/tool/Gen.lean): what a function comes to, stretch by stretch. -/
namespace Wm.S
open Wm
set_option maxRecDepth 100000
set_option linter.unusedVariables false


def mem_Mem_Store (M : Env) (a0 : V) (a1 : Int) (a2 : Int) (h : H) : Option (V × H) :=
 (M.call 346 [a0, (.int .i64 a1)] h).bind fun p0 =>
 (asB p0.1).bind fun b1 =>
 match (!b1) with
 | true => (
 some ((.bool false), p0.2))
 | false => (
 (M.call 347 [a0, (.int .i64 2), (.int .i64 a1), (.int .u64 a2)] p0.2).bind fun p2 =>
 some ((.bool true), p2.2))

theorem mem_Mem_Store_eq (M : Env) (a0 : V) (a1 : Int) (a2 : Int) (h : H) : evalF M F.mem_Mem_Store [a0, (.int .i64 a1), (.int .u64 a2)] h = mem_Mem_Store M a0 a1 a2 h := by kernel_rfl

end Wm.S
end

section
/- PRINTED by my tool (wip/wm/tool/Gen.lean): what a function comes to, stretch by stretch. -/
namespace Wm.S
open Wm
set_option maxRecDepth 100000
set_option linter.unusedVariables false


def mem_Mem_Swap (M : Env) (a0 : V) (a1 : Int) (a2 : Int) (a3 : Int) (h : H) : Option (V × H) :=
 (M.call 346 [a0, (.int .i64 a1)] h).bind fun p0 =>
 (asB p0.1).bind fun b1 =>
 match (!b1) with
 | true => (
 some ((.bool false), p0.2))
 | false => (
 (nilc a0).bind fun v2 =>
 (ptrAt v2 0).bind fun v3 =>
 (p0.2.ld1 v3).bind fun v4 =>
 (indexAV 1 v4 (.int .i64 a1)).bind fun v5 =>
 (p0.2.ld1 v5).bind fun v6 =>
 (asI .u64 v6).bind fun n7 =>
 match (!decide (n7 = a2)) with
 | true => (
 (M.call 347 [a0, (.int .i64 3), (.int .i64 a1), v6] p0.2).bind fun p8 =>
 (asI .u64 v6).bind fun n9 =>
 some ((.bool (decide (n9 = a2))), p8.2))
 | false => (
 (M.call 347 [a0, (.int .i64 3), (.int .i64 a1), (.int .u64 a3)] p0.2).bind fun p8 =>
 (asI .u64 v6).bind fun n9 =>
 some ((.bool (decide (n9 = a2))), p8.2)))

theorem mem_Mem_Swap_eq (M : Env) (a0 : V) (a1 : Int) (a2 : Int) (a3 : Int) (h : H) : evalF M F.mem_Mem_Swap [a0, (.int .i64 a1), (.int .u64 a2), (.int .u64 a3)] h = mem_Mem_Swap M a0 a1 a2 a3 h := by kernel_rfl

end Wm.S
end

section
/- PRINTED by my tool (wip/wm/tool/Gen.lean): what a function comes to, stretch by stretch. -/
namespace Wm.S
open Wm
set_option maxRecDepth 100000
set_option linter.unusedVariables false


def mem_Mem_Add (M : Env) (a0 : V) (a1 : Int) (a2 : Int) (h : H) : Option (V × H) :=
 (M.call 346 [a0, (.int .i64 a1)] h).bind fun p0 =>
 (asB p0.1).bind fun b1 =>
 match (!b1) with
 | true => (
 some ((.int .u64 0), p0.2))
 | false => (
 (nilc a0).bind fun v2 =>
 (ptrAt v2 0).bind fun v3 =>
 (p0.2.ld1 v3).bind fun v4 =>
 (indexAV 1 v4 (.int .i64 a1)).bind fun v5 =>
 (p0.2.ld1 v5).bind fun v6 =>
 (asI .u64 v6).bind fun n7 =>
 (M.call 347 [a0, (.int .i64 4), (.int .i64 a1), (.int .u64 (wr .u64 (n7 + a2)))] p0.2).bind fun p8 =>
 (nilc a0).bind fun v9 =>
 (ptrAt v9 0).bind fun v10 =>
 (p8.2.ld1 v10).bind fun v11 =>
 (indexAV 1 v11 (.int .i64 a1)).bind fun v12 =>
 (p8.2.ld1 v12).bind fun v13 =>
 some (v13, p8.2))

theorem mem_Mem_Add_eq (M : Env) (a0 : V) (a1 : Int) (a2 : Int) (h : H) : evalF M F.mem_Mem_Add [a0, (.int .i64 a1), (.int .u64 a2)] h = mem_Mem_Add M a0 a1 a2 h := by kernel_rfl

end Wm.S
end

section
/- PRINTED by my tool (wip/wm/tool/Gen.lean): what a function comes to, stretch by stretch. -/
namespace Wm.S
open Wm
set_option maxRecDepth 100000
set_option linter.unusedVariables false


end Wm.S
end

section
/- PRINTED by my tool (wip/wm/tool/Gen.lean): what a function comes to, stretch by stretch. -/
namespace Wm.S
open Wm
set_option maxRecDepth 100000
set_option linter.unusedVariables false

def word_Pack_c1_B (M : Env) : List V → H → Option (AX × List V × H) :=
 fun env h => evalC M F.word_Pack_c1 env h fun x env h => match x with
 | .normal => some (.normal, keepOf [4, 5, 8, 9, 10] 0 env, h)
 | x => some (x, keepOf [2, 3, 4] 0 env, h)

def word_Pack_c1_E (x4 x5 x8 x9 x10 : V) : List V := dd 4 (x4 :: x5 :: dd 2 (x8 :: x9 :: x10 :: dd 28 []))
def word_Pack_c1_O (x2 x3 x4 : V) : List V := dd 2 (x2 :: x3 :: x4 :: dd 34 [])

def word_Pack_K0 (M : Env) : AX → List V → H → Option (V × H) :=
 fun x env h => fin F.word_Pack x env h

def word_Pack_K1 (M : Env) : AX → List V → H → Option (V × H) :=
 fun x env h => match x with | .normal => evalC M F.word_Pack_c0 env h (fun x env h => word_Pack_K0 M x env h) | x => word_Pack_K0 M x env h

def word_Pack_K2 (M : Env) : AX → List V → H → Option (V × H) :=
 fun x env h => match x with | .exit j => (match Nat.beq j 0 with | true => word_Pack_K1 M .normal env h | false => word_Pack_K1 M (.exit j) env h) | x => word_Pack_K1 M x env h

def word_Pack (M : Env) (a0 : V) (h : H) : Option (V × H) :=
 (lenSl a0).bind fun n0 =>
 (M.loop (word_Pack_c1_B M) (word_Pack_c1_E (.int .u64 0) (.int .i64 0) a0 (.int .i64 ((n0 : Nat) : Int)) (.int .i64 0)) h).bind fun p1 => word_Pack_K2 M p1.1 p1.2.1 p1.2.2

def word_Pack_c1_S (M : Env) (x4 : Int) (x5 : Int) (x8 : V) (x9 : Int) (x10 : Int) (h : H) : Option (AX × List V × H) :=
 match (decide (x10 < x9)) with
 | true => (
 (indexAV 2 x8 (.int .i64 x10)).bind fun v0 =>
 (h.ldN 2 v0).bind fun v1 =>
 let h2 := h.new (.cells [(.int .i64 0), (.int .u64 0)] .rw)
 (h2.st 2 (.ptr h.next 0) v1).bind fun h3 =>
 (h3.ld1 (.ptr h.next 0)).bind fun v4 =>
 (M.call 441 [(.int .i64 x5), v4] h3).bind fun p5 =>
 (asB p5.1).bind fun b6 =>
 match (!b6) with
 | true => (
 some (.ret, (word_Pack_c1_O (.int .u64 0) (.bool false) (.int .u64 x4)), p5.2))
 | false => (
 (p5.2.ld1 (.ptr h.next 1)).bind fun v7 =>
 (p5.2.ld1 (.ptr h.next 0)).bind fun v8 =>
 (M.call 484 [v7, v8] p5.2).bind fun p9 =>
 (asB p9.1).bind fun b10 =>
 match (!b10) with
 | true => (
 some (.ret, (word_Pack_c1_O (.int .u64 0) (.bool false) (.int .u64 x4)), p9.2))
 | false => (
 (p9.2.ld1 (.ptr h.next 1)).bind fun v11 =>
 (asI .u64 v11).bind fun n12 =>
 (shiftI true .u64 n12 x5).bind fun n13 =>
 (p9.2.ld1 (.ptr h.next 0)).bind fun v14 =>
 (asI .i64 v14).bind fun n15 =>
 some (.normal, (word_Pack_c1_E (.int .u64 (or64 x4 n13)) (.int .i64 (wr .i64 (x5 + n15))) x8 (.int .i64 x9) (.int .i64 (wr .i64 (x10 + 1)))), p9.2))))
 | false => (
 some ((.exit 0), (word_Pack_c1_O .dead .dead (.int .u64 x4)), h))

def word_Pack_c1_e0 (M : Env) (x2 : V) (x3 : V) (x4 : Int) (h : H) : Option (V × H) :=
 some ((.tup [(.int .u64 x4), (.bool true)]), h)

def word_Pack_c1_r (M : Env) (x2 : Int) (x3 : Bool) (x4 : V) (h : H) : Option (V × H) :=
 some ((.tup [(.int .u64 x2), (.bool x3)]), h)

theorem word_Pack_eq (M : Env) (a0 : V) (h : H) : evalF M F.word_Pack [a0] h = word_Pack M a0 h := by kernel_rfl

theorem word_Pack_c1_eq (M : Env) (x4 : Int) (x5 : Int) (x8 : V) (x9 : Int) (x10 : Int) (h : H) : word_Pack_c1_B M (word_Pack_c1_E (.int .u64 x4) (.int .i64 x5) x8 (.int .i64 x9) (.int .i64 x10)) h = word_Pack_c1_S M x4 x5 x8 x9 x10 h := by kernel_rfl

theorem word_Pack_c1_e0_eq (M : Env) (x2 : V) (x3 : V) (x4 : Int) (h : H) : word_Pack_K2 M (.exit 0) (word_Pack_c1_O x2 x3 (.int .u64 x4)) h = word_Pack_c1_e0 M x2 x3 x4 h := by kernel_rfl

theorem word_Pack_c1_r_eq (M : Env) (x2 : Int) (x3 : Bool) (x4 : V) (h : H) : word_Pack_K2 M .ret (word_Pack_c1_O (.int .u64 x2) (.bool x3) x4) h = word_Pack_c1_r M x2 x3 x4 h := by kernel_rfl

end Wm.S
end

section
/- PRINTED by my tool (wip/wm/tool/Gen.lean): what a function comes to, stretch by stretch. -/
namespace Wm.S
open Wm
set_option maxRecDepth 100000
set_option linter.unusedVariables false


def word_Fits (M : Env) (a0 : Int) (a1 : Int) (h : H) : Option (V × H) :=
 match (decide (0 ≤ a1)) with
 | true => (
 match (decide (63 < a1)) with
 | true => (
 some ((.bool true), h))
 | false => (
 (shiftI false .u64 a0 a1).bind fun n0 =>
 some ((.bool (decide (n0 = 0))), h)))
 | false => (
 some ((.bool false), h))

theorem word_Fits_eq (M : Env) (a0 : Int) (a1 : Int) (h : H) : evalF M F.word_Fits [(.int .u64 a0), (.int .i64 a1)] h = word_Fits M a0 a1 h := by kernel_rfl

end Wm.S
end

section
/- PRINTED by my tool (wip/wm/tool/Gen.lean): what a function comes to, stretch by stretch. -/
namespace Wm.S
open Wm
set_option maxRecDepth 100000
set_option linter.unusedVariables false


def head_bit (M : Env) (a0 : Bool) (h : H) : Option (V × H) :=
 match a0 with
 | true => (
 some ((.int .u64 1), h))
 | false => (
 some ((.int .u64 0), h))

theorem head_bit_eq (M : Env) (a0 : Bool) (h : H) : evalF M F.head_bit [(.bool a0)] h = head_bit M a0 h := by kernel_rfl

end Wm.S
end

section
/- PRINTED by my tool (wip/wm/tool/Gen.lean): what a function comes to, stretch by stretch. -/
namespace Wm.S
open Wm
set_option maxRecDepth 100000
set_option linter.unusedVariables false

def head_Pack_c1_B (M : Env) : List V → H → Option (AX × List V × H) :=
 fun env h => evalC M F.head_Pack_c1 env h fun x env h => match x with
 | .normal => some (.normal, keepOf [1, 18, 19] 0 env, h)
 | x => some (x, keepOf [1, 2, 3] 0 env, h)

def head_Pack_c1_E (x1 x18 x19 : V) : List V := dd 1 (x1 :: dd 16 (x18 :: x19 :: dd 43 []))
def head_Pack_c1_O (x1 x2 x3 : V) : List V := dd 1 (x1 :: x2 :: x3 :: dd 59 [])

def head_Pack_K0 (M : Env) : AX → List V → H → Option (V × H) :=
 fun x env h => fin F.head_Pack x env h

def head_Pack_K1 (M : Env) : AX → List V → H → Option (V × H) :=
 fun x env h => match x with | .normal => evalC M F.head_Pack_c0 env h (fun x env h => head_Pack_K0 M x env h) | x => head_Pack_K0 M x env h

def head_Pack_K2 (M : Env) : AX → List V → H → Option (V × H) :=
 fun x env h => match x with | .exit j => (match Nat.beq j 0 with | true => head_Pack_K1 M .normal env h | false => head_Pack_K1 M (.exit j) env h) | x => head_Pack_K1 M x env h

def head_Pack (M : Env) (a0_0 : Int) (a0_1 : Int) (a0_2 : Bool) (a0_3 : Int) (a0_4 : Int) (a0_5 : Int) (h : H) : Option (V × H) :=
 let h0 := h.new (.cells [(.int .i64 a0_0), (.int .i64 a0_1), (.bool a0_2), (.int .i64 a0_3), (.int .i64 a0_4), (.int .i64 a0_5)] .rw)
 (h0.ld1 (.ptr h.next 0)).bind fun v1 =>
 (h0.ld1 (.ptr h.next 1)).bind fun v2 =>
 (h0.ld1 (.ptr h.next 3)).bind fun v3 =>
 (h0.ld1 (.ptr h.next 4)).bind fun v4 =>
 (h0.ld1 (.ptr h.next 5)).bind fun v5 =>
 (fill [(.int .i64 0), (.int .i64 0), (.int .i64 0), (.int .i64 0), (.int .i64 0)] [] [(0, 1, .c v1), (1, 1, .c v2), (2, 1, .c v3), (3, 1, .c v4), (4, 1, .c v5)]).bind fun cs6 =>
 (M.loop (head_Pack_c1_B M) (head_Pack_c1_E (.ptr h.next 0) (.agg cs6) (.int .i64 0)) h0).bind fun p7 => head_Pack_K2 M p7.1 p7.2.1 p7.2.2

def head_Pack_c1_S (M : Env) (x1 : V) (x18 : V) (x19 : Int) (h : H) : Option (AX × List V × H) :=
 match (decide (x19 < 5)) with
 | true => (
 (aggCells x18).bind fun cs0 =>
 (indexOf 5 (.int .i64 x19)).bind fun j1 =>
 (part false cs0 (j1 * 1) 1).bind fun v2 =>
 (asI .i64 v2).bind fun n3 =>
 match (decide (n3 < 0)) with
 | true => (
 some (.ret, (head_Pack_c1_O x1 (.int .u64 0) (.bool false)), h))
 | false => (
 some (.normal, (head_Pack_c1_E x1 x18 (.int .i64 (wr .i64 (x19 + 1)))), h)))
 | false => (
 some ((.exit 0), (head_Pack_c1_O x1 .dead .dead), h))

def head_Pack_c1_e0 (M : Env) (x1 : V) (x2 : V) (x3 : V) (h : H) : Option (V × H) :=
 (ptrAt x1 0).bind fun v0 =>
 (h.ld1 v0).bind fun v1 =>
 (asIAny v1).bind fun n2 =>
 (ptrAt x1 1).bind fun v3 =>
 (h.ld1 v3).bind fun v4 =>
 (asIAny v4).bind fun n5 =>
 (ptrAt x1 2).bind fun v6 =>
 (h.ld1 v6).bind fun v7 =>
 (ptrAt x1 3).bind fun v8 =>
 (h.ld1 v8).bind fun v9 =>
 (asIAny v9).bind fun n10 =>
 (ptrAt x1 4).bind fun v11 =>
 (h.ld1 v11).bind fun v12 =>
 (asIAny v12).bind fun n13 =>
 (ptrAt x1 5).bind fun v14 =>
 (h.ld1 v14).bind fun v15 =>
 (asIAny v15).bind fun n16 =>
 (M.call 444 [v7] h).bind fun p17 =>
 match ckB (p17.2.ld1 v14) v15 with
 | true => (
 match ckB (p17.2.ld1 v11) v12 with
 | true => (
 match ckB (p17.2.ld1 v8) v9 with
 | true => (
 match ckB (p17.2.ld1 v3) v4 with
 | true => (
 match ckB (p17.2.ld1 v0) v1 with
 | true => (
 (fill [(.int .i64 0), (.int .u64 0)] [] [(0, 1, .c (.int .i64 1)), (1, 1, .c p17.1)]).bind fun cs18 =>
 (fill (repl [(.int .i64 0), (.int .u64 0)] 7) [] [(0, 2, .c (.agg [(.int .i64 3), (.int .u64 (wr .u64 n2))])), (2, 2, .c (.agg [(.int .i64 1), (.int .u64 (wr .u64 n5))])), (4, 2, .c (.agg cs18)), (6, 2, .c (.agg [(.int .i64 4), (.int .u64 (wr .u64 n10))])), (8, 2, .c (.agg [(.int .i64 7), (.int .u64 0)])), (10, 2, .c (.agg [(.int .i64 32), (.int .u64 (wr .u64 n13))])), (12, 2, .c (.agg [(.int .i64 16), (.int .u64 (wr .u64 n16))]))]).bind fun cs19 =>
 let h20 := p17.2.new (.cells cs19 .rw)
 (M.call 443 [(.sl p17.2.next 0 7 (.ex 7))] h20).bind fun p21 =>
 match p21.1 with
 | .tup vs22 => ((vs22[0]?).bind fun v23 =>
 match p21.1 with
 | .tup vs24 => ((vs24[1]?).bind fun v25 =>
 (asB v25).bind fun b26 =>
 match (!b26) with
 | true => (
 some ((.tup [(.int .u64 0), (.bool false)]), p21.2))
 | false => (
 (ptrAt x1 0).bind fun v27 =>
 (p21.2.ld1 v27).bind fun v28 =>
 (asI .i64 v28).bind fun n29 =>
 match (decide (4 < n29)) with
 | true => (
 some ((.tup [(.int .u64 0), (.bool false)]), p21.2))
 | false => (
 some ((.tup [v23, (.bool true)]), p21.2))))
 | _ => none)
 | _ => none)
 | false => none)
 | false => none)
 | false => none)
 | false => none)
 | false => none

def head_Pack_c1_r (M : Env) (x1 : V) (x2 : Int) (x3 : Bool) (h : H) : Option (V × H) :=
 some ((.tup [(.int .u64 x2), (.bool x3)]), h)

theorem head_Pack_eq (M : Env) (a0_0 : Int) (a0_1 : Int) (a0_2 : Bool) (a0_3 : Int) (a0_4 : Int) (a0_5 : Int) (h : H) : evalF M F.head_Pack [(.agg [(.int .i64 a0_0), (.int .i64 a0_1), (.bool a0_2), (.int .i64 a0_3), (.int .i64 a0_4), (.int .i64 a0_5)])] h = head_Pack M a0_0 a0_1 a0_2 a0_3 a0_4 a0_5 h := by kernel_rfl

theorem head_Pack_c1_eq (M : Env) (x1 : V) (x18 : V) (x19 : Int) (h : H) : head_Pack_c1_B M (head_Pack_c1_E x1 x18 (.int .i64 x19)) h = head_Pack_c1_S M x1 x18 x19 h := by kernel_rfl

theorem head_Pack_c1_e0_eq (M : Env) (x1 : V) (x2 : V) (x3 : V) (h : H) : head_Pack_K2 M (.exit 0) (head_Pack_c1_O x1 x2 x3) h = head_Pack_c1_e0 M x1 x2 x3 h := by kernel_rfl

theorem head_Pack_c1_r_eq (M : Env) (x1 : V) (x2 : Int) (x3 : Bool) (h : H) : head_Pack_K2 M .ret (head_Pack_c1_O x1 (.int .u64 x2) (.bool x3)) h = head_Pack_c1_r M x1 x2 x3 h := by kernel_rfl

end Wm.S
end

section
/- PRINTED by my tool (wip/wm/tool/Gen.lean): what a function comes to, stretch by stretch. -/
namespace Wm.S
open Wm
set_option maxRecDepth 100000
set_option linter.unusedVariables false


def head_lives (M : Env) (a0 : Int) (h : H) : Option (V × H) :=
 let h0 := h.new (.cells [(.int .i64 0), (.int .i64 0), (.bool false), (.int .i64 0), (.int .i64 0), (.int .i64 0)] .rw)
 (M.call 265 [(.int .u64 a0)] h0).bind fun p1 =>
 match p1.1 with
 | .tup vs2 => ((vs2[0]?).bind fun v3 =>
 match p1.1 with
 | .tup vs4 => ((vs4[1]?).bind fun v5 =>
 let h6 := p1.2.new (.cells [(.int .i64 0), (.int .i64 0), (.bool false), (.int .i64 0), (.int .i64 0), (.int .i64 0)] .rw)
 (h6.st 6 (.ptr p1.2.next 0) v3).bind fun h7 =>
 (h7.ldN 6 (.ptr p1.2.next 0)).bind fun v8 =>
 match v5 with
 | .bool true => (
 (h7.ld1 (.ptr p1.2.next 0)).bind fun v9 =>
 (asI .i64 v9).bind fun n10 =>
 match (decide (n10 = 1)) with
 | true => (
 (h7.st 6 (.ptr h.next 0) v8).bind fun h11 =>
 finV h11 [.cell true 6 (.ptr h.next 0), .v (.bool true)])
 | false => (
 (h7.ld1 (.ptr p1.2.next 0)).bind fun v11 =>
 (asI .i64 v11).bind fun n12 =>
 (h7.st 6 (.ptr h.next 0) v8).bind fun h13 =>
 match ckB (h13.ld1 (.ptr p1.2.next 0)) v11 with
 | true => (
 finV h13 [.cell true 6 (.ptr h.next 0), .v (.bool (decide (n12 = 2)))])
 | false => none))
 | .bool false => (
 (h7.st 6 (.ptr h.next 0) v8).bind fun h9 =>
 finV h9 [.cell true 6 (.ptr h.next 0), .v (.bool false)])
 | .tup [] => (
 match v5 with
 | .bool true => (
 none)
 | .bool false => (
 (h7.st 6 (.ptr h.next 0) v8).bind fun h9 =>
 finV h9 [.cell true 6 (.ptr h.next 0), .v (.bool false)])
 | .tup [] => (
 (asB v5).bind fun b9 =>
 (h7.st 6 (.ptr h.next 0) v8).bind fun h10 =>
 finV h10 [.cell true 6 (.ptr h.next 0), .v (match b9 with | true => (.tup []) | false => (.bool false) : V)])
 | _ => none)
 | _ => none)
 | _ => none)
 | _ => none

theorem head_lives_eq (M : Env) (a0 : Int) (h : H) : evalF M F.head_lives [(.int .u64 a0)] h = head_lives M a0 h := by kernel_rfl

end Wm.S
end

section
/- PRINTED by my tool (wip/wm/tool/Gen.lean): what a function comes to, stretch by stretch. -/
namespace Wm.S
open Wm
set_option maxRecDepth 100000
set_option linter.unusedVariables false


def head_Shaded (M : Env) (a0 : Int) (a1 : Int) (h : H) : Option (V × H) :=
 (M.call 380 [(.int .u64 a0)] h).bind fun p0 =>
 match p0.1 with
 | .tup vs1 => ((vs1[0]?).bind fun v2 =>
 match p0.1 with
 | .tup vs3 => ((vs3[1]?).bind fun v4 =>
 let h5 := p0.2.new (.cells [(.int .i64 0), (.int .i64 0), (.bool false), (.int .i64 0), (.int .i64 0), (.int .i64 0)] .rw)
 (h5.st 6 (.ptr p0.2.next 0) v2).bind fun h6 =>
 (asB v4).bind fun b7 =>
 match (!b7) with
 | true => (
 some ((.tup [(.int .u64 a0), (.bool false)]), h6))
 | false => (
 (h6.ld1 (.ptr p0.2.next 1)).bind fun v8 =>
 (M.call 381 [(.int .u64 a1)] h6).bind fun p9 =>
 match ckB (p9.2.ld1 (.ptr p0.2.next 1)) v8 with
 | true => (
 (asI .i64 v8).bind fun n10 =>
 (asI .i64 p9.1).bind fun n11 =>
 match (decide (n10 = n11)) with
 | true => (
 some ((.tup [(.int .u64 a0), (.bool false)]), p9.2))
 | false => (
 (M.call 381 [(.int .u64 a1)] p9.2).bind fun p12 =>
 (p12.2.st 1 (.ptr p0.2.next 1) p12.1).bind fun h13 =>
 (h13.st 1 (.ptr p0.2.next 2) (.bool true)).bind fun h14 =>
 (h14.ldN 6 (.ptr p0.2.next 0)).bind fun v15 =>
 (M.call 382 [v15] h14).bind fun p16 =>
 match p16.1 with
 | .tup vs17 => ((vs17[0]?).bind fun v18 =>
 match p16.1 with
 | .tup vs19 => ((vs19[1]?).bind fun v20 =>
 some ((.tup [v18, v20]), p16.2))
 | _ => none)
 | _ => none))
 | false => none))
 | _ => none)
 | _ => none

theorem head_Shaded_eq (M : Env) (a0 : Int) (a1 : Int) (h : H) : evalF M F.head_Shaded [(.int .u64 a0), (.int .u64 a1)] h = head_Shaded M a0 a1 h := by kernel_rfl

end Wm.S
end

section
/- PRINTED by my tool (wip/wm/tool/Gen.lean): what a function comes to, stretch by stretch. -/
namespace Wm.S
open Wm
set_option maxRecDepth 100000
set_option linter.unusedVariables false


end Wm.S
end

section
/- PRINTED by my tool (wip/wm/tool/Gen.lean): what a function comes to, stretch by stretch. -/
namespace Wm.S
open Wm
set_option maxRecDepth 100000
set_option linter.unusedVariables false


end Wm.S
end

section
/- PRINTED by my tool (wip/wm/tool/Gen.lean): what a function comes to, stretch by stretch. -/
namespace Wm.S
open Wm
set_option maxRecDepth 100000
set_option linter.unusedVariables false


end Wm.S
end

section
/- PRINTED by my tool (wip/wm/tool/Gen.lean): what a function comes to, stretch by stretch. -/
namespace Wm.S
open Wm
set_option maxRecDepth 100000
set_option linter.unusedVariables false


end Wm.S
end

section
/- PRINTED by my tool (wip/wm/tool/Gen.lean): what a function comes to, stretch by stretch. -/
namespace Wm.S
open Wm
set_option maxRecDepth 100000
set_option linter.unusedVariables false


end Wm.S
end

section
/- PRINTED by my tool (wip/wm/tool/Gen.lean): what a function comes to, stretch by stretch. -/
namespace Wm.S
open Wm
set_option maxRecDepth 100000
set_option linter.unusedVariables false


def turn_Black (M : Env) (a0 : Int) (h : H) : Option (V × H) :=
 (M.call 442 [(.int .u64 a0)] h).bind fun p0 =>
 (asI .u64 p0.1).bind fun n1 =>
 some ((.int .i64 (wr .i64 (Int.tmod (wr .u64 (n1 + 1)) 2))), p0.2)

theorem turn_Black_eq (M : Env) (a0 : Int) (h : H) : evalF M F.turn_Black [(.int .u64 a0)] h = turn_Black M a0 h := by kernel_rfl

end Wm.S
end

section
/- PRINTED by my tool (wip/wm/tool/Gen.lean): what a function comes to, stretch by stretch. -/
namespace Wm.S
open Wm
set_option maxRecDepth 100000
set_option linter.unusedVariables false


def turn_Cycle (M : Env) (a0 : Int) (h : H) : Option (V × H) :=
 some ((.int .u64 (wr .u64 (Int.tdiv a0 4))), h)

theorem turn_Cycle_eq (M : Env) (a0 : Int) (h : H) : evalF M F.turn_Cycle [(.int .u64 a0)] h = turn_Cycle M a0 h := by kernel_rfl

end Wm.S
end

section
/- PRINTED by my tool (wip/wm/tool/Gen.lean): what a function comes to, stretch by stretch. -/
namespace Wm.S
open Wm
set_option maxRecDepth 100000
set_option linter.unusedVariables false


end Wm.S
end

section
/- PRINTED by my tool (wip/wm/tool/Gen.lean): what a function comes to, stretch by stretch. -/
namespace Wm.S
open Wm
set_option maxRecDepth 100000
set_option linter.unusedVariables false


def turn_Fenced (M : Env) (a0 : Int) (h : H) : Option (V × H) :=
 match (decide ((Int.tmod a0 4) = 1)) with
 | true => (
 some ((.bool true), h))
 | false => (
 some ((.bool (decide ((Int.tmod a0 4) = 2))), h))

theorem turn_Fenced_eq (M : Env) (a0 : Int) (h : H) : evalF M F.turn_Fenced [(.int .u64 a0)] h = turn_Fenced M a0 h := by kernel_rfl

end Wm.S
end

section
/- PRINTED by my tool (wip/wm/tool/Gen.lean): what a function comes to, stretch by stretch. -/
namespace Wm.S
open Wm
set_option maxRecDepth 100000
set_option linter.unusedVariables false


end Wm.S
end

section
/- PRINTED by my tool (wip/wm/tool/Gen.lean): what a function comes to, stretch by stretch. -/
namespace Wm.S
open Wm
set_option maxRecDepth 100000
set_option linter.unusedVariables false


end Wm.S
end

section
/- PRINTED by my tool (wip/wm/tool/Gen.lean): what a function comes to, stretch by stretch. -/
namespace Wm.S
open Wm
set_option maxRecDepth 100000
set_option linter.unusedVariables false


end Wm.S
end

section
/- PRINTED by my tool (wip/wm/tool/Gen.lean): what a function comes to, stretch by stretch. -/
namespace Wm.S
open Wm
set_option maxRecDepth 100000
set_option linter.unusedVariables false


def withyref04_Pack (M : Env) (a0_0 : Int) (a0_1 : Int) (a0_2 : Bool) (a0_3 : Int) (a0_4 : Int) (a0_5 : Int) (h : H) : Option (V × H) :=
 let h0 := h.new (.cells [(.int .i64 a0_0), (.int .i64 a0_1), (.bool a0_2), (.int .i64 a0_3), (.int .i64 a0_4), (.int .i64 a0_5)] .rw)
 (h0.ld1 (.ptr h.next 0)).bind fun v1 =>
 (asIAny v1).bind fun n2 =>
 (h0.ld1 (.ptr h.next 1)).bind fun v3 =>
 (asIAny v3).bind fun n4 =>
 (h0.ld1 (.ptr h.next 3)).bind fun v5 =>
 (asIAny v5).bind fun n6 =>
 (h0.ld1 (.ptr h.next 4)).bind fun v7 =>
 (asIAny v7).bind fun n8 =>
 (h0.ld1 (.ptr h.next 5)).bind fun v9 =>
 (asIAny v9).bind fun n10 =>
 (h0.ld1 (.ptr h.next 2)).bind fun v11 =>
 (asB v11).bind fun b12 =>
 match b12 with
 | true => (
 some ((.int .u64 (wr .u64 ((wr .u64 ((wr .u64 ((wr .u64 ((wr .u64 ((wr .u64 n2) + (wr .u64 (8 * (wr .u64 n4))))) + (wr .u64 (32 * (wr .u64 n6))))) + (wr .u64 (65536 * (wr .u64 n8))))) + (wr .u64 (281474976710656 * (wr .u64 n10))))) + 16))), h0))
 | false => (
 some ((.int .u64 (wr .u64 ((wr .u64 ((wr .u64 ((wr .u64 ((wr .u64 n2) + (wr .u64 (8 * (wr .u64 n4))))) + (wr .u64 (32 * (wr .u64 n6))))) + (wr .u64 (65536 * (wr .u64 n8))))) + (wr .u64 (281474976710656 * (wr .u64 n10)))))), h0))

theorem withyref04_Pack_eq (M : Env) (a0_0 : Int) (a0_1 : Int) (a0_2 : Bool) (a0_3 : Int) (a0_4 : Int) (a0_5 : Int) (h : H) : evalF M F.withyref04_Pack [(.agg [(.int .i64 a0_0), (.int .i64 a0_1), (.bool a0_2), (.int .i64 a0_3), (.int .i64 a0_4), (.int .i64 a0_5)])] h = withyref04_Pack M a0_0 a0_1 a0_2 a0_3 a0_4 a0_5 h := by kernel_rfl

end Wm.S
end

section
/- PRINTED by my tool (wip/wm/tool/Gen.lean): what a function comes to, stretch by stretch. -/
namespace Wm.S
open Wm
set_option maxRecDepth 100000
set_option linter.unusedVariables false


end Wm.S
end

section
/- PRINTED by my tool (wip/wm/tool/Gen.lean): what a function comes to, stretch by stretch. -/
namespace Wm.S
open Wm
set_option maxRecDepth 100000
set_option linter.unusedVariables false


end Wm.S
end

section
/- PRINTED by my tool (wip/wm/tool/Gen.lean): what a function comes to, stretch by stretch. -/
namespace Wm.S
open Wm
set_option maxRecDepth 100000
set_option linter.unusedVariables false


end Wm.S
end

section
/- PRINTED by my tool (wip/wm/tool/Gen.lean): what a function comes to, stretch by stretch. -/
namespace Wm.S
open Wm
set_option maxRecDepth 100000
set_option linter.unusedVariables false


def shade_NewShade (M : Env) (a0_0 : Int) (a0_1 : Int) (a0_2 : Int) (a0_3 : Int) (a0_4 : Int) (a0_5 : Int) (a1 : Int) (a2 : Int) (h : H) : Option (V × H) :=
 let h0 := h.new (.cells [(.int .i64 a0_0), (.int .i64 a0_1), (.int .i64 a0_2), (.int .i64 a0_3), (.int .i64 a0_4), (.int .i64 a0_5)] .rw)
 (h0.ldN 6 (.ptr h.next 0)).bind fun v1 =>
 (M.call 261 [v1, (.int .i64 a1)] h0).bind fun p2 =>
 (asI .i64 p2.1).bind fun n3 =>
 match (decide (n3 < 0)) with
 | true => (
 some (.nilp, p2.2))
 | false => (
 (fill [(.bool false), (.int .i64 0), (.int .u64 0), (.int .i64 0), (.int .u64 0)] [] [(1, 1, .c p2.1), (2, 1, .c (.int .u64 a2))]).bind fun cs4 =>
 (boxc (.agg cs4)).bind fun cs5 =>
 let h6 := p2.2.new (.cells cs5 .rw)
 some ((.ptr p2.2.next 0), h6))

theorem shade_NewShade_eq (M : Env) (a0_0 : Int) (a0_1 : Int) (a0_2 : Int) (a0_3 : Int) (a0_4 : Int) (a0_5 : Int) (a1 : Int) (a2 : Int) (h : H) : evalF M F.shade_NewShade [(.agg [(.int .i64 a0_0), (.int .i64 a0_1), (.int .i64 a0_2), (.int .i64 a0_3), (.int .i64 a0_4), (.int .i64 a0_5)]), (.int .i64 a1), (.int .u64 a2)] h = shade_NewShade M a0_0 a0_1 a0_2 a0_3 a0_4 a0_5 a1 a2 h := by kernel_rfl

end Wm.S
end

section
/- PRINTED by my tool (wip/wm/tool/Gen.lean): what a function comes to, stretch by stretch. -/
namespace Wm.S
open Wm
set_option maxRecDepth 100000
set_option linter.unusedVariables false


def shade_Shade_Step (M : Env) (a0 : V) (a1 : V) (h : H) : Option (V × H) :=
 (eqV .ptr a0 .nilp).bind fun b0 =>
 match b0 with
 | true => (
 some ((.bool true), h))
 | false => (
 (nilc a0).bind fun v1 =>
 (ptrAt v1 3).bind fun v2 =>
 (h.ld1 v2).bind fun v3 =>
 (asI .i64 v3).bind fun n4 =>
 match (decide (n4 = 0)) with
 | true => (
 (nilc a0).bind fun v5 =>
 (ptrAt v5 1).bind fun v6 =>
 (h.ld1 v6).bind fun v7 =>
 (M.call 266 [a1, v7] h).bind fun p8 =>
 (nilc a0).bind fun v9 =>
 (ptrAt v9 4).bind fun v10 =>
 (p8.2.st 1 v10 p8.1).bind fun h11 =>
 (nilc a0).bind fun v12 =>
 (ptrAt v12 3).bind fun v13 =>
 (h11.st 1 v13 (.int .i64 1)).bind fun h14 =>
 (nilc a0).bind fun v15 =>
 (ptrAt v15 4).bind fun v16 =>
 (h14.ld1 v16).bind fun v17 =>
 (nilc a0).bind fun v18 =>
 (ptrAt v18 2).bind fun v19 =>
 (h14.ld1 v19).bind fun v20 =>
 (M.call 267 [v17, v20] h14).bind fun p21 =>
 match p21.1 with
 | .tup vs22 => ((vs22[0]?).bind fun v23 =>
 match p21.1 with
 | .tup vs24 => ((vs24[1]?).bind fun v25 =>
 (asB v25).bind fun b26 =>
 match (!b26) with
 | true => (
 (nilc a0).bind fun v27 =>
 (ptrAt v27 3).bind fun v28 =>
 (p21.2.st 1 v28 (.int .i64 4)).bind fun h29 =>
 (nilc a0).bind fun v30 =>
 (ptrAt v30 3).bind fun v31 =>
 (h29.ld1 v31).bind fun v32 =>
 (asI .i64 v32).bind fun n33 =>
 some ((.bool (decide (n33 = 4))), h29))
 | false => (
 (nilc a0).bind fun v27 =>
 (ptrAt v27 3).bind fun v28 =>
 (p21.2.ld1 v28).bind fun v29 =>
 (asI .i64 v29).bind fun n30 =>
 some ((.bool (decide (n30 = 4))), p21.2)))
 | _ => none)
 | _ => none)
 | false => (
 (asI .i64 v3).bind fun n5 =>
 match (decide (n5 = 1)) with
 | true => (
 (M.call 268 [a1, (.int .i64 2), (.int .u64 1)] h).bind fun p6 =>
 (nilc a0).bind fun v7 =>
 (ptrAt v7 3).bind fun v8 =>
 (p6.2.st 1 v8 (.int .i64 2)).bind fun h9 =>
 (nilc a0).bind fun v10 =>
 (ptrAt v10 3).bind fun v11 =>
 (h9.ld1 v11).bind fun v12 =>
 (asI .i64 v12).bind fun n13 =>
 some ((.bool (decide (n13 = 4))), h9))
 | false => (
 (asI .i64 v3).bind fun n6 =>
 match (decide (n6 = 2)) with
 | true => (
 (nilc a0).bind fun v7 =>
 (ptrAt v7 4).bind fun v8 =>
 (h.ld1 v8).bind fun v9 =>
 (nilc a0).bind fun v10 =>
 (ptrAt v10 2).bind fun v11 =>
 (h.ld1 v11).bind fun v12 =>
 (M.call 267 [v9, v12] h).bind fun p13 =>
 match p13.1 with
 | .tup vs14 => ((vs14[0]?).bind fun v15 =>
 match p13.1 with
 | .tup vs16 => ((vs16[1]?).bind fun v17 =>
 (nilc a0).bind fun v18 =>
 (ptrAt v18 3).bind fun v19 =>
 (p13.2.st 1 v19 (.int .i64 3)).bind fun h20 =>
 (nilc a0).bind fun v21 =>
 (ptrAt v21 1).bind fun v22 =>
 (h20.ld1 v22).bind fun v23 =>
 (nilc a0).bind fun v24 =>
 (ptrAt v24 4).bind fun v25 =>
 (h20.ld1 v25).bind fun v26 =>
 (M.call 269 [a1, v23, v26, v15] h20).bind fun p27 =>
 (asB p27.1).bind fun b28 =>
 match b28 with
 | true => (
 (nilc a0).bind fun v29 =>
 (ptrAt v29 0).bind fun v30 =>
 (p27.2.st 1 v30 (.bool true)).bind fun h31 =>
 (nilc a0).bind fun v32 =>
 (ptrAt v32 3).bind fun v33 =>
 (h31.st 1 v33 (.int .i64 4)).bind fun h34 =>
 (nilc a0).bind fun v35 =>
 (ptrAt v35 3).bind fun v36 =>
 (h34.ld1 v36).bind fun v37 =>
 (asI .i64 v37).bind fun n38 =>
 some ((.bool (decide (n38 = 4))), h34))
 | false => (
 (nilc a0).bind fun v29 =>
 (ptrAt v29 3).bind fun v30 =>
 (p27.2.ld1 v30).bind fun v31 =>
 (asI .i64 v31).bind fun n32 =>
 some ((.bool (decide (n32 = 4))), p27.2)))
 | _ => none)
 | _ => none)
 | false => (
 (asI .i64 v3).bind fun n7 =>
 match (decide (n7 = 3)) with
 | true => (
 (M.call 268 [a1, (.int .i64 2), (.int .u64 18446744073709551615)] h).bind fun p8 =>
 (nilc a0).bind fun v9 =>
 (ptrAt v9 3).bind fun v10 =>
 (p8.2.st 1 v10 (.int .i64 0)).bind fun h11 =>
 (nilc a0).bind fun v12 =>
 (ptrAt v12 3).bind fun v13 =>
 (h11.ld1 v13).bind fun v14 =>
 (asI .i64 v14).bind fun n15 =>
 some ((.bool (decide (n15 = 4))), h11))
 | false => (
 (nilc a0).bind fun v8 =>
 (ptrAt v8 3).bind fun v9 =>
 (h.ld1 v9).bind fun v10 =>
 (asI .i64 v10).bind fun n11 =>
 some ((.bool (decide (n11 = 4))), h))))))

theorem shade_Shade_Step_eq (M : Env) (a0 : V) (a1 : V) (h : H) : evalF M F.shade_Shade_Step [a0, a1] h = shade_Shade_Step M a0 a1 h := by kernel_rfl

end Wm.S
end

section
/- PRINTED by my tool (wip/wm/tool/Gen.lean): what a function comes to, stretch by stretch. -/
namespace Wm.S
open Wm
set_option maxRecDepth 100000
set_option linter.unusedVariables false


def slices_Clone___uint64_uint64_ (M : Env) (a0 : V) (h : H) : Option (V × H) :=
 (eqV .sl a0 .nilsl).bind fun b0 =>
 match b0 with
 | true => (
 some (.nilsl, h))
 | false => (
 let h1 := h.new (.cells [] .rw)
 (h1.append 1 8 (.sl h.next 0 0 (.ex 0)) a0).bind fun p2 =>
 some (p2.1, p2.2))

theorem slices_Clone___uint64_uint64__eq (M : Env) (a0 : V) (h : H) : evalF M F.slices_Clone___uint64_uint64_ [a0] h = slices_Clone___uint64_uint64_ M a0 h := by kernel_rfl

end Wm.S
end

section
/- PRINTED by my tool (wip/wm/tool/Gen.lean): what a function comes to, stretch by stretch. -/
namespace Wm.S
open Wm
set_option maxRecDepth 100000
set_option linter.unusedVariables false


def mem_Of (M : Env) (a0 : V) (h : H) : Option (V × H) :=
 (lenSl a0).bind fun n0 =>
 match (decide (65536 < ((n0 : Nat) : Int))) with
 | true => (
 some (.nilp, h))
 | false => (
 (M.call 271 [a0] h).bind fun p1 =>
 (fill [.nilsl, (.int .i64 0), (.int .i64 0), (.int .i64 0), (.int .u64 0), (.int .u64 0)] [] [(0, 1, .c p1.1)]).bind fun cs2 =>
 (boxc (.agg cs2)).bind fun cs3 =>
 let h4 := p1.2.new (.cells cs3 .rw)
 some ((.ptr p1.2.next 0), h4))

theorem mem_Of_eq (M : Env) (a0 : V) (h : H) : evalF M F.mem_Of [a0] h = mem_Of M a0 h := by kernel_rfl

end Wm.S
end

section
/- PRINTED by my tool (wip/wm/tool/Gen.lean): what a function comes to, stretch by stretch. -/
namespace Wm.S
open Wm
set_option maxRecDepth 100000
set_option linter.unusedVariables false


end Wm.S
end

section
/- PRINTED by my tool (wip/wm/tool/Gen.lean): what a function comes to, stretch by stretch. -/
namespace Wm.S
open Wm
set_option maxRecDepth 100000
set_option linter.unusedVariables false

end Wm.S
end

section
/- PRINTED by my tool (wip/wm/tool/Gen.lean): what a function comes to, stretch by stretch. -/
namespace Wm.S
open Wm
set_option maxRecDepth 100000
set_option linter.unusedVariables false


def field_Book_Born (M : Env) (a0 : V) (a1 : Int) (h : H) : Option (V × H) :=
 (eqV .ptr a0 .nilp).bind fun b0 =>
 match (!b0) with
 | true => (
 (nilc a0).bind fun v1 =>
 (ptrAt v1 1).bind fun v2 =>
 (h.ld1 v2).bind fun v3 =>
 (h.look .int (.int .i64 0) true v3 (.int .i64 a1)).bind fun v4 =>
 match v4 with
 | .tup vs5 => ((vs5[0]?).bind fun v6 =>
 match v4 with
 | .tup vs7 => ((vs7[1]?).bind fun v8 =>
 (asB v8).bind fun b9 =>
 match b9 with
 | true => (
 some (v6, h))
 | false => (
 some ((.int .i64 (-1)), h)))
 | _ => none)
 | _ => none)
 | false => (
 some ((.int .i64 (-1)), h))

theorem field_Book_Born_eq (M : Env) (a0 : V) (a1 : Int) (h : H) : evalF M F.field_Book_Born [a0, (.int .i64 a1)] h = field_Book_Born M a0 a1 h := by kernel_rfl

end Wm.S
end

section
/- PRINTED by my tool (wip/wm/tool/Gen.lean): what a function comes to, stretch by stretch. -/
namespace Wm.S
open Wm
set_option maxRecDepth 100000
set_option linter.unusedVariables false


def field_Book_Turned (M : Env) (a0 : V) (a1 : Int) (h : H) : Option (V × H) :=
 (eqV .ptr a0 .nilp).bind fun b0 =>
 match (!b0) with
 | true => (
 (nilc a0).bind fun v1 =>
 (ptrAt v1 2).bind fun v2 =>
 (h.ld1 v2).bind fun v3 =>
 (h.look .int (.int .i64 0) true v3 (.int .u64 a1)).bind fun v4 =>
 match v4 with
 | .tup vs5 => ((vs5[0]?).bind fun v6 =>
 match v4 with
 | .tup vs7 => ((vs7[1]?).bind fun v8 =>
 (asB v8).bind fun b9 =>
 match b9 with
 | true => (
 some (v6, h))
 | false => (
 some ((.int .i64 (-1)), h)))
 | _ => none)
 | _ => none)
 | false => (
 some ((.int .i64 (-1)), h))

theorem field_Book_Turned_eq (M : Env) (a0 : V) (a1 : Int) (h : H) : evalF M F.field_Book_Turned [a0, (.int .u64 a1)] h = field_Book_Turned M a0 a1 h := by kernel_rfl

end Wm.S
end

section
/- PRINTED by my tool (wip/wm/tool/Gen.lean): what a function comes to, stretch by stretch. -/
namespace Wm.S
open Wm
set_option maxRecDepth 100000
set_option linter.unusedVariables false

end Wm.S
end

section
/- PRINTED by my tool (wip/wm/tool/Gen.lean): what a function comes to, stretch by stretch. -/
namespace Wm.S
open Wm
set_option maxRecDepth 100000
set_option linter.unusedVariables false


end Wm.S
end

section
/- PRINTED by my tool (wip/wm/tool/Gen.lean): what a function comes to, stretch by stretch. -/
namespace Wm.S
open Wm
set_option maxRecDepth 100000
set_option linter.unusedVariables false


end Wm.S
end

section
/- PRINTED by my tool (wip/wm/tool/Gen.lean): what a function comes to, stretch by stretch. -/
namespace Wm.S
open Wm
set_option maxRecDepth 100000
set_option linter.unusedVariables false


def plan_Body (M : Env) (a0_0 : Int) (a0_1 : Int) (a0_2 : Int) (a0_3 : Int) (a0_4 : Int) (a0_5 : Int) (a1 : Int) (a2 : Int) (h : H) : Option (V × H) :=
 let h0 := h.new (.cells [(.int .i64 a0_0), (.int .i64 a0_1), (.int .i64 a0_2), (.int .i64 a0_3), (.int .i64 a0_4), (.int .i64 a0_5)] .rw)
 match (decide (a2 < 0)) with
 | true => (
 some ((.int .i64 (-1)), h0))
 | false => (
 match (decide (8 < a2)) with
 | true => (
 some ((.int .i64 (-1)), h0))
 | false => (
 (h0.ldN 6 (.ptr h.next 0)).bind fun v1 =>
 (M.call 375 [v1, (.int .i64 a1), (.int .i64 (wr .i64 (2 + a2)))] h0).bind fun p2 =>
 some (p2.1, p2.2)))

theorem plan_Body_eq (M : Env) (a0_0 : Int) (a0_1 : Int) (a0_2 : Int) (a0_3 : Int) (a0_4 : Int) (a0_5 : Int) (a1 : Int) (a2 : Int) (h : H) : evalF M F.plan_Body [(.agg [(.int .i64 a0_0), (.int .i64 a0_1), (.int .i64 a0_2), (.int .i64 a0_3), (.int .i64 a0_4), (.int .i64 a0_5)]), (.int .i64 a1), (.int .i64 a2)] h = plan_Body M a0_0 a0_1 a0_2 a0_3 a0_4 a0_5 a1 a2 h := by kernel_rfl

end Wm.S
end

section
/- PRINTED by my tool (wip/wm/tool/Gen.lean): what a function comes to, stretch by stretch. -/
namespace Wm.S
open Wm
set_option maxRecDepth 100000
set_option linter.unusedVariables false


end Wm.S
end

section
/- PRINTED by my tool (wip/wm/tool/Gen.lean): what a function comes to, stretch by stretch. -/
namespace Wm.S
open Wm
set_option maxRecDepth 100000
set_option linter.unusedVariables false


end Wm.S
end

section
/- PRINTED by my tool (wip/wm/tool/Gen.lean): what a function comes to, stretch by stretch. -/
namespace Wm.S
open Wm
set_option maxRecDepth 100000
set_option linter.unusedVariables false


end Wm.S
end

section
/- PRINTED by my tool (wip/wm/tool/Gen.lean): what a function comes to, stretch by stretch. -/
namespace Wm.S
open Wm
set_option maxRecDepth 100000
set_option linter.unusedVariables false


end Wm.S
end

section
/- PRINTED by my tool (wip/wm/tool/Gen.lean): what a function comes to, stretch by stretch. -/
namespace Wm.S
open Wm
set_option maxRecDepth 100000
set_option linter.unusedVariables false


def field_named (M : Env) (a0_0 : Int) (a0_1 : Int) (a0_2 : Int) (a0_3 : Int) (a0_4 : Int) (a0_5 : Int) (a1 : Int) (h : H) : Option (V × H) :=
 let h0 := h.new (.cells [(.int .i64 a0_0), (.int .i64 a0_1), (.int .i64 a0_2), (.int .i64 a0_3), (.int .i64 a0_4), (.int .i64 a0_5)] .rw)
 (h0.ld1 (.ptr h.next 0)).bind fun v1 =>
 (asIAny v1).bind fun n2 =>
 match (decide ((wr .u64 n2) < a1)) with
 | true => (
 some ((.int .i64 (-1)), h0))
 | false => (
 some ((.int .i64 (wr .i64 ((wr .i64 a1) - 1))), h0))

theorem field_named_eq (M : Env) (a0_0 : Int) (a0_1 : Int) (a0_2 : Int) (a0_3 : Int) (a0_4 : Int) (a0_5 : Int) (a1 : Int) (h : H) : evalF M F.field_named [(.agg [(.int .i64 a0_0), (.int .i64 a0_1), (.int .i64 a0_2), (.int .i64 a0_3), (.int .i64 a0_4), (.int .i64 a0_5)]), (.int .u64 a1)] h = field_named M a0_0 a0_1 a0_2 a0_3 a0_4 a0_5 a1 h := by kernel_rfl

end Wm.S
end

section
/- PRINTED by my tool (wip/wm/tool/Gen.lean): what a function comes to, stretch by stretch. -/
namespace Wm.S
open Wm
set_option maxRecDepth 100000
set_option linter.unusedVariables false


def field_NewStamp (M : Env) (a0_0 : Int) (a0_1 : Int) (a0_2 : Int) (a0_3 : Int) (a0_4 : Int) (a0_5 : Int) (a1 : Int) (a2 : V) (h : H) : Option (V × H) :=
 let h0 := h.new (.cells [(.int .i64 a0_0), (.int .i64 a0_1), (.int .i64 a0_2), (.int .i64 a0_3), (.int .i64 a0_4), (.int .i64 a0_5)] .rw)
 (h0.ldN 6 (.ptr h.next 0)).bind fun v1 =>
 (M.call 261 [v1, (.int .i64 a1)] h0).bind fun p2 =>
 (asI .i64 p2.1).bind fun n3 =>
 match (decide (n3 < 0)) with
 | true => (
 some (.nilp, p2.2))
 | false => (
 (eqV .ptr a2 .nilp).bind fun b4 =>
 match b4 with
 | true => (
 some (.nilp, p2.2))
 | false => (
 (p2.2.ldN 6 (.ptr h.next 0)).bind fun v5 =>
 (fill [(.int .i64 0), (.int .i64 0), (.int .i64 0), (.int .i64 0), (.int .i64 0), (.int .i64 0), .nilp, (.int .i64 0), (.int .i64 0), (.int .u64 0), (.int .i64 0)] [] [(0, 6, .c v5), (6, 1, .c a2), (7, 1, .c (.int .i64 a1))]).bind fun cs6 =>
 (boxc (.agg cs6)).bind fun cs7 =>
 let h8 := p2.2.new (.cells cs7 .rw)
 some ((.ptr p2.2.next 0), h8)))

theorem field_NewStamp_eq (M : Env) (a0_0 : Int) (a0_1 : Int) (a0_2 : Int) (a0_3 : Int) (a0_4 : Int) (a0_5 : Int) (a1 : Int) (a2 : V) (h : H) : evalF M F.field_NewStamp [(.agg [(.int .i64 a0_0), (.int .i64 a0_1), (.int .i64 a0_2), (.int .i64 a0_3), (.int .i64 a0_4), (.int .i64 a0_5)]), (.int .i64 a1), a2] h = field_NewStamp M a0_0 a0_1 a0_2 a0_3 a0_4 a0_5 a1 a2 h := by kernel_rfl

end Wm.S
end

section
/- PRINTED by my tool (wip/wm/tool/Gen.lean): what a function comes to, stretch by stretch. -/
namespace Wm.S
open Wm
set_option maxRecDepth 100000
set_option linter.unusedVariables false


def field_Stamp_Step (M : Env) (a0 : V) (a1 : V) (h : H) : Option (V × H) :=
 (eqV .ptr a0 .nilp).bind fun b0 =>
 match b0 with
 | true => (
 some ((.bool true), h))
 | false => (
 (nilc a0).bind fun v1 =>
 (ptrAt v1 0).bind fun v2 =>
 (h.ldN 6 v2).bind fun v3 =>
 (nilc a0).bind fun v4 =>
 (ptrAt v4 7).bind fun v5 =>
 (h.ld1 v5).bind fun v6 =>
 (M.call 305 [v3, v6, (.int .i64 1)] h).bind fun p7 =>
 (nilc a0).bind fun v8 =>
 (ptrAt v8 8).bind fun v9 =>
 (p7.2.ld1 v9).bind fun v10 =>
 (asI .i64 v10).bind fun n11 =>
 match (decide (n11 = 0)) with
 | true => (
 (nilc a0).bind fun v12 =>
 (ptrAt v12 8).bind fun v13 =>
 (p7.2.st 1 v13 (.int .i64 1)).bind fun h14 =>
 (M.call 266 [a1, p7.1] h14).bind fun p15 =>
 (asI .u64 p15.1).bind fun n16 =>
 match (!decide (n16 = 0)) with
 | true => (
 (nilc a0).bind fun v17 =>
 (ptrAt v17 8).bind fun v18 =>
 (p15.2.st 1 v18 (.int .i64 3)).bind fun h19 =>
 (nilc a0).bind fun v20 =>
 (ptrAt v20 8).bind fun v21 =>
 (h19.ld1 v21).bind fun v22 =>
 (asI .i64 v22).bind fun n23 =>
 some ((.bool (decide (n23 = 3))), h19))
 | false => (
 (nilc a0).bind fun v17 =>
 (ptrAt v17 8).bind fun v18 =>
 (p15.2.ld1 v18).bind fun v19 =>
 (asI .i64 v19).bind fun n20 =>
 some ((.bool (decide (n20 = 3))), p15.2)))
 | false => (
 (asI .i64 v10).bind fun n12 =>
 match (decide (n12 = 1)) with
 | true => (
 (nilc a0).bind fun v13 =>
 (ptrAt v13 6).bind fun v14 =>
 (p7.2.ld1 v14).bind fun v15 =>
 (nilc v15).bind fun v16 =>
 (ptrAt v16 0).bind fun v17 =>
 (p7.2.ld1 v17).bind fun v18 =>
 (M.call 266 [a1, (.int .i64 0)] p7.2).bind fun p19 =>
 match ckB (p19.2.ld1 v17) v18 with
 | true => (
 match ckB (p19.2.ld1 v14) v15 with
 | true => (
 (nilc a0).bind fun v20 =>
 (ptrAt v20 9).bind fun v21 =>
 (p19.2.st 1 v21 p19.1).bind fun h22 =>
 (nilc a0).bind fun v23 =>
 (ptrAt v23 10).bind fun v24 =>
 (h22.st 1 v24 v18).bind fun h25 =>
 (nilc a0).bind fun v26 =>
 (ptrAt v26 8).bind fun v27 =>
 (h25.st 1 v27 (.int .i64 2)).bind fun h28 =>
 (nilc a0).bind fun v29 =>
 (ptrAt v29 8).bind fun v30 =>
 (h28.ld1 v30).bind fun v31 =>
 (asI .i64 v31).bind fun n32 =>
 some ((.bool (decide (n32 = 3))), h28))
 | false => none)
 | false => none)
 | false => (
 (asI .i64 v10).bind fun n13 =>
 match (decide (n13 = 2)) with
 | true => (
 (nilc a0).bind fun v14 =>
 (ptrAt v14 9).bind fun v15 =>
 (p7.2.ld1 v15).bind fun v16 =>
 (M.call 269 [a1, p7.1, (.int .u64 0), v16] p7.2).bind fun p17 =>
 (asB p17.1).bind fun b18 =>
 match b18 with
 | true => (
 (nilc a0).bind fun v19 =>
 (ptrAt v19 6).bind fun v20 =>
 (p17.2.ld1 v20).bind fun v21 =>
 (nilc v21).bind fun v22 =>
 (ptrAt v22 1).bind fun v23 =>
 (p17.2.ld1 v23).bind fun v24 =>
 (nilc a0).bind fun v25 =>
 (ptrAt v25 7).bind fun v26 =>
 (p17.2.ld1 v26).bind fun v27 =>
 (nilc a0).bind fun v28 =>
 (ptrAt v28 10).bind fun v29 =>
 (p17.2.ld1 v29).bind fun v30 =>
 (p17.2.mapSet .int v24 v27 v30).bind fun h31 =>
 (nilc a0).bind fun v32 =>
 (ptrAt v32 8).bind fun v33 =>
 (h31.st 1 v33 (.int .i64 3)).bind fun h34 =>
 (nilc a0).bind fun v35 =>
 (ptrAt v35 8).bind fun v36 =>
 (h34.ld1 v36).bind fun v37 =>
 (asI .i64 v37).bind fun n38 =>
 some ((.bool (decide (n38 = 3))), h34))
 | false => (
 (nilc a0).bind fun v19 =>
 (ptrAt v19 8).bind fun v20 =>
 (p17.2.st 1 v20 (.int .i64 3)).bind fun h21 =>
 (nilc a0).bind fun v22 =>
 (ptrAt v22 8).bind fun v23 =>
 (h21.ld1 v23).bind fun v24 =>
 (asI .i64 v24).bind fun n25 =>
 some ((.bool (decide (n25 = 3))), h21)))
 | false => (
 (nilc a0).bind fun v14 =>
 (ptrAt v14 8).bind fun v15 =>
 (p7.2.ld1 v15).bind fun v16 =>
 (asI .i64 v16).bind fun n17 =>
 some ((.bool (decide (n17 = 3))), p7.2)))))

theorem field_Stamp_Step_eq (M : Env) (a0 : V) (a1 : V) (h : H) : evalF M F.field_Stamp_Step [a0, a1] h = field_Stamp_Step M a0 a1 h := by kernel_rfl

end Wm.S
end

section
/- PRINTED by my tool (wip/wm/tool/Gen.lean): what a function comes to, stretch by stretch. -/
namespace Wm.S
open Wm
set_option maxRecDepth 100000
set_option linter.unusedVariables false


def field_NewTurn (M : Env) (a0_0 : Int) (a0_1 : Int) (a0_2 : Int) (a0_3 : Int) (a0_4 : Int) (a0_5 : Int) (a1 : V) (h : H) : Option (V × H) :=
 let h0 := h.new (.cells [(.int .i64 a0_0), (.int .i64 a0_1), (.int .i64 a0_2), (.int .i64 a0_3), (.int .i64 a0_4), (.int .i64 a0_5)] .rw)
 (h0.ldN 6 (.ptr h.next 0)).bind fun v1 =>
 (M.call 263 [v1] h0).bind fun p2 =>
 (asB p2.1).bind fun b3 =>
 match (!b3) with
 | true => (
 some (.nilp, p2.2))
 | false => (
 (eqV .ptr a1 .nilp).bind fun b4 =>
 match b4 with
 | true => (
 some (.nilp, p2.2))
 | false => (
 (fill [(.int .u64 0), (.int .i64 0), .nilp, (.int .i64 0)] [] [(2, 1, .c a1)]).bind fun cs5 =>
 (boxc (.agg cs5)).bind fun cs6 =>
 let h7 := p2.2.new (.cells cs6 .rw)
 some ((.ptr p2.2.next 0), h7)))

theorem field_NewTurn_eq (M : Env) (a0_0 : Int) (a0_1 : Int) (a0_2 : Int) (a0_3 : Int) (a0_4 : Int) (a0_5 : Int) (a1 : V) (h : H) : evalF M F.field_NewTurn [(.agg [(.int .i64 a0_0), (.int .i64 a0_1), (.int .i64 a0_2), (.int .i64 a0_3), (.int .i64 a0_4), (.int .i64 a0_5)]), a1] h = field_NewTurn M a0_0 a0_1 a0_2 a0_3 a0_4 a0_5 a1 h := by kernel_rfl

end Wm.S
end

section
/- PRINTED by my tool (wip/wm/tool/Gen.lean): what a function comes to, stretch by stretch. -/
namespace Wm.S
open Wm
set_option maxRecDepth 100000
set_option linter.unusedVariables false


def field_Turn_Step (M : Env) (a0 : V) (a1 : V) (h : H) : Option (V × H) :=
 (eqV .ptr a0 .nilp).bind fun b0 =>
 match b0 with
 | true => (
 some ((.bool true), h))
 | false => (
 (nilc a0).bind fun v1 =>
 (ptrAt v1 3).bind fun v2 =>
 (h.ld1 v2).bind fun v3 =>
 (asI .i64 v3).bind fun n4 =>
 match (decide (n4 = 0)) with
 | true => (
 (M.call 266 [a1, (.int .i64 0)] h).bind fun p5 =>
 (nilc a0).bind fun v6 =>
 (ptrAt v6 0).bind fun v7 =>
 (p5.2.st 1 v7 p5.1).bind fun h8 =>
 (nilc a0).bind fun v9 =>
 (ptrAt v9 3).bind fun v10 =>
 (h8.st 1 v10 (.int .i64 1)).bind fun h11 =>
 (nilc a0).bind fun v12 =>
 (ptrAt v12 3).bind fun v13 =>
 (h11.ld1 v13).bind fun v14 =>
 (asI .i64 v14).bind fun n15 =>
 some ((.bool (decide (n15 = 2))), h11))
 | false => (
 (asI .i64 v3).bind fun n5 =>
 match (decide (n5 = 1)) with
 | true => (
 (nilc a0).bind fun v6 =>
 (ptrAt v6 0).bind fun v7 =>
 (h.ld1 v7).bind fun v8 =>
 (nilc a0).bind fun v9 =>
 (ptrAt v9 0).bind fun v10 =>
 (h.ld1 v10).bind fun v11 =>
 (asI .u64 v11).bind fun n12 =>
 (M.call 269 [a1, (.int .i64 0), v8, (.int .u64 (wr .u64 (n12 + 1)))] h).bind fun p13 =>
 (asB p13.1).bind fun b14 =>
 match b14 with
 | true => (
 (nilc a0).bind fun v15 =>
 (ptrAt v15 2).bind fun v16 =>
 (p13.2.ld1 v16).bind fun v17 =>
 (nilc v17).bind fun v18 =>
 (ptrAt v18 2).bind fun v19 =>
 (p13.2.ld1 v19).bind fun v20 =>
 (nilc a0).bind fun v21 =>
 (ptrAt v21 0).bind fun v22 =>
 (p13.2.ld1 v22).bind fun v23 =>
 (nilc a0).bind fun v24 =>
 (ptrAt v24 2).bind fun v25 =>
 (p13.2.ld1 v25).bind fun v26 =>
 (nilc v26).bind fun v27 =>
 (ptrAt v27 0).bind fun v28 =>
 (p13.2.ld1 v28).bind fun v29 =>
 (p13.2.mapSet .int v20 v23 v29).bind fun h30 =>
 (nilc a0).bind fun v31 =>
 (ptrAt v31 2).bind fun v32 =>
 (h30.ld1 v32).bind fun v33 =>
 (nilc a0).bind fun v34 =>
 (ptrAt v34 0).bind fun v35 =>
 (h30.ld1 v35).bind fun v36 =>
 (M.call 153 [v33, v36] h30).bind fun p37 =>
 (nilc a0).bind fun v38 =>
 (ptrAt v38 1).bind fun v39 =>
 (p37.2.st 1 v39 p37.1).bind fun h40 =>
 (nilc a0).bind fun v41 =>
 (ptrAt v41 3).bind fun v42 =>
 (h40.st 1 v42 (.int .i64 2)).bind fun h43 =>
 (nilc a0).bind fun v44 =>
 (ptrAt v44 3).bind fun v45 =>
 (h43.ld1 v45).bind fun v46 =>
 (asI .i64 v46).bind fun n47 =>
 some ((.bool (decide (n47 = 2))), h43))
 | false => (
 (nilc a0).bind fun v15 =>
 (ptrAt v15 2).bind fun v16 =>
 (p13.2.ld1 v16).bind fun v17 =>
 (nilc a0).bind fun v18 =>
 (ptrAt v18 0).bind fun v19 =>
 (p13.2.ld1 v19).bind fun v20 =>
 (M.call 153 [v17, v20] p13.2).bind fun p21 =>
 (nilc a0).bind fun v22 =>
 (ptrAt v22 1).bind fun v23 =>
 (p21.2.st 1 v23 p21.1).bind fun h24 =>
 (nilc a0).bind fun v25 =>
 (ptrAt v25 3).bind fun v26 =>
 (h24.st 1 v26 (.int .i64 2)).bind fun h27 =>
 (nilc a0).bind fun v28 =>
 (ptrAt v28 3).bind fun v29 =>
 (h27.ld1 v29).bind fun v30 =>
 (asI .i64 v30).bind fun n31 =>
 some ((.bool (decide (n31 = 2))), h27)))
 | false => (
 (nilc a0).bind fun v6 =>
 (ptrAt v6 3).bind fun v7 =>
 (h.ld1 v7).bind fun v8 =>
 (asI .i64 v8).bind fun n9 =>
 some ((.bool (decide (n9 = 2))), h))))

theorem field_Turn_Step_eq (M : Env) (a0 : V) (a1 : V) (h : H) : evalF M F.field_Turn_Step [a0, a1] h = field_Turn_Step M a0 a1 h := by kernel_rfl

end Wm.S
end

section
/- PRINTED by my tool (wip/wm/tool/Gen.lean): what a function comes to, stretch by stretch. -/
namespace Wm.S
open Wm
set_option maxRecDepth 100000
set_option linter.unusedVariables false


def field_fresh (M : Env) (a0_0 : Int) (a0_1 : Int) (a0_2 : Int) (a0_3 : Int) (a0_4 : Int) (a0_5 : Int) (a1 : Int) (a2 : Int) (a3 : V) (h : H) : Option (V × H) :=
 let h0 := h.new (.cells [(.int .i64 a0_0), (.int .i64 a0_1), (.int .i64 a0_2), (.int .i64 a0_3), (.int .i64 a0_4), (.int .i64 a0_5)] .rw)
 (h0.ldN 6 (.ptr h.next 0)).bind fun v1 =>
 (M.call 305 [v1, (.int .i64 a1), (.int .i64 a2)] h0).bind fun p2 =>
 (asI .i64 p2.1).bind fun n3 =>
 match (decide (n3 < 0)) with
 | true => (
 some (.nilp, p2.2))
 | false => (
 (eqV .ptr a3 .nilp).bind fun b4 =>
 match b4 with
 | true => (
 some (.nilp, p2.2))
 | false => (
 (p2.2.ldN 6 (.ptr h.next 0)).bind fun v5 =>
 (fill [(.int .i64 0), (.int .i64 0), (.int .i64 0), (.int .i64 0), (.int .i64 0), (.int .i64 0), .nilp, (.int .i64 0), (.int .i64 0), (.int .i64 0), .nilp, (.int .i64 0)] [] [(0, 6, .c v5), (6, 1, .c a3), (7, 1, .c p2.1)]).bind fun cs6 =>
 (boxc (.agg cs6)).bind fun cs7 =>
 let h8 := p2.2.new (.cells cs7 .rw)
 some ((.ptr p2.2.next 0), h8)))

theorem field_fresh_eq (M : Env) (a0_0 : Int) (a0_1 : Int) (a0_2 : Int) (a0_3 : Int) (a0_4 : Int) (a0_5 : Int) (a1 : Int) (a2 : Int) (a3 : V) (h : H) : evalF M F.field_fresh [(.agg [(.int .i64 a0_0), (.int .i64 a0_1), (.int .i64 a0_2), (.int .i64 a0_3), (.int .i64 a0_4), (.int .i64 a0_5)]), (.int .i64 a1), (.int .i64 a2), a3] h = field_fresh M a0_0 a0_1 a0_2 a0_3 a0_4 a0_5 a1 a2 a3 h := by kernel_rfl

end Wm.S
end

section
/- PRINTED by my tool (wip/wm/tool/Gen.lean): what a function comes to, stretch by stretch. -/
namespace Wm.S
open Wm
set_option maxRecDepth 100000
set_option linter.unusedVariables false


def field_newest_step (M : Env) (a0 : V) (a1 : V) (h : H) : Option (V × H) :=
 (nilc a0).bind fun v0 =>
 (ptrAt v0 11).bind fun v1 =>
 (h.ld1 v1).bind fun v2 =>
 (asI .i64 v2).bind fun n3 =>
 match (decide (n3 = 0)) with
 | true => (
 (nilc a0).bind fun v4 =>
 (ptrAt v4 0).bind fun v5 =>
 (h.ldN 6 v5).bind fun v6 =>
 (nilc a0).bind fun v7 =>
 (ptrAt v7 7).bind fun v8 =>
 (h.ld1 v8).bind fun v9 =>
 (nilc a0).bind fun v10 =>
 (ptrAt v10 6).bind fun v11 =>
 (h.ld1 v11).bind fun v12 =>
 (nilc v12).bind fun v13 =>
 (ptrAt v13 0).bind fun v14 =>
 (h.ld1 v14).bind fun v15 =>
 (M.call 266 [a1, v9] h).bind fun p16 =>
 match ckB (p16.2.ld1 v14) v15 with
 | true => (
 match ckB (p16.2.ld1 v11) v12 with
 | true => (
 match ckB (p16.2.ldN 6 v5) v6 with
 | true => (
 (M.call 304 [v6, p16.1] p16.2).bind fun p17 =>
 match ckB (p17.2.ld1 v14) v15 with
 | true => (
 match ckB (p17.2.ld1 v11) v12 with
 | true => (
 (nilc a0).bind fun v18 =>
 (ptrAt v18 8).bind fun v19 =>
 (p17.2.st 1 v19 p17.1).bind fun h20 =>
 (nilc a0).bind fun v21 =>
 (ptrAt v21 9).bind fun v22 =>
 (h20.st 1 v22 v15).bind fun h23 =>
 (nilc a0).bind fun v24 =>
 (ptrAt v24 11).bind fun v25 =>
 (h23.st 1 v25 (.int .i64 2)).bind fun h26 =>
 (nilc a0).bind fun v27 =>
 (ptrAt v27 8).bind fun v28 =>
 (h26.ld1 v28).bind fun v29 =>
 (asI .i64 v29).bind fun n30 =>
 match (decide (0 ≤ n30)) with
 | true => (
 (nilc a0).bind fun v31 =>
 (ptrAt v31 0).bind fun v32 =>
 (h26.ldN 6 v32).bind fun v33 =>
 (nilc a0).bind fun v34 =>
 (ptrAt v34 8).bind fun v35 =>
 (h26.ld1 v35).bind fun v36 =>
 (nilc a0).bind fun v37 =>
 (ptrAt v37 6).bind fun v38 =>
 (h26.ld1 v38).bind fun v39 =>
 (M.call 151 [v33, v36, v39] h26).bind fun p40 =>
 (nilc a0).bind fun v41 =>
 (ptrAt v41 10).bind fun v42 =>
 (p40.2.st 1 v42 p40.1).bind fun h43 =>
 (nilc a0).bind fun v44 =>
 (ptrAt v44 11).bind fun v45 =>
 (h43.st 1 v45 (.int .i64 1)).bind fun h46 =>
 (nilc a0).bind fun v47 =>
 (ptrAt v47 11).bind fun v48 =>
 (h46.ld1 v48).bind fun v49 =>
 (asI .i64 v49).bind fun n50 =>
 some ((.bool (decide (n50 = 2))), h46))
 | false => (
 (nilc a0).bind fun v31 =>
 (ptrAt v31 11).bind fun v32 =>
 (h26.ld1 v32).bind fun v33 =>
 (asI .i64 v33).bind fun n34 =>
 some ((.bool (decide (n34 = 2))), h26)))
 | false => none)
 | false => none)
 | false => none)
 | false => none)
 | false => none)
 | false => (
 (asI .i64 v2).bind fun n4 =>
 match (decide (n4 = 1)) with
 | true => (
 (nilc a0).bind fun v5 =>
 (ptrAt v5 10).bind fun v6 =>
 (h.ld1 v6).bind fun v7 =>
 (M.call 150 [v7, a1] h).bind fun p8 =>
 (asB p8.1).bind fun b9 =>
 match b9 with
 | true => (
 (nilc a0).bind fun v10 =>
 (ptrAt v10 11).bind fun v11 =>
 (p8.2.st 1 v11 (.int .i64 2)).bind fun h12 =>
 (nilc a0).bind fun v13 =>
 (ptrAt v13 11).bind fun v14 =>
 (h12.ld1 v14).bind fun v15 =>
 (asI .i64 v15).bind fun n16 =>
 some ((.bool (decide (n16 = 2))), h12))
 | false => (
 (nilc a0).bind fun v10 =>
 (ptrAt v10 11).bind fun v11 =>
 (p8.2.ld1 v11).bind fun v12 =>
 (asI .i64 v12).bind fun n13 =>
 some ((.bool (decide (n13 = 2))), p8.2)))
 | false => (
 (nilc a0).bind fun v5 =>
 (ptrAt v5 11).bind fun v6 =>
 (h.ld1 v6).bind fun v7 =>
 (asI .i64 v7).bind fun n8 =>
 some ((.bool (decide (n8 = 2))), h)))

theorem field_newest_step_eq (M : Env) (a0 : V) (a1 : V) (h : H) : evalF M F.field_newest_step [a0, a1] h = field_newest_step M a0 a1 h := by kernel_rfl

end Wm.S
end

section
/- PRINTED by my tool (wip/wm/tool/Gen.lean): what a function comes to, stretch by stretch. -/
namespace Wm.S
open Wm
set_option maxRecDepth 100000
set_option linter.unusedVariables false


def field_newest_point (M : Env) (a0 : V) (h : H) : Option (V × H) :=
 (nilc a0).bind fun v0 =>
 (ptrAt v0 9).bind fun v1 =>
 (h.ld1 v1).bind fun v2 =>
 (nilc a0).bind fun v3 =>
 (ptrAt v3 6).bind fun v4 =>
 (h.ld1 v4).bind fun v5 =>
 (nilc a0).bind fun v6 =>
 (ptrAt v6 8).bind fun v7 =>
 (h.ld1 v7).bind fun v8 =>
 (M.call 152 [v5, v8] h).bind fun p9 =>
 match ckB (p9.2.ld1 v1) v2 with
 | true => (
 (asI .i64 v2).bind fun n10 =>
 (asI .i64 p9.1).bind fun n11 =>
 some ((.int .i64 (max n10 n11)), p9.2))
 | false => none

theorem field_newest_point_eq (M : Env) (a0 : V) (h : H) : evalF M F.field_newest_point [a0] h = field_newest_point M a0 h := by kernel_rfl

end Wm.S
end

section
/- PRINTED by my tool (wip/wm/tool/Gen.lean): what a function comes to, stretch by stretch. -/
namespace Wm.S
open Wm
set_option maxRecDepth 100000
set_option linter.unusedVariables false


end Wm.S
end

section
/- PRINTED by my tool (wip/wm/tool/Gen.lean): what a function comes to, stretch by stretch. -/
namespace Wm.S
open Wm
set_option maxRecDepth 100000
set_option linter.unusedVariables false


end Wm.S
end

section
/- PRINTED by my tool (wip/wm/tool/Gen.lean): what a function comes to, stretch by stretch. -/
namespace Wm.S
open Wm
set_option maxRecDepth 100000
set_option linter.unusedVariables false


def field_NewSee (M : Env) (a0_0 : Int) (a0_1 : Int) (a0_2 : Int) (a0_3 : Int) (a0_4 : Int) (a0_5 : Int) (a1 : Int) (a2 : Int) (a3 : Int) (a4 : V) (h : H) : Option (V × H) :=
 let h0 := h.new (.cells [(.int .i64 a0_0), (.int .i64 a0_1), (.int .i64 a0_2), (.int .i64 a0_3), (.int .i64 a0_4), (.int .i64 a0_5)] .rw)
 (h0.ldN 6 (.ptr h.next 0)).bind fun v1 =>
 (M.call 302 [v1, (.int .i64 a1), (.int .i64 a2), a4] h0).bind fun p2 =>
 (eqV .ptr p2.1 .nilp).bind fun b3 =>
 match b3 with
 | true => (
 some (.nilp, p2.2))
 | false => (
 (fill [(.int .i64 0), .nilp, (.int .u64 0), (.int .i64 0), (.int .i64 0)] [] [(0, 1, .c (.int .i64 (-1))), (1, 1, .c p2.1), (2, 1, .c (.int .u64 a3))]).bind fun cs4 =>
 (boxc (.agg cs4)).bind fun cs5 =>
 let h6 := p2.2.new (.cells cs5 .rw)
 some ((.ptr p2.2.next 0), h6))

theorem field_NewSee_eq (M : Env) (a0_0 : Int) (a0_1 : Int) (a0_2 : Int) (a0_3 : Int) (a0_4 : Int) (a0_5 : Int) (a1 : Int) (a2 : Int) (a3 : Int) (a4 : V) (h : H) : evalF M F.field_NewSee [(.agg [(.int .i64 a0_0), (.int .i64 a0_1), (.int .i64 a0_2), (.int .i64 a0_3), (.int .i64 a0_4), (.int .i64 a0_5)]), (.int .i64 a1), (.int .i64 a2), (.int .u64 a3), a4] h = field_NewSee M a0_0 a0_1 a0_2 a0_3 a0_4 a0_5 a1 a2 a3 a4 h := by kernel_rfl

end Wm.S
end

section
/- PRINTED by my tool (wip/wm/tool/Gen.lean): what a function comes to, stretch by stretch. -/
namespace Wm.S
open Wm
set_option maxRecDepth 100000
set_option linter.unusedVariables false


def field_See_Step (M : Env) (a0 : V) (a1 : V) (h : H) : Option (V × H) :=
 (eqV .ptr a0 .nilp).bind fun b0 =>
 match b0 with
 | true => (
 some ((.bool true), h))
 | false => (
 (nilc a0).bind fun v1 =>
 (ptrAt v1 4).bind fun v2 =>
 (h.ld1 v2).bind fun v3 =>
 (asI .i64 v3).bind fun n4 =>
 match (decide (n4 = 0)) with
 | true => (
 (nilc a0).bind fun v5 =>
 (ptrAt v5 1).bind fun v6 =>
 (h.ld1 v6).bind fun v7 =>
 (M.call 303 [v7, a1] h).bind fun p8 =>
 (asB p8.1).bind fun b9 =>
 match b9 with
 | true => (
 (nilc a0).bind fun v10 =>
 (ptrAt v10 1).bind fun v11 =>
 (p8.2.ld1 v11).bind fun v12 =>
 (nilc v12).bind fun v13 =>
 (ptrAt v13 8).bind fun v14 =>
 (p8.2.ld1 v14).bind fun v15 =>
 (nilc a0).bind fun v16 =>
 (ptrAt v16 3).bind fun v17 =>
 (p8.2.st 1 v17 v15).bind fun h18 =>
 (nilc a0).bind fun v19 =>
 (ptrAt v19 4).bind fun v20 =>
 (h18.st 1 v20 (.int .i64 1)).bind fun h21 =>
 (nilc a0).bind fun v22 =>
 (ptrAt v22 3).bind fun v23 =>
 (h21.ld1 v23).bind fun v24 =>
 (asI .i64 v24).bind fun n25 =>
 match (decide (n25 < 0)) with
 | true => (
 (nilc a0).bind fun v26 =>
 (ptrAt v26 4).bind fun v27 =>
 (h21.st 1 v27 (.int .i64 4)).bind fun h28 =>
 (nilc a0).bind fun v29 =>
 (ptrAt v29 4).bind fun v30 =>
 (h28.ld1 v30).bind fun v31 =>
 (asI .i64 v31).bind fun n32 =>
 some ((.bool (decide (n32 = 4))), h28))
 | false => (
 (nilc a0).bind fun v26 =>
 (ptrAt v26 4).bind fun v27 =>
 (h21.ld1 v27).bind fun v28 =>
 (asI .i64 v28).bind fun n29 =>
 some ((.bool (decide (n29 = 4))), h21)))
 | false => (
 (nilc a0).bind fun v10 =>
 (ptrAt v10 4).bind fun v11 =>
 (p8.2.ld1 v11).bind fun v12 =>
 (asI .i64 v12).bind fun n13 =>
 some ((.bool (decide (n13 = 4))), p8.2)))
 | false => (
 (asI .i64 v3).bind fun n5 =>
 match (decide (n5 = 1)) with
 | true => (
 (nilc a0).bind fun v6 =>
 (ptrAt v6 1).bind fun v7 =>
 (h.ld1 v7).bind fun v8 =>
 (nilc v8).bind fun v9 =>
 (ptrAt v9 0).bind fun v10 =>
 (h.ldN 6 v10).bind fun v11 =>
 (nilc a0).bind fun v12 =>
 (ptrAt v12 3).bind fun v13 =>
 (h.ld1 v13).bind fun v14 =>
 (M.call 305 [v11, v14, (.int .i64 1)] h).bind fun p15 =>
 (M.call 266 [a1, p15.1] p15.2).bind fun p16 =>
 (nilc a0).bind fun v17 =>
 (ptrAt v17 4).bind fun v18 =>
 (p16.2.st 1 v18 (.int .i64 2)).bind fun h19 =>
 (asI .u64 p16.1).bind fun n20 =>
 match (!decide (n20 = 0)) with
 | true => (
 (nilc a0).bind fun v21 =>
 (ptrAt v21 2).bind fun v22 =>
 (h19.ld1 v22).bind fun v23 =>
 (asI .u64 p16.1).bind fun n24 =>
 (asI .u64 v23).bind fun n25 =>
 match (decide (n24 ≤ n25)) with
 | true => (
 (nilc a0).bind fun v26 =>
 (ptrAt v26 4).bind fun v27 =>
 (h19.st 1 v27 (.int .i64 3)).bind fun h28 =>
 (nilc a0).bind fun v29 =>
 (ptrAt v29 4).bind fun v30 =>
 (h28.ld1 v30).bind fun v31 =>
 (asI .i64 v31).bind fun n32 =>
 some ((.bool (decide (n32 = 4))), h28))
 | false => (
 (nilc a0).bind fun v26 =>
 (ptrAt v26 4).bind fun v27 =>
 (h19.ld1 v27).bind fun v28 =>
 (asI .i64 v28).bind fun n29 =>
 some ((.bool (decide (n29 = 4))), h19)))
 | false => (
 (nilc a0).bind fun v21 =>
 (ptrAt v21 4).bind fun v22 =>
 (h19.ld1 v22).bind fun v23 =>
 (asI .i64 v23).bind fun n24 =>
 some ((.bool (decide (n24 = 4))), h19)))
 | false => (
 (asI .i64 v3).bind fun n6 =>
 match (decide (n6 = 2)) with
 | true => (
 (nilc a0).bind fun v7 =>
 (ptrAt v7 1).bind fun v8 =>
 (h.ld1 v8).bind fun v9 =>
 (nilc v9).bind fun v10 =>
 (ptrAt v10 0).bind fun v11 =>
 (h.ldN 6 v11).bind fun v12 =>
 (nilc a0).bind fun v13 =>
 (ptrAt v13 1).bind fun v14 =>
 (h.ld1 v14).bind fun v15 =>
 (nilc v15).bind fun v16 =>
 (ptrAt v16 0).bind fun v17 =>
 (h.ldN 6 v17).bind fun v18 =>
 (nilc a0).bind fun v19 =>
 (ptrAt v19 3).bind fun v20 =>
 (h.ld1 v20).bind fun v21 =>
 (M.call 305 [v18, v21, (.int .i64 2)] h).bind fun p22 =>
 match ckB (p22.2.ldN 6 v11) v12 with
 | true => (
 match ckB (p22.2.ld1 v8) v9 with
 | true => (
 (M.call 266 [a1, p22.1] p22.2).bind fun p23 =>
 match ckB (p23.2.ldN 6 v11) v12 with
 | true => (
 match ckB (p23.2.ld1 v8) v9 with
 | true => (
 (M.call 304 [v12, p23.1] p23.2).bind fun p24 =>
 (nilc a0).bind fun v25 =>
 (ptrAt v25 3).bind fun v26 =>
 (p24.2.st 1 v26 p24.1).bind fun h27 =>
 (nilc a0).bind fun v28 =>
 (ptrAt v28 4).bind fun v29 =>
 (h27.st 1 v29 (.int .i64 1)).bind fun h30 =>
 (nilc a0).bind fun v31 =>
 (ptrAt v31 3).bind fun v32 =>
 (h30.ld1 v32).bind fun v33 =>
 (asI .i64 v33).bind fun n34 =>
 match (decide (n34 < 0)) with
 | true => (
 (nilc a0).bind fun v35 =>
 (ptrAt v35 4).bind fun v36 =>
 (h30.st 1 v36 (.int .i64 4)).bind fun h37 =>
 (nilc a0).bind fun v38 =>
 (ptrAt v38 4).bind fun v39 =>
 (h37.ld1 v39).bind fun v40 =>
 (asI .i64 v40).bind fun n41 =>
 some ((.bool (decide (n41 = 4))), h37))
 | false => (
 (nilc a0).bind fun v35 =>
 (ptrAt v35 4).bind fun v36 =>
 (h30.ld1 v36).bind fun v37 =>
 (asI .i64 v37).bind fun n38 =>
 some ((.bool (decide (n38 = 4))), h30)))
 | false => none)
 | false => none)
 | false => none)
 | false => none)
 | false => (
 (asI .i64 v3).bind fun n7 =>
 match (decide (n7 = 3)) with
 | true => (
 (nilc a0).bind fun v8 =>
 (ptrAt v8 1).bind fun v9 =>
 (h.ld1 v9).bind fun v10 =>
 (nilc v10).bind fun v11 =>
 (ptrAt v11 0).bind fun v12 =>
 (h.ldN 6 v12).bind fun v13 =>
 (nilc a0).bind fun v14 =>
 (ptrAt v14 1).bind fun v15 =>
 (h.ld1 v15).bind fun v16 =>
 (nilc v16).bind fun v17 =>
 (ptrAt v17 0).bind fun v18 =>
 (h.ldN 6 v18).bind fun v19 =>
 (nilc a0).bind fun v20 =>
 (ptrAt v20 3).bind fun v21 =>
 (h.ld1 v21).bind fun v22 =>
 (M.call 305 [v19, v22, (.int .i64 0)] h).bind fun p23 =>
 match ckB (p23.2.ldN 6 v12) v13 with
 | true => (
 match ckB (p23.2.ld1 v9) v10 with
 | true => (
 (M.call 266 [a1, p23.1] p23.2).bind fun p24 =>
 match ckB (p24.2.ldN 6 v12) v13 with
 | true => (
 match ckB (p24.2.ld1 v9) v10 with
 | true => (
 (M.call 304 [v13, p24.1] p24.2).bind fun p25 =>
 (nilc a0).bind fun v26 =>
 (ptrAt v26 0).bind fun v27 =>
 (p25.2.st 1 v27 p25.1).bind fun h28 =>
 (nilc a0).bind fun v29 =>
 (ptrAt v29 4).bind fun v30 =>
 (h28.st 1 v30 (.int .i64 4)).bind fun h31 =>
 (nilc a0).bind fun v32 =>
 (ptrAt v32 4).bind fun v33 =>
 (h31.ld1 v33).bind fun v34 =>
 (asI .i64 v34).bind fun n35 =>
 some ((.bool (decide (n35 = 4))), h31))
 | false => none)
 | false => none)
 | false => none)
 | false => none)
 | false => (
 (nilc a0).bind fun v8 =>
 (ptrAt v8 4).bind fun v9 =>
 (h.ld1 v9).bind fun v10 =>
 (asI .i64 v10).bind fun n11 =>
 some ((.bool (decide (n11 = 4))), h))))))

theorem field_See_Step_eq (M : Env) (a0 : V) (a1 : V) (h : H) : evalF M F.field_See_Step [a0, a1] h = field_See_Step M a0 a1 h := by kernel_rfl

end Wm.S
end

section
/- PRINTED by my tool (wip/wm/tool/Gen.lean): what a function comes to, stretch by stretch. -/
namespace Wm.S
open Wm
set_option maxRecDepth 100000
set_option linter.unusedVariables false


def field_NewLay (M : Env) (a0_0 : Int) (a0_1 : Int) (a0_2 : Int) (a0_3 : Int) (a0_4 : Int) (a0_5 : Int) (a1 : Int) (a2 : Int) (a3 : Int) (a4 : Int) (a5 : Int) (a6 : V) (h : H) : Option (V × H) :=
 let h0 := h.new (.cells [(.int .i64 a0_0), (.int .i64 a0_1), (.int .i64 a0_2), (.int .i64 a0_3), (.int .i64 a0_4), (.int .i64 a0_5)] .rw)
 (h0.ldN 6 (.ptr h.next 0)).bind fun v1 =>
 (M.call 302 [v1, (.int .i64 a1), (.int .i64 a2), a6] h0).bind fun p2 =>
 (eqV .ptr p2.1 .nilp).bind fun b3 =>
 match b3 with
 | true => (
 some (.nilp, p2.2))
 | false => (
 (p2.2.ldN 6 (.ptr h.next 0)).bind fun v4 =>
 (M.call 261 [v4, (.int .i64 a3)] p2.2).bind fun p5 =>
 (asI .i64 p5.1).bind fun n6 =>
 match (decide (n6 < 0)) with
 | true => (
 some (.nilp, p5.2))
 | false => (
 (fill [(.bool false), (.int .i64 0), .nilp, (.int .i64 0), (.int .i64 0), (.int .u64 0), .nilp, .nilp, (.int .i64 0)] [] [(2, 1, .c p2.1), (3, 1, .c (.int .i64 a3)), (4, 1, .c (.int .i64 a4)), (5, 1, .c (.int .u64 a5))]).bind fun cs7 =>
 (boxc (.agg cs7)).bind fun cs8 =>
 let h9 := p5.2.new (.cells cs8 .rw)
 some ((.ptr p5.2.next 0), h9)))

theorem field_NewLay_eq (M : Env) (a0_0 : Int) (a0_1 : Int) (a0_2 : Int) (a0_3 : Int) (a0_4 : Int) (a0_5 : Int) (a1 : Int) (a2 : Int) (a3 : Int) (a4 : Int) (a5 : Int) (a6 : V) (h : H) : evalF M F.field_NewLay [(.agg [(.int .i64 a0_0), (.int .i64 a0_1), (.int .i64 a0_2), (.int .i64 a0_3), (.int .i64 a0_4), (.int .i64 a0_5)]), (.int .i64 a1), (.int .i64 a2), (.int .i64 a3), (.int .i64 a4), (.int .u64 a5), a6] h = field_NewLay M a0_0 a0_1 a0_2 a0_3 a0_4 a0_5 a1 a2 a3 a4 a5 a6 h := by kernel_rfl

end Wm.S
end

section
/- PRINTED by my tool (wip/wm/tool/Gen.lean): what a function comes to, stretch by stretch. -/
namespace Wm.S
open Wm
set_option maxRecDepth 100000
set_option linter.unusedVariables false


def field_Lay_refuse (M : Env) (a0 : V) (h : H) : Option (V × H) :=
 (nilc a0).bind fun v0 =>
 (ptrAt v0 2).bind fun v1 =>
 (h.ld1 v1).bind fun v2 =>
 (M.call 306 [v2] h).bind fun p3 =>
 (nilc a0).bind fun v4 =>
 (ptrAt v4 1).bind fun v5 =>
 (p3.2.st 1 v5 p3.1).bind fun h6 =>
 (nilc a0).bind fun v7 =>
 (ptrAt v7 8).bind fun v8 =>
 (h6.st 1 v8 (.int .i64 6)).bind fun h9 =>
 some ((.tup []), h9)

theorem field_Lay_refuse_eq (M : Env) (a0 : V) (h : H) : evalF M F.field_Lay_refuse [a0] h = field_Lay_refuse M a0 h := by kernel_rfl

end Wm.S
end

section
/- PRINTED by my tool (wip/wm/tool/Gen.lean): what a function comes to, stretch by stretch. -/
namespace Wm.S
open Wm
set_option maxRecDepth 100000
set_option linter.unusedVariables false


def field_Lay_Step (M : Env) (a0 : V) (a1 : V) (h : H) : Option (V × H) :=
 (eqV .ptr a0 .nilp).bind fun b0 =>
 match b0 with
 | true => (
 some ((.bool true), h))
 | false => (
 (nilc a0).bind fun v1 =>
 (ptrAt v1 2).bind fun v2 =>
 (h.ld1 v2).bind fun v3 =>
 (nilc v3).bind fun v4 =>
 (ptrAt v4 0).bind fun v5 =>
 (h.ldN 6 v5).bind fun v6 =>
 let h7 := h.new (.cells [(.int .i64 0), (.int .i64 0), (.int .i64 0), (.int .i64 0), (.int .i64 0), (.int .i64 0)] .rw)
 (h7.st 6 (.ptr h.next 0) v6).bind fun h8 =>
 (nilc a0).bind fun v9 =>
 (ptrAt v9 8).bind fun v10 =>
 (h8.ld1 v10).bind fun v11 =>
 (asI .i64 v11).bind fun n12 =>
 match (decide (n12 = 0)) with
 | true => (
 (nilc a0).bind fun v13 =>
 (ptrAt v13 2).bind fun v14 =>
 (h8.ld1 v14).bind fun v15 =>
 (M.call 303 [v15, a1] h8).bind fun p16 =>
 (asB p16.1).bind fun b17 =>
 match (!b17) with
 | true => (
 (nilc a0).bind fun v18 =>
 (ptrAt v18 8).bind fun v19 =>
 (p16.2.ld1 v19).bind fun v20 =>
 (asI .i64 v20).bind fun n21 =>
 some ((.bool (decide (n21 = 6))), p16.2))
 | false => (
 (nilc a0).bind fun v18 =>
 (ptrAt v18 8).bind fun v19 =>
 (p16.2.st 1 v19 (.int .i64 2)).bind fun h20 =>
 (nilc a0).bind fun v21 =>
 (ptrAt v21 4).bind fun v22 =>
 (h20.ld1 v22).bind fun v23 =>
 (asI .i64 v23).bind fun n24 =>
 match (decide ((-1) ≤ n24)) with
 | true => (
 (nilc a0).bind fun v25 =>
 (ptrAt v25 2).bind fun v26 =>
 (h20.ld1 v26).bind fun v27 =>
 (nilc v27).bind fun v28 =>
 (ptrAt v28 8).bind fun v29 =>
 (h20.ld1 v29).bind fun v30 =>
 (asI .i64 v30).bind fun n31 =>
 match (decide (0 ≤ n31)) with
 | true => (
 (nilc a0).bind fun v32 =>
 (ptrAt v32 8).bind fun v33 =>
 (h20.st 1 v33 (.int .i64 1)).bind fun h34 =>
 (nilc a0).bind fun v35 =>
 (ptrAt v35 8).bind fun v36 =>
 (h34.ld1 v36).bind fun v37 =>
 (asI .i64 v37).bind fun n38 =>
 some ((.bool (decide (n38 = 6))), h34))
 | false => (
 (nilc a0).bind fun v32 =>
 (ptrAt v32 4).bind fun v33 =>
 (h20.ld1 v33).bind fun v34 =>
 (asI .i64 v34).bind fun n35 =>
 match (decide (0 ≤ n35)) with
 | true => (
 (M.call 307 [a0] h20).bind fun p36 =>
 (nilc a0).bind fun v37 =>
 (ptrAt v37 8).bind fun v38 =>
 (p36.2.ld1 v38).bind fun v39 =>
 (asI .i64 v39).bind fun n40 =>
 some ((.bool (decide (n40 = 6))), p36.2))
 | false => (
 (nilc a0).bind fun v36 =>
 (ptrAt v36 8).bind fun v37 =>
 (h20.ld1 v37).bind fun v38 =>
 (asI .i64 v38).bind fun n39 =>
 some ((.bool (decide (n39 = 6))), h20))))
 | false => (
 (nilc a0).bind fun v25 =>
 (ptrAt v25 4).bind fun v26 =>
 (h20.ld1 v26).bind fun v27 =>
 (asI .i64 v27).bind fun n28 =>
 match (decide (0 ≤ n28)) with
 | true => (
 (M.call 307 [a0] h20).bind fun p29 =>
 (nilc a0).bind fun v30 =>
 (ptrAt v30 8).bind fun v31 =>
 (p29.2.ld1 v31).bind fun v32 =>
 (asI .i64 v32).bind fun n33 =>
 some ((.bool (decide (n33 = 6))), p29.2))
 | false => (
 (nilc a0).bind fun v29 =>
 (ptrAt v29 8).bind fun v30 =>
 (h20.ld1 v30).bind fun v31 =>
 (asI .i64 v31).bind fun n32 =>
 some ((.bool (decide (n32 = 6))), h20)))))
 | false => (
 (asI .i64 v11).bind fun n13 =>
 match (decide (n13 = 1)) with
 | true => (
 (nilc a0).bind fun v14 =>
 (ptrAt v14 8).bind fun v15 =>
 (h8.st 1 v15 (.int .i64 2)).bind fun h16 =>
 (h16.ldN 6 (.ptr h.next 0)).bind fun v17 =>
 (h16.ldN 6 (.ptr h.next 0)).bind fun v18 =>
 (nilc a0).bind fun v19 =>
 (ptrAt v19 2).bind fun v20 =>
 (h16.ld1 v20).bind fun v21 =>
 (nilc v21).bind fun v22 =>
 (ptrAt v22 8).bind fun v23 =>
 (h16.ld1 v23).bind fun v24 =>
 (nilc a0).bind fun v25 =>
 (ptrAt v25 4).bind fun v26 =>
 (h16.ld1 v26).bind fun v27 =>
 (M.call 305 [v18, v24, (.int .i64 0)] h16).bind fun p28 =>
 match ckB (p28.2.ld1 v26) v27 with
 | true => (
 match ckB (p28.2.ldN 6 (.ptr h.next 0)) v17 with
 | true => (
 (M.call 266 [a1, p28.1] p28.2).bind fun p29 =>
 match ckB (p29.2.ld1 v26) v27 with
 | true => (
 match ckB (p29.2.ldN 6 (.ptr h.next 0)) v17 with
 | true => (
 (M.call 304 [v17, p29.1] p29.2).bind fun p30 =>
 match ckB (p30.2.ld1 v26) v27 with
 | true => (
 (asI .i64 p30.1).bind fun n31 =>
 (asI .i64 v27).bind fun n32 =>
 match (!decide (n31 = n32)) with
 | true => (
 (M.call 307 [a0] p30.2).bind fun p33 =>
 (nilc a0).bind fun v34 =>
 (ptrAt v34 8).bind fun v35 =>
 (p33.2.ld1 v35).bind fun v36 =>
 (asI .i64 v36).bind fun n37 =>
 some ((.bool (decide (n37 = 6))), p33.2))
 | false => (
 (nilc a0).bind fun v33 =>
 (ptrAt v33 8).bind fun v34 =>
 (p30.2.ld1 v34).bind fun v35 =>
 (asI .i64 v35).bind fun n36 =>
 some ((.bool (decide (n36 = 6))), p30.2)))
 | false => none)
 | false => none)
 | false => none)
 | false => none)
 | false => none)
 | false => (
 (asI .i64 v11).bind fun n14 =>
 match (decide (n14 = 2)) with
 | true => (
 (h8.ldN 6 (.ptr h.next 0)).bind fun v15 =>
 (nilc a0).bind fun v16 =>
 (ptrAt v16 3).bind fun v17 =>
 (h8.ld1 v17).bind fun v18 =>
 (nilc a0).bind fun v19 =>
 (ptrAt v19 2).bind fun v20 =>
 (h8.ld1 v20).bind fun v21 =>
 (nilc v21).bind fun v22 =>
 (ptrAt v22 8).bind fun v23 =>
 (h8.ld1 v23).bind fun v24 =>
 (asI .i64 v24).bind fun n25 =>
 (M.call 305 [v15, v18, (.int .i64 2)] h8).bind fun p26 =>
 match ckB (p26.2.ld1 v23) v24 with
 | true => (
 match ckB (p26.2.ld1 v20) v21 with
 | true => (
 (M.call 203 [a1, p26.1, (.int .u64 (wr .u64 (wr .i64 (n25 + 1))))] p26.2).bind fun p27 =>
 (nilc a0).bind fun v28 =>
 (ptrAt v28 8).bind fun v29 =>
 (p27.2.st 1 v29 (.int .i64 4)).bind fun h30 =>
 (nilc a0).bind fun v31 =>
 (ptrAt v31 2).bind fun v32 =>
 (h30.ld1 v32).bind fun v33 =>
 (nilc v33).bind fun v34 =>
 (ptrAt v34 8).bind fun v35 =>
 (h30.ld1 v35).bind fun v36 =>
 (asI .i64 v36).bind fun n37 =>
 match (decide (0 ≤ n37)) with
 | true => (
 (nilc a0).bind fun v38 =>
 (ptrAt v38 5).bind fun v39 =>
 (h30.ld1 v39).bind fun v40 =>
 (M.call 308 [v40] h30).bind fun p41 =>
 (asB p41.1).bind fun b42 =>
 match b42 with
 | true => (
 (p41.2.ldN 6 (.ptr h.next 0)).bind fun v43 =>
 (nilc a0).bind fun v44 =>
 (ptrAt v44 2).bind fun v45 =>
 (p41.2.ld1 v45).bind fun v46 =>
 (nilc v46).bind fun v47 =>
 (ptrAt v47 8).bind fun v48 =>
 (p41.2.ld1 v48).bind fun v49 =>
 (nilc a0).bind fun v50 =>
 (ptrAt v50 5).bind fun v51 =>
 (p41.2.ld1 v51).bind fun v52 =>
 (M.call 90 [v43, v49, v52] p41.2).bind fun p53 =>
 (nilc a0).bind fun v54 =>
 (ptrAt v54 6).bind fun v55 =>
 (p53.2.st 1 v55 p53.1).bind fun h56 =>
 (nilc a0).bind fun v57 =>
 (ptrAt v57 8).bind fun v58 =>
 (h56.st 1 v58 (.int .i64 3)).bind fun h59 =>
 (nilc a0).bind fun v60 =>
 (ptrAt v60 8).bind fun v61 =>
 (h59.ld1 v61).bind fun v62 =>
 (asI .i64 v62).bind fun n63 =>
 some ((.bool (decide (n63 = 6))), h59))
 | false => (
 (nilc a0).bind fun v43 =>
 (ptrAt v43 8).bind fun v44 =>
 (p41.2.ld1 v44).bind fun v45 =>
 (asI .i64 v45).bind fun n46 =>
 some ((.bool (decide (n46 = 6))), p41.2)))
 | false => (
 (nilc a0).bind fun v38 =>
 (ptrAt v38 8).bind fun v39 =>
 (h30.ld1 v39).bind fun v40 =>
 (asI .i64 v40).bind fun n41 =>
 some ((.bool (decide (n41 = 6))), h30)))
 | false => none)
 | false => none)
 | false => (
 (asI .i64 v11).bind fun n15 =>
 match (decide (n15 = 3)) with
 | true => (
 (nilc a0).bind fun v16 =>
 (ptrAt v16 6).bind fun v17 =>
 (h8.ld1 v17).bind fun v18 =>
 (M.call 91 [v18, a1] h8).bind fun p19 =>
 (asB p19.1).bind fun b20 =>
 match b20 with
 | true => (
 (nilc a0).bind fun v21 =>
 (ptrAt v21 8).bind fun v22 =>
 (p19.2.st 1 v22 (.int .i64 4)).bind fun h23 =>
 (nilc a0).bind fun v24 =>
 (ptrAt v24 8).bind fun v25 =>
 (h23.ld1 v25).bind fun v26 =>
 (asI .i64 v26).bind fun n27 =>
 some ((.bool (decide (n27 = 6))), h23))
 | false => (
 (nilc a0).bind fun v21 =>
 (ptrAt v21 8).bind fun v22 =>
 (p19.2.ld1 v22).bind fun v23 =>
 (asI .i64 v23).bind fun n24 =>
 some ((.bool (decide (n24 = 6))), p19.2)))
 | false => (
 (asI .i64 v11).bind fun n16 =>
 match (decide (n16 = 4)) with
 | true => (
 (nilc a0).bind fun v17 =>
 (ptrAt v17 2).bind fun v18 =>
 (h8.ld1 v18).bind fun v19 =>
 (nilc v19).bind fun v20 =>
 (ptrAt v20 7).bind fun v21 =>
 (h8.ld1 v21).bind fun v22 =>
 (nilc a0).bind fun v23 =>
 (ptrAt v23 2).bind fun v24 =>
 (h8.ld1 v24).bind fun v25 =>
 (nilc v25).bind fun v26 =>
 (ptrAt v26 8).bind fun v27 =>
 (h8.ld1 v27).bind fun v28 =>
 (asI .i64 v28).bind fun n29 =>
 (nilc a0).bind fun v30 =>
 (ptrAt v30 3).bind fun v31 =>
 (h8.ld1 v31).bind fun v32 =>
 (asI .i64 v32).bind fun n33 =>
 (M.call 269 [a1, v22, (.int .u64 (wr .u64 (wr .i64 (n29 + 1)))), (.int .u64 (wr .u64 (wr .i64 (n33 + 1))))] h8).bind fun p34 =>
 (asB p34.1).bind fun b35 =>
 match b35 with
 | true => (
 (p34.2.ldN 6 (.ptr h.next 0)).bind fun v36 =>
 (nilc a0).bind fun v37 =>
 (ptrAt v37 3).bind fun v38 =>
 (p34.2.ld1 v38).bind fun v39 =>
 (nilc a0).bind fun v40 =>
 (ptrAt v40 2).bind fun v41 =>
 (p34.2.ld1 v41).bind fun v42 =>
 (nilc v42).bind fun v43 =>
 (ptrAt v43 6).bind fun v44 =>
 (p34.2.ld1 v44).bind fun v45 =>
 (M.call 151 [v36, v39, v45] p34.2).bind fun p46 =>
 (nilc a0).bind fun v47 =>
 (ptrAt v47 7).bind fun v48 =>
 (p46.2.st 1 v48 p46.1).bind fun h49 =>
 (nilc a0).bind fun v50 =>
 (ptrAt v50 8).bind fun v51 =>
 (h49.st 1 v51 (.int .i64 5)).bind fun h52 =>
 (nilc a0).bind fun v53 =>
 (ptrAt v53 8).bind fun v54 =>
 (h52.ld1 v54).bind fun v55 =>
 (asI .i64 v55).bind fun n56 =>
 some ((.bool (decide (n56 = 6))), h52))
 | false => (
 (p34.2.ldN 6 (.ptr h.next 0)).bind fun v36 =>
 (nilc a0).bind fun v37 =>
 (ptrAt v37 2).bind fun v38 =>
 (p34.2.ld1 v38).bind fun v39 =>
 (nilc v39).bind fun v40 =>
 (ptrAt v40 6).bind fun v41 =>
 (p34.2.ld1 v41).bind fun v42 =>
 (nilc a0).bind fun v43 =>
 (ptrAt v43 2).bind fun v44 =>
 (p34.2.ld1 v44).bind fun v45 =>
 (nilc v45).bind fun v46 =>
 (ptrAt v46 7).bind fun v47 =>
 (p34.2.ld1 v47).bind fun v48 =>
 (fill [(.int .i64 0), (.int .i64 0), (.int .i64 0), (.int .i64 0), (.int .i64 0), (.int .i64 0), .nilp, (.int .i64 0), (.int .i64 0), (.int .i64 0), .nilp, (.int .i64 0)] [] [(0, 6, .c v36), (6, 1, .c v42), (7, 1, .c v48)]).bind fun cs49 =>
 (boxc (.agg cs49)).bind fun cs50 =>
 let h51 := p34.2.new (.cells cs50 .rw)
 (nilc a0).bind fun v52 =>
 (ptrAt v52 2).bind fun v53 =>
 (h51.st 1 v53 (.ptr p34.2.next 0)).bind fun h54 =>
 (nilc a0).bind fun v55 =>
 (ptrAt v55 8).bind fun v56 =>
 (h54.st 1 v56 (.int .i64 0)).bind fun h57 =>
 (nilc a0).bind fun v58 =>
 (ptrAt v58 8).bind fun v59 =>
 (h57.ld1 v59).bind fun v60 =>
 (asI .i64 v60).bind fun n61 =>
 some ((.bool (decide (n61 = 6))), h57)))
 | false => (
 (asI .i64 v11).bind fun n17 =>
 match (decide (n17 = 5)) with
 | true => (
 (nilc a0).bind fun v18 =>
 (ptrAt v18 7).bind fun v19 =>
 (h8.ld1 v19).bind fun v20 =>
 (M.call 150 [v20, a1] h8).bind fun p21 =>
 (asB p21.1).bind fun b22 =>
 match b22 with
 | true => (
 (nilc a0).bind fun v23 =>
 (ptrAt v23 2).bind fun v24 =>
 (p21.2.ld1 v24).bind fun v25 =>
 (nilc v25).bind fun v26 =>
 (ptrAt v26 6).bind fun v27 =>
 (p21.2.ld1 v27).bind fun v28 =>
 (nilc a0).bind fun v29 =>
 (ptrAt v29 3).bind fun v30 =>
 (p21.2.ld1 v30).bind fun v31 =>
 (M.call 152 [v28, v31] p21.2).bind fun p32 =>
 (nilc a0).bind fun v33 =>
 (ptrAt v33 0).bind fun v34 =>
 (p32.2.st 1 v34 (.bool true)).bind fun h35 =>
 (nilc a0).bind fun v36 =>
 (ptrAt v36 1).bind fun v37 =>
 (h35.st 1 v37 p32.1).bind fun h38 =>
 (nilc a0).bind fun v39 =>
 (ptrAt v39 8).bind fun v40 =>
 (h38.st 1 v40 (.int .i64 6)).bind fun h41 =>
 (nilc a0).bind fun v42 =>
 (ptrAt v42 8).bind fun v43 =>
 (h41.ld1 v43).bind fun v44 =>
 (asI .i64 v44).bind fun n45 =>
 some ((.bool (decide (n45 = 6))), h41))
 | false => (
 (nilc a0).bind fun v23 =>
 (ptrAt v23 8).bind fun v24 =>
 (p21.2.ld1 v24).bind fun v25 =>
 (asI .i64 v25).bind fun n26 =>
 some ((.bool (decide (n26 = 6))), p21.2)))
 | false => (
 (nilc a0).bind fun v18 =>
 (ptrAt v18 8).bind fun v19 =>
 (h8.ld1 v19).bind fun v20 =>
 (asI .i64 v20).bind fun n21 =>
 some ((.bool (decide (n21 = 6))), h8))))))))

theorem field_Lay_Step_eq (M : Env) (a0 : V) (a1 : V) (h : H) : evalF M F.field_Lay_Step [a0, a1] h = field_Lay_Step M a0 a1 h := by kernel_rfl

end Wm.S
end

section
/- PRINTED by my tool (wip/wm/tool/Gen.lean): what a function comes to, stretch by stretch. -/
namespace Wm.S
open Wm
set_option maxRecDepth 100000
set_option linter.unusedVariables false


def withylaw10_config (M : Env) (h : H) : Option (V × H) :=
 let h0 := h.new (.cells [(.int .i64 0), (.int .i64 0), (.int .i64 0), (.int .i64 0), (.int .i64 0), (.int .i64 0)] .rw)
 (h0.st 6 (.ptr h.next 0) (.agg [(.int .i64 40), (.int .i64 3), (.int .i64 1), (.int .i64 1), (.int .i64 9), (.int .i64 0)])).bind fun h1 =>
 finV h1 [.cell true 6 (.ptr h.next 0)]

theorem withylaw10_config_eq (M : Env) (h : H) : evalF M F.withylaw10_config [] h = withylaw10_config M h := by kernel_rfl

end Wm.S
end

section
/- PRINTED by my tool (wip/wm/tool/Gen.lean): what a function comes to, stretch by stretch. -/
namespace Wm.S
open Wm
set_option maxRecDepth 100000
set_option linter.unusedVariables false


def withylaw10_at (M : Env) (a0_0 : Int) (a0_1 : Int) (a0_2 : Int) (a0_3 : Int) (a0_4 : Int) (a0_5 : Int) (a1 : ByteArray) (a2 : Int) (a3 : Int) (h : H) : Option (V × H) :=
 let h0 := h.new (.cells [(.int .i64 a0_0), (.int .i64 a0_1), (.int .i64 a0_2), (.int .i64 a0_3), (.int .i64 a0_4), (.int .i64 a0_5)] .rw)
 (h0.ldN 6 (.ptr h.next 0)).bind fun v1 =>
 (M.call 108 [v1, (.agg [(.str a1), (.int .i64 a2), (.int .i64 a3)])] h0).bind fun p2 =>
 some (p2.1, p2.2)

theorem withylaw10_at_eq (M : Env) (a0_0 : Int) (a0_1 : Int) (a0_2 : Int) (a0_3 : Int) (a0_4 : Int) (a0_5 : Int) (a1 : ByteArray) (a2 : Int) (a3 : Int) (h : H) : evalF M F.withylaw10_at [(.agg [(.int .i64 a0_0), (.int .i64 a0_1), (.int .i64 a0_2), (.int .i64 a0_3), (.int .i64 a0_4), (.int .i64 a0_5)]), (.str a1), (.int .i64 a2), (.int .i64 a3)] h = withylaw10_at M a0_0 a0_1 a0_2 a0_3 a0_4 a0_5 a1 a2 a3 h := by kernel_rfl

end Wm.S
end

section
/- PRINTED by my tool (wip/wm/tool/Gen.lean): what a function comes to, stretch by stretch. -/
namespace Wm.S
open Wm
set_option maxRecDepth 100000
set_option linter.unusedVariables false


def withylaw10_slot (M : Env) (a0 : Int) (h : H) : Option (V × H) :=
 match (decide (a0 < 0)) with
 | true => (
 some ((.int .i64 (-1)), h))
 | false => (
 some ((.int .i64 (wr .i64 (a0 + 1))), h))

theorem withylaw10_slot_eq (M : Env) (a0 : Int) (h : H) : evalF M F.withylaw10_slot [(.int .i64 a0)] h = withylaw10_slot M a0 h := by kernel_rfl

end Wm.S
end

section
/- PRINTED by my tool (wip/wm/tool/Gen.lean): what a function comes to, stretch by stretch. -/
namespace Wm.S
open Wm
set_option maxRecDepth 100000
set_option linter.unusedVariables false

end Wm.S
end

section
/- PRINTED by my tool (wip/wm/tool/Gen.lean): what a function comes to, stretch by stretch. -/
namespace Wm.S
open Wm
set_option maxRecDepth 100000
set_option linter.unusedVariables false


def field_NewBook (M : Env) (h : H) : Option (V × H) :=
 let h0 := h.new (.map [])
 let h1 := h0.new (.map [])
 let h2 := h1.new (.cells [(.int .i64 0), (.map h.next), (.map h0.next)] .rw)
 some ((.ptr h1.next 0), h2)

theorem field_NewBook_eq (M : Env) (h : H) : evalF M F.field_NewBook [] h = field_NewBook M h := by kernel_rfl

end Wm.S
end

section
/- PRINTED by my tool (wip/wm/tool/Gen.lean): what a function comes to, stretch by stretch. -/
namespace Wm.S
open Wm
set_option maxRecDepth 100000
set_option linter.unusedVariables false

def withylaw10_begin_c1_B (M : Env) : List V → H → Option (AX × List V × H) :=
 fun env h => evalC M F.withylaw10_begin_c1 env h fun x env h => match x with
 | .normal => some (.normal, keepOf [1, 2, 3] 0 env, h)
 | x => some (x, keepOf [1, 2] 0 env, h)

def withylaw10_begin_c1_E (x1 x2 x3 : V) : List V := dd 1 (x1 :: x2 :: x3 :: dd 27 [])
def withylaw10_begin_c1_O (x1 x2 : V) : List V := dd 1 (x1 :: x2 :: dd 28 [])

def withylaw10_begin_K0 (M : Env) : AX → List V → H → Option (V × H) :=
 fun x env h => fin F.withylaw10_begin x env h

def withylaw10_begin_K1 (M : Env) : AX → List V → H → Option (V × H) :=
 fun x env h => match x with | .normal => evalC M F.withylaw10_begin_c0 env h (fun x env h => withylaw10_begin_K0 M x env h) | x => withylaw10_begin_K0 M x env h

def withylaw10_begin_K2 (M : Env) : AX → List V → H → Option (V × H) :=
 fun x env h => match x with | .exit j => (match Nat.beq j 0 with | true => withylaw10_begin_K1 M .normal env h | false => withylaw10_begin_K1 M (.exit j) env h) | x => withylaw10_begin_K1 M x env h

def withylaw10_begin (M : Env) (h : H) : Option (V × H) :=
 (M.call 301 [] h).bind fun p0 =>
 let h1 := p0.2.new (.cells [(.int .i64 0), (.int .i64 0), (.int .i64 0), (.int .i64 0), (.int .i64 0), (.int .i64 0)] .rw)
 (h1.st 6 (.ptr p0.2.next 0) p0.1).bind fun h2 =>
 (h2.ldN 6 (.ptr p0.2.next 0)).bind fun v3 =>
 (M.call 86 [v3] h2).bind fun p4 =>
 (M.loop (withylaw10_begin_c1_B M) (withylaw10_begin_c1_E (.ptr p0.2.next 0) p4.1 (.int .i64 0)) p4.2).bind fun p5 => withylaw10_begin_K2 M p5.1 p5.2.1 p5.2.2

def withylaw10_begin_c1_S (M : Env) (x1 : V) (x2 : V) (x3 : Int) (h : H) : Option (AX × List V × H) :=
 (ptrAt x1 0).bind fun v0 =>
 (h.ld1 v0).bind fun v1 =>
 (asI .i64 v1).bind fun n2 =>
 match (decide (x3 < n2)) with
 | true => (
 let h3 := h.new (.cells [(.int .i64 0), (.int .i64 0), (.bool false), (.int .i64 0), (.int .i64 0), (.int .i64 0)] .rw)
 (h3.st 6 (.ptr h.next 0) (.agg [(.int .i64 1), (.int .i64 0), (.bool false), (.int .i64 3), (.int .i64 0), (.int .i64 0)])).bind fun h4 =>
 match (decide (4 < x3)) with
 | true => (
 (h4.st 6 (.ptr h.next 0) (.agg [(.int .i64 2), (.int .i64 0), (.bool false), (.int .i64 0), (.int .i64 0), (.int .i64 0)])).bind fun h5 =>
 (h5.ldN 6 x1).bind fun v6 =>
 (h5.ldN 6 (.ptr h.next 0)).bind fun v7 =>
 (M.call 131 [v6, (.str ⟨⟨[104, 101, 97, 100, 101, 114]⟩⟩), (.int .i64 x3), (.int .i64 0)] h5).bind fun p8 =>
 match ckB (p8.2.ldN 6 (.ptr h.next 0)) v7 with
 | true => (
 (M.call 111 [v7] p8.2).bind fun p9 =>
 (indexAV 1 x2 p8.1).bind fun v10 =>
 (p9.2.st 1 v10 p9.1).bind fun h11 =>
 some (.normal, (withylaw10_begin_c1_E x1 x2 (.int .i64 (wr .i64 (x3 + 1)))), h11))
 | false => none)
 | false => (
 (h4.ldN 6 x1).bind fun v5 =>
 (h4.ldN 6 (.ptr h.next 0)).bind fun v6 =>
 (M.call 131 [v5, (.str ⟨⟨[104, 101, 97, 100, 101, 114]⟩⟩), (.int .i64 x3), (.int .i64 0)] h4).bind fun p7 =>
 match ckB (p7.2.ldN 6 (.ptr h.next 0)) v6 with
 | true => (
 (M.call 111 [v6] p7.2).bind fun p8 =>
 (indexAV 1 x2 p7.1).bind fun v9 =>
 (p8.2.st 1 v9 p8.1).bind fun h10 =>
 some (.normal, (withylaw10_begin_c1_E x1 x2 (.int .i64 (wr .i64 (x3 + 1)))), h10))
 | false => none))
 | false => (
 some ((.exit 0), (withylaw10_begin_c1_O x1 x2), h))

def withylaw10_begin_c1_e0 (M : Env) (x1 : V) (x2 : V) (h : H) : Option (V × H) :=
 (h.ldN 6 x1).bind fun v0 =>
 (M.call 198 [x2] h).bind fun p1 =>
 match ckB (p1.2.ldN 6 x1) v0 with
 | true => (
 (M.call 148 [] p1.2).bind fun p2 =>
 match ckB (p2.2.ldN 6 x1) v0 with
 | true => (
 (fill [(.int .i64 0), (.int .i64 0), (.int .i64 0), (.int .i64 0), (.int .i64 0), (.int .i64 0), .nilp, .nilp, (.int .i64 0), .nilsl, (.bool false)] [] [(0, 6, .c v0), (6, 1, .c p1.1), (7, 1, .c p2.1), (8, 1, .c (.int .i64 5))]).bind fun cs3 =>
 (boxc (.agg cs3)).bind fun cs4 =>
 let h5 := p2.2.new (.cells cs4 .rw)
 some ((.ptr p2.2.next 0), h5))
 | false => none)
 | false => none

theorem withylaw10_begin_eq (M : Env) (h : H) : evalF M F.withylaw10_begin [] h = withylaw10_begin M h := by kernel_rfl

theorem withylaw10_begin_c1_eq (M : Env) (x1 : V) (x2 : V) (x3 : Int) (h : H) : withylaw10_begin_c1_B M (withylaw10_begin_c1_E x1 x2 (.int .i64 x3)) h = withylaw10_begin_c1_S M x1 x2 x3 h := by kernel_rfl

theorem withylaw10_begin_c1_e0_eq (M : Env) (x1 : V) (x2 : V) (h : H) : withylaw10_begin_K2 M (.exit 0) (withylaw10_begin_c1_O x1 x2) h = withylaw10_begin_c1_e0 M x1 x2 h := by kernel_rfl

end Wm.S
end

section
/- PRINTED by my tool (wip/wm/tool/Gen.lean): what a function comes to, stretch by stretch. -/
namespace Wm.S
open Wm
set_option maxRecDepth 100000
set_option linter.unusedVariables false


def withylaw10_laid (M : Env) (a0 : V) (a1 : Int) (a2 : Int) (h : H) : Option (V × H) :=
 (M.call 203 [a0, (.int .i64 a1), (.int .u64 a2)] h).bind fun p0 =>
 some (a0, p0.2)

theorem withylaw10_laid_eq (M : Env) (a0 : V) (a1 : Int) (a2 : Int) (h : H) : evalF M F.withylaw10_laid [a0, (.int .i64 a1), (.int .u64 a2)] h = withylaw10_laid M a0 a1 a2 h := by kernel_rfl

end Wm.S
end

section
/- PRINTED by my tool (wip/wm/tool/Gen.lean): what a function comes to, stretch by stretch. -/
namespace Wm.S
open Wm
set_option maxRecDepth 100000
set_option linter.unusedVariables false

end Wm.S
end

section
/- PRINTED by my tool (wip/wm/tool/Gen.lean): what a function comes to, stretch by stretch. -/
namespace Wm.S
open Wm
set_option maxRecDepth 100000
set_option linter.unusedVariables false

def withylaw10_FieldViews_c1_B (M : Env) : List V → H → Option (AX × List V × H) :=
 fun env h => evalC M F.withylaw10_FieldViews_c1 env h fun x env h => match x with
 | .normal => some (.normal, keepOf [0, 3, 4, 5, 6, 7] 0 env, h)
 | x => some (x, keepOf [2, 3, 4, 5] 0 env, h)

def withylaw10_FieldViews_c1_E (x0 x3 x4 x5 x6 x7 : V) : List V := x0 :: dd 2 (x3 :: x4 :: x5 :: x6 :: x7 :: dd 173 [])
def withylaw10_FieldViews_c1_O (x2 x3 x4 x5 : V) : List V := dd 2 (x2 :: x3 :: x4 :: x5 :: dd 175 [])

def withylaw10_FieldViews_c4_B (M : Env) : List V → H → Option (AX × List V × H) :=
 fun env h => evalC M F.withylaw10_FieldViews_c4 env h fun x env h => some (x, keepOf [0, 3, 4, 5, 6, 7] 0 env, h)

def withylaw10_FieldViews_c4_E (x0 x3 x4 x5 x6 x7 : V) : List V := x0 :: dd 2 (x3 :: x4 :: x5 :: x6 :: x7 :: dd 173 [])
def withylaw10_FieldViews_c4_O (x0 x3 x4 x5 x6 x7 : V) : List V := x0 :: dd 2 (x3 :: x4 :: x5 :: x6 :: x7 :: dd 173 [])

def withylaw10_FieldViews_c5_B (M : Env) : List V → H → Option (AX × List V × H) :=
 fun env h => evalC M F.withylaw10_FieldViews_c5 env h fun x env h => match x with
 | .normal => some (.normal, keepOf [0, 3, 4, 5, 6, 7, 8, 9] 0 env, h)
 | x => some (x, keepOf [0, 3, 4, 5, 6, 7] 0 env, h)

def withylaw10_FieldViews_c5_E (x0 x3 x4 x5 x6 x7 x8 x9 : V) : List V := x0 :: dd 2 (x3 :: x4 :: x5 :: x6 :: x7 :: x8 :: x9 :: dd 171 [])
def withylaw10_FieldViews_c5_O (x0 x3 x4 x5 x6 x7 : V) : List V := x0 :: dd 2 (x3 :: x4 :: x5 :: x6 :: x7 :: dd 173 [])

def withylaw10_FieldViews_c7_B (M : Env) : List V → H → Option (AX × List V × H) :=
 fun env h => evalC M F.withylaw10_FieldViews_c7 env h fun x env h => some (x, keepOf [0, 2, 3, 4, 5, 6, 7, 10] 0 env, h)

def withylaw10_FieldViews_c7_E (x0 x3 x4 x5 x6 x7 x10 : V) : List V := x0 :: dd 2 (x3 :: x4 :: x5 :: x6 :: x7 :: dd 2 (x10 :: dd 170 []))
def withylaw10_FieldViews_c7_O (x0 x2 x3 x4 x5 x6 x7 x10 : V) : List V := x0 :: dd 1 (x2 :: x3 :: x4 :: x5 :: x6 :: x7 :: dd 2 (x10 :: dd 170 []))

def withylaw10_FieldViews_c9_B (M : Env) : List V → H → Option (AX × List V × H) :=
 fun env h => evalC M F.withylaw10_FieldViews_c9 env h fun x env h => match x with
 | .normal => some (.normal, keepOf [3, 4, 5, 11] 0 env, h)
 | x => some (x, keepOf [2] 0 env, h)

def withylaw10_FieldViews_c9_E (x3 x4 x5 x11 : V) : List V := dd 3 (x3 :: x4 :: x5 :: dd 5 (x11 :: dd 169 []))
def withylaw10_FieldViews_c9_O (x2 : V) : List V := dd 2 (x2 :: dd 178 [])

def withylaw10_FieldViews_c12_B (M : Env) : List V → H → Option (AX × List V × H) :=
 fun env h => evalC M F.withylaw10_FieldViews_c12 env h fun x env h => match x with
 | .normal => some (.normal, keepOf [3, 4, 5, 11, 12, 13] 0 env, h)
 | x => some (x, keepOf [3, 4, 5, 11, 12] 0 env, h)

def withylaw10_FieldViews_c12_E (x3 x4 x5 x11 x12 x13 : V) : List V := dd 3 (x3 :: x4 :: x5 :: dd 5 (x11 :: x12 :: x13 :: dd 167 []))
def withylaw10_FieldViews_c12_O (x3 x4 x5 x11 x12 : V) : List V := dd 3 (x3 :: x4 :: x5 :: dd 5 (x11 :: x12 :: dd 168 []))

def withylaw10_FieldViews_K0 (M : Env) : AX → List V → H → Option (V × H) :=
 fun x env h => fin F.withylaw10_FieldViews x env h

def withylaw10_FieldViews_K1 (M : Env) : AX → List V → H → Option (V × H) :=
 fun x env h => match x with | .normal => evalC M F.withylaw10_FieldViews_c0 env h (fun x env h => withylaw10_FieldViews_K0 M x env h) | x => withylaw10_FieldViews_K0 M x env h

def withylaw10_FieldViews_K2 (M : Env) : AX → List V → H → Option (V × H) :=
 fun x env h => match x with | .exit j => (match Nat.beq j 0 with | true => withylaw10_FieldViews_K1 M .normal env h | false => withylaw10_FieldViews_K1 M (.exit j) env h) | x => withylaw10_FieldViews_K1 M x env h

def withylaw10_FieldViews_K3 (M : Env) : AX → List V → H → Option (AX × List V × H) :=
 fun x env h => match x with | .normal => some (.normal, keepOf [0, 3, 4, 5, 6, 7] 0 env, h) | x => some (x, keepOf [2, 3, 4, 5] 0 env, h)

def withylaw10_FieldViews_K4 (M : Env) : AX → List V → H → Option (AX × List V × H) :=
 fun x env h => match x with | .normal => evalC M F.withylaw10_FieldViews_c2 env h (fun x env h => withylaw10_FieldViews_K3 M x env h) | x => withylaw10_FieldViews_K3 M x env h

def withylaw10_FieldViews_K5 (M : Env) : AX → List V → H → Option (AX × List V × H) :=
 fun x env h => match x with | .exit j => (match Nat.beq j 1 with | true => withylaw10_FieldViews_K4 M .normal env h | false => withylaw10_FieldViews_K4 M (.exit j) env h) | x => withylaw10_FieldViews_K4 M x env h

def withylaw10_FieldViews_K6 (M : Env) : AX → List V → H → Option (AX × List V × H) :=
 fun x env h => match x with | .normal => evalC M F.withylaw10_FieldViews_c3 env h (fun x env h => withylaw10_FieldViews_K5 M x env h) | x => withylaw10_FieldViews_K5 M x env h

def withylaw10_FieldViews_K7 (M : Env) : AX → List V → H → Option (V × H) :=
 fun x env h => match x with | .normal => evalC M F.withylaw10_FieldViews_c8 env h (fun x env h => withylaw10_FieldViews_K0 M x env h) | x => withylaw10_FieldViews_K0 M x env h

def withylaw10_FieldViews_K8 (M : Env) : AX → List V → H → Option (V × H) :=
 fun x env h => match x with | .exit j => (match Nat.beq j 4 with | true => withylaw10_FieldViews_K7 M .normal env h | false => withylaw10_FieldViews_K7 M (.exit j) env h) | x => withylaw10_FieldViews_K7 M x env h

def withylaw10_FieldViews_K9 (M : Env) : AX → List V → H → Option (AX × List V × H) :=
 fun x env h => some (x, keepOf [0, 3, 4, 5, 6, 7] 0 env, h)

def withylaw10_FieldViews_K10 (M : Env) : AX → List V → H → Option (AX × List V × H) :=
 fun x env h => match x with | .exit j => (match Nat.beq j 2 with | true => withylaw10_FieldViews_K9 M .normal env h | false => withylaw10_FieldViews_K9 M (.exit j) env h) | x => withylaw10_FieldViews_K9 M x env h

def withylaw10_FieldViews_K11 (M : Env) : AX → List V → H → Option (AX × List V × H) :=
 fun x env h => match x with | .normal => evalC M F.withylaw10_FieldViews_c6 env h (fun x env h => withylaw10_FieldViews_K5 M x env h) | x => withylaw10_FieldViews_K5 M x env h

def withylaw10_FieldViews_K12 (M : Env) : AX → List V → H → Option (AX × List V × H) :=
 fun x env h => match x with | .normal => some (.normal, keepOf [3, 4, 5, 11] 0 env, h) | x => some (x, keepOf [2] 0 env, h)

def withylaw10_FieldViews_K13 (M : Env) : AX → List V → H → Option (AX × List V × H) :=
 fun x env h => match x with | .normal => evalC M F.withylaw10_FieldViews_c10 env h (fun x env h => withylaw10_FieldViews_K12 M x env h) | x => withylaw10_FieldViews_K12 M x env h

def withylaw10_FieldViews_K14 (M : Env) : AX → List V → H → Option (AX × List V × H) :=
 fun x env h => match x with | .exit j => (match Nat.beq j 5 with | true => withylaw10_FieldViews_K13 M .normal env h | false => withylaw10_FieldViews_K13 M (.exit j) env h) | x => withylaw10_FieldViews_K13 M x env h

def withylaw10_FieldViews_K15 (M : Env) : AX → List V → H → Option (AX × List V × H) :=
 fun x env h => match x with | .normal => evalC M F.withylaw10_FieldViews_c11 env h (fun x env h => withylaw10_FieldViews_K14 M x env h) | x => withylaw10_FieldViews_K14 M x env h

def withylaw10_FieldViews_K16 (M : Env) : AX → List V → H → Option (AX × List V × H) :=
 fun x env h => match x with | .exit j => (match Nat.beq j 6 with | true => withylaw10_FieldViews_K15 M .normal env h | false => withylaw10_FieldViews_K15 M (.exit j) env h) | x => withylaw10_FieldViews_K15 M x env h

def withylaw10_FieldViews (M : Env) (a0 : V) (h : H) : Option (V × H) :=
 (lenSl a0).bind fun n0 =>
 match (decide (30 < ((n0 : Nat) : Int))) with
 | true => (
 (M.call 125 [] h).bind fun p1 =>
 some (p1.1, p1.2))
 | false => (
 (M.call 125 [] h).bind fun p1 =>
 (asB p1.1).bind fun b2 =>
 match (!b2) with
 | true => (
 some ((.bool false), p1.2))
 | false => (
 (M.call 126 [] p1.2).bind fun p3 =>
 (M.loop (withylaw10_FieldViews_c1_B M) (withylaw10_FieldViews_c1_E a0 p3.1 .nilsl .nilsl (.int .i64 (-1)) (.int .i64 0)) p3.2).bind fun p4 => withylaw10_FieldViews_K2 M p4.1 p4.2.1 p4.2.2))

def withylaw10_FieldViews_c1_S (M : Env) (x0 : V) (x3 : V) (x4 : V) (x5 : V) (x6 : Int) (x7 : Int) (h : H) : Option (AX × List V × H) :=
 (lenSl x0).bind fun n0 =>
 match (decide (x7 < ((n0 : Nat) : Int))) with
 | true => (
 (withylaw10_FieldViews_c4_B M (withylaw10_FieldViews_c4_E x0 x3 x4 x5 (.int .i64 x6) (.int .i64 x7)) h).bind fun p1 => withylaw10_FieldViews_K6 M p1.1 p1.2.1 p1.2.2)
 | false => (
 some ((.exit 0), (withylaw10_FieldViews_c1_O .dead x3 x4 x5), h))

def withylaw10_FieldViews_c1_e0 (M : Env) (x2 : V) (x3 : V) (x4 : V) (x5 : V) (h : H) : Option (V × H) :=
 (lenSl x5).bind fun n0 =>
 (M.loop (withylaw10_FieldViews_c9_B M) (withylaw10_FieldViews_c9_E x3 x4 x5 (.int .i64 (wr .i64 (((n0 : Nat) : Int) - 1)))) h).bind fun p1 => withylaw10_FieldViews_K8 M p1.1 p1.2.1 p1.2.2

def withylaw10_FieldViews_c4_S (M : Env) (x0 : V) (x3 : V) (x4 : V) (x5 : V) (x6 : Int) (x7 : Int) (h : H) : Option (AX × List V × H) :=
 (indexAV 1 x0 (.int .i64 x7)).bind fun v0 =>
 (h.ld1 v0).bind fun v1 =>
 (asI .u8 v1).bind fun n2 =>
 match (decide (0 < (Int.tmod n2 3))) with
 | true => (
 (indexAV 1 x0 (.int .i64 x7)).bind fun v3 =>
 (h.ld1 v3).bind fun v4 =>
 (asI .u8 v4).bind fun n5 =>
 (M.call 129 [(.int .i64 (wr .i64 ((wr .i64 (Int.tmod (wr .u8 (Int.tdiv n5 3)) 5)) - 1)))] h).bind fun p6 =>
 (nilc x3).bind fun v7 =>
 (ptrAt v7 6).bind fun v8 =>
 (p6.2.ld1 v8).bind fun v9 =>
 (nilc x3).bind fun v10 =>
 (ptrAt v10 0).bind fun v11 =>
 (p6.2.ldN 6 v11).bind fun v12 =>
 (asI .i64 p6.1).bind fun n13 =>
 (M.call 131 [v12, (.str ⟨⟨[98, 111, 100, 121]⟩⟩), (.int .i64 (wr .i64 (5 + x7))), (.int .i64 0)] p6.2).bind fun p14 =>
 match ckB (p14.2.ld1 v8) v9 with
 | true => (
 (M.call 130 [v9, p14.1, (.int .u64 (wr .u64 (wr .i64 (n13 + 1))))] p14.2).bind fun p15 =>
 (nilc x3).bind fun v16 =>
 (ptrAt v16 6).bind fun v17 =>
 (p15.2.st 1 v17 p15.1).bind fun h18 =>
 (nilc x3).bind fun v19 =>
 (ptrAt v19 0).bind fun v20 =>
 (h18.ldN 6 v20).bind fun v21 =>
 (nilc x3).bind fun v22 =>
 (ptrAt v22 7).bind fun v23 =>
 (h18.ld1 v23).bind fun v24 =>
 (M.call 132 [v21, (.int .i64 0), (.int .i64 1), (.int .i64 (wr .i64 (5 + x7))), (.int .i64 (-2)), (.int .u64 0), v24] h18).bind fun p25 =>
 (M.loop (withylaw10_FieldViews_c5_B M) (withylaw10_FieldViews_c5_E x0 x3 x4 x5 p6.1 (.int .i64 x7) p25.1 (.int .i64 0)) p25.2).bind fun p26 => withylaw10_FieldViews_K10 M p26.1 p26.2.1 p26.2.2)
 | false => none)
 | false => (
 some (.normal, (withylaw10_FieldViews_c4_O x0 x3 x4 x5 (.int .i64 x6) (.int .i64 x7)), h))

def withylaw10_FieldViews_c4_n (M : Env) (x0 : V) (x3 : V) (x4 : V) (x5 : V) (x6 : Int) (x7 : Int) (h : H) : Option (AX × List V × H) :=
 (indexAV 1 x0 (.int .i64 x7)).bind fun v0 =>
 (h.ld1 v0).bind fun v1 =>
 (asI .u8 v1).bind fun n2 =>
 match (!decide ((Int.tmod n2 3) = 1)) with
 | true => (
 (nilc x3).bind fun v3 =>
 (ptrAt v3 0).bind fun v4 =>
 (h.ldN 6 v4).bind fun v5 =>
 (nilc x3).bind fun v6 =>
 (ptrAt v6 7).bind fun v7 =>
 (h.ld1 v7).bind fun v8 =>
 (M.call 144 [v5, v8] h).bind fun p9 =>
 (withylaw10_FieldViews_c7_B M (withylaw10_FieldViews_c7_E x0 x3 x4 x5 (.int .i64 x6) (.int .i64 x7) p9.1) p9.2).bind fun p10 => withylaw10_FieldViews_K11 M p10.1 p10.2.1 p10.2.2)
 | false => (
 some (.normal, (withylaw10_FieldViews_c1_E x0 x3 x4 x5 (.int .i64 x6) (.int .i64 (wr .i64 (x7 + 1)))), h))

def withylaw10_FieldViews_c5_S (M : Env) (x0 : V) (x3 : V) (x4 : V) (x5 : V) (x6 : Int) (x7 : Int) (x8 : V) (x9 : Int) (h : H) : Option (AX × List V × H) :=
 match (decide (x9 < 30)) with
 | true => (
 (nilc x3).bind fun v0 =>
 (ptrAt v0 6).bind fun v1 =>
 (h.ld1 v1).bind fun v2 =>
 (M.call 133 [x8, v2] h).bind fun p3 =>
 (asB p3.1).bind fun b4 =>
 match (!b4) with
 | true => (
 some (.normal, (withylaw10_FieldViews_c5_E x0 x3 x4 x5 (.int .i64 x6) (.int .i64 x7) x8 (.int .i64 (wr .i64 (x9 + 1)))), p3.2))
 | false => (
 some ((.exit 2), (withylaw10_FieldViews_c5_O x0 x3 x4 x5 (.int .i64 x6) (.int .i64 x7)), p3.2)))
 | false => (
 some ((.exit 2), (withylaw10_FieldViews_c5_O x0 x3 x4 x5 (.int .i64 x6) (.int .i64 x7)), h))

def withylaw10_FieldViews_c5_e2 (M : Env) (x0 : V) (x3 : V) (x4 : V) (x5 : V) (x6 : Int) (x7 : Int) (h : H) : Option (AX × List V × H) :=
 some (.normal, (withylaw10_FieldViews_c4_O x0 x3 x4 x5 (.int .i64 x6) (.int .i64 x7)), h)

def withylaw10_FieldViews_c7_S (M : Env) (x0 : V) (x3 : V) (x4 : V) (x5 : V) (x6 : Int) (x7 : Int) (x10 : V) (h : H) : Option (AX × List V × H) :=
 (eqV .ptr x10 .nilp).bind fun b0 =>
 match b0 with
 | true => (
 some (.ret, (withylaw10_FieldViews_c7_O x0 (.bool false) x3 x4 x5 (.int .i64 x6) (.int .i64 x7) x10), h))
 | false => (
 (nilc x3).bind fun v1 =>
 (ptrAt v1 6).bind fun v2 =>
 (h.ld1 v2).bind fun v3 =>
 (M.call 145 [x10, v3] h).bind fun p4 =>
 match p4.1 with
 | .bool true => (
 some (.ret, (withylaw10_FieldViews_c7_O x0 (.bool false) x3 x4 x5 (.int .i64 x6) (.int .i64 x7) x10), p4.2))
 | .bool false => (
 (nilc x3).bind fun v5 =>
 (ptrAt v5 6).bind fun v6 =>
 (p4.2.ld1 v6).bind fun v7 =>
 (M.call 145 [x10, v7] p4.2).bind fun p8 =>
 (asB p8.1).bind fun b9 =>
 match (!b9) with
 | true => (
 some (.ret, (withylaw10_FieldViews_c7_O x0 (.bool false) x3 x4 x5 (.int .i64 x6) (.int .i64 x7) x10), p8.2))
 | false => (
 some (.normal, (withylaw10_FieldViews_c7_O x0 .dead x3 x4 x5 (.int .i64 x6) (.int .i64 x7) x10), p8.2)))
 | .tup [] => (
 (asB p4.1).bind fun b5 =>
 (asB (match b5 with | true => (.bool true) | false => (.tup []) : V)).bind fun b6 =>
 match b6 with
 | true => (
 some (.ret, (withylaw10_FieldViews_c7_O x0 (.bool false) x3 x4 x5 (.int .i64 x6) (.int .i64 x7) x10), p4.2))
 | false => (
 some (.normal, (withylaw10_FieldViews_c7_O x0 .dead x3 x4 x5 (.int .i64 x6) (.int .i64 x7) x10), p4.2)))
 | _ => none)

def withylaw10_FieldViews_c7_n (M : Env) (x0 : V) (x2 : V) (x3 : V) (x4 : V) (x5 : V) (x6 : Int) (x7 : Int) (x10 : V) (h : H) : Option (AX × List V × H) :=
 (nilc x10).bind fun v0 =>
 (ptrAt v0 0).bind fun v1 =>
 (h.ld1 v1).bind fun v2 =>
 (fill (repl [(.int .u64 0)] 1) [] [(0, 1, .c v2)]).bind fun cs3 =>
 let h4 := h.new (.cells cs3 .rw)
 (h4.append 1 8 x5 (.sl h.next 0 1 (.ex 1))).bind fun p5 =>
 let h6 := p5.2.new (.cells [(.int .i64 x6)] .rw)
 (h6.append 1 8 x4 (.sl p5.2.next 0 1 (.ex 1))).bind fun p7 =>
 some (.normal, (withylaw10_FieldViews_c1_E x0 x3 p7.1 p5.1 (.int .i64 x6) (.int .i64 (wr .i64 (x7 + 1)))), p7.2)

def withylaw10_FieldViews_c9_S (M : Env) (x3 : V) (x4 : V) (x5 : V) (x11 : Int) (h : H) : Option (AX × List V × H) :=
 match (decide (0 ≤ x11)) with
 | true => (
 (nilc x3).bind fun v0 =>
 (ptrAt v0 0).bind fun v1 =>
 (h.ldN 6 v1).bind fun v2 =>
 (indexAV 1 x5 (.int .i64 x11)).bind fun v3 =>
 (h.ld1 v3).bind fun v4 =>
 (nilc x3).bind fun v5 =>
 (ptrAt v5 7).bind fun v6 =>
 (h.ld1 v6).bind fun v7 =>
 (M.call 146 [v2, (.int .i64 0), (.int .i64 1), v4, v7] h).bind fun p8 =>
 (M.loop (withylaw10_FieldViews_c12_B M) (withylaw10_FieldViews_c12_E x3 x4 x5 (.int .i64 x11) p8.1 (.int .i64 0)) p8.2).bind fun p9 => withylaw10_FieldViews_K16 M p9.1 p9.2.1 p9.2.2)
 | false => (
 some ((.exit 4), (withylaw10_FieldViews_c9_O .dead), h))

def withylaw10_FieldViews_c9_e4 (M : Env) (x2 : V) (h : H) : Option (V × H) :=
 (M.call 125 [] h).bind fun p0 =>
 some (p0.1, p0.2)

def withylaw10_FieldViews_c12_S (M : Env) (x3 : V) (x4 : V) (x5 : V) (x11 : Int) (x12 : V) (x13 : Int) (h : H) : Option (AX × List V × H) :=
 match (decide (x13 < 100)) with
 | true => (
 (nilc x3).bind fun v0 =>
 (ptrAt v0 6).bind fun v1 =>
 (h.ld1 v1).bind fun v2 =>
 (M.call 147 [x12, v2] h).bind fun p3 =>
 (asB p3.1).bind fun b4 =>
 match (!b4) with
 | true => (
 some (.normal, (withylaw10_FieldViews_c12_E x3 x4 x5 (.int .i64 x11) x12 (.int .i64 (wr .i64 (x13 + 1)))), p3.2))
 | false => (
 some ((.exit 6), (withylaw10_FieldViews_c12_O x3 x4 x5 (.int .i64 x11) x12), p3.2)))
 | false => (
 some ((.exit 6), (withylaw10_FieldViews_c12_O x3 x4 x5 (.int .i64 x11) x12), h))

def withylaw10_FieldViews_c12_e6 (M : Env) (x3 : V) (x4 : V) (x5 : V) (x11 : Int) (x12 : V) (h : H) : Option (AX × List V × H) :=
 (nilc x3).bind fun v0 =>
 (ptrAt v0 6).bind fun v1 =>
 (h.ld1 v1).bind fun v2 =>
 (M.call 147 [x12, v2] h).bind fun p3 =>
 (asB p3.1).bind fun b4 =>
 match (!b4) with
 | true => (
 some (.ret, (withylaw10_FieldViews_c9_O (.bool false)), p3.2))
 | false => (
 (nilc x12).bind fun v5 =>
 (ptrAt v5 0).bind fun v6 =>
 (p3.2.ld1 v6).bind fun v7 =>
 (indexAV 1 x4 (.int .i64 x11)).bind fun v8 =>
 (p3.2.ld1 v8).bind fun v9 =>
 (asI .i64 v7).bind fun n10 =>
 (asI .i64 v9).bind fun n11 =>
 match (!decide (n10 = n11)) with
 | true => (
 some (.ret, (withylaw10_FieldViews_c9_O (.bool false)), p3.2))
 | false => (
 some (.normal, (withylaw10_FieldViews_c9_E x3 x4 x5 (.int .i64 (wr .i64 (x11 - 1)))), p3.2)))

theorem withylaw10_FieldViews_eq (M : Env) (a0 : V) (h : H) : evalF M F.withylaw10_FieldViews [a0] h = withylaw10_FieldViews M a0 h := by kernel_rfl

theorem withylaw10_FieldViews_c1_eq (M : Env) (x0 : V) (x3 : V) (x4 : V) (x5 : V) (x6 : Int) (x7 : Int) (h : H) : withylaw10_FieldViews_c1_B M (withylaw10_FieldViews_c1_E x0 x3 x4 x5 (.int .i64 x6) (.int .i64 x7)) h = withylaw10_FieldViews_c1_S M x0 x3 x4 x5 x6 x7 h := by kernel_rfl

theorem withylaw10_FieldViews_c1_e0_eq (M : Env) (x2 : V) (x3 : V) (x4 : V) (x5 : V) (h : H) : withylaw10_FieldViews_K2 M (.exit 0) (withylaw10_FieldViews_c1_O x2 x3 x4 x5) h = withylaw10_FieldViews_c1_e0 M x2 x3 x4 x5 h := by kernel_rfl

theorem withylaw10_FieldViews_c4_eq (M : Env) (x0 : V) (x3 : V) (x4 : V) (x5 : V) (x6 : Int) (x7 : Int) (h : H) : withylaw10_FieldViews_c4_B M (withylaw10_FieldViews_c4_E x0 x3 x4 x5 (.int .i64 x6) (.int .i64 x7)) h = withylaw10_FieldViews_c4_S M x0 x3 x4 x5 x6 x7 h := by kernel_rfl

theorem withylaw10_FieldViews_c4_n_eq (M : Env) (x0 : V) (x3 : V) (x4 : V) (x5 : V) (x6 : Int) (x7 : Int) (h : H) : withylaw10_FieldViews_K6 M .normal (withylaw10_FieldViews_c4_O x0 x3 x4 x5 (.int .i64 x6) (.int .i64 x7)) h = withylaw10_FieldViews_c4_n M x0 x3 x4 x5 x6 x7 h := by kernel_rfl

theorem withylaw10_FieldViews_c5_eq (M : Env) (x0 : V) (x3 : V) (x4 : V) (x5 : V) (x6 : Int) (x7 : Int) (x8 : V) (x9 : Int) (h : H) : withylaw10_FieldViews_c5_B M (withylaw10_FieldViews_c5_E x0 x3 x4 x5 (.int .i64 x6) (.int .i64 x7) x8 (.int .i64 x9)) h = withylaw10_FieldViews_c5_S M x0 x3 x4 x5 x6 x7 x8 x9 h := by kernel_rfl

theorem withylaw10_FieldViews_c5_e2_eq (M : Env) (x0 : V) (x3 : V) (x4 : V) (x5 : V) (x6 : Int) (x7 : Int) (h : H) : withylaw10_FieldViews_K10 M (.exit 2) (withylaw10_FieldViews_c5_O x0 x3 x4 x5 (.int .i64 x6) (.int .i64 x7)) h = withylaw10_FieldViews_c5_e2 M x0 x3 x4 x5 x6 x7 h := by kernel_rfl

theorem withylaw10_FieldViews_c7_eq (M : Env) (x0 : V) (x3 : V) (x4 : V) (x5 : V) (x6 : Int) (x7 : Int) (x10 : V) (h : H) : withylaw10_FieldViews_c7_B M (withylaw10_FieldViews_c7_E x0 x3 x4 x5 (.int .i64 x6) (.int .i64 x7) x10) h = withylaw10_FieldViews_c7_S M x0 x3 x4 x5 x6 x7 x10 h := by kernel_rfl

theorem withylaw10_FieldViews_c7_n_eq (M : Env) (x0 : V) (x2 : V) (x3 : V) (x4 : V) (x5 : V) (x6 : Int) (x7 : Int) (x10 : V) (h : H) : withylaw10_FieldViews_K11 M .normal (withylaw10_FieldViews_c7_O x0 x2 x3 x4 x5 (.int .i64 x6) (.int .i64 x7) x10) h = withylaw10_FieldViews_c7_n M x0 x2 x3 x4 x5 x6 x7 x10 h := by kernel_rfl

theorem withylaw10_FieldViews_c9_eq (M : Env) (x3 : V) (x4 : V) (x5 : V) (x11 : Int) (h : H) : withylaw10_FieldViews_c9_B M (withylaw10_FieldViews_c9_E x3 x4 x5 (.int .i64 x11)) h = withylaw10_FieldViews_c9_S M x3 x4 x5 x11 h := by kernel_rfl

theorem withylaw10_FieldViews_c9_e4_eq (M : Env) (x2 : V) (h : H) : withylaw10_FieldViews_K8 M (.exit 4) (withylaw10_FieldViews_c9_O x2) h = withylaw10_FieldViews_c9_e4 M x2 h := by kernel_rfl

theorem withylaw10_FieldViews_c12_eq (M : Env) (x3 : V) (x4 : V) (x5 : V) (x11 : Int) (x12 : V) (x13 : Int) (h : H) : withylaw10_FieldViews_c12_B M (withylaw10_FieldViews_c12_E x3 x4 x5 (.int .i64 x11) x12 (.int .i64 x13)) h = withylaw10_FieldViews_c12_S M x3 x4 x5 x11 x12 x13 h := by kernel_rfl

theorem withylaw10_FieldViews_c12_e6_eq (M : Env) (x3 : V) (x4 : V) (x5 : V) (x11 : Int) (x12 : V) (h : H) : withylaw10_FieldViews_K16 M (.exit 6) (withylaw10_FieldViews_c12_O x3 x4 x5 (.int .i64 x11) x12) h = withylaw10_FieldViews_c12_e6 M x3 x4 x5 x11 x12 h := by kernel_rfl

end Wm.S
end

