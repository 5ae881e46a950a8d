/- PRINTED by my tool: what functions come to, stretch by stretch. -/
import Derived.KernelRfl
import Derived.Test.YtjcppjbepndjcaaWmShal
import Derived.Test.YtjcppjbepndjcaaWmFnsFieldStampsA
set_option linter.all false
section
open Wm
namespace Wm.S
def dd : Nat → List V → List V
  | 0, l => l
  | n + 1, l => .dead :: dd n l
end Wm.S

end
section
/- PRINTED by my tool (wip/wm/tool/Gen.lean): what a function comes to, stretch by stretch. -/
namespace Wm.S
open Wm
set_option maxRecDepth 100000
set_option linter.unusedVariables false


def plan_between (M : Env) (a0 : Int) (a1 : Int) (a2 : Int) (h : H) : Option (V × H) :=
 match (decide (a1 ≤ a0)) with
 | true => (
 some ((.bool (decide (a0 ≤ a2))), h))
 | false => (
 some ((.bool false), h))

theorem plan_between_eq (M : Env) (a0 : Int) (a1 : Int) (a2 : Int) (h : H) : evalF M F.plan_between [(.int .i64 a0), (.int .i64 a1), (.int .i64 a2)] h = plan_between M a0 a1 a2 h := by kernel_rfl

end Wm.S
end

section
/- PRINTED by my tool (wip/wm/tool/Gen.lean): what a function comes to, stretch by stretch. -/
namespace Wm.S
open Wm
set_option maxRecDepth 100000
set_option linter.unusedVariables false


def plan_Right (M : Env) (a0_0 : Int) (a0_1 : Int) (a0_2 : Int) (a0_3 : Int) (a0_4 : Int) (a0_5 : Int) (h : H) : Option (V × H) :=
 let h0 := h.new (.cells [(.int .i64 a0_0), (.int .i64 a0_1), (.int .i64 a0_2), (.int .i64 a0_3), (.int .i64 a0_4), (.int .i64 a0_5)] .rw)
 (h0.ld1 (.ptr h.next 0)).bind fun v1 =>
 (M.call 376 [v1, (.int .i64 1), (.int .i64 64)] h0).bind fun p2 =>
 match p2.1 with
 | .bool true => (
 (p2.2.ld1 (.ptr h.next 1)).bind fun v3 =>
 (M.call 376 [v3, (.int .i64 0), (.int .i64 8)] p2.2).bind fun p4 =>
 match p4.1 with
 | .bool true => (
 (p4.2.ld1 (.ptr h.next 2)).bind fun v5 =>
 (M.call 376 [v5, (.int .i64 1), (.int .i64 8)] p4.2).bind fun p6 =>
 match p6.1 with
 | .bool true => (
 (p6.2.ld1 (.ptr h.next 3)).bind fun v7 =>
 (M.call 376 [v7, (.int .i64 1), (.int .i64 16)] p6.2).bind fun p8 =>
 match p8.1 with
 | .bool true => (
 (p8.2.ld1 (.ptr h.next 4)).bind fun v9 =>
 (M.call 376 [v9, (.int .i64 1), (.int .i64 1048576)] p8.2).bind fun p10 =>
 match p10.1 with
 | .bool true => (
 (p10.2.ld1 (.ptr h.next 5)).bind fun v11 =>
 (M.call 376 [v11, (.int .i64 0), (.int .i64 64)] p10.2).bind fun p12 =>
 some (p12.1, p12.2))
 | .bool false => (
 some ((.bool false), p10.2))
 | .tup [] => (
 (asB p10.1).bind fun b11 =>
 some ((match b11 with | true => (.tup []) | false => (.bool false) : V), p10.2))
 | _ => none)
 | .bool false => (
 some ((.bool false), p8.2))
 | .tup [] => (
 (asB p8.1).bind fun b9 =>
 match (match b9 with | true => (.tup []) | false => (.bool false) : V) with
 | .bool true => (
 (p8.2.ld1 (.ptr h.next 5)).bind fun v10 =>
 (M.call 376 [v10, (.int .i64 0), (.int .i64 64)] p8.2).bind fun p11 =>
 some (p11.1, p11.2))
 | .bool false => (
 some ((.bool false), p8.2))
 | .tup [] => (
 (asB (match b9 with | true => (.tup []) | false => (.bool false) : V)).bind fun b10 =>
 some ((match b10 with | true => (.tup []) | false => (.bool false) : V), p8.2))
 | _ => none)
 | _ => none)
 | .bool false => (
 some ((.bool false), p6.2))
 | .tup [] => (
 (asB p6.1).bind fun b7 =>
 match (match b7 with | true => (.tup []) | false => (.bool false) : V) with
 | .bool true => (
 (p6.2.ld1 (.ptr h.next 4)).bind fun v8 =>
 (M.call 376 [v8, (.int .i64 1), (.int .i64 1048576)] p6.2).bind fun p9 =>
 match p9.1 with
 | .bool true => (
 (p9.2.ld1 (.ptr h.next 5)).bind fun v10 =>
 (M.call 376 [v10, (.int .i64 0), (.int .i64 64)] p9.2).bind fun p11 =>
 some (p11.1, p11.2))
 | .bool false => (
 some ((.bool false), p9.2))
 | .tup [] => (
 (asB p9.1).bind fun b10 =>
 some ((match b10 with | true => (.tup []) | false => (.bool false) : V), p9.2))
 | _ => none)
 | .bool false => (
 some ((.bool false), p6.2))
 | .tup [] => (
 (asB (match b7 with | true => (.tup []) | false => (.bool false) : V)).bind fun b8 =>
 match (match b8 with | true => (.tup []) | false => (.bool false) : V) with
 | .bool true => (
 (p6.2.ld1 (.ptr h.next 5)).bind fun v9 =>
 (M.call 376 [v9, (.int .i64 0), (.int .i64 64)] p6.2).bind fun p10 =>
 some (p10.1, p10.2))
 | .bool false => (
 some ((.bool false), p6.2))
 | .tup [] => (
 (asB (match b8 with | true => (.tup []) | false => (.bool false) : V)).bind fun b9 =>
 some ((match b9 with | true => (.tup []) | false => (.bool false) : V), p6.2))
 | _ => none)
 | _ => none)
 | _ => none)
 | .bool false => (
 some ((.bool false), p4.2))
 | .tup [] => (
 (asB p4.1).bind fun b5 =>
 match (match b5 with | true => (.tup []) | false => (.bool false) : V) with
 | .bool true => (
 (p4.2.ld1 (.ptr h.next 3)).bind fun v6 =>
 (M.call 376 [v6, (.int .i64 1), (.int .i64 16)] p4.2).bind fun p7 =>
 match p7.1 with
 | .bool true => (
 (p7.2.ld1 (.ptr h.next 4)).bind fun v8 =>
 (M.call 376 [v8, (.int .i64 1), (.int .i64 1048576)] p7.2).bind fun p9 =>
 match p9.1 with
 | .bool true => (
 (p9.2.ld1 (.ptr h.next 5)).bind fun v10 =>
 (M.call 376 [v10, (.int .i64 0), (.int .i64 64)] p9.2).bind fun p11 =>
 some (p11.1, p11.2))
 | .bool false => (
 some ((.bool false), p9.2))
 | .tup [] => (
 (asB p9.1).bind fun b10 =>
 some ((match b10 with | true => (.tup []) | false => (.bool false) : V), p9.2))
 | _ => none)
 | .bool false => (
 some ((.bool false), p7.2))
 | .tup [] => (
 (asB p7.1).bind fun b8 =>
 match (match b8 with | true => (.tup []) | false => (.bool false) : V) with
 | .bool true => (
 (p7.2.ld1 (.ptr h.next 5)).bind fun v9 =>
 (M.call 376 [v9, (.int .i64 0), (.int .i64 64)] p7.2).bind fun p10 =>
 some (p10.1, p10.2))
 | .bool false => (
 some ((.bool false), p7.2))
 | .tup [] => (
 (asB (match b8 with | true => (.tup []) | false => (.bool false) : V)).bind fun b9 =>
 some ((match b9 with | true => (.tup []) | false => (.bool false) : V), p7.2))
 | _ => none)
 | _ => none)
 | .bool false => (
 some ((.bool false), p4.2))
 | .tup [] => (
 (asB (match b5 with | true => (.tup []) | false => (.bool false) : V)).bind fun b6 =>
 match (match b6 with | true => (.tup []) | false => (.bool false) : V) with
 | .bool true => (
 (p4.2.ld1 (.ptr h.next 4)).bind fun v7 =>
 (M.call 376 [v7, (.int .i64 1), (.int .i64 1048576)] p4.2).bind fun p8 =>
 match p8.1 with
 | .bool true => (
 (p8.2.ld1 (.ptr h.next 5)).bind fun v9 =>
 (M.call 376 [v9, (.int .i64 0), (.int .i64 64)] p8.2).bind fun p10 =>
 some (p10.1, p10.2))
 | .bool false => (
 some ((.bool false), p8.2))
 | .tup [] => (
 (asB p8.1).bind fun b9 =>
 some ((match b9 with | true => (.tup []) | false => (.bool false) : V), p8.2))
 | _ => none)
 | .bool false => (
 some ((.bool false), p4.2))
 | .tup [] => (
 (asB (match b6 with | true => (.tup []) | false => (.bool false) : V)).bind fun b7 =>
 match (match b7 with | true => (.tup []) | false => (.bool false) : V) with
 | .bool true => (
 (p4.2.ld1 (.ptr h.next 5)).bind fun v8 =>
 (M.call 376 [v8, (.int .i64 0), (.int .i64 64)] p4.2).bind fun p9 =>
 some (p9.1, p9.2))
 | .bool false => (
 some ((.bool false), p4.2))
 | .tup [] => (
 (asB (match b7 with | true => (.tup []) | false => (.bool false) : V)).bind fun b8 =>
 some ((match b8 with | true => (.tup []) | false => (.bool false) : V), p4.2))
 | _ => none)
 | _ => none)
 | _ => none)
 | _ => none)
 | .bool false => (
 some ((.bool false), p2.2))
 | .tup [] => (
 (asB p2.1).bind fun b3 =>
 match (match b3 with | true => (.tup []) | false => (.bool false) : V) with
 | .bool true => (
 (p2.2.ld1 (.ptr h.next 2)).bind fun v4 =>
 (M.call 376 [v4, (.int .i64 1), (.int .i64 8)] p2.2).bind fun p5 =>
 match p5.1 with
 | .bool true => (
 (p5.2.ld1 (.ptr h.next 3)).bind fun v6 =>
 (M.call 376 [v6, (.int .i64 1), (.int .i64 16)] p5.2).bind fun p7 =>
 match p7.1 with
 | .bool true => (
 (p7.2.ld1 (.ptr h.next 4)).bind fun v8 =>
 (M.call 376 [v8, (.int .i64 1), (.int .i64 1048576)] p7.2).bind fun p9 =>
 match p9.1 with
 | .bool true => (
 (p9.2.ld1 (.ptr h.next 5)).bind fun v10 =>
 (M.call 376 [v10, (.int .i64 0), (.int .i64 64)] p9.2).bind fun p11 =>
 some (p11.1, p11.2))
 | .bool false => (
 some ((.bool false), p9.2))
 | .tup [] => (
 (asB p9.1).bind fun b10 =>
 some ((match b10 with | true => (.tup []) | false => (.bool false) : V), p9.2))
 | _ => none)
 | .bool false => (
 some ((.bool false), p7.2))
 | .tup [] => (
 (asB p7.1).bind fun b8 =>
 match (match b8 with | true => (.tup []) | false => (.bool false) : V) with
 | .bool true => (
 (p7.2.ld1 (.ptr h.next 5)).bind fun v9 =>
 (M.call 376 [v9, (.int .i64 0), (.int .i64 64)] p7.2).bind fun p10 =>
 some (p10.1, p10.2))
 | .bool false => (
 some ((.bool false), p7.2))
 | .tup [] => (
 (asB (match b8 with | true => (.tup []) | false => (.bool false) : V)).bind fun b9 =>
 some ((match b9 with | true => (.tup []) | false => (.bool false) : V), p7.2))
 | _ => none)
 | _ => none)
 | .bool false => (
 some ((.bool false), p5.2))
 | .tup [] => (
 (asB p5.1).bind fun b6 =>
 match (match b6 with | true => (.tup []) | false => (.bool false) : V) with
 | .bool true => (
 (p5.2.ld1 (.ptr h.next 4)).bind fun v7 =>
 (M.call 376 [v7, (.int .i64 1), (.int .i64 1048576)] p5.2).bind fun p8 =>
 match p8.1 with
 | .bool true => (
 (p8.2.ld1 (.ptr h.next 5)).bind fun v9 =>
 (M.call 376 [v9, (.int .i64 0), (.int .i64 64)] p8.2).bind fun p10 =>
 some (p10.1, p10.2))
 | .bool false => (
 some ((.bool false), p8.2))
 | .tup [] => (
 (asB p8.1).bind fun b9 =>
 some ((match b9 with | true => (.tup []) | false => (.bool false) : V), p8.2))
 | _ => none)
 | .bool false => (
 some ((.bool false), p5.2))
 | .tup [] => (
 (asB (match b6 with | true => (.tup []) | false => (.bool false) : V)).bind fun b7 =>
 match (match b7 with | true => (.tup []) | false => (.bool false) : V) with
 | .bool true => (
 (p5.2.ld1 (.ptr h.next 5)).bind fun v8 =>
 (M.call 376 [v8, (.int .i64 0), (.int .i64 64)] p5.2).bind fun p9 =>
 some (p9.1, p9.2))
 | .bool false => (
 some ((.bool false), p5.2))
 | .tup [] => (
 (asB (match b7 with | true => (.tup []) | false => (.bool false) : V)).bind fun b8 =>
 some ((match b8 with | true => (.tup []) | false => (.bool false) : V), p5.2))
 | _ => none)
 | _ => none)
 | _ => none)
 | .bool false => (
 some ((.bool false), p2.2))
 | .tup [] => (
 (asB (match b3 with | true => (.tup []) | false => (.bool false) : V)).bind fun b4 =>
 match (match b4 with | true => (.tup []) | false => (.bool false) : V) with
 | .bool true => (
 (p2.2.ld1 (.ptr h.next 3)).bind fun v5 =>
 (M.call 376 [v5, (.int .i64 1), (.int .i64 16)] p2.2).bind fun p6 =>
 match p6.1 with
 | .bool true => (
 (p6.2.ld1 (.ptr h.next 4)).bind fun v7 =>
 (M.call 376 [v7, (.int .i64 1), (.int .i64 1048576)] p6.2).bind fun p8 =>
 match p8.1 with
 | .bool true => (
 (p8.2.ld1 (.ptr h.next 5)).bind fun v9 =>
 (M.call 376 [v9, (.int .i64 0), (.int .i64 64)] p8.2).bind fun p10 =>
 some (p10.1, p10.2))
 | .bool false => (
 some ((.bool false), p8.2))
 | .tup [] => (
 (asB p8.1).bind fun b9 =>
 some ((match b9 with | true => (.tup []) | false => (.bool false) : V), p8.2))
 | _ => none)
 | .bool false => (
 some ((.bool false), p6.2))
 | .tup [] => (
 (asB p6.1).bind fun b7 =>
 match (match b7 with | true => (.tup []) | false => (.bool false) : V) with
 | .bool true => (
 (p6.2.ld1 (.ptr h.next 5)).bind fun v8 =>
 (M.call 376 [v8, (.int .i64 0), (.int .i64 64)] p6.2).bind fun p9 =>
 some (p9.1, p9.2))
 | .bool false => (
 some ((.bool false), p6.2))
 | .tup [] => (
 (asB (match b7 with | true => (.tup []) | false => (.bool false) : V)).bind fun b8 =>
 some ((match b8 with | true => (.tup []) | false => (.bool false) : V), p6.2))
 | _ => none)
 | _ => none)
 | .bool false => (
 some ((.bool false), p2.2))
 | .tup [] => (
 (asB (match b4 with | true => (.tup []) | false => (.bool false) : V)).bind fun b5 =>
 match (match b5 with | true => (.tup []) | false => (.bool false) : V) with
 | .bool true => (
 (p2.2.ld1 (.ptr h.next 4)).bind fun v6 =>
 (M.call 376 [v6, (.int .i64 1), (.int .i64 1048576)] p2.2).bind fun p7 =>
 match p7.1 with
 | .bool true => (
 (p7.2.ld1 (.ptr h.next 5)).bind fun v8 =>
 (M.call 376 [v8, (.int .i64 0), (.int .i64 64)] p7.2).bind fun p9 =>
 some (p9.1, p9.2))
 | .bool false => (
 some ((.bool false), p7.2))
 | .tup [] => (
 (asB p7.1).bind fun b8 =>
 some ((match b8 with | true => (.tup []) | false => (.bool false) : V), p7.2))
 | _ => none)
 | .bool false => (
 some ((.bool false), p2.2))
 | .tup [] => (
 (asB (match b5 with | true => (.tup []) | false => (.bool false) : V)).bind fun b6 =>
 match (match b6 with | true => (.tup []) | false => (.bool false) : V) with
 | .bool true => (
 (p2.2.ld1 (.ptr h.next 5)).bind fun v7 =>
 (M.call 376 [v7, (.int .i64 0), (.int .i64 64)] p2.2).bind fun p8 =>
 some (p8.1, p8.2))
 | .bool false => (
 some ((.bool false), p2.2))
 | .tup [] => (
 (asB (match b6 with | true => (.tup []) | false => (.bool false) : V)).bind fun b7 =>
 some ((match b7 with | true => (.tup []) | false => (.bool false) : V), p2.2))
 | _ => none)
 | _ => none)
 | _ => none)
 | _ => none)
 | _ => none

theorem plan_Right_eq (M : Env) (a0_0 : Int) (a0_1 : Int) (a0_2 : Int) (a0_3 : Int) (a0_4 : Int) (a0_5 : Int) (h : H) : evalF M F.plan_Right [(.agg [(.int .i64 a0_0), (.int .i64 a0_1), (.int .i64 a0_2), (.int .i64 a0_3), (.int .i64 a0_4), (.int .i64 a0_5)])] h = plan_Right M a0_0 a0_1 a0_2 a0_3 a0_4 a0_5 h := by kernel_rfl

end Wm.S
end

section
/- PRINTED by my tool (wip/wm/tool/Gen.lean): what a function comes to, stretch by stretch. -/
namespace Wm.S
open Wm
set_option maxRecDepth 100000
set_option linter.unusedVariables false


def withyref06_Right (M : Env) (a0_0 : Int) (a0_1 : Int) (a0_2 : Int) (a0_3 : Int) (a0_4 : Int) (a0_5 : Int) (h : H) : Option (V × H) :=
 let h0 := h.new (.cells [(.int .i64 a0_0), (.int .i64 a0_1), (.int .i64 a0_2), (.int .i64 a0_3), (.int .i64 a0_4), (.int .i64 a0_5)] .rw)
 (h0.ld1 (.ptr h.next 0)).bind fun v1 =>
 (asI .i64 v1).bind fun n2 =>
 match (decide (1 ≤ n2)) with
 | true => (
 (h0.ld1 (.ptr h.next 0)).bind fun v3 =>
 (asI .i64 v3).bind fun n4 =>
 match (decide (n4 ≤ 64)) with
 | true => (
 (h0.ld1 (.ptr h.next 1)).bind fun v5 =>
 (asI .i64 v5).bind fun n6 =>
 match (decide (0 ≤ n6)) with
 | true => (
 (h0.ld1 (.ptr h.next 1)).bind fun v7 =>
 (asI .i64 v7).bind fun n8 =>
 match (decide (n8 ≤ 8)) with
 | true => (
 (h0.ld1 (.ptr h.next 2)).bind fun v9 =>
 (asI .i64 v9).bind fun n10 =>
 match (decide (1 ≤ n10)) with
 | true => (
 (h0.ld1 (.ptr h.next 2)).bind fun v11 =>
 (asI .i64 v11).bind fun n12 =>
 match (decide (n12 ≤ 8)) with
 | true => (
 (h0.ld1 (.ptr h.next 3)).bind fun v13 =>
 (asI .i64 v13).bind fun n14 =>
 match (decide (1 ≤ n14)) with
 | true => (
 (h0.ld1 (.ptr h.next 3)).bind fun v15 =>
 (asI .i64 v15).bind fun n16 =>
 match (decide (n16 ≤ 16)) with
 | true => (
 (h0.ld1 (.ptr h.next 4)).bind fun v17 =>
 (asI .i64 v17).bind fun n18 =>
 match (decide (1 ≤ n18)) with
 | true => (
 (h0.ld1 (.ptr h.next 4)).bind fun v19 =>
 (asI .i64 v19).bind fun n20 =>
 match (decide (n20 ≤ 1048576)) with
 | true => (
 (h0.ld1 (.ptr h.next 5)).bind fun v21 =>
 (asI .i64 v21).bind fun n22 =>
 match (decide (0 ≤ n22)) with
 | true => (
 (h0.ld1 (.ptr h.next 5)).bind fun v23 =>
 (asI .i64 v23).bind fun n24 =>
 some ((.bool (decide (n24 ≤ 64))), h0))
 | false => (
 some ((.bool false), h0)))
 | false => (
 some ((.bool false), h0)))
 | false => (
 some ((.bool false), h0)))
 | false => (
 some ((.bool false), h0)))
 | false => (
 some ((.bool false), h0)))
 | false => (
 some ((.bool false), h0)))
 | false => (
 some ((.bool false), h0)))
 | false => (
 some ((.bool false), h0)))
 | false => (
 some ((.bool false), h0)))
 | false => (
 some ((.bool false), h0)))
 | false => (
 some ((.bool false), h0))

theorem withyref06_Right_eq (M : Env) (a0_0 : Int) (a0_1 : Int) (a0_2 : Int) (a0_3 : Int) (a0_4 : Int) (a0_5 : Int) (h : H) : evalF M F.withyref06_Right [(.agg [(.int .i64 a0_0), (.int .i64 a0_1), (.int .i64 a0_2), (.int .i64 a0_3), (.int .i64 a0_4), (.int .i64 a0_5)])] h = withyref06_Right M a0_0 a0_1 a0_2 a0_3 a0_4 a0_5 h := by kernel_rfl

end Wm.S
end

section
/- PRINTED by my tool (wip/wm/tool/Gen.lean): what a function comes to, stretch by stretch. -/
namespace Wm.S
open Wm
set_option maxRecDepth 100000
set_option linter.unusedVariables false


def plan_Header (M : Env) (a0_0 : Int) (a0_1 : Int) (a0_2 : Int) (a0_3 : Int) (a0_4 : Int) (a0_5 : Int) (a1 : Int) (h : H) : Option (V × H) :=
 let h0 := h.new (.cells [(.int .i64 a0_0), (.int .i64 a0_1), (.int .i64 a0_2), (.int .i64 a0_3), (.int .i64 a0_4), (.int .i64 a0_5)] .rw)
 (h0.ldN 6 (.ptr h.next 0)).bind fun v1 =>
 (M.call 375 [v1, (.int .i64 a1), (.int .i64 0)] h0).bind fun p2 =>
 some (p2.1, p2.2)

theorem plan_Header_eq (M : Env) (a0_0 : Int) (a0_1 : Int) (a0_2 : Int) (a0_3 : Int) (a0_4 : Int) (a0_5 : Int) (a1 : Int) (h : H) : evalF M F.plan_Header [(.agg [(.int .i64 a0_0), (.int .i64 a0_1), (.int .i64 a0_2), (.int .i64 a0_3), (.int .i64 a0_4), (.int .i64 a0_5)]), (.int .i64 a1)] h = plan_Header M a0_0 a0_1 a0_2 a0_3 a0_4 a0_5 a1 h := by kernel_rfl

end Wm.S
end

section
/- PRINTED by my tool (wip/wm/tool/Gen.lean): what a function comes to, stretch by stretch. -/
namespace Wm.S
open Wm
set_option maxRecDepth 100000
set_option linter.unusedVariables false


def plan_within (M : Env) (a0_0 : Int) (a0_1 : Int) (a0_2 : Int) (a0_3 : Int) (a0_4 : Int) (a0_5 : Int) (a1 : Int) (a2 : Int) (h : H) : Option (V × H) :=
 let h0 := h.new (.cells [(.int .i64 a0_0), (.int .i64 a0_1), (.int .i64 a0_2), (.int .i64 a0_3), (.int .i64 a0_4), (.int .i64 a0_5)] .rw)
 (h0.ldN 6 (.ptr h.next 0)).bind fun v1 =>
 (M.call 263 [v1] h0).bind fun p2 =>
 (asB p2.1).bind fun b3 =>
 match (!b3) with
 | true => (
 some ((.int .i64 (-1)), p2.2))
 | false => (
 (p2.2.ld1 (.ptr h.next 0)).bind fun v4 =>
 (asI .i64 v4).bind fun n5 =>
 (M.call 376 [(.int .i64 a1), (.int .i64 0), (.int .i64 (wr .i64 (n5 - 1)))] p2.2).bind fun p6 =>
 (asB p6.1).bind fun b7 =>
 match (!b7) with
 | true => (
 some ((.int .i64 (-1)), p6.2))
 | false => (
 (p6.2.ldN 6 (.ptr h.next 0)).bind fun v8 =>
 (M.call 378 [v8] p6.2).bind fun p9 =>
 (asI .i64 p9.1).bind fun n10 =>
 (M.call 376 [(.int .i64 a2), (.int .i64 0), (.int .i64 (wr .i64 (n10 - 1)))] p9.2).bind fun p11 =>
 (asB p11.1).bind fun b12 =>
 match (!b12) with
 | true => (
 some ((.int .i64 (-1)), p11.2))
 | false => (
 (p11.2.ldN 6 (.ptr h.next 0)).bind fun v13 =>
 (p11.2.ldN 6 (.ptr h.next 0)).bind fun v14 =>
 (M.call 377 [v13] p11.2).bind fun p15 =>
 match ckB (p15.2.ldN 6 (.ptr h.next 0)) v14 with
 | true => (
 (M.call 378 [v14] p15.2).bind fun p16 =>
 (asI .i64 p16.1).bind fun n17 =>
 (asI .i64 p15.1).bind fun n18 =>
 some ((.int .i64 (wr .i64 ((wr .i64 (n18 + (wr .i64 (a1 * n17)))) + a2))), p16.2))
 | false => none)))

theorem plan_within_eq (M : Env) (a0_0 : Int) (a0_1 : Int) (a0_2 : Int) (a0_3 : Int) (a0_4 : Int) (a0_5 : Int) (a1 : Int) (a2 : Int) (h : H) : evalF M F.plan_within [(.agg [(.int .i64 a0_0), (.int .i64 a0_1), (.int .i64 a0_2), (.int .i64 a0_3), (.int .i64 a0_4), (.int .i64 a0_5)]), (.int .i64 a1), (.int .i64 a2)] h = plan_within M a0_0 a0_1 a0_2 a0_3 a0_4 a0_5 a1 a2 h := by kernel_rfl

end Wm.S
end

section
/- PRINTED by my tool (wip/wm/tool/Gen.lean): what a function comes to, stretch by stretch. -/
namespace Wm.S
open Wm
set_option maxRecDepth 100000
set_option linter.unusedVariables false


def plan_slots (M : Env) (a0_0 : Int) (a0_1 : Int) (a0_2 : Int) (a0_3 : Int) (a0_4 : Int) (a0_5 : Int) (h : H) : Option (V × H) :=
 let h0 := h.new (.cells [(.int .i64 a0_0), (.int .i64 a0_1), (.int .i64 a0_2), (.int .i64 a0_3), (.int .i64 a0_4), (.int .i64 a0_5)] .rw)
 (h0.ld1 (.ptr h.next 2)).bind fun v1 =>
 (h0.ld1 (.ptr h.next 3)).bind fun v2 =>
 (asI .i64 v2).bind fun n3 =>
 (asI .i64 v1).bind fun n4 =>
 some ((.int .i64 (wr .i64 (4 + (wr .i64 (n4 * (wr .i64 ((wr .i64 (1 + n3)) + 2))))))), h0)

theorem plan_slots_eq (M : Env) (a0_0 : Int) (a0_1 : Int) (a0_2 : Int) (a0_3 : Int) (a0_4 : Int) (a0_5 : Int) (h : H) : evalF M F.plan_slots [(.agg [(.int .i64 a0_0), (.int .i64 a0_1), (.int .i64 a0_2), (.int .i64 a0_3), (.int .i64 a0_4), (.int .i64 a0_5)])] h = plan_slots M a0_0 a0_1 a0_2 a0_3 a0_4 a0_5 h := by kernel_rfl

end Wm.S
end

section
/- PRINTED by my tool (wip/wm/tool/Gen.lean): what a function comes to, stretch by stretch. -/
namespace Wm.S
open Wm
set_option maxRecDepth 100000
set_option linter.unusedVariables false


def plan_room (M : Env) (a0_0 : Int) (a0_1 : Int) (a0_2 : Int) (a0_3 : Int) (a0_4 : Int) (a0_5 : Int) (h : H) : Option (V × H) :=
 let h0 := h.new (.cells [(.int .i64 a0_0), (.int .i64 a0_1), (.int .i64 a0_2), (.int .i64 a0_3), (.int .i64 a0_4), (.int .i64 a0_5)] .rw)
 (h0.ld1 (.ptr h.next 1)).bind fun v1 =>
 (asI .i64 v1).bind fun n2 =>
 some ((.int .i64 (wr .i64 (2 + (max n2 3)))), h0)

theorem plan_room_eq (M : Env) (a0_0 : Int) (a0_1 : Int) (a0_2 : Int) (a0_3 : Int) (a0_4 : Int) (a0_5 : Int) (h : H) : evalF M F.plan_room [(.agg [(.int .i64 a0_0), (.int .i64 a0_1), (.int .i64 a0_2), (.int .i64 a0_3), (.int .i64 a0_4), (.int .i64 a0_5)])] h = plan_room M a0_0 a0_1 a0_2 a0_3 a0_4 a0_5 h := by kernel_rfl

end Wm.S
end

section
/- PRINTED by my tool (wip/wm/tool/Gen.lean): what a function comes to, stretch by stretch. -/
namespace Wm.S
open Wm
set_option maxRecDepth 100000
set_option linter.unusedVariables false


end Wm.S
end

section
/- PRINTED by my tool (wip/wm/tool/Gen.lean): what a function comes to, stretch by stretch. -/
namespace Wm.S
open Wm
set_option maxRecDepth 100000
set_option linter.unusedVariables false


end Wm.S
end

section
/- PRINTED by my tool (wip/wm/tool/Gen.lean): what a function comes to, stretch by stretch. -/
namespace Wm.S
open Wm
set_option maxRecDepth 100000
set_option linter.unusedVariables false


end Wm.S
end

section
/- PRINTED by my tool (wip/wm/tool/Gen.lean): what a function comes to, stretch by stretch. -/
namespace Wm.S
open Wm
set_option maxRecDepth 100000
set_option linter.unusedVariables false

end Wm.S
end

section
/- PRINTED by my tool (wip/wm/tool/Gen.lean): what a function comes to, stretch by stretch. -/
namespace Wm.S
open Wm
set_option maxRecDepth 100000
set_option linter.unusedVariables false


end Wm.S
end

section
/- PRINTED by my tool (wip/wm/tool/Gen.lean): what a function comes to, stretch by stretch. -/
namespace Wm.S
open Wm
set_option maxRecDepth 100000
set_option linter.unusedVariables false


end Wm.S
end

section
/- PRINTED by my tool (wip/wm/tool/Gen.lean): what a function comes to, stretch by stretch. -/
namespace Wm.S
open Wm
set_option maxRecDepth 100000
set_option linter.unusedVariables false

def withyref06_Words_c1_B (M : Env) : List V → H → Option (AX × List V × H) :=
 fun env h => evalC M F.withyref06_Words_c1 env h fun x env h => match x with
 | .normal => some (.normal, keepOf [1, 3, 4] 0 env, h)
 | x => some (x, keepOf [1, 3] 0 env, h)

def withyref06_Words_c1_E (x1 x3 x4 : V) : List V := dd 1 (x1 :: dd 1 (x3 :: x4 :: dd 78 []))
def withyref06_Words_c1_O (x1 x3 : V) : List V := dd 1 (x1 :: dd 1 (x3 :: dd 79 []))

def withyref06_Words_c3_B (M : Env) : List V → H → Option (AX × List V × H) :=
 fun env h => evalC M F.withyref06_Words_c3 env h fun x env h => match x with
 | .normal => some (.normal, keepOf [1, 3, 5] 0 env, h)
 | x => some (x, keepOf [1, 3] 0 env, h)

def withyref06_Words_c3_E (x1 x3 x5 : V) : List V := dd 1 (x1 :: dd 1 (x3 :: dd 1 (x5 :: dd 77 [])))
def withyref06_Words_c3_O (x1 x3 : V) : List V := dd 1 (x1 :: dd 1 (x3 :: dd 79 []))

def withyref06_Words_c5_B (M : Env) : List V → H → Option (AX × List V × H) :=
 fun env h => evalC M F.withyref06_Words_c5 env h fun x env h => match x with
 | .normal => some (.normal, keepOf [1, 3, 5, 6] 0 env, h)
 | x => some (x, keepOf [1, 3, 5] 0 env, h)

def withyref06_Words_c5_E (x1 x3 x5 x6 : V) : List V := dd 1 (x1 :: dd 1 (x3 :: dd 1 (x5 :: x6 :: dd 76 [])))
def withyref06_Words_c5_O (x1 x3 x5 : V) : List V := dd 1 (x1 :: dd 1 (x3 :: dd 1 (x5 :: dd 77 [])))

def withyref06_Words_c7_B (M : Env) : List V → H → Option (AX × List V × H) :=
 fun env h => evalC M F.withyref06_Words_c7 env h fun x env h => match x with
 | .normal => some (.normal, keepOf [1, 3, 7] 0 env, h)
 | x => some (x, keepOf [1, 3] 0 env, h)

def withyref06_Words_c7_E (x1 x3 x7 : V) : List V := dd 1 (x1 :: dd 1 (x3 :: dd 3 (x7 :: dd 75 [])))
def withyref06_Words_c7_O (x1 x3 : V) : List V := dd 1 (x1 :: dd 1 (x3 :: dd 79 []))

def withyref06_Words_c9_B (M : Env) : List V → H → Option (AX × List V × H) :=
 fun env h => evalC M F.withyref06_Words_c9 env h fun x env h => match x with
 | .normal => some (.normal, keepOf [1, 3, 8] 0 env, h)
 | x => some (x, keepOf [3] 0 env, h)

def withyref06_Words_c9_E (x1 x3 x8 : V) : List V := dd 1 (x1 :: dd 1 (x3 :: dd 4 (x8 :: dd 74 [])))
def withyref06_Words_c9_O (x3 : V) : List V := dd 3 (x3 :: dd 79 [])

def withyref06_Words_c11_B (M : Env) : List V → H → Option (AX × List V × H) :=
 fun env h => evalC M F.withyref06_Words_c11 env h fun x env h => match x with
 | .normal => some (.normal, keepOf [1, 3, 8, 9] 0 env, h)
 | x => some (x, keepOf [1, 3, 8] 0 env, h)

def withyref06_Words_c11_E (x1 x3 x8 x9 : V) : List V := dd 1 (x1 :: dd 1 (x3 :: dd 4 (x8 :: x9 :: dd 73 [])))
def withyref06_Words_c11_O (x1 x3 x8 : V) : List V := dd 1 (x1 :: dd 1 (x3 :: dd 4 (x8 :: dd 74 [])))

def withyref06_Words_K0 (M : Env) : AX → List V → H → Option (V × H) :=
 fun x env h => fin F.withyref06_Words x env h

def withyref06_Words_K1 (M : Env) : AX → List V → H → Option (V × H) :=
 fun x env h => match x with | .normal => evalC M F.withyref06_Words_c0 env h (fun x env h => withyref06_Words_K0 M x env h) | x => withyref06_Words_K0 M x env h

def withyref06_Words_K2 (M : Env) : AX → List V → H → Option (V × H) :=
 fun x env h => match x with | .exit j => (match Nat.beq j 0 with | true => withyref06_Words_K1 M .normal env h | false => withyref06_Words_K1 M (.exit j) env h) | x => withyref06_Words_K1 M x env h

def withyref06_Words_K3 (M : Env) : AX → List V → H → Option (V × H) :=
 fun x env h => match x with | .normal => evalC M F.withyref06_Words_c2 env h (fun x env h => withyref06_Words_K0 M x env h) | x => withyref06_Words_K0 M x env h

def withyref06_Words_K4 (M : Env) : AX → List V → H → Option (V × H) :=
 fun x env h => match x with | .exit j => (match Nat.beq j 2 with | true => withyref06_Words_K3 M .normal env h | false => withyref06_Words_K3 M (.exit j) env h) | x => withyref06_Words_K3 M x env h

def withyref06_Words_K5 (M : Env) : AX → List V → H → Option (AX × List V × H) :=
 fun x env h => match x with | .normal => some (.normal, keepOf [1, 3, 5] 0 env, h) | x => some (x, keepOf [1, 3] 0 env, h)

def withyref06_Words_K6 (M : Env) : AX → List V → H → Option (AX × List V × H) :=
 fun x env h => match x with | .normal => evalC M F.withyref06_Words_c4 env h (fun x env h => withyref06_Words_K5 M x env h) | x => withyref06_Words_K5 M x env h

def withyref06_Words_K7 (M : Env) : AX → List V → H → Option (AX × List V × H) :=
 fun x env h => match x with | .exit j => (match Nat.beq j 3 with | true => withyref06_Words_K6 M .normal env h | false => withyref06_Words_K6 M (.exit j) env h) | x => withyref06_Words_K6 M x env h

def withyref06_Words_K8 (M : Env) : AX → List V → H → Option (AX × List V × H) :=
 fun x env h => match x with | .exit j => (match Nat.beq j 4 with | true => withyref06_Words_K7 M .normal env h | false => withyref06_Words_K7 M (.exit j) env h) | x => withyref06_Words_K7 M x env h

def withyref06_Words_K9 (M : Env) : AX → List V → H → Option (V × H) :=
 fun x env h => match x with | .normal => evalC M F.withyref06_Words_c6 env h (fun x env h => withyref06_Words_K0 M x env h) | x => withyref06_Words_K0 M x env h

def withyref06_Words_K10 (M : Env) : AX → List V → H → Option (V × H) :=
 fun x env h => match x with | .exit j => (match Nat.beq j 6 with | true => withyref06_Words_K9 M .normal env h | false => withyref06_Words_K9 M (.exit j) env h) | x => withyref06_Words_K9 M x env h

def withyref06_Words_K11 (M : Env) : AX → List V → H → Option (V × H) :=
 fun x env h => match x with | .normal => evalC M F.withyref06_Words_c8 env h (fun x env h => withyref06_Words_K0 M x env h) | x => withyref06_Words_K0 M x env h

def withyref06_Words_K12 (M : Env) : AX → List V → H → Option (V × H) :=
 fun x env h => match x with | .exit j => (match Nat.beq j 8 with | true => withyref06_Words_K11 M .normal env h | false => withyref06_Words_K11 M (.exit j) env h) | x => withyref06_Words_K11 M x env h

def withyref06_Words_K13 (M : Env) : AX → List V → H → Option (AX × List V × H) :=
 fun x env h => match x with | .normal => some (.normal, keepOf [1, 3, 8] 0 env, h) | x => some (x, keepOf [3] 0 env, h)

def withyref06_Words_K14 (M : Env) : AX → List V → H → Option (AX × List V × H) :=
 fun x env h => match x with | .normal => evalC M F.withyref06_Words_c10 env h (fun x env h => withyref06_Words_K13 M x env h) | x => withyref06_Words_K13 M x env h

def withyref06_Words_K15 (M : Env) : AX → List V → H → Option (AX × List V × H) :=
 fun x env h => match x with | .exit j => (match Nat.beq j 9 with | true => withyref06_Words_K14 M .normal env h | false => withyref06_Words_K14 M (.exit j) env h) | x => withyref06_Words_K14 M x env h

def withyref06_Words_K16 (M : Env) : AX → List V → H → Option (AX × List V × H) :=
 fun x env h => match x with | .exit j => (match Nat.beq j 10 with | true => withyref06_Words_K15 M .normal env h | false => withyref06_Words_K15 M (.exit j) env h) | x => withyref06_Words_K15 M x env h

def withyref06_Words (M : Env) (a0_0 : Int) (a0_1 : Int) (a0_2 : Int) (a0_3 : Int) (a0_4 : Int) (a0_5 : Int) (h : H) : Option (V × H) :=
 let h0 := h.new (.cells [(.int .i64 a0_0), (.int .i64 a0_1), (.int .i64 a0_2), (.int .i64 a0_3), (.int .i64 a0_4), (.int .i64 a0_5)] .rw)
 let h1 := h0.new (.cells [(.str ⟨⟨[99, 108, 111, 99, 107]⟩⟩), (.int .i64 0), (.int .i64 0), (.str ⟨⟨[101, 112, 111, 99, 104]⟩⟩), (.int .i64 0), (.int .i64 0), (.str ⟨⟨[103, 114, 97, 121, 115]⟩⟩), (.int .i64 0), (.int .i64 0), (.str ⟨⟨[116, 111, 112]⟩⟩), (.int .i64 0), (.int .i64 0)] .rw)
 (M.loop (withyref06_Words_c1_B M) (withyref06_Words_c1_E (.ptr h.next 0) (.sl h0.next 0 4 (.ex 4)) (.int .i64 0)) h1).bind fun p2 => withyref06_Words_K2 M p2.1 p2.2.1 p2.2.2

def withyref06_Words_c1_S (M : Env) (x1 : V) (x3 : V) (x4 : Int) (h : H) : Option (AX × List V × H) :=
 (ptrAt x1 2).bind fun v0 =>
 (h.ld1 v0).bind fun v1 =>
 (asI .i64 v1).bind fun n2 =>
 match (decide (x4 < n2)) with
 | true => (
 let h3 := h.new (.cells [(.str ⟨⟨[112, 105, 110]⟩⟩), (.int .i64 x4), (.int .i64 0)] .rw)
 (h3.append 3 32 x3 (.sl h.next 0 1 (.ex 1))).bind fun p4 =>
 some (.normal, (withyref06_Words_c1_E x1 p4.1 (.int .i64 (wr .i64 (x4 + 1)))), p4.2))
 | false => (
 some ((.exit 0), (withyref06_Words_c1_O x1 x3), h))

def withyref06_Words_c1_e0 (M : Env) (x1 : V) (x3 : V) (h : H) : Option (V × H) :=
 (M.loop (withyref06_Words_c3_B M) (withyref06_Words_c3_E x1 x3 (.int .i64 0)) h).bind fun p0 => withyref06_Words_K4 M p0.1 p0.2.1 p0.2.2

def withyref06_Words_c3_S (M : Env) (x1 : V) (x3 : V) (x5 : Int) (h : H) : Option (AX × List V × H) :=
 (ptrAt x1 2).bind fun v0 =>
 (h.ld1 v0).bind fun v1 =>
 (asI .i64 v1).bind fun n2 =>
 match (decide (x5 < n2)) with
 | true => (
 (M.loop (withyref06_Words_c5_B M) (withyref06_Words_c5_E x1 x3 (.int .i64 x5) (.int .i64 0)) h).bind fun p3 => withyref06_Words_K8 M p3.1 p3.2.1 p3.2.2)
 | false => (
 some ((.exit 2), (withyref06_Words_c3_O x1 x3), h))

def withyref06_Words_c3_e2 (M : Env) (x1 : V) (x3 : V) (h : H) : Option (V × H) :=
 (M.loop (withyref06_Words_c7_B M) (withyref06_Words_c7_E x1 x3 (.int .i64 0)) h).bind fun p0 => withyref06_Words_K10 M p0.1 p0.2.1 p0.2.2

def withyref06_Words_c5_S (M : Env) (x1 : V) (x3 : V) (x5 : Int) (x6 : Int) (h : H) : Option (AX × List V × H) :=
 (ptrAt x1 3).bind fun v0 =>
 (h.ld1 v0).bind fun v1 =>
 (asI .i64 v1).bind fun n2 =>
 match (decide (x6 < n2)) with
 | true => (
 let h3 := h.new (.cells [(.str ⟨⟨[101, 110, 116, 114, 121]⟩⟩), (.int .i64 x5), (.int .i64 x6)] .rw)
 (h3.append 3 32 x3 (.sl h.next 0 1 (.ex 1))).bind fun p4 =>
 some (.normal, (withyref06_Words_c5_E x1 p4.1 (.int .i64 x5) (.int .i64 (wr .i64 (x6 + 1)))), p4.2))
 | false => (
 some ((.exit 4), (withyref06_Words_c5_O x1 x3 (.int .i64 x5)), h))

def withyref06_Words_c5_e4 (M : Env) (x1 : V) (x3 : V) (x5 : Int) (h : H) : Option (AX × List V × H) :=
 some (.normal, (withyref06_Words_c3_E x1 x3 (.int .i64 (wr .i64 (x5 + 1)))), h)

def withyref06_Words_c7_S (M : Env) (x1 : V) (x3 : V) (x7 : Int) (h : H) : Option (AX × List V × H) :=
 (ptrAt x1 2).bind fun v0 =>
 (h.ld1 v0).bind fun v1 =>
 (asI .i64 v1).bind fun n2 =>
 match (decide (x7 < n2)) with
 | true => (
 let h3 := h.new (.cells [(.str ⟨⟨[118, 105, 101, 119]⟩⟩), (.int .i64 x7), (.int .i64 0), (.str ⟨⟨[115, 116, 97, 114, 116]⟩⟩), (.int .i64 x7), (.int .i64 0)] .rw)
 (h3.append 3 32 x3 (.sl h.next 0 2 (.ex 2))).bind fun p4 =>
 some (.normal, (withyref06_Words_c7_E x1 p4.1 (.int .i64 (wr .i64 (x7 + 1)))), p4.2))
 | false => (
 some ((.exit 6), (withyref06_Words_c7_O x1 x3), h))

def withyref06_Words_c7_e6 (M : Env) (x1 : V) (x3 : V) (h : H) : Option (V × H) :=
 (M.loop (withyref06_Words_c9_B M) (withyref06_Words_c9_E x1 x3 (.int .i64 0)) h).bind fun p0 => withyref06_Words_K12 M p0.1 p0.2.1 p0.2.2

def withyref06_Words_c9_S (M : Env) (x1 : V) (x3 : V) (x8 : Int) (h : H) : Option (AX × List V × H) :=
 (ptrAt x1 0).bind fun v0 =>
 (h.ld1 v0).bind fun v1 =>
 (asI .i64 v1).bind fun n2 =>
 match (decide (x8 < n2)) with
 | true => (
 let h3 := h.new (.cells [(.str ⟨⟨[104, 101, 97, 100, 101, 114]⟩⟩), (.int .i64 x8), (.int .i64 0), (.str ⟨⟨[108, 105, 110, 107]⟩⟩), (.int .i64 x8), (.int .i64 0)] .rw)
 (h3.append 3 32 x3 (.sl h.next 0 2 (.ex 2))).bind fun p4 =>
 (M.loop (withyref06_Words_c11_B M) (withyref06_Words_c11_E x1 p4.1 (.int .i64 x8) (.int .i64 0)) p4.2).bind fun p5 => withyref06_Words_K16 M p5.1 p5.2.1 p5.2.2)
 | false => (
 some ((.exit 8), (withyref06_Words_c9_O x3), h))

def withyref06_Words_c9_e8 (M : Env) (x3 : V) (h : H) : Option (V × H) :=
 some (x3, h)

def withyref06_Words_c11_S (M : Env) (x1 : V) (x3 : V) (x8 : Int) (x9 : Int) (h : H) : Option (AX × List V × H) :=
 (h.ldN 6 x1).bind fun v0 =>
 (M.call 149 [v0] h).bind fun p1 =>
 (asI .i64 p1.1).bind fun n2 =>
 match (decide (x9 < n2)) with
 | true => (
 let h3 := p1.2.new (.cells [(.str ⟨⟨[98, 111, 100, 121]⟩⟩), (.int .i64 x8), (.int .i64 x9)] .rw)
 (h3.append 3 32 x3 (.sl p1.2.next 0 1 (.ex 1))).bind fun p4 =>
 some (.normal, (withyref06_Words_c11_E x1 p4.1 (.int .i64 x8) (.int .i64 (wr .i64 (x9 + 1)))), p4.2))
 | false => (
 some ((.exit 10), (withyref06_Words_c11_O x1 x3 (.int .i64 x8)), p1.2))

def withyref06_Words_c11_e10 (M : Env) (x1 : V) (x3 : V) (x8 : Int) (h : H) : Option (AX × List V × H) :=
 some (.normal, (withyref06_Words_c9_E x1 x3 (.int .i64 (wr .i64 (x8 + 1)))), h)

theorem withyref06_Words_eq (M : Env) (a0_0 : Int) (a0_1 : Int) (a0_2 : Int) (a0_3 : Int) (a0_4 : Int) (a0_5 : Int) (h : H) : evalF M F.withyref06_Words [(.agg [(.int .i64 a0_0), (.int .i64 a0_1), (.int .i64 a0_2), (.int .i64 a0_3), (.int .i64 a0_4), (.int .i64 a0_5)])] h = withyref06_Words M a0_0 a0_1 a0_2 a0_3 a0_4 a0_5 h := by kernel_rfl

theorem withyref06_Words_c1_eq (M : Env) (x1 : V) (x3 : V) (x4 : Int) (h : H) : withyref06_Words_c1_B M (withyref06_Words_c1_E x1 x3 (.int .i64 x4)) h = withyref06_Words_c1_S M x1 x3 x4 h := by kernel_rfl

theorem withyref06_Words_c1_e0_eq (M : Env) (x1 : V) (x3 : V) (h : H) : withyref06_Words_K2 M (.exit 0) (withyref06_Words_c1_O x1 x3) h = withyref06_Words_c1_e0 M x1 x3 h := by kernel_rfl

theorem withyref06_Words_c3_eq (M : Env) (x1 : V) (x3 : V) (x5 : Int) (h : H) : withyref06_Words_c3_B M (withyref06_Words_c3_E x1 x3 (.int .i64 x5)) h = withyref06_Words_c3_S M x1 x3 x5 h := by kernel_rfl

theorem withyref06_Words_c3_e2_eq (M : Env) (x1 : V) (x3 : V) (h : H) : withyref06_Words_K4 M (.exit 2) (withyref06_Words_c3_O x1 x3) h = withyref06_Words_c3_e2 M x1 x3 h := by kernel_rfl

theorem withyref06_Words_c5_eq (M : Env) (x1 : V) (x3 : V) (x5 : Int) (x6 : Int) (h : H) : withyref06_Words_c5_B M (withyref06_Words_c5_E x1 x3 (.int .i64 x5) (.int .i64 x6)) h = withyref06_Words_c5_S M x1 x3 x5 x6 h := by kernel_rfl

theorem withyref06_Words_c5_e4_eq (M : Env) (x1 : V) (x3 : V) (x5 : Int) (h : H) : withyref06_Words_K8 M (.exit 4) (withyref06_Words_c5_O x1 x3 (.int .i64 x5)) h = withyref06_Words_c5_e4 M x1 x3 x5 h := by kernel_rfl

theorem withyref06_Words_c7_eq (M : Env) (x1 : V) (x3 : V) (x7 : Int) (h : H) : withyref06_Words_c7_B M (withyref06_Words_c7_E x1 x3 (.int .i64 x7)) h = withyref06_Words_c7_S M x1 x3 x7 h := by kernel_rfl

theorem withyref06_Words_c7_e6_eq (M : Env) (x1 : V) (x3 : V) (h : H) : withyref06_Words_K10 M (.exit 6) (withyref06_Words_c7_O x1 x3) h = withyref06_Words_c7_e6 M x1 x3 h := by kernel_rfl

theorem withyref06_Words_c9_eq (M : Env) (x1 : V) (x3 : V) (x8 : Int) (h : H) : withyref06_Words_c9_B M (withyref06_Words_c9_E x1 x3 (.int .i64 x8)) h = withyref06_Words_c9_S M x1 x3 x8 h := by kernel_rfl

theorem withyref06_Words_c9_e8_eq (M : Env) (x3 : V) (h : H) : withyref06_Words_K12 M (.exit 8) (withyref06_Words_c9_O x3) h = withyref06_Words_c9_e8 M x3 h := by kernel_rfl

theorem withyref06_Words_c11_eq (M : Env) (x1 : V) (x3 : V) (x8 : Int) (x9 : Int) (h : H) : withyref06_Words_c11_B M (withyref06_Words_c11_E x1 x3 (.int .i64 x8) (.int .i64 x9)) h = withyref06_Words_c11_S M x1 x3 x8 x9 h := by kernel_rfl

theorem withyref06_Words_c11_e10_eq (M : Env) (x1 : V) (x3 : V) (x8 : Int) (h : H) : withyref06_Words_K16 M (.exit 10) (withyref06_Words_c11_O x1 x3 (.int .i64 x8)) h = withyref06_Words_c11_e10 M x1 x3 x8 h := by kernel_rfl

end Wm.S
end

section
/- PRINTED by my tool (wip/wm/tool/Gen.lean): what a function comes to, stretch by stretch. -/
namespace Wm.S
open Wm
set_option maxRecDepth 100000
set_option linter.unusedVariables false


def withyref06_Room (M : Env) (a0_0 : Int) (a0_1 : Int) (a0_2 : Int) (a0_3 : Int) (a0_4 : Int) (a0_5 : Int) (h : H) : Option (V × H) :=
 let h0 := h.new (.cells [(.int .i64 a0_0), (.int .i64 a0_1), (.int .i64 a0_2), (.int .i64 a0_3), (.int .i64 a0_4), (.int .i64 a0_5)] .rw)
 (h0.ld1 (.ptr h.next 1)).bind fun v1 =>
 (asI .i64 v1).bind fun n2 =>
 match (decide (n2 < 3)) with
 | true => (
 some ((.int .i64 3), h0))
 | false => (
 (h0.ld1 (.ptr h.next 1)).bind fun v3 =>
 some (v3, h0))

theorem withyref06_Room_eq (M : Env) (a0_0 : Int) (a0_1 : Int) (a0_2 : Int) (a0_3 : Int) (a0_4 : Int) (a0_5 : Int) (h : H) : evalF M F.withyref06_Room [(.agg [(.int .i64 a0_0), (.int .i64 a0_1), (.int .i64 a0_2), (.int .i64 a0_3), (.int .i64 a0_4), (.int .i64 a0_5)])] h = withyref06_Room M a0_0 a0_1 a0_2 a0_3 a0_4 a0_5 h := by kernel_rfl

end Wm.S
end

section
/- PRINTED by my tool (wip/wm/tool/Gen.lean): what a function comes to, stretch by stretch. -/
namespace Wm.S
open Wm
set_option maxRecDepth 100000
set_option linter.unusedVariables false

def withyref06_At_c1_B (M : Env) : List V → H → Option (AX × List V × H) :=
 fun env h => evalC M F.withyref06_At_c1 env h fun x env h => match x with
 | .normal => some (.normal, keepOf [3, 5, 6] 0 env, h)
 | x => some (x, keepOf [4] 0 env, h)

def withyref06_At_c1_E (x3 x5 x6 : V) : List V := dd 3 (x3 :: dd 1 (x5 :: x6 :: dd 18 []))
def withyref06_At_c1_O (x4 : V) : List V := dd 4 (x4 :: dd 20 [])

def withyref06_At_K0 (M : Env) : AX → List V → H → Option (V × H) :=
 fun x env h => fin F.withyref06_At x env h

def withyref06_At_K1 (M : Env) : AX → List V → H → Option (V × H) :=
 fun x env h => match x with | .normal => evalC M F.withyref06_At_c0 env h (fun x env h => withyref06_At_K0 M x env h) | x => withyref06_At_K0 M x env h

def withyref06_At_K2 (M : Env) : AX → List V → H → Option (V × H) :=
 fun x env h => match x with | .exit j => (match Nat.beq j 0 with | true => withyref06_At_K1 M .normal env h | false => withyref06_At_K1 M (.exit j) env h) | x => withyref06_At_K1 M x env h

def withyref06_At (M : Env) (a0_0 : Int) (a0_1 : Int) (a0_2 : Int) (a0_3 : Int) (a0_4 : Int) (a0_5 : Int) (a1_0 : ByteArray) (a1_1 : Int) (a1_2 : Int) (h : H) : Option (V × H) :=
 let h0 := h.new (.cells [(.int .i64 a0_0), (.int .i64 a0_1), (.int .i64 a0_2), (.int .i64 a0_3), (.int .i64 a0_4), (.int .i64 a0_5)] .rw)
 let h1 := h0.new (.cells [(.str a1_0), (.int .i64 a1_1), (.int .i64 a1_2)] .rw)
 (h1.ldN 6 (.ptr h.next 0)).bind fun v2 =>
 (M.call 85 [v2] h1).bind fun p3 =>
 (asB p3.1).bind fun b4 =>
 match (!b4) with
 | true => (
 some ((.int .i64 (-1)), p3.2))
 | false => (
 (p3.2.ldN 6 (.ptr h.next 0)).bind fun v5 =>
 (M.call 87 [v5] p3.2).bind fun p6 =>
 (M.loop (withyref06_At_c1_B M) (withyref06_At_c1_E (.ptr h0.next 0) p6.1 (.int .i64 0)) p6.2).bind fun p7 => withyref06_At_K2 M p7.1 p7.2.1 p7.2.2)

def withyref06_At_c1_S (M : Env) (x3 : V) (x5 : V) (x6 : Int) (h : H) : Option (AX × List V × H) :=
 (lenSl x5).bind fun n0 =>
 match (decide (x6 < ((n0 : Nat) : Int))) with
 | true => (
 (indexAV 3 x5 (.int .i64 x6)).bind fun v1 =>
 (h.ldN 3 v1).bind fun v2 =>
 (h.ldN 3 x3).bind fun v3 =>
 (eqV (.agg [(0, .str), (1, .int), (2, .int)]) v2 v3).bind fun b4 =>
 match b4 with
 | true => (
 some (.ret, (withyref06_At_c1_O (.int .i64 x6)), h))
 | false => (
 some (.normal, (withyref06_At_c1_E x3 x5 (.int .i64 (wr .i64 (x6 + 1)))), h)))
 | false => (
 some ((.exit 0), (withyref06_At_c1_O .dead), h))

def withyref06_At_c1_r (M : Env) (x4 : Int) (h : H) : Option (V × H) :=
 some ((.int .i64 x4), h)

theorem withyref06_At_eq (M : Env) (a0_0 : Int) (a0_1 : Int) (a0_2 : Int) (a0_3 : Int) (a0_4 : Int) (a0_5 : Int) (a1_0 : ByteArray) (a1_1 : Int) (a1_2 : Int) (h : H) : evalF M F.withyref06_At [(.agg [(.int .i64 a0_0), (.int .i64 a0_1), (.int .i64 a0_2), (.int .i64 a0_3), (.int .i64 a0_4), (.int .i64 a0_5)]), (.agg [(.str a1_0), (.int .i64 a1_1), (.int .i64 a1_2)])] h = withyref06_At M a0_0 a0_1 a0_2 a0_3 a0_4 a0_5 a1_0 a1_1 a1_2 h := by kernel_rfl

theorem withyref06_At_c1_eq (M : Env) (x3 : V) (x5 : V) (x6 : Int) (h : H) : withyref06_At_c1_B M (withyref06_At_c1_E x3 x5 (.int .i64 x6)) h = withyref06_At_c1_S M x3 x5 x6 h := by kernel_rfl

theorem withyref06_At_c1_r_eq (M : Env) (x4 : Int) (h : H) : withyref06_At_K2 M .ret (withyref06_At_c1_O (.int .i64 x4)) h = withyref06_At_c1_r M x4 h := by kernel_rfl

end Wm.S
end

section
/- PRINTED by my tool (wip/wm/tool/Gen.lean): what a function comes to, stretch by stretch. -/
namespace Wm.S
open Wm
set_option maxRecDepth 100000
set_option linter.unusedVariables false

end Wm.S
end

section
/- PRINTED by my tool (wip/wm/tool/Gen.lean): what a function comes to, stretch by stretch. -/
namespace Wm.S
open Wm
set_option maxRecDepth 100000
set_option linter.unusedVariables false

end Wm.S
end

section
/- PRINTED by my tool (wip/wm/tool/Gen.lean): what a function comes to, stretch by stretch. -/
namespace Wm.S
open Wm
set_option maxRecDepth 100000
set_option linter.unusedVariables false


end Wm.S
end

section
/- PRINTED by my tool (wip/wm/tool/Gen.lean): what a function comes to, stretch by stretch. -/
namespace Wm.S
open Wm
set_option maxRecDepth 100000
set_option linter.unusedVariables false

def withyref06_Memory_c1_B (M : Env) : List V → H → Option (AX × List V × H) :=
 fun env h => evalC M F.withyref06_Memory_c1 env h fun x env h => match x with
 | .normal => some (.normal, keepOf [1, 3, 4, 5] 0 env, h)
 | x => some (x, keepOf [4] 0 env, h)

def withyref06_Memory_c1_E (x1 x3 x4 x5 : V) : List V := dd 1 (x1 :: dd 1 (x3 :: x4 :: x5 :: dd 43 []))
def withyref06_Memory_c1_O (x4 : V) : List V := dd 4 (x4 :: dd 44 [])

def withyref06_Memory_K0 (M : Env) : AX → List V → H → Option (V × H) :=
 fun x env h => fin F.withyref06_Memory x env h

def withyref06_Memory_K1 (M : Env) : AX → List V → H → Option (V × H) :=
 fun x env h => match x with | .normal => evalC M F.withyref06_Memory_c0 env h (fun x env h => withyref06_Memory_K0 M x env h) | x => withyref06_Memory_K0 M x env h

def withyref06_Memory_K2 (M : Env) : AX → List V → H → Option (V × H) :=
 fun x env h => match x with | .exit j => (match Nat.beq j 0 with | true => withyref06_Memory_K1 M .normal env h | false => withyref06_Memory_K1 M (.exit j) env h) | x => withyref06_Memory_K1 M x env h

def withyref06_Memory (M : Env) (a0_0 : Int) (a0_1 : Int) (a0_2 : Int) (a0_3 : Int) (a0_4 : Int) (a0_5 : Int) (h : H) : Option (V × H) :=
 let h0 := h.new (.cells [(.int .i64 a0_0), (.int .i64 a0_1), (.int .i64 a0_2), (.int .i64 a0_3), (.int .i64 a0_4), (.int .i64 a0_5)] .rw)
 (h0.ldN 6 (.ptr h.next 0)).bind fun v1 =>
 (M.call 87 [v1] h0).bind fun p2 =>
 (lenSl p2.1).bind fun n3 =>
 (p2.2.mkSl 1 8 [(.int .u64 0)] ((n3 : Nat) : Int) ((n3 : Nat) : Int)).bind fun p4 =>
 (indexAV 1 p4.1 (.int .i64 0)).bind fun v5 =>
 (p4.2.st 1 v5 (.int .u64 1)).bind fun h6 =>
 (indexAV 1 p4.1 (.int .i64 3)).bind fun v7 =>
 (h6.st 1 v7 (.int .u64 1)).bind fun h8 =>
 (M.loop (withyref06_Memory_c1_B M) (withyref06_Memory_c1_E (.ptr h.next 0) p2.1 p4.1 (.int .i64 0)) h8).bind fun p9 => withyref06_Memory_K2 M p9.1 p9.2.1 p9.2.2

def withyref06_Memory_c1_S (M : Env) (x1 : V) (x3 : V) (x4 : V) (x5 : Int) (h : H) : Option (AX × List V × H) :=
 (lenSl x3).bind fun n0 =>
 match (decide (x5 < ((n0 : Nat) : Int))) with
 | true => (
 (indexAV 3 x3 (.int .i64 x5)).bind fun v1 =>
 (ptrAt v1 0).bind fun v2 =>
 (h.ld1 v2).bind fun v3 =>
 (eqV .str v3 (.str ⟨⟨[108, 105, 110, 107]⟩⟩)).bind fun b4 =>
 match b4 with
 | true => (
 (indexAV 3 x3 (.int .i64 x5)).bind fun v5 =>
 (ptrAt v5 1).bind fun v6 =>
 (h.ld1 v6).bind fun v7 =>
 (asI .i64 v7).bind fun n8 =>
 (ptrAt x1 0).bind fun v9 =>
 (h.ld1 v9).bind fun v10 =>
 (asI .i64 v10).bind fun n11 =>
 match (decide ((wr .i64 (n8 + 1)) < n11)) with
 | true => (
 (indexAV 3 x3 (.int .i64 x5)).bind fun v12 =>
 (ptrAt v12 1).bind fun v13 =>
 (h.ld1 v13).bind fun v14 =>
 (asI .i64 v14).bind fun n15 =>
 (indexAV 1 x4 (.int .i64 x5)).bind fun v16 =>
 (h.st 1 v16 (.int .u64 (wr .u64 (wr .i64 (n15 + 2))))).bind fun h17 =>
 some (.normal, (withyref06_Memory_c1_E x1 x3 x4 (.int .i64 (wr .i64 (x5 + 1)))), h17))
 | false => (
 some (.normal, (withyref06_Memory_c1_E x1 x3 x4 (.int .i64 (wr .i64 (x5 + 1)))), h)))
 | false => (
 some (.normal, (withyref06_Memory_c1_E x1 x3 x4 (.int .i64 (wr .i64 (x5 + 1)))), h)))
 | false => (
 some ((.exit 0), (withyref06_Memory_c1_O x4), h))

def withyref06_Memory_c1_e0 (M : Env) (x4 : V) (h : H) : Option (V × H) :=
 some (x4, h)

theorem withyref06_Memory_eq (M : Env) (a0_0 : Int) (a0_1 : Int) (a0_2 : Int) (a0_3 : Int) (a0_4 : Int) (a0_5 : Int) (h : H) : evalF M F.withyref06_Memory [(.agg [(.int .i64 a0_0), (.int .i64 a0_1), (.int .i64 a0_2), (.int .i64 a0_3), (.int .i64 a0_4), (.int .i64 a0_5)])] h = withyref06_Memory M a0_0 a0_1 a0_2 a0_3 a0_4 a0_5 h := by kernel_rfl

theorem withyref06_Memory_c1_eq (M : Env) (x1 : V) (x3 : V) (x4 : V) (x5 : Int) (h : H) : withyref06_Memory_c1_B M (withyref06_Memory_c1_E x1 x3 x4 (.int .i64 x5)) h = withyref06_Memory_c1_S M x1 x3 x4 x5 h := by kernel_rfl

theorem withyref06_Memory_c1_e0_eq (M : Env) (x4 : V) (h : H) : withyref06_Memory_K2 M (.exit 0) (withyref06_Memory_c1_O x4) h = withyref06_Memory_c1_e0 M x4 h := by kernel_rfl

end Wm.S
end

section
/- PRINTED by my tool (wip/wm/tool/Gen.lean): what a function comes to, stretch by stretch. -/
namespace Wm.S
open Wm
set_option maxRecDepth 100000
set_option linter.unusedVariables false


def mem_Mem_Size (M : Env) (a0 : V) (h : H) : Option (V × H) :=
 (eqV .ptr a0 .nilp).bind fun b0 =>
 match b0 with
 | true => (
 some ((.int .i64 0), h))
 | false => (
 (nilc a0).bind fun v1 =>
 (ptrAt v1 0).bind fun v2 =>
 (h.ld1 v2).bind fun v3 =>
 (lenSl v3).bind fun n4 =>
 some ((.int .i64 ((n4 : Nat) : Int)), h))

theorem mem_Mem_Size_eq (M : Env) (a0 : V) (h : H) : evalF M F.mem_Mem_Size [a0] h = mem_Mem_Size M a0 h := by kernel_rfl

end Wm.S
end

section
/- PRINTED by my tool (wip/wm/tool/Gen.lean): what a function comes to, stretch by stretch. -/
namespace Wm.S
open Wm
set_option maxRecDepth 100000
set_option linter.unusedVariables false


def mem_Mem_there (M : Env) (a0 : V) (a1 : Int) (h : H) : Option (V × H) :=
 match (decide (0 ≤ a1)) with
 | true => (
 (M.call 413 [a0] h).bind fun p0 =>
 (asI .i64 p0.1).bind fun n1 =>
 some ((.bool (decide (a1 < n1))), p0.2))
 | false => (
 some ((.bool false), h))

theorem mem_Mem_there_eq (M : Env) (a0 : V) (a1 : Int) (h : H) : evalF M F.mem_Mem_there [a0, (.int .i64 a1)] h = mem_Mem_there M a0 a1 h := by kernel_rfl

end Wm.S
end

section
/- PRINTED by my tool (wip/wm/tool/Gen.lean): what a function comes to, stretch by stretch. -/
namespace Wm.S
open Wm
set_option maxRecDepth 100000
set_option linter.unusedVariables false


def mem_Mem_touch (M : Env) (a0 : V) (a1 : Int) (a2 : Int) (a3 : Int) (h : H) : Option (V × H) :=
 (nilc a0).bind fun v0 =>
 (ptrAt v0 1).bind fun v1 =>
 (h.ld1 v1).bind fun v2 =>
 (asI .i64 v2).bind fun n3 =>
 (nilc a0).bind fun v4 =>
 (ptrAt v4 1).bind fun v5 =>
 (h.st 1 v5 (.int .i64 (wr .i64 (n3 + 1)))).bind fun h6 =>
 (nilc a0).bind fun v7 =>
 (ptrAt v7 0).bind fun v8 =>
 (h6.ld1 v8).bind fun v9 =>
 (indexAV 1 v9 (.int .i64 a2)).bind fun v10 =>
 (h6.ld1 v10).bind fun v11 =>
 (fill [(.int .i64 0), (.int .i64 0), (.int .u64 0), (.int .u64 0)] [] [(0, 1, .c (.int .i64 a1)), (1, 1, .c (.int .i64 a2)), (2, 1, .c v11), (3, 1, .c (.int .u64 a3))]).bind fun cs12 =>
 (nilc a0).bind fun v13 =>
 (ptrAt v13 2).bind fun v14 =>
 (h6.st 4 v14 (.agg cs12)).bind fun h15 =>
 (nilc a0).bind fun v16 =>
 (ptrAt v16 0).bind fun v17 =>
 (h15.ld1 v17).bind fun v18 =>
 (indexAV 1 v18 (.int .i64 a2)).bind fun v19 =>
 (h15.st 1 v19 (.int .u64 a3)).bind fun h20 =>
 some ((.tup []), h20)

theorem mem_Mem_touch_eq (M : Env) (a0 : V) (a1 : Int) (a2 : Int) (a3 : Int) (h : H) : evalF M F.mem_Mem_touch [a0, (.int .i64 a1), (.int .i64 a2), (.int .u64 a3)] h = mem_Mem_touch M a0 a1 a2 a3 h := by kernel_rfl

end Wm.S
end

section
/- PRINTED by my tool (wip/wm/tool/Gen.lean): what a function comes to, stretch by stretch. -/
namespace Wm.S
open Wm
set_option maxRecDepth 100000
set_option linter.unusedVariables false


def mem_Mem_Load (M : Env) (a0 : V) (a1 : Int) (h : H) : Option (V × H) :=
 (M.call 346 [a0, (.int .i64 a1)] h).bind fun p0 =>
 (asB p0.1).bind fun b1 =>
 match (!b1) with
 | true => (
 some ((.int .u64 0), p0.2))
 | false => (
 (nilc a0).bind fun v2 =>
 (ptrAt v2 0).bind fun v3 =>
 (p0.2.ld1 v3).bind fun v4 =>
 (indexAV 1 v4 (.int .i64 a1)).bind fun v5 =>
 (p0.2.ld1 v5).bind fun v6 =>
 (M.call 347 [a0, (.int .i64 1), (.int .i64 a1), v6] p0.2).bind fun p7 =>
 (nilc a0).bind fun v8 =>
 (ptrAt v8 0).bind fun v9 =>
 (p7.2.ld1 v9).bind fun v10 =>
 (indexAV 1 v10 (.int .i64 a1)).bind fun v11 =>
 (p7.2.ld1 v11).bind fun v12 =>
 some (v12, p7.2))

theorem mem_Mem_Load_eq (M : Env) (a0 : V) (a1 : Int) (h : H) : evalF M F.mem_Mem_Load [a0, (.int .i64 a1)] h = mem_Mem_Load M a0 a1 h := by kernel_rfl

end Wm.S
end

section
/- PRINTED by my tool (wip/wm/tool/Gen.lean): what a function comes to, stretch by stretch. -/
namespace Wm.S
open Wm
set_option maxRecDepth 100000
set_option linter.unusedVariables false


end Wm.S
end

section
/- PRINTED by my tool (wip/wm/tool/Gen.lean): what a function comes to, stretch by stretch. -/
namespace Wm.S
open Wm
set_option maxRecDepth 100000
set_option linter.unusedVariables false


def mem_Mem_Swap (M : Env) (a0 : V) (a1 : Int) (a2 : Int) (a3 : Int) (h : H) : Option (V × H) :=
 (M.call 346 [a0, (.int .i64 a1)] h).bind fun p0 =>
 (asB p0.1).bind fun b1 =>
 match (!b1) with
 | true => (
 some ((.bool false), p0.2))
 | false => (
 (nilc a0).bind fun v2 =>
 (ptrAt v2 0).bind fun v3 =>
 (p0.2.ld1 v3).bind fun v4 =>
 (indexAV 1 v4 (.int .i64 a1)).bind fun v5 =>
 (p0.2.ld1 v5).bind fun v6 =>
 (asI .u64 v6).bind fun n7 =>
 match (!decide (n7 = a2)) with
 | true => (
 (M.call 347 [a0, (.int .i64 3), (.int .i64 a1), v6] p0.2).bind fun p8 =>
 (asI .u64 v6).bind fun n9 =>
 some ((.bool (decide (n9 = a2))), p8.2))
 | false => (
 (M.call 347 [a0, (.int .i64 3), (.int .i64 a1), (.int .u64 a3)] p0.2).bind fun p8 =>
 (asI .u64 v6).bind fun n9 =>
 some ((.bool (decide (n9 = a2))), p8.2)))

theorem mem_Mem_Swap_eq (M : Env) (a0 : V) (a1 : Int) (a2 : Int) (a3 : Int) (h : H) : evalF M F.mem_Mem_Swap [a0, (.int .i64 a1), (.int .u64 a2), (.int .u64 a3)] h = mem_Mem_Swap M a0 a1 a2 a3 h := by kernel_rfl

end Wm.S
end

section
/- PRINTED by my tool (wip/wm/tool/Gen.lean): what a function comes to, stretch by stretch. -/
namespace Wm.S
open Wm
set_option maxRecDepth 100000
set_option linter.unusedVariables false


end Wm.S
end

section
/- PRINTED by my tool (wip/wm/tool/Gen.lean): what a function comes to, stretch by stretch. -/
namespace Wm.S
open Wm
set_option maxRecDepth 100000
set_option linter.unusedVariables false


end Wm.S
end

section
/- PRINTED by my tool (wip/wm/tool/Gen.lean): what a function comes to, stretch by stretch. -/
namespace Wm.S
open Wm
set_option maxRecDepth 100000
set_option linter.unusedVariables false

end Wm.S
end

section
/- PRINTED by my tool (wip/wm/tool/Gen.lean): what a function comes to, stretch by stretch. -/
namespace Wm.S
open Wm
set_option maxRecDepth 100000
set_option linter.unusedVariables false


end Wm.S
end

section
/- PRINTED by my tool (wip/wm/tool/Gen.lean): what a function comes to, stretch by stretch. -/
namespace Wm.S
open Wm
set_option maxRecDepth 100000
set_option linter.unusedVariables false


end Wm.S
end

section
/- PRINTED by my tool (wip/wm/tool/Gen.lean): what a function comes to, stretch by stretch. -/
namespace Wm.S
open Wm
set_option maxRecDepth 100000
set_option linter.unusedVariables false

end Wm.S
end

section
/- PRINTED by my tool (wip/wm/tool/Gen.lean): what a function comes to, stretch by stretch. -/
namespace Wm.S
open Wm
set_option maxRecDepth 100000
set_option linter.unusedVariables false


end Wm.S
end

section
/- PRINTED by my tool (wip/wm/tool/Gen.lean): what a function comes to, stretch by stretch. -/
namespace Wm.S
open Wm
set_option maxRecDepth 100000
set_option linter.unusedVariables false


end Wm.S
end

section
/- PRINTED by my tool (wip/wm/tool/Gen.lean): what a function comes to, stretch by stretch. -/
namespace Wm.S
open Wm
set_option maxRecDepth 100000
set_option linter.unusedVariables false


end Wm.S
end

section
/- PRINTED by my tool (wip/wm/tool/Gen.lean): what a function comes to, stretch by stretch. -/
namespace Wm.S
open Wm
set_option maxRecDepth 100000
set_option linter.unusedVariables false


end Wm.S
end

section
/- PRINTED by my tool (wip/wm/tool/Gen.lean): what a function comes to, stretch by stretch. -/
namespace Wm.S
open Wm
set_option maxRecDepth 100000
set_option linter.unusedVariables false


end Wm.S
end

section
/- PRINTED by my tool (wip/wm/tool/Gen.lean): what a function comes to, stretch by stretch. -/
namespace Wm.S
open Wm
set_option maxRecDepth 100000
set_option linter.unusedVariables false


end Wm.S
end

section
/- PRINTED by my tool (wip/wm/tool/Gen.lean): what a function comes to, stretch by stretch. -/
namespace Wm.S
open Wm
set_option maxRecDepth 100000
set_option linter.unusedVariables false


end Wm.S
end

section
/- PRINTED by my tool (wip/wm/tool/Gen.lean): what a function comes to, stretch by stretch. -/
namespace Wm.S
open Wm
set_option maxRecDepth 100000
set_option linter.unusedVariables false


end Wm.S
end

section
/- PRINTED by my tool (wip/wm/tool/Gen.lean): what a function comes to, stretch by stretch. -/
namespace Wm.S
open Wm
set_option maxRecDepth 100000
set_option linter.unusedVariables false


end Wm.S
end

section
/- PRINTED by my tool (wip/wm/tool/Gen.lean): what a function comes to, stretch by stretch. -/
namespace Wm.S
open Wm
set_option maxRecDepth 100000
set_option linter.unusedVariables false


end Wm.S
end

section
/- PRINTED by my tool (wip/wm/tool/Gen.lean): what a function comes to, stretch by stretch. -/
namespace Wm.S
open Wm
set_option maxRecDepth 100000
set_option linter.unusedVariables false


end Wm.S
end

section
/- PRINTED by my tool (wip/wm/tool/Gen.lean): what a function comes to, stretch by stretch. -/
namespace Wm.S
open Wm
set_option maxRecDepth 100000
set_option linter.unusedVariables false


end Wm.S
end

section
/- PRINTED by my tool (wip/wm/tool/Gen.lean): what a function comes to, stretch by stretch. -/
namespace Wm.S
open Wm
set_option maxRecDepth 100000
set_option linter.unusedVariables false


end Wm.S
end

section
/- PRINTED by my tool (wip/wm/tool/Gen.lean): what a function comes to, stretch by stretch. -/
namespace Wm.S
open Wm
set_option maxRecDepth 100000
set_option linter.unusedVariables false


end Wm.S
end

section
/- PRINTED by my tool (wip/wm/tool/Gen.lean): what a function comes to, stretch by stretch. -/
namespace Wm.S
open Wm
set_option maxRecDepth 100000
set_option linter.unusedVariables false


def withyref04_Pack (M : Env) (a0_0 : Int) (a0_1 : Int) (a0_2 : Bool) (a0_3 : Int) (a0_4 : Int) (a0_5 : Int) (h : H) : Option (V × H) :=
 let h0 := h.new (.cells [(.int .i64 a0_0), (.int .i64 a0_1), (.bool a0_2), (.int .i64 a0_3), (.int .i64 a0_4), (.int .i64 a0_5)] .rw)
 (h0.ld1 (.ptr h.next 0)).bind fun v1 =>
 (asIAny v1).bind fun n2 =>
 (h0.ld1 (.ptr h.next 1)).bind fun v3 =>
 (asIAny v3).bind fun n4 =>
 (h0.ld1 (.ptr h.next 3)).bind fun v5 =>
 (asIAny v5).bind fun n6 =>
 (h0.ld1 (.ptr h.next 4)).bind fun v7 =>
 (asIAny v7).bind fun n8 =>
 (h0.ld1 (.ptr h.next 5)).bind fun v9 =>
 (asIAny v9).bind fun n10 =>
 (h0.ld1 (.ptr h.next 2)).bind fun v11 =>
 (asB v11).bind fun b12 =>
 match b12 with
 | true => (
 some ((.int .u64 (wr .u64 ((wr .u64 ((wr .u64 ((wr .u64 ((wr .u64 ((wr .u64 n2) + (wr .u64 (8 * (wr .u64 n4))))) + (wr .u64 (32 * (wr .u64 n6))))) + (wr .u64 (65536 * (wr .u64 n8))))) + (wr .u64 (281474976710656 * (wr .u64 n10))))) + 16))), h0))
 | false => (
 some ((.int .u64 (wr .u64 ((wr .u64 ((wr .u64 ((wr .u64 ((wr .u64 n2) + (wr .u64 (8 * (wr .u64 n4))))) + (wr .u64 (32 * (wr .u64 n6))))) + (wr .u64 (65536 * (wr .u64 n8))))) + (wr .u64 (281474976710656 * (wr .u64 n10)))))), h0))

theorem withyref04_Pack_eq (M : Env) (a0_0 : Int) (a0_1 : Int) (a0_2 : Bool) (a0_3 : Int) (a0_4 : Int) (a0_5 : Int) (h : H) : evalF M F.withyref04_Pack [(.agg [(.int .i64 a0_0), (.int .i64 a0_1), (.bool a0_2), (.int .i64 a0_3), (.int .i64 a0_4), (.int .i64 a0_5)])] h = withyref04_Pack M a0_0 a0_1 a0_2 a0_3 a0_4 a0_5 h := by kernel_rfl

end Wm.S
end

section
/- PRINTED by my tool (wip/wm/tool/Gen.lean): what a function comes to, stretch by stretch. -/
namespace Wm.S
open Wm
set_option maxRecDepth 100000
set_option linter.unusedVariables false


end Wm.S
end

section
/- PRINTED by my tool (wip/wm/tool/Gen.lean): what a function comes to, stretch by stretch. -/
namespace Wm.S
open Wm
set_option maxRecDepth 100000
set_option linter.unusedVariables false


end Wm.S
end

section
/- PRINTED by my tool (wip/wm/tool/Gen.lean): what a function comes to, stretch by stretch. -/
namespace Wm.S
open Wm
set_option maxRecDepth 100000
set_option linter.unusedVariables false


end Wm.S
end

section
/- PRINTED by my tool (wip/wm/tool/Gen.lean): what a function comes to, stretch by stretch. -/
namespace Wm.S
open Wm
set_option maxRecDepth 100000
set_option linter.unusedVariables false


end Wm.S
end

section
/- PRINTED by my tool (wip/wm/tool/Gen.lean): what a function comes to, stretch by stretch. -/
namespace Wm.S
open Wm
set_option maxRecDepth 100000
set_option linter.unusedVariables false


end Wm.S
end

section
/- PRINTED by my tool (wip/wm/tool/Gen.lean): what a function comes to, stretch by stretch. -/
namespace Wm.S
open Wm
set_option maxRecDepth 100000
set_option linter.unusedVariables false


def slices_Clone___uint64_uint64_ (M : Env) (a0 : V) (h : H) : Option (V × H) :=
 (eqV .sl a0 .nilsl).bind fun b0 =>
 match b0 with
 | true => (
 some (.nilsl, h))
 | false => (
 let h1 := h.new (.cells [] .rw)
 (h1.append 1 8 (.sl h.next 0 0 (.ex 0)) a0).bind fun p2 =>
 some (p2.1, p2.2))

theorem slices_Clone___uint64_uint64__eq (M : Env) (a0 : V) (h : H) : evalF M F.slices_Clone___uint64_uint64_ [a0] h = slices_Clone___uint64_uint64_ M a0 h := by kernel_rfl

end Wm.S
end

section
/- PRINTED by my tool (wip/wm/tool/Gen.lean): what a function comes to, stretch by stretch. -/
namespace Wm.S
open Wm
set_option maxRecDepth 100000
set_option linter.unusedVariables false


def mem_Of (M : Env) (a0 : V) (h : H) : Option (V × H) :=
 (lenSl a0).bind fun n0 =>
 match (decide (65536 < ((n0 : Nat) : Int))) with
 | true => (
 some (.nilp, h))
 | false => (
 (M.call 271 [a0] h).bind fun p1 =>
 (fill [.nilsl, (.int .i64 0), (.int .i64 0), (.int .i64 0), (.int .u64 0), (.int .u64 0)] [] [(0, 1, .c p1.1)]).bind fun cs2 =>
 (boxc (.agg cs2)).bind fun cs3 =>
 let h4 := p1.2.new (.cells cs3 .rw)
 some ((.ptr p1.2.next 0), h4))

theorem mem_Of_eq (M : Env) (a0 : V) (h : H) : evalF M F.mem_Of [a0] h = mem_Of M a0 h := by kernel_rfl

end Wm.S
end

section
/- PRINTED by my tool (wip/wm/tool/Gen.lean): what a function comes to, stretch by stretch. -/
namespace Wm.S
open Wm
set_option maxRecDepth 100000
set_option linter.unusedVariables false


def mem_Mem_Words (M : Env) (a0 : V) (h : H) : Option (V × H) :=
 (eqV .ptr a0 .nilp).bind fun b0 =>
 match b0 with
 | true => (
 some (.nilsl, h))
 | false => (
 (nilc a0).bind fun v1 =>
 (ptrAt v1 0).bind fun v2 =>
 (h.ld1 v2).bind fun v3 =>
 (M.call 271 [v3] h).bind fun p4 =>
 some (p4.1, p4.2))

theorem mem_Mem_Words_eq (M : Env) (a0 : V) (h : H) : evalF M F.mem_Mem_Words [a0] h = mem_Mem_Words M a0 h := by kernel_rfl

end Wm.S
end

section
/- PRINTED by my tool (wip/wm/tool/Gen.lean): what a function comes to, stretch by stretch. -/
namespace Wm.S
open Wm
set_option maxRecDepth 100000
set_option linter.unusedVariables false

end Wm.S
end

section
/- PRINTED by my tool (wip/wm/tool/Gen.lean): what a function comes to, stretch by stretch. -/
namespace Wm.S
open Wm
set_option maxRecDepth 100000
set_option linter.unusedVariables false


def field_Book_Born (M : Env) (a0 : V) (a1 : Int) (h : H) : Option (V × H) :=
 (eqV .ptr a0 .nilp).bind fun b0 =>
 match (!b0) with
 | true => (
 (nilc a0).bind fun v1 =>
 (ptrAt v1 1).bind fun v2 =>
 (h.ld1 v2).bind fun v3 =>
 (h.look .int (.int .i64 0) true v3 (.int .i64 a1)).bind fun v4 =>
 match v4 with
 | .tup vs5 => ((vs5[0]?).bind fun v6 =>
 match v4 with
 | .tup vs7 => ((vs7[1]?).bind fun v8 =>
 (asB v8).bind fun b9 =>
 match b9 with
 | true => (
 some (v6, h))
 | false => (
 some ((.int .i64 (-1)), h)))
 | _ => none)
 | _ => none)
 | false => (
 some ((.int .i64 (-1)), h))

theorem field_Book_Born_eq (M : Env) (a0 : V) (a1 : Int) (h : H) : evalF M F.field_Book_Born [a0, (.int .i64 a1)] h = field_Book_Born M a0 a1 h := by kernel_rfl

end Wm.S
end

section
/- PRINTED by my tool (wip/wm/tool/Gen.lean): what a function comes to, stretch by stretch. -/
namespace Wm.S
open Wm
set_option maxRecDepth 100000
set_option linter.unusedVariables false


def field_Book_Turned (M : Env) (a0 : V) (a1 : Int) (h : H) : Option (V × H) :=
 (eqV .ptr a0 .nilp).bind fun b0 =>
 match (!b0) with
 | true => (
 (nilc a0).bind fun v1 =>
 (ptrAt v1 2).bind fun v2 =>
 (h.ld1 v2).bind fun v3 =>
 (h.look .int (.int .i64 0) true v3 (.int .u64 a1)).bind fun v4 =>
 match v4 with
 | .tup vs5 => ((vs5[0]?).bind fun v6 =>
 match v4 with
 | .tup vs7 => ((vs7[1]?).bind fun v8 =>
 (asB v8).bind fun b9 =>
 match b9 with
 | true => (
 some (v6, h))
 | false => (
 some ((.int .i64 (-1)), h)))
 | _ => none)
 | _ => none)
 | false => (
 some ((.int .i64 (-1)), h))

theorem field_Book_Turned_eq (M : Env) (a0 : V) (a1 : Int) (h : H) : evalF M F.field_Book_Turned [a0, (.int .u64 a1)] h = field_Book_Turned M a0 a1 h := by kernel_rfl

end Wm.S
end

section
/- PRINTED by my tool (wip/wm/tool/Gen.lean): what a function comes to, stretch by stretch. -/
namespace Wm.S
open Wm
set_option maxRecDepth 100000
set_option linter.unusedVariables false

end Wm.S
end

section
/- PRINTED by my tool (wip/wm/tool/Gen.lean): what a function comes to, stretch by stretch. -/
namespace Wm.S
open Wm
set_option maxRecDepth 100000
set_option linter.unusedVariables false


end Wm.S
end

section
/- PRINTED by my tool (wip/wm/tool/Gen.lean): what a function comes to, stretch by stretch. -/
namespace Wm.S
open Wm
set_option maxRecDepth 100000
set_option linter.unusedVariables false


end Wm.S
end

section
/- PRINTED by my tool (wip/wm/tool/Gen.lean): what a function comes to, stretch by stretch. -/
namespace Wm.S
open Wm
set_option maxRecDepth 100000
set_option linter.unusedVariables false


def plan_Body (M : Env) (a0_0 : Int) (a0_1 : Int) (a0_2 : Int) (a0_3 : Int) (a0_4 : Int) (a0_5 : Int) (a1 : Int) (a2 : Int) (h : H) : Option (V × H) :=
 let h0 := h.new (.cells [(.int .i64 a0_0), (.int .i64 a0_1), (.int .i64 a0_2), (.int .i64 a0_3), (.int .i64 a0_4), (.int .i64 a0_5)] .rw)
 match (decide (a2 < 0)) with
 | true => (
 some ((.int .i64 (-1)), h0))
 | false => (
 match (decide (8 < a2)) with
 | true => (
 some ((.int .i64 (-1)), h0))
 | false => (
 (h0.ldN 6 (.ptr h.next 0)).bind fun v1 =>
 (M.call 375 [v1, (.int .i64 a1), (.int .i64 (wr .i64 (2 + a2)))] h0).bind fun p2 =>
 some (p2.1, p2.2)))

theorem plan_Body_eq (M : Env) (a0_0 : Int) (a0_1 : Int) (a0_2 : Int) (a0_3 : Int) (a0_4 : Int) (a0_5 : Int) (a1 : Int) (a2 : Int) (h : H) : evalF M F.plan_Body [(.agg [(.int .i64 a0_0), (.int .i64 a0_1), (.int .i64 a0_2), (.int .i64 a0_3), (.int .i64 a0_4), (.int .i64 a0_5)]), (.int .i64 a1), (.int .i64 a2)] h = plan_Body M a0_0 a0_1 a0_2 a0_3 a0_4 a0_5 a1 a2 h := by kernel_rfl

end Wm.S
end

section
/- PRINTED by my tool (wip/wm/tool/Gen.lean): what a function comes to, stretch by stretch. -/
namespace Wm.S
open Wm
set_option maxRecDepth 100000
set_option linter.unusedVariables false


end Wm.S
end

section
/- PRINTED by my tool (wip/wm/tool/Gen.lean): what a function comes to, stretch by stretch. -/
namespace Wm.S
open Wm
set_option maxRecDepth 100000
set_option linter.unusedVariables false


end Wm.S
end

section
/- PRINTED by my tool (wip/wm/tool/Gen.lean): what a function comes to, stretch by stretch. -/
namespace Wm.S
open Wm
set_option maxRecDepth 100000
set_option linter.unusedVariables false


end Wm.S
end

section
/- PRINTED by my tool (wip/wm/tool/Gen.lean): what a function comes to, stretch by stretch. -/
namespace Wm.S
open Wm
set_option maxRecDepth 100000
set_option linter.unusedVariables false


end Wm.S
end

section
/- PRINTED by my tool (wip/wm/tool/Gen.lean): what a function comes to, stretch by stretch. -/
namespace Wm.S
open Wm
set_option maxRecDepth 100000
set_option linter.unusedVariables false


end Wm.S
end

section
/- PRINTED by my tool (wip/wm/tool/Gen.lean): what a function comes to, stretch by stretch. -/
namespace Wm.S
open Wm
set_option maxRecDepth 100000
set_option linter.unusedVariables false


def field_NewStamp (M : Env) (a0_0 : Int) (a0_1 : Int) (a0_2 : Int) (a0_3 : Int) (a0_4 : Int) (a0_5 : Int) (a1 : Int) (a2 : V) (h : H) : Option (V × H) :=
 let h0 := h.new (.cells [(.int .i64 a0_0), (.int .i64 a0_1), (.int .i64 a0_2), (.int .i64 a0_3), (.int .i64 a0_4), (.int .i64 a0_5)] .rw)
 (h0.ldN 6 (.ptr h.next 0)).bind fun v1 =>
 (M.call 261 [v1, (.int .i64 a1)] h0).bind fun p2 =>
 (asI .i64 p2.1).bind fun n3 =>
 match (decide (n3 < 0)) with
 | true => (
 some (.nilp, p2.2))
 | false => (
 (eqV .ptr a2 .nilp).bind fun b4 =>
 match b4 with
 | true => (
 some (.nilp, p2.2))
 | false => (
 (p2.2.ldN 6 (.ptr h.next 0)).bind fun v5 =>
 (fill [(.int .i64 0), (.int .i64 0), (.int .i64 0), (.int .i64 0), (.int .i64 0), (.int .i64 0), .nilp, (.int .i64 0), (.int .i64 0), (.int .u64 0), (.int .i64 0)] [] [(0, 6, .c v5), (6, 1, .c a2), (7, 1, .c (.int .i64 a1))]).bind fun cs6 =>
 (boxc (.agg cs6)).bind fun cs7 =>
 let h8 := p2.2.new (.cells cs7 .rw)
 some ((.ptr p2.2.next 0), h8)))

theorem field_NewStamp_eq (M : Env) (a0_0 : Int) (a0_1 : Int) (a0_2 : Int) (a0_3 : Int) (a0_4 : Int) (a0_5 : Int) (a1 : Int) (a2 : V) (h : H) : evalF M F.field_NewStamp [(.agg [(.int .i64 a0_0), (.int .i64 a0_1), (.int .i64 a0_2), (.int .i64 a0_3), (.int .i64 a0_4), (.int .i64 a0_5)]), (.int .i64 a1), a2] h = field_NewStamp M a0_0 a0_1 a0_2 a0_3 a0_4 a0_5 a1 a2 h := by kernel_rfl

end Wm.S
end

section
/- PRINTED by my tool (wip/wm/tool/Gen.lean): what a function comes to, stretch by stretch. -/
namespace Wm.S
open Wm
set_option maxRecDepth 100000
set_option linter.unusedVariables false


def field_Stamp_Step (M : Env) (a0 : V) (a1 : V) (h : H) : Option (V × H) :=
 (eqV .ptr a0 .nilp).bind fun b0 =>
 match b0 with
 | true => (
 some ((.bool true), h))
 | false => (
 (nilc a0).bind fun v1 =>
 (ptrAt v1 0).bind fun v2 =>
 (h.ldN 6 v2).bind fun v3 =>
 (nilc a0).bind fun v4 =>
 (ptrAt v4 7).bind fun v5 =>
 (h.ld1 v5).bind fun v6 =>
 (M.call 305 [v3, v6, (.int .i64 1)] h).bind fun p7 =>
 (nilc a0).bind fun v8 =>
 (ptrAt v8 8).bind fun v9 =>
 (p7.2.ld1 v9).bind fun v10 =>
 (asI .i64 v10).bind fun n11 =>
 match (decide (n11 = 0)) with
 | true => (
 (nilc a0).bind fun v12 =>
 (ptrAt v12 8).bind fun v13 =>
 (p7.2.st 1 v13 (.int .i64 1)).bind fun h14 =>
 (M.call 266 [a1, p7.1] h14).bind fun p15 =>
 (asI .u64 p15.1).bind fun n16 =>
 match (!decide (n16 = 0)) with
 | true => (
 (nilc a0).bind fun v17 =>
 (ptrAt v17 8).bind fun v18 =>
 (p15.2.st 1 v18 (.int .i64 3)).bind fun h19 =>
 (nilc a0).bind fun v20 =>
 (ptrAt v20 8).bind fun v21 =>
 (h19.ld1 v21).bind fun v22 =>
 (asI .i64 v22).bind fun n23 =>
 some ((.bool (decide (n23 = 3))), h19))
 | false => (
 (nilc a0).bind fun v17 =>
 (ptrAt v17 8).bind fun v18 =>
 (p15.2.ld1 v18).bind fun v19 =>
 (asI .i64 v19).bind fun n20 =>
 some ((.bool (decide (n20 = 3))), p15.2)))
 | false => (
 (asI .i64 v10).bind fun n12 =>
 match (decide (n12 = 1)) with
 | true => (
 (nilc a0).bind fun v13 =>
 (ptrAt v13 6).bind fun v14 =>
 (p7.2.ld1 v14).bind fun v15 =>
 (nilc v15).bind fun v16 =>
 (ptrAt v16 0).bind fun v17 =>
 (p7.2.ld1 v17).bind fun v18 =>
 (M.call 266 [a1, (.int .i64 0)] p7.2).bind fun p19 =>
 match ckB (p19.2.ld1 v17) v18 with
 | true => (
 match ckB (p19.2.ld1 v14) v15 with
 | true => (
 (nilc a0).bind fun v20 =>
 (ptrAt v20 9).bind fun v21 =>
 (p19.2.st 1 v21 p19.1).bind fun h22 =>
 (nilc a0).bind fun v23 =>
 (ptrAt v23 10).bind fun v24 =>
 (h22.st 1 v24 v18).bind fun h25 =>
 (nilc a0).bind fun v26 =>
 (ptrAt v26 8).bind fun v27 =>
 (h25.st 1 v27 (.int .i64 2)).bind fun h28 =>
 (nilc a0).bind fun v29 =>
 (ptrAt v29 8).bind fun v30 =>
 (h28.ld1 v30).bind fun v31 =>
 (asI .i64 v31).bind fun n32 =>
 some ((.bool (decide (n32 = 3))), h28))
 | false => none)
 | false => none)
 | false => (
 (asI .i64 v10).bind fun n13 =>
 match (decide (n13 = 2)) with
 | true => (
 (nilc a0).bind fun v14 =>
 (ptrAt v14 9).bind fun v15 =>
 (p7.2.ld1 v15).bind fun v16 =>
 (M.call 269 [a1, p7.1, (.int .u64 0), v16] p7.2).bind fun p17 =>
 (asB p17.1).bind fun b18 =>
 match b18 with
 | true => (
 (nilc a0).bind fun v19 =>
 (ptrAt v19 6).bind fun v20 =>
 (p17.2.ld1 v20).bind fun v21 =>
 (nilc v21).bind fun v22 =>
 (ptrAt v22 1).bind fun v23 =>
 (p17.2.ld1 v23).bind fun v24 =>
 (nilc a0).bind fun v25 =>
 (ptrAt v25 7).bind fun v26 =>
 (p17.2.ld1 v26).bind fun v27 =>
 (nilc a0).bind fun v28 =>
 (ptrAt v28 10).bind fun v29 =>
 (p17.2.ld1 v29).bind fun v30 =>
 (p17.2.mapSet .int v24 v27 v30).bind fun h31 =>
 (nilc a0).bind fun v32 =>
 (ptrAt v32 8).bind fun v33 =>
 (h31.st 1 v33 (.int .i64 3)).bind fun h34 =>
 (nilc a0).bind fun v35 =>
 (ptrAt v35 8).bind fun v36 =>
 (h34.ld1 v36).bind fun v37 =>
 (asI .i64 v37).bind fun n38 =>
 some ((.bool (decide (n38 = 3))), h34))
 | false => (
 (nilc a0).bind fun v19 =>
 (ptrAt v19 8).bind fun v20 =>
 (p17.2.st 1 v20 (.int .i64 3)).bind fun h21 =>
 (nilc a0).bind fun v22 =>
 (ptrAt v22 8).bind fun v23 =>
 (h21.ld1 v23).bind fun v24 =>
 (asI .i64 v24).bind fun n25 =>
 some ((.bool (decide (n25 = 3))), h21)))
 | false => (
 (nilc a0).bind fun v14 =>
 (ptrAt v14 8).bind fun v15 =>
 (p7.2.ld1 v15).bind fun v16 =>
 (asI .i64 v16).bind fun n17 =>
 some ((.bool (decide (n17 = 3))), p7.2)))))

theorem field_Stamp_Step_eq (M : Env) (a0 : V) (a1 : V) (h : H) : evalF M F.field_Stamp_Step [a0, a1] h = field_Stamp_Step M a0 a1 h := by kernel_rfl

end Wm.S
end

section
/- PRINTED by my tool (wip/wm/tool/Gen.lean): what a function comes to, stretch by stretch. -/
namespace Wm.S
open Wm
set_option maxRecDepth 100000
set_option linter.unusedVariables false


def field_NewTurn (M : Env) (a0_0 : Int) (a0_1 : Int) (a0_2 : Int) (a0_3 : Int) (a0_4 : Int) (a0_5 : Int) (a1 : V) (h : H) : Option (V × H) :=
 let h0 := h.new (.cells [(.int .i64 a0_0), (.int .i64 a0_1), (.int .i64 a0_2), (.int .i64 a0_3), (.int .i64 a0_4), (.int .i64 a0_5)] .rw)
 (h0.ldN 6 (.ptr h.next 0)).bind fun v1 =>
 (M.call 263 [v1] h0).bind fun p2 =>
 (asB p2.1).bind fun b3 =>
 match (!b3) with
 | true => (
 some (.nilp, p2.2))
 | false => (
 (eqV .ptr a1 .nilp).bind fun b4 =>
 match b4 with
 | true => (
 some (.nilp, p2.2))
 | false => (
 (fill [(.int .u64 0), (.int .i64 0), .nilp, (.int .i64 0)] [] [(2, 1, .c a1)]).bind fun cs5 =>
 (boxc (.agg cs5)).bind fun cs6 =>
 let h7 := p2.2.new (.cells cs6 .rw)
 some ((.ptr p2.2.next 0), h7)))

theorem field_NewTurn_eq (M : Env) (a0_0 : Int) (a0_1 : Int) (a0_2 : Int) (a0_3 : Int) (a0_4 : Int) (a0_5 : Int) (a1 : V) (h : H) : evalF M F.field_NewTurn [(.agg [(.int .i64 a0_0), (.int .i64 a0_1), (.int .i64 a0_2), (.int .i64 a0_3), (.int .i64 a0_4), (.int .i64 a0_5)]), a1] h = field_NewTurn M a0_0 a0_1 a0_2 a0_3 a0_4 a0_5 a1 h := by kernel_rfl

end Wm.S
end

section
/- PRINTED by my tool (wip/wm/tool/Gen.lean): what a function comes to, stretch by stretch. -/
namespace Wm.S
open Wm
set_option maxRecDepth 100000
set_option linter.unusedVariables false


def field_Turn_Step (M : Env) (a0 : V) (a1 : V) (h : H) : Option (V × H) :=
 (eqV .ptr a0 .nilp).bind fun b0 =>
 match b0 with
 | true => (
 some ((.bool true), h))
 | false => (
 (nilc a0).bind fun v1 =>
 (ptrAt v1 3).bind fun v2 =>
 (h.ld1 v2).bind fun v3 =>
 (asI .i64 v3).bind fun n4 =>
 match (decide (n4 = 0)) with
 | true => (
 (M.call 266 [a1, (.int .i64 0)] h).bind fun p5 =>
 (nilc a0).bind fun v6 =>
 (ptrAt v6 0).bind fun v7 =>
 (p5.2.st 1 v7 p5.1).bind fun h8 =>
 (nilc a0).bind fun v9 =>
 (ptrAt v9 3).bind fun v10 =>
 (h8.st 1 v10 (.int .i64 1)).bind fun h11 =>
 (nilc a0).bind fun v12 =>
 (ptrAt v12 3).bind fun v13 =>
 (h11.ld1 v13).bind fun v14 =>
 (asI .i64 v14).bind fun n15 =>
 some ((.bool (decide (n15 = 2))), h11))
 | false => (
 (asI .i64 v3).bind fun n5 =>
 match (decide (n5 = 1)) with
 | true => (
 (nilc a0).bind fun v6 =>
 (ptrAt v6 0).bind fun v7 =>
 (h.ld1 v7).bind fun v8 =>
 (nilc a0).bind fun v9 =>
 (ptrAt v9 0).bind fun v10 =>
 (h.ld1 v10).bind fun v11 =>
 (asI .u64 v11).bind fun n12 =>
 (M.call 269 [a1, (.int .i64 0), v8, (.int .u64 (wr .u64 (n12 + 1)))] h).bind fun p13 =>
 (asB p13.1).bind fun b14 =>
 match b14 with
 | true => (
 (nilc a0).bind fun v15 =>
 (ptrAt v15 2).bind fun v16 =>
 (p13.2.ld1 v16).bind fun v17 =>
 (nilc v17).bind fun v18 =>
 (ptrAt v18 2).bind fun v19 =>
 (p13.2.ld1 v19).bind fun v20 =>
 (nilc a0).bind fun v21 =>
 (ptrAt v21 0).bind fun v22 =>
 (p13.2.ld1 v22).bind fun v23 =>
 (nilc a0).bind fun v24 =>
 (ptrAt v24 2).bind fun v25 =>
 (p13.2.ld1 v25).bind fun v26 =>
 (nilc v26).bind fun v27 =>
 (ptrAt v27 0).bind fun v28 =>
 (p13.2.ld1 v28).bind fun v29 =>
 (p13.2.mapSet .int v20 v23 v29).bind fun h30 =>
 (nilc a0).bind fun v31 =>
 (ptrAt v31 2).bind fun v32 =>
 (h30.ld1 v32).bind fun v33 =>
 (nilc a0).bind fun v34 =>
 (ptrAt v34 0).bind fun v35 =>
 (h30.ld1 v35).bind fun v36 =>
 (M.call 153 [v33, v36] h30).bind fun p37 =>
 (nilc a0).bind fun v38 =>
 (ptrAt v38 1).bind fun v39 =>
 (p37.2.st 1 v39 p37.1).bind fun h40 =>
 (nilc a0).bind fun v41 =>
 (ptrAt v41 3).bind fun v42 =>
 (h40.st 1 v42 (.int .i64 2)).bind fun h43 =>
 (nilc a0).bind fun v44 =>
 (ptrAt v44 3).bind fun v45 =>
 (h43.ld1 v45).bind fun v46 =>
 (asI .i64 v46).bind fun n47 =>
 some ((.bool (decide (n47 = 2))), h43))
 | false => (
 (nilc a0).bind fun v15 =>
 (ptrAt v15 2).bind fun v16 =>
 (p13.2.ld1 v16).bind fun v17 =>
 (nilc a0).bind fun v18 =>
 (ptrAt v18 0).bind fun v19 =>
 (p13.2.ld1 v19).bind fun v20 =>
 (M.call 153 [v17, v20] p13.2).bind fun p21 =>
 (nilc a0).bind fun v22 =>
 (ptrAt v22 1).bind fun v23 =>
 (p21.2.st 1 v23 p21.1).bind fun h24 =>
 (nilc a0).bind fun v25 =>
 (ptrAt v25 3).bind fun v26 =>
 (h24.st 1 v26 (.int .i64 2)).bind fun h27 =>
 (nilc a0).bind fun v28 =>
 (ptrAt v28 3).bind fun v29 =>
 (h27.ld1 v29).bind fun v30 =>
 (asI .i64 v30).bind fun n31 =>
 some ((.bool (decide (n31 = 2))), h27)))
 | false => (
 (nilc a0).bind fun v6 =>
 (ptrAt v6 3).bind fun v7 =>
 (h.ld1 v7).bind fun v8 =>
 (asI .i64 v8).bind fun n9 =>
 some ((.bool (decide (n9 = 2))), h))))

theorem field_Turn_Step_eq (M : Env) (a0 : V) (a1 : V) (h : H) : evalF M F.field_Turn_Step [a0, a1] h = field_Turn_Step M a0 a1 h := by kernel_rfl

end Wm.S
end

section
/- PRINTED by my tool (wip/wm/tool/Gen.lean): what a function comes to, stretch by stretch. -/
namespace Wm.S
open Wm
set_option maxRecDepth 100000
set_option linter.unusedVariables false


def withylaw10_config (M : Env) (h : H) : Option (V × H) :=
 let h0 := h.new (.cells [(.int .i64 0), (.int .i64 0), (.int .i64 0), (.int .i64 0), (.int .i64 0), (.int .i64 0)] .rw)
 (h0.st 6 (.ptr h.next 0) (.agg [(.int .i64 40), (.int .i64 3), (.int .i64 1), (.int .i64 1), (.int .i64 9), (.int .i64 0)])).bind fun h1 =>
 finV h1 [.cell true 6 (.ptr h.next 0)]

theorem withylaw10_config_eq (M : Env) (h : H) : evalF M F.withylaw10_config [] h = withylaw10_config M h := by kernel_rfl

end Wm.S
end

section
/- PRINTED by my tool (wip/wm/tool/Gen.lean): what a function comes to, stretch by stretch. -/
namespace Wm.S
open Wm
set_option maxRecDepth 100000
set_option linter.unusedVariables false


def withylaw10_at (M : Env) (a0_0 : Int) (a0_1 : Int) (a0_2 : Int) (a0_3 : Int) (a0_4 : Int) (a0_5 : Int) (a1 : ByteArray) (a2 : Int) (a3 : Int) (h : H) : Option (V × H) :=
 let h0 := h.new (.cells [(.int .i64 a0_0), (.int .i64 a0_1), (.int .i64 a0_2), (.int .i64 a0_3), (.int .i64 a0_4), (.int .i64 a0_5)] .rw)
 (h0.ldN 6 (.ptr h.next 0)).bind fun v1 =>
 (M.call 108 [v1, (.agg [(.str a1), (.int .i64 a2), (.int .i64 a3)])] h0).bind fun p2 =>
 some (p2.1, p2.2)

theorem withylaw10_at_eq (M : Env) (a0_0 : Int) (a0_1 : Int) (a0_2 : Int) (a0_3 : Int) (a0_4 : Int) (a0_5 : Int) (a1 : ByteArray) (a2 : Int) (a3 : Int) (h : H) : evalF M F.withylaw10_at [(.agg [(.int .i64 a0_0), (.int .i64 a0_1), (.int .i64 a0_2), (.int .i64 a0_3), (.int .i64 a0_4), (.int .i64 a0_5)]), (.str a1), (.int .i64 a2), (.int .i64 a3)] h = withylaw10_at M a0_0 a0_1 a0_2 a0_3 a0_4 a0_5 a1 a2 a3 h := by kernel_rfl

end Wm.S
end

section
/- PRINTED by my tool (wip/wm/tool/Gen.lean): what a function comes to, stretch by stretch. -/
namespace Wm.S
open Wm
set_option maxRecDepth 100000
set_option linter.unusedVariables false


end Wm.S
end

section
/- PRINTED by my tool (wip/wm/tool/Gen.lean): what a function comes to, stretch by stretch. -/
namespace Wm.S
open Wm
set_option maxRecDepth 100000
set_option linter.unusedVariables false

end Wm.S
end

section
/- PRINTED by my tool (wip/wm/tool/Gen.lean): what a function comes to, stretch by stretch. -/
namespace Wm.S
open Wm
set_option maxRecDepth 100000
set_option linter.unusedVariables false


def field_NewBook (M : Env) (h : H) : Option (V × H) :=
 let h0 := h.new (.map [])
 let h1 := h0.new (.map [])
 let h2 := h1.new (.cells [(.int .i64 0), (.map h.next), (.map h0.next)] .rw)
 some ((.ptr h1.next 0), h2)

theorem field_NewBook_eq (M : Env) (h : H) : evalF M F.field_NewBook [] h = field_NewBook M h := by kernel_rfl

end Wm.S
end

section
/- PRINTED by my tool (wip/wm/tool/Gen.lean): what a function comes to, stretch by stretch. -/
namespace Wm.S
open Wm
set_option maxRecDepth 100000
set_option linter.unusedVariables false


end Wm.S
end

section
/- PRINTED by my tool (wip/wm/tool/Gen.lean): what a function comes to, stretch by stretch. -/
namespace Wm.S
open Wm
set_option maxRecDepth 100000
set_option linter.unusedVariables false


end Wm.S
end

section
/- PRINTED by my tool (wip/wm/tool/Gen.lean): what a function comes to, stretch by stretch. -/
namespace Wm.S
open Wm
set_option maxRecDepth 100000
set_option linter.unusedVariables false


end Wm.S
end

section
/- PRINTED by my tool (wip/wm/tool/Gen.lean): what a function comes to, stretch by stretch. -/
namespace Wm.S
open Wm
set_option maxRecDepth 100000
set_option linter.unusedVariables false


end Wm.S
end

section
/- PRINTED by my tool (wip/wm/tool/Gen.lean): what a function comes to, stretch by stretch. -/
namespace Wm.S
open Wm
set_option maxRecDepth 100000
set_option linter.unusedVariables false

def withylaw10_begin_c1_B (M : Env) : List V → H → Option (AX × List V × H) :=
 fun env h => evalC M F.withylaw10_begin_c1 env h fun x env h => match x with
 | .normal => some (.normal, keepOf [1, 2, 3] 0 env, h)
 | x => some (x, keepOf [1, 2] 0 env, h)

def withylaw10_begin_c1_E (x1 x2 x3 : V) : List V := dd 1 (x1 :: x2 :: x3 :: dd 27 [])
def withylaw10_begin_c1_O (x1 x2 : V) : List V := dd 1 (x1 :: x2 :: dd 28 [])

def withylaw10_begin_K0 (M : Env) : AX → List V → H → Option (V × H) :=
 fun x env h => fin F.withylaw10_begin x env h

def withylaw10_begin_K1 (M : Env) : AX → List V → H → Option (V × H) :=
 fun x env h => match x with | .normal => evalC M F.withylaw10_begin_c0 env h (fun x env h => withylaw10_begin_K0 M x env h) | x => withylaw10_begin_K0 M x env h

def withylaw10_begin_K2 (M : Env) : AX → List V → H → Option (V × H) :=
 fun x env h => match x with | .exit j => (match Nat.beq j 0 with | true => withylaw10_begin_K1 M .normal env h | false => withylaw10_begin_K1 M (.exit j) env h) | x => withylaw10_begin_K1 M x env h

def withylaw10_begin (M : Env) (h : H) : Option (V × H) :=
 (M.call 301 [] h).bind fun p0 =>
 let h1 := p0.2.new (.cells [(.int .i64 0), (.int .i64 0), (.int .i64 0), (.int .i64 0), (.int .i64 0), (.int .i64 0)] .rw)
 (h1.st 6 (.ptr p0.2.next 0) p0.1).bind fun h2 =>
 (h2.ldN 6 (.ptr p0.2.next 0)).bind fun v3 =>
 (M.call 86 [v3] h2).bind fun p4 =>
 (M.loop (withylaw10_begin_c1_B M) (withylaw10_begin_c1_E (.ptr p0.2.next 0) p4.1 (.int .i64 0)) p4.2).bind fun p5 => withylaw10_begin_K2 M p5.1 p5.2.1 p5.2.2

def withylaw10_begin_c1_S (M : Env) (x1 : V) (x2 : V) (x3 : Int) (h : H) : Option (AX × List V × H) :=
 (ptrAt x1 0).bind fun v0 =>
 (h.ld1 v0).bind fun v1 =>
 (asI .i64 v1).bind fun n2 =>
 match (decide (x3 < n2)) with
 | true => (
 let h3 := h.new (.cells [(.int .i64 0), (.int .i64 0), (.bool false), (.int .i64 0), (.int .i64 0), (.int .i64 0)] .rw)
 (h3.st 6 (.ptr h.next 0) (.agg [(.int .i64 1), (.int .i64 0), (.bool false), (.int .i64 3), (.int .i64 0), (.int .i64 0)])).bind fun h4 =>
 match (decide (4 < x3)) with
 | true => (
 (h4.st 6 (.ptr h.next 0) (.agg [(.int .i64 2), (.int .i64 0), (.bool false), (.int .i64 0), (.int .i64 0), (.int .i64 0)])).bind fun h5 =>
 (h5.ldN 6 x1).bind fun v6 =>
 (h5.ldN 6 (.ptr h.next 0)).bind fun v7 =>
 (M.call 131 [v6, (.str ⟨⟨[104, 101, 97, 100, 101, 114]⟩⟩), (.int .i64 x3), (.int .i64 0)] h5).bind fun p8 =>
 match ckB (p8.2.ldN 6 (.ptr h.next 0)) v7 with
 | true => (
 (M.call 111 [v7] p8.2).bind fun p9 =>
 (indexAV 1 x2 p8.1).bind fun v10 =>
 (p9.2.st 1 v10 p9.1).bind fun h11 =>
 some (.normal, (withylaw10_begin_c1_E x1 x2 (.int .i64 (wr .i64 (x3 + 1)))), h11))
 | false => none)
 | false => (
 (h4.ldN 6 x1).bind fun v5 =>
 (h4.ldN 6 (.ptr h.next 0)).bind fun v6 =>
 (M.call 131 [v5, (.str ⟨⟨[104, 101, 97, 100, 101, 114]⟩⟩), (.int .i64 x3), (.int .i64 0)] h4).bind fun p7 =>
 match ckB (p7.2.ldN 6 (.ptr h.next 0)) v6 with
 | true => (
 (M.call 111 [v6] p7.2).bind fun p8 =>
 (indexAV 1 x2 p7.1).bind fun v9 =>
 (p8.2.st 1 v9 p8.1).bind fun h10 =>
 some (.normal, (withylaw10_begin_c1_E x1 x2 (.int .i64 (wr .i64 (x3 + 1)))), h10))
 | false => none))
 | false => (
 some ((.exit 0), (withylaw10_begin_c1_O x1 x2), h))

def withylaw10_begin_c1_e0 (M : Env) (x1 : V) (x2 : V) (h : H) : Option (V × H) :=
 (h.ldN 6 x1).bind fun v0 =>
 (M.call 198 [x2] h).bind fun p1 =>
 match ckB (p1.2.ldN 6 x1) v0 with
 | true => (
 (M.call 148 [] p1.2).bind fun p2 =>
 match ckB (p2.2.ldN 6 x1) v0 with
 | true => (
 (fill [(.int .i64 0), (.int .i64 0), (.int .i64 0), (.int .i64 0), (.int .i64 0), (.int .i64 0), .nilp, .nilp, (.int .i64 0), .nilsl, (.bool false)] [] [(0, 6, .c v0), (6, 1, .c p1.1), (7, 1, .c p2.1), (8, 1, .c (.int .i64 5))]).bind fun cs3 =>
 (boxc (.agg cs3)).bind fun cs4 =>
 let h5 := p2.2.new (.cells cs4 .rw)
 some ((.ptr p2.2.next 0), h5))
 | false => none)
 | false => none

theorem withylaw10_begin_eq (M : Env) (h : H) : evalF M F.withylaw10_begin [] h = withylaw10_begin M h := by kernel_rfl

theorem withylaw10_begin_c1_eq (M : Env) (x1 : V) (x2 : V) (x3 : Int) (h : H) : withylaw10_begin_c1_B M (withylaw10_begin_c1_E x1 x2 (.int .i64 x3)) h = withylaw10_begin_c1_S M x1 x2 x3 h := by kernel_rfl

theorem withylaw10_begin_c1_e0_eq (M : Env) (x1 : V) (x2 : V) (h : H) : withylaw10_begin_K2 M (.exit 0) (withylaw10_begin_c1_O x1 x2) h = withylaw10_begin_c1_e0 M x1 x2 h := by kernel_rfl

end Wm.S
end

section
/- PRINTED by my tool (wip/wm/tool/Gen.lean): what a function comes to, stretch by stretch. -/
namespace Wm.S
open Wm
set_option maxRecDepth 100000
set_option linter.unusedVariables false


end Wm.S
end

section
/- PRINTED by my tool (wip/wm/tool/Gen.lean): what a function comes to, stretch by stretch. -/
namespace Wm.S
open Wm
set_option maxRecDepth 100000
set_option linter.unusedVariables false


end Wm.S
end

section
/- PRINTED by my tool (wip/wm/tool/Gen.lean): what a function comes to, stretch by stretch. -/
namespace Wm.S
open Wm
set_option maxRecDepth 100000
set_option linter.unusedVariables false

end Wm.S
end

section
/- PRINTED by my tool (wip/wm/tool/Gen.lean): what a function comes to, stretch by stretch. -/
namespace Wm.S
open Wm
set_option maxRecDepth 100000
set_option linter.unusedVariables false

end Wm.S
end

section
/- PRINTED by my tool (wip/wm/tool/Gen.lean): what a function comes to, stretch by stretch. -/
namespace Wm.S
open Wm
set_option maxRecDepth 100000
set_option linter.unusedVariables false

end Wm.S
end

section
/- PRINTED by my tool (wip/wm/tool/Gen.lean): what a function comes to, stretch by stretch. -/
namespace Wm.S
open Wm
set_option maxRecDepth 100000
set_option linter.unusedVariables false

def withylaw10_FieldStamps_c1_B (M : Env) : List V → H → Option (AX × List V × H) :=
 fun env h => evalC M F.withylaw10_FieldStamps_c1 env h fun x env h => match x with
 | .normal => some (.normal, keepOf [1, 5, 6, 7, 8] 0 env, h)
 | x => some (x, keepOf [1, 5, 6, 7] 0 env, h)

def withylaw10_FieldStamps_c1_E (x1 x5 x6 x7 x8 : V) : List V := dd 1 (x1 :: dd 3 (x5 :: x6 :: x7 :: x8 :: dd 214 []))
def withylaw10_FieldStamps_c1_O (x1 x5 x6 x7 : V) : List V := dd 1 (x1 :: dd 3 (x5 :: x6 :: x7 :: dd 215 []))

def withylaw10_FieldStamps_c3_B (M : Env) : List V → H → Option (AX × List V × H) :=
 fun env h => evalC M F.withylaw10_FieldStamps_c3 env h fun x env h => match x with
 | .normal => some (.normal, keepOf [1, 5, 6, 7, 9, 10, 11] 0 env, h)
 | x => some (x, keepOf [5, 6, 7, 10] 0 env, h)

def withylaw10_FieldStamps_c3_E (x1 x5 x6 x7 x9 x10 x11 : V) : List V := dd 1 (x1 :: dd 3 (x5 :: x6 :: x7 :: dd 1 (x9 :: x10 :: x11 :: dd 211 [])))
def withylaw10_FieldStamps_c3_O (x5 x6 x7 x10 : V) : List V := dd 5 (x5 :: x6 :: x7 :: dd 2 (x10 :: dd 212 []))

def withylaw10_FieldStamps_c5_B (M : Env) : List V → H → Option (AX × List V × H) :=
 fun env h => evalC M F.withylaw10_FieldStamps_c5 env h fun x env h => some (x, keepOf [1, 5, 6, 7, 9, 10, 11] 0 env, h)

def withylaw10_FieldStamps_c5_E (x1 x5 x6 x7 x9 x10 x11 : V) : List V := dd 1 (x1 :: dd 3 (x5 :: x6 :: x7 :: dd 1 (x9 :: x10 :: x11 :: dd 211 [])))
def withylaw10_FieldStamps_c5_O (x1 x5 x6 x7 x9 x10 x11 : V) : List V := dd 1 (x1 :: dd 3 (x5 :: x6 :: x7 :: dd 1 (x9 :: x10 :: x11 :: dd 211 [])))

def withylaw10_FieldStamps_c8_B (M : Env) : List V → H → Option (AX × List V × H) :=
 fun env h => evalC M F.withylaw10_FieldStamps_c8 env h fun x env h => some (x, keepOf [1, 5, 6, 7, 9, 10, 11, 77] 0 env, h)

def withylaw10_FieldStamps_c8_E (x1 x5 x6 x7 x9 x10 x11 : V) : List V := dd 1 (x1 :: dd 3 (x5 :: x6 :: x7 :: dd 1 (x9 :: x10 :: x11 :: dd 211 [])))
def withylaw10_FieldStamps_c8_O (x1 x5 x6 x7 x9 x10 x11 x77 : V) : List V := dd 1 (x1 :: dd 3 (x5 :: x6 :: x7 :: dd 1 (x9 :: x10 :: x11 :: dd 65 (x77 :: dd 145 []))))

def withylaw10_FieldStamps_c10_B (M : Env) : List V → H → Option (AX × List V × H) :=
 fun env h => evalC M F.withylaw10_FieldStamps_c10 env h fun x env h => match x with
 | .normal => some (.normal, keepOf [5, 6, 7, 10, 12, 13, 14] 0 env, h)
 | x => some (x, keepOf [5, 10, 12, 13] 0 env, h)

def withylaw10_FieldStamps_c10_E (x5 x6 x7 x10 x12 x13 x14 : V) : List V := dd 5 (x5 :: x6 :: x7 :: dd 2 (x10 :: dd 1 (x12 :: x13 :: x14 :: dd 208 [])))
def withylaw10_FieldStamps_c10_O (x5 x10 x12 x13 : V) : List V := dd 5 (x5 :: dd 4 (x10 :: dd 1 (x12 :: x13 :: dd 209 [])))

def withylaw10_FieldStamps_c12_B (M : Env) : List V → H → Option (AX × List V × H) :=
 fun env h => evalC M F.withylaw10_FieldStamps_c12 env h fun x env h => match x with
 | .normal => some (.normal, keepOf [5, 6, 7, 10, 12, 13, 14, 15] 0 env, h)
 | x => some (x, keepOf [5, 6, 7, 10, 12, 13, 14] 0 env, h)

def withylaw10_FieldStamps_c12_E (x5 x6 x7 x10 x12 x13 x14 x15 : V) : List V := dd 5 (x5 :: x6 :: x7 :: dd 2 (x10 :: dd 1 (x12 :: x13 :: x14 :: x15 :: dd 207 [])))
def withylaw10_FieldStamps_c12_O (x5 x6 x7 x10 x12 x13 x14 : V) : List V := dd 5 (x5 :: x6 :: x7 :: dd 2 (x10 :: dd 1 (x12 :: x13 :: x14 :: dd 208 [])))

def withylaw10_FieldStamps_K0 (M : Env) : AX → List V → H → Option (V × H) :=
 fun x env h => fin F.withylaw10_FieldStamps x env h

def withylaw10_FieldStamps_K1 (M : Env) : AX → List V → H → Option (V × H) :=
 fun x env h => match x with | .normal => evalC M F.withylaw10_FieldStamps_c0 env h (fun x env h => withylaw10_FieldStamps_K0 M x env h) | x => withylaw10_FieldStamps_K0 M x env h

def withylaw10_FieldStamps_K2 (M : Env) : AX → List V → H → Option (V × H) :=
 fun x env h => match x with | .exit j => (match Nat.beq j 0 with | true => withylaw10_FieldStamps_K1 M .normal env h | false => withylaw10_FieldStamps_K1 M (.exit j) env h) | x => withylaw10_FieldStamps_K1 M x env h

def withylaw10_FieldStamps_K3 (M : Env) : AX → List V → H → Option (V × H) :=
 fun x env h => match x with | .normal => evalC M F.withylaw10_FieldStamps_c2 env h (fun x env h => withylaw10_FieldStamps_K0 M x env h) | x => withylaw10_FieldStamps_K0 M x env h

def withylaw10_FieldStamps_K4 (M : Env) : AX → List V → H → Option (V × H) :=
 fun x env h => match x with | .exit j => (match Nat.beq j 2 with | true => withylaw10_FieldStamps_K3 M .normal env h | false => withylaw10_FieldStamps_K3 M (.exit j) env h) | x => withylaw10_FieldStamps_K3 M x env h

def withylaw10_FieldStamps_K5 (M : Env) : AX → List V → H → Option (AX × List V × H) :=
 fun x env h => match x with | .normal => some (.normal, keepOf [1, 5, 6, 7, 9, 10, 11] 0 env, h) | x => some (x, keepOf [5, 6, 7, 10] 0 env, h)

def withylaw10_FieldStamps_K6 (M : Env) : AX → List V → H → Option (AX × List V × H) :=
 fun x env h => match x with | .normal => evalC M F.withylaw10_FieldStamps_c4 env h (fun x env h => withylaw10_FieldStamps_K5 M x env h) | x => withylaw10_FieldStamps_K5 M x env h

def withylaw10_FieldStamps_K7 (M : Env) : AX → List V → H → Option (V × H) :=
 fun x env h => match x with | .normal => evalC M F.withylaw10_FieldStamps_c9 env h (fun x env h => withylaw10_FieldStamps_K0 M x env h) | x => withylaw10_FieldStamps_K0 M x env h

def withylaw10_FieldStamps_K8 (M : Env) : AX → List V → H → Option (V × H) :=
 fun x env h => match x with | .exit j => (match Nat.beq j 5 with | true => withylaw10_FieldStamps_K7 M .normal env h | false => withylaw10_FieldStamps_K7 M (.exit j) env h) | x => withylaw10_FieldStamps_K7 M x env h

def withylaw10_FieldStamps_K9 (M : Env) : AX → List V → H → Option (AX × List V × H) :=
 fun x env h => match x with | .normal => evalC M F.withylaw10_FieldStamps_c6 env h (fun x env h => withylaw10_FieldStamps_K5 M x env h) | x => withylaw10_FieldStamps_K5 M x env h

def withylaw10_FieldStamps_K10 (M : Env) : AX → List V → H → Option (AX × List V × H) :=
 fun x env h => match x with | .exit j => (match Nat.beq j 3 with | true => withylaw10_FieldStamps_K9 M .normal env h | false => withylaw10_FieldStamps_K9 M (.exit j) env h) | x => withylaw10_FieldStamps_K9 M x env h

def withylaw10_FieldStamps_K11 (M : Env) : AX → List V → H → Option (AX × List V × H) :=
 fun x env h => match x with | .exit j => (match Nat.beq j 4 with | true => withylaw10_FieldStamps_K10 M .normal env h | false => withylaw10_FieldStamps_K10 M (.exit j) env h) | x => withylaw10_FieldStamps_K10 M x env h

def withylaw10_FieldStamps_K12 (M : Env) : AX → List V → H → Option (AX × List V × H) :=
 fun x env h => match x with | .normal => evalC M F.withylaw10_FieldStamps_c7 env h (fun x env h => withylaw10_FieldStamps_K11 M x env h) | x => withylaw10_FieldStamps_K11 M x env h

def withylaw10_FieldStamps_K13 (M : Env) : AX → List V → H → Option (AX × List V × H) :=
 fun x env h => match x with | .normal => some (.normal, keepOf [5, 6, 7, 10, 12, 13, 14] 0 env, h) | x => some (x, keepOf [5, 10, 12, 13] 0 env, h)

def withylaw10_FieldStamps_K14 (M : Env) : AX → List V → H → Option (AX × List V × H) :=
 fun x env h => match x with | .normal => evalC M F.withylaw10_FieldStamps_c11 env h (fun x env h => withylaw10_FieldStamps_K13 M x env h) | x => withylaw10_FieldStamps_K13 M x env h

def withylaw10_FieldStamps_K15 (M : Env) : AX → List V → H → Option (AX × List V × H) :=
 fun x env h => match x with | .exit j => (match Nat.beq j 6 with | true => withylaw10_FieldStamps_K14 M .normal env h | false => withylaw10_FieldStamps_K14 M (.exit j) env h) | x => withylaw10_FieldStamps_K14 M x env h

def withylaw10_FieldStamps_K16 (M : Env) : AX → List V → H → Option (AX × List V × H) :=
 fun x env h => match x with | .exit j => (match Nat.beq j 7 with | true => withylaw10_FieldStamps_K15 M .normal env h | false => withylaw10_FieldStamps_K15 M (.exit j) env h) | x => withylaw10_FieldStamps_K15 M x env h

def withylaw10_FieldStamps (M : Env) (a0 : Int) (a1 : V) (h : H) : Option (V × H) :=
 (M.call 125 [] h).bind fun p0 =>
 (asB p0.1).bind fun b1 =>
 match (!b1) with
 | true => (
 some ((.bool false), p0.2))
 | false => (
 (M.call 126 [] p0.2).bind fun p2 =>
 (M.loop (withylaw10_FieldStamps_c1_B M) (withylaw10_FieldStamps_c1_E a1 p2.1 (.int .i64 (wr .i64 (1 + (wr .i64 (Int.tmod a0 4))))) .nilsl (.int .i64 0)) p2.2).bind fun p3 => withylaw10_FieldStamps_K2 M p3.1 p3.2.1 p3.2.2)

def withylaw10_FieldStamps_c1_S (M : Env) (x1 : V) (x5 : V) (x6 : Int) (x7 : V) (x8 : Int) (h : H) : Option (AX × List V × H) :=
 match (decide (x8 < x6)) with
 | true => (
 (nilc x5).bind fun v0 =>
 (ptrAt v0 0).bind fun v1 =>
 (h.ldN 6 v1).bind fun v2 =>
 (nilc x5).bind fun v3 =>
 (ptrAt v3 7).bind fun v4 =>
 (h.ld1 v4).bind fun v5 =>
 (M.call 151 [v2, (.int .i64 5), v5] h).bind fun p6 =>
 (fill (repl [.nilp] 1) [] [(0, 1, .c p6.1)]).bind fun cs7 =>
 let h8 := p6.2.new (.cells cs7 .rw)
 (h8.append 1 8 x7 (.sl p6.2.next 0 1 (.ex 1))).bind fun p9 =>
 some (.normal, (withylaw10_FieldStamps_c1_E x1 x5 (.int .i64 x6) p9.1 (.int .i64 (wr .i64 (x8 + 1)))), p9.2))
 | false => (
 some ((.exit 0), (withylaw10_FieldStamps_c1_O x1 x5 (.int .i64 x6) x7), h))

def withylaw10_FieldStamps_c1_e0 (M : Env) (x1 : V) (x5 : V) (x6 : Int) (x7 : V) (h : H) : Option (V × H) :=
 (nilc x5).bind fun v0 =>
 (ptrAt v0 0).bind fun v1 =>
 (h.ldN 6 v1).bind fun v2 =>
 (nilc x5).bind fun v3 =>
 (ptrAt v3 7).bind fun v4 =>
 (h.ld1 v4).bind fun v5 =>
 (M.call 144 [v2, v5] h).bind fun p6 =>
 let h7 := p6.2.new (.cells [(.int .u64 1)] .rw)
 (M.loop (withylaw10_FieldStamps_c3_B M) (withylaw10_FieldStamps_c3_E x1 x5 (.int .i64 x6) x7 p6.1 (.sl p6.2.next 0 1 (.ex 1)) (.int .i64 0)) h7).bind fun p8 => withylaw10_FieldStamps_K4 M p8.1 p8.2.1 p8.2.2

def withylaw10_FieldStamps_c3_S (M : Env) (x1 : V) (x5 : V) (x6 : Int) (x7 : V) (x9 : V) (x10 : V) (x11 : Int) (h : H) : Option (AX × List V × H) :=
 (withylaw10_FieldStamps_c5_B M (withylaw10_FieldStamps_c5_E x1 x5 (.int .i64 x6) x7 x9 x10 (.int .i64 x11)) h).bind fun p0 => withylaw10_FieldStamps_K6 M p0.1 p0.2.1 p0.2.2

def withylaw10_FieldStamps_c3_e2 (M : Env) (x5 : V) (x6 : Int) (x7 : V) (x10 : V) (h : H) : Option (V × H) :=
 (nilc x5).bind fun v0 =>
 (ptrAt v0 6).bind fun v1 =>
 (h.ld1 v1).bind fun v2 =>
 (nilc x5).bind fun v3 =>
 (ptrAt v3 0).bind fun v4 =>
 (h.ldN 6 v4).bind fun v5 =>
 (M.call 94 [v2] h).bind fun p6 =>
 match ckB (p6.2.ldN 6 v4) v5 with
 | true => (
 (M.call 131 [v5, (.str ⟨⟨[98, 111, 100, 121]⟩⟩), (.int .i64 5), (.int .i64 1)] p6.2).bind fun p7 =>
 (indexAV 1 p6.1 p7.1).bind fun v8 =>
 (p7.2.ld1 v8).bind fun v9 =>
 (nilc x5).bind fun v10 =>
 (ptrAt v10 7).bind fun v11 =>
 (p7.2.ld1 v11).bind fun v12 =>
 (M.call 152 [v12, (.int .i64 5)] p7.2).bind fun p13 =>
 (asI .u64 v9).bind fun n14 =>
 match (decide (n14 = 0)) with
 | true => (
 (asI .i64 p13.1).bind fun n15 =>
 match (decide (n15 = (-1))) with
 | true => (
 (nilc x5).bind fun v16 =>
 (ptrAt v16 7).bind fun v17 =>
 (p13.2.ld1 v17).bind fun v18 =>
 (M.call 152 [v18, (.int .i64 6)] p13.2).bind fun p19 =>
 (asI .i64 p19.1).bind fun n20 =>
 match (decide (n20 = (-1))) with
 | true => (
 (M.call 125 [] p19.2).bind fun p21 =>
 some (p21.1, p21.2))
 | false => (
 some ((.bool false), p19.2)))
 | false => (
 some ((.bool false), p13.2)))
 | false => (
 (M.loop (withylaw10_FieldStamps_c10_B M) (withylaw10_FieldStamps_c10_E x5 (.int .i64 x6) x7 x10 v9 p13.1 (.int .i64 0)) p13.2).bind fun p15 => withylaw10_FieldStamps_K8 M p15.1 p15.2.1 p15.2.2))
 | false => none

def withylaw10_FieldStamps_c5_S (M : Env) (x1 : V) (x5 : V) (x6 : Int) (x7 : V) (x9 : V) (x10 : V) (x11 : Int) (h : H) : Option (AX × List V × H) :=
 (lenSl x1).bind fun n0 =>
 match (decide (x11 < ((n0 : Nat) : Int))) with
 | true => (
 match (decide (x11 < 100)) with
 | true => (
 some (.normal, (withylaw10_FieldStamps_c5_O x1 x5 (.int .i64 x6) x7 x9 x10 (.int .i64 x11)), h))
 | false => (
 some ((.exit 2), (withylaw10_FieldStamps_c5_O x1 x5 (.int .i64 x6) x7 x9 x10 (.int .i64 x11)), h)))
 | false => (
 some ((.exit 2), (withylaw10_FieldStamps_c5_O x1 x5 (.int .i64 x6) x7 x9 x10 (.int .i64 x11)), h))

def withylaw10_FieldStamps_c5_n (M : Env) (x1 : V) (x5 : V) (x6 : Int) (x7 : V) (x9 : V) (x10 : V) (x11 : Int) (h : H) : Option (AX × List V × H) :=
 (nilc x5).bind fun v0 =>
 (ptrAt v0 7).bind fun v1 =>
 (h.ld1 v1).bind fun v2 =>
 (nilc v2).bind fun v3 =>
 (ptrAt v3 0).bind fun v4 =>
 (h.st 1 v4 (.int .i64 x11)).bind fun h5 =>
 (nilc x5).bind fun v6 =>
 (ptrAt v6 6).bind fun v7 =>
 (h5.ld1 v7).bind fun v8 =>
 (M.call 94 [v8] h5).bind fun p9 =>
 (indexAV 1 p9.1 (.int .i64 0)).bind fun v10 =>
 (p9.2.ld1 v10).bind fun v11 =>
 (fill (repl [(.int .u64 0)] 1) [] [(0, 1, .c v11)]).bind fun cs12 =>
 let h13 := p9.2.new (.cells cs12 .rw)
 (h13.append 1 8 x10 (.sl p9.2.next 0 1 (.ex 1))).bind fun p14 =>
 (withylaw10_FieldStamps_c8_B M (withylaw10_FieldStamps_c8_E x1 x5 (.int .i64 x6) x7 x9 p14.1 (.int .i64 x11)) p14.2).bind fun p15 => withylaw10_FieldStamps_K12 M p15.1 p15.2.1 p15.2.2

def withylaw10_FieldStamps_c5_e2 (M : Env) (x1 : V) (x5 : V) (x6 : Int) (x7 : V) (x9 : V) (x10 : V) (x11 : V) (h : H) : Option (AX × List V × H) :=
 some ((.exit 2), (withylaw10_FieldStamps_c3_O x5 (.int .i64 x6) x7 x10), h)

def withylaw10_FieldStamps_c8_S (M : Env) (x1 : V) (x5 : V) (x6 : Int) (x7 : V) (x9 : V) (x10 : V) (x11 : Int) (h : H) : Option (AX × List V × H) :=
 (indexAV 1 x1 (.int .i64 x11)).bind fun v0 =>
 (h.ld1 v0).bind fun v1 =>
 (asI .i64 v1).bind fun n2 =>
 match (decide (0 ≤ n2)) with
 | true => (
 (indexAV 1 x1 (.int .i64 x11)).bind fun v3 =>
 (h.ld1 v3).bind fun v4 =>
 (asI .i64 v4).bind fun n5 =>
 some (.normal, (withylaw10_FieldStamps_c8_O x1 x5 (.int .i64 x6) x7 x9 x10 (.int .i64 x11) (.bool (decide (n5 < x6)))), h))
 | false => (
 some (.normal, (withylaw10_FieldStamps_c8_O x1 x5 (.int .i64 x6) x7 x9 x10 (.int .i64 x11) (.bool false)), h))

def withylaw10_FieldStamps_c8_n (M : Env) (x1 : V) (x5 : V) (x6 : Int) (x7 : V) (x9 : V) (x10 : V) (x11 : Int) (x77 : Bool) (h : H) : Option (AX × List V × H) :=
 match x77 with
 | true => (
 (indexAV 1 x1 (.int .i64 x11)).bind fun v0 =>
 (h.ld1 v0).bind fun v1 =>
 (indexAV 1 x7 v1).bind fun v2 =>
 (h.ld1 v2).bind fun v3 =>
 (nilc x5).bind fun v4 =>
 (ptrAt v4 6).bind fun v5 =>
 (h.ld1 v5).bind fun v6 =>
 (M.call 150 [v3, v6] h).bind fun p7 =>
 some (.normal, (withylaw10_FieldStamps_c3_E x1 x5 (.int .i64 x6) x7 x9 x10 (.int .i64 (wr .i64 (x11 + 1)))), p7.2))
 | false => (
 (indexAV 1 x1 (.int .i64 x11)).bind fun v0 =>
 (h.ld1 v0).bind fun v1 =>
 (asI .i64 v1).bind fun n2 =>
 match (decide (n2 = x6)) with
 | true => (
 (nilc x5).bind fun v3 =>
 (ptrAt v3 6).bind fun v4 =>
 (h.ld1 v4).bind fun v5 =>
 (M.call 145 [x9, v5] h).bind fun p6 =>
 (asB p6.1).bind fun b7 =>
 match b7 with
 | true => (
 (nilc x5).bind fun v8 =>
 (ptrAt v8 0).bind fun v9 =>
 (p6.2.ldN 6 v9).bind fun v10 =>
 (nilc x5).bind fun v11 =>
 (ptrAt v11 7).bind fun v12 =>
 (p6.2.ld1 v12).bind fun v13 =>
 (M.call 144 [v10, v13] p6.2).bind fun p14 =>
 some (.normal, (withylaw10_FieldStamps_c3_E x1 x5 (.int .i64 x6) x7 p14.1 x10 (.int .i64 (wr .i64 (x11 + 1)))), p14.2))
 | false => (
 some (.normal, (withylaw10_FieldStamps_c3_E x1 x5 (.int .i64 x6) x7 x9 x10 (.int .i64 (wr .i64 (x11 + 1)))), p6.2)))
 | false => (
 some (.normal, (withylaw10_FieldStamps_c3_E x1 x5 (.int .i64 x6) x7 x9 x10 (.int .i64 (wr .i64 (x11 + 1)))), h)))

def withylaw10_FieldStamps_c10_S (M : Env) (x5 : V) (x6 : Int) (x7 : V) (x10 : V) (x12 : Int) (x13 : Int) (x14 : Int) (h : H) : Option (AX × List V × H) :=
 match (decide (x14 < x6)) with
 | true => (
 (M.loop (withylaw10_FieldStamps_c12_B M) (withylaw10_FieldStamps_c12_E x5 (.int .i64 x6) x7 x10 (.int .u64 x12) (.int .i64 x13) (.int .i64 x14) (.int .i64 0)) h).bind fun p0 => withylaw10_FieldStamps_K16 M p0.1 p0.2.1 p0.2.2)
 | false => (
 some ((.exit 5), (withylaw10_FieldStamps_c10_O x5 x10 (.int .u64 x12) (.int .i64 x13)), h))

def withylaw10_FieldStamps_c10_e5 (M : Env) (x5 : V) (x10 : V) (x12 : Int) (x13 : Int) (h : H) : Option (V × H) :=
 match (decide (0 ≤ x13)) with
 | true => (
 (lenSl x10).bind fun n0 =>
 match (decide ((wr .i64 (x13 + 1)) < ((n0 : Nat) : Int))) with
 | true => (
 (indexAV 1 x10 (.int .i64 (wr .i64 (x13 + 1)))).bind fun v1 =>
 (h.ld1 v1).bind fun v2 =>
 (asI .u64 v2).bind fun n3 =>
 match (decide (n3 = x12)) with
 | true => (
 (nilc x5).bind fun v4 =>
 (ptrAt v4 6).bind fun v5 =>
 (h.ld1 v5).bind fun v6 =>
 (nilc x5).bind fun v7 =>
 (ptrAt v7 0).bind fun v8 =>
 (h.ldN 6 v8).bind fun v9 =>
 (M.call 94 [v6] h).bind fun p10 =>
 match ckB (p10.2.ldN 6 v8) v9 with
 | true => (
 (M.call 131 [v9, (.str ⟨⟨[98, 111, 100, 121]⟩⟩), (.int .i64 5), (.int .i64 1)] p10.2).bind fun p11 =>
 (indexAV 1 p10.1 p11.1).bind fun v12 =>
 (p11.2.ld1 v12).bind fun v13 =>
 (asI .u64 v13).bind fun n14 =>
 match (decide (n14 = x12)) with
 | true => (
 (nilc x5).bind fun v15 =>
 (ptrAt v15 7).bind fun v16 =>
 (p11.2.ld1 v16).bind fun v17 =>
 (M.call 152 [v17, (.int .i64 5)] p11.2).bind fun p18 =>
 (asI .i64 p18.1).bind fun n19 =>
 match (decide (n19 = x13)) with
 | true => (
 (M.call 125 [] p18.2).bind fun p20 =>
 some (p20.1, p20.2))
 | false => (
 some ((.bool false), p18.2)))
 | false => (
 some ((.bool false), p11.2)))
 | false => none)
 | false => (
 some ((.bool false), h)))
 | false => (
 some ((.bool false), h)))
 | false => (
 some ((.bool false), h))

def withylaw10_FieldStamps_c12_S (M : Env) (x5 : V) (x6 : Int) (x7 : V) (x10 : V) (x12 : Int) (x13 : Int) (x14 : Int) (x15 : Int) (h : H) : Option (AX × List V × H) :=
 match (decide (x15 < 3)) with
 | true => (
 (indexAV 1 x7 (.int .i64 x14)).bind fun v0 =>
 (h.ld1 v0).bind fun v1 =>
 (nilc x5).bind fun v2 =>
 (ptrAt v2 6).bind fun v3 =>
 (h.ld1 v3).bind fun v4 =>
 (M.call 150 [v1, v4] h).bind fun p5 =>
 some (.normal, (withylaw10_FieldStamps_c12_E x5 (.int .i64 x6) x7 x10 (.int .u64 x12) (.int .i64 x13) (.int .i64 x14) (.int .i64 (wr .i64 (x15 + 1)))), p5.2))
 | false => (
 some ((.exit 7), (withylaw10_FieldStamps_c12_O x5 (.int .i64 x6) x7 x10 (.int .u64 x12) (.int .i64 x13) (.int .i64 x14)), h))

def withylaw10_FieldStamps_c12_e7 (M : Env) (x5 : V) (x6 : Int) (x7 : V) (x10 : V) (x12 : Int) (x13 : Int) (x14 : Int) (h : H) : Option (AX × List V × H) :=
 some (.normal, (withylaw10_FieldStamps_c10_E x5 (.int .i64 x6) x7 x10 (.int .u64 x12) (.int .i64 x13) (.int .i64 (wr .i64 (x14 + 1)))), h)

theorem withylaw10_FieldStamps_eq (M : Env) (a0 : Int) (a1 : V) (h : H) : evalF M F.withylaw10_FieldStamps [(.int .u8 a0), a1] h = withylaw10_FieldStamps M a0 a1 h := by kernel_rfl

theorem withylaw10_FieldStamps_c1_eq (M : Env) (x1 : V) (x5 : V) (x6 : Int) (x7 : V) (x8 : Int) (h : H) : withylaw10_FieldStamps_c1_B M (withylaw10_FieldStamps_c1_E x1 x5 (.int .i64 x6) x7 (.int .i64 x8)) h = withylaw10_FieldStamps_c1_S M x1 x5 x6 x7 x8 h := by kernel_rfl

theorem withylaw10_FieldStamps_c1_e0_eq (M : Env) (x1 : V) (x5 : V) (x6 : Int) (x7 : V) (h : H) : withylaw10_FieldStamps_K2 M (.exit 0) (withylaw10_FieldStamps_c1_O x1 x5 (.int .i64 x6) x7) h = withylaw10_FieldStamps_c1_e0 M x1 x5 x6 x7 h := by kernel_rfl

theorem withylaw10_FieldStamps_c3_eq (M : Env) (x1 : V) (x5 : V) (x6 : Int) (x7 : V) (x9 : V) (x10 : V) (x11 : Int) (h : H) : withylaw10_FieldStamps_c3_B M (withylaw10_FieldStamps_c3_E x1 x5 (.int .i64 x6) x7 x9 x10 (.int .i64 x11)) h = withylaw10_FieldStamps_c3_S M x1 x5 x6 x7 x9 x10 x11 h := by kernel_rfl

theorem withylaw10_FieldStamps_c3_e2_eq (M : Env) (x5 : V) (x6 : Int) (x7 : V) (x10 : V) (h : H) : withylaw10_FieldStamps_K4 M (.exit 2) (withylaw10_FieldStamps_c3_O x5 (.int .i64 x6) x7 x10) h = withylaw10_FieldStamps_c3_e2 M x5 x6 x7 x10 h := by kernel_rfl

theorem withylaw10_FieldStamps_c5_eq (M : Env) (x1 : V) (x5 : V) (x6 : Int) (x7 : V) (x9 : V) (x10 : V) (x11 : Int) (h : H) : withylaw10_FieldStamps_c5_B M (withylaw10_FieldStamps_c5_E x1 x5 (.int .i64 x6) x7 x9 x10 (.int .i64 x11)) h = withylaw10_FieldStamps_c5_S M x1 x5 x6 x7 x9 x10 x11 h := by kernel_rfl

theorem withylaw10_FieldStamps_c5_n_eq (M : Env) (x1 : V) (x5 : V) (x6 : Int) (x7 : V) (x9 : V) (x10 : V) (x11 : Int) (h : H) : withylaw10_FieldStamps_K6 M .normal (withylaw10_FieldStamps_c5_O x1 x5 (.int .i64 x6) x7 x9 x10 (.int .i64 x11)) h = withylaw10_FieldStamps_c5_n M x1 x5 x6 x7 x9 x10 x11 h := by kernel_rfl

theorem withylaw10_FieldStamps_c5_e2_eq (M : Env) (x1 : V) (x5 : V) (x6 : Int) (x7 : V) (x9 : V) (x10 : V) (x11 : V) (h : H) : withylaw10_FieldStamps_K6 M (.exit 2) (withylaw10_FieldStamps_c5_O x1 x5 (.int .i64 x6) x7 x9 x10 x11) h = withylaw10_FieldStamps_c5_e2 M x1 x5 x6 x7 x9 x10 x11 h := by kernel_rfl

theorem withylaw10_FieldStamps_c8_eq (M : Env) (x1 : V) (x5 : V) (x6 : Int) (x7 : V) (x9 : V) (x10 : V) (x11 : Int) (h : H) : withylaw10_FieldStamps_c8_B M (withylaw10_FieldStamps_c8_E x1 x5 (.int .i64 x6) x7 x9 x10 (.int .i64 x11)) h = withylaw10_FieldStamps_c8_S M x1 x5 x6 x7 x9 x10 x11 h := by kernel_rfl

theorem withylaw10_FieldStamps_c8_n_eq (M : Env) (x1 : V) (x5 : V) (x6 : Int) (x7 : V) (x9 : V) (x10 : V) (x11 : Int) (x77 : Bool) (h : H) : withylaw10_FieldStamps_K12 M .normal (withylaw10_FieldStamps_c8_O x1 x5 (.int .i64 x6) x7 x9 x10 (.int .i64 x11) (.bool x77)) h = withylaw10_FieldStamps_c8_n M x1 x5 x6 x7 x9 x10 x11 x77 h := by kernel_rfl

theorem withylaw10_FieldStamps_c10_eq (M : Env) (x5 : V) (x6 : Int) (x7 : V) (x10 : V) (x12 : Int) (x13 : Int) (x14 : Int) (h : H) : withylaw10_FieldStamps_c10_B M (withylaw10_FieldStamps_c10_E x5 (.int .i64 x6) x7 x10 (.int .u64 x12) (.int .i64 x13) (.int .i64 x14)) h = withylaw10_FieldStamps_c10_S M x5 x6 x7 x10 x12 x13 x14 h := by kernel_rfl

theorem withylaw10_FieldStamps_c10_e5_eq (M : Env) (x5 : V) (x10 : V) (x12 : Int) (x13 : Int) (h : H) : withylaw10_FieldStamps_K8 M (.exit 5) (withylaw10_FieldStamps_c10_O x5 x10 (.int .u64 x12) (.int .i64 x13)) h = withylaw10_FieldStamps_c10_e5 M x5 x10 x12 x13 h := by kernel_rfl

theorem withylaw10_FieldStamps_c12_eq (M : Env) (x5 : V) (x6 : Int) (x7 : V) (x10 : V) (x12 : Int) (x13 : Int) (x14 : Int) (x15 : Int) (h : H) : withylaw10_FieldStamps_c12_B M (withylaw10_FieldStamps_c12_E x5 (.int .i64 x6) x7 x10 (.int .u64 x12) (.int .i64 x13) (.int .i64 x14) (.int .i64 x15)) h = withylaw10_FieldStamps_c12_S M x5 x6 x7 x10 x12 x13 x14 x15 h := by kernel_rfl

theorem withylaw10_FieldStamps_c12_e7_eq (M : Env) (x5 : V) (x6 : Int) (x7 : V) (x10 : V) (x12 : Int) (x13 : Int) (x14 : Int) (h : H) : withylaw10_FieldStamps_K16 M (.exit 7) (withylaw10_FieldStamps_c12_O x5 (.int .i64 x6) x7 x10 (.int .u64 x12) (.int .i64 x13) (.int .i64 x14)) h = withylaw10_FieldStamps_c12_e7 M x5 x6 x7 x10 x12 x13 x14 h := by kernel_rfl

end Wm.S
end

