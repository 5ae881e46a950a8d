/- PRINTED by my tool: what functions come to, stretch by stretch. -/
import Derived.KernelRfl
import Derived.Test.YtjcppjbepndjcaaWmShal
import Derived.Test.YtjcppjbepndjcaaWmFnsMarkFoundA
set_option linter.all false
section
open Wm
namespace Wm.S
def dd : Nat → List V → List V
  | 0, l => l
  | n + 1, l => .dead :: dd n l
end Wm.S

end
section
/- PRINTED by my tool (wip/wm/tool/Gen.lean): what a function comes to, stretch by stretch. -/
namespace Wm.S
open Wm
set_option maxRecDepth 100000
set_option linter.unusedVariables false


def plan_between (M : Env) (a0 : Int) (a1 : Int) (a2 : Int) (h : H) : Option (V × H) :=
 match (decide (a1 ≤ a0)) with
 | true => (
 some ((.bool (decide (a0 ≤ a2))), h))
 | false => (
 some ((.bool false), h))

theorem plan_between_eq (M : Env) (a0 : Int) (a1 : Int) (a2 : Int) (h : H) : evalF M F.plan_between [(.int .i64 a0), (.int .i64 a1), (.int .i64 a2)] h = plan_between M a0 a1 a2 h := by kernel_rfl

end Wm.S
end

section
/- PRINTED by my tool (wip/wm/tool/Gen.lean): what a function comes to, stretch by stretch. -/
namespace Wm.S
open Wm
set_option maxRecDepth 100000
set_option linter.unusedVariables false


def plan_Right (M : Env) (a0_0 : Int) (a0_1 : Int) (a0_2 : Int) (a0_3 : Int) (a0_4 : Int) (a0_5 : Int) (h : H) : Option (V × H) :=
 let h0 := h.new (.cells [(.int .i64 a0_0), (.int .i64 a0_1), (.int .i64 a0_2), (.int .i64 a0_3), (.int .i64 a0_4), (.int .i64 a0_5)] .rw)
 (h0.ld1 (.ptr h.next 0)).bind fun v1 =>
 (M.call 376 [v1, (.int .i64 1), (.int .i64 64)] h0).bind fun p2 =>
 match p2.1 with
 | .bool true => (
 (p2.2.ld1 (.ptr h.next 1)).bind fun v3 =>
 (M.call 376 [v3, (.int .i64 0), (.int .i64 8)] p2.2).bind fun p4 =>
 match p4.1 with
 | .bool true => (
 (p4.2.ld1 (.ptr h.next 2)).bind fun v5 =>
 (M.call 376 [v5, (.int .i64 1), (.int .i64 8)] p4.2).bind fun p6 =>
 match p6.1 with
 | .bool true => (
 (p6.2.ld1 (.ptr h.next 3)).bind fun v7 =>
 (M.call 376 [v7, (.int .i64 1), (.int .i64 16)] p6.2).bind fun p8 =>
 match p8.1 with
 | .bool true => (
 (p8.2.ld1 (.ptr h.next 4)).bind fun v9 =>
 (M.call 376 [v9, (.int .i64 1), (.int .i64 1048576)] p8.2).bind fun p10 =>
 match p10.1 with
 | .bool true => (
 (p10.2.ld1 (.ptr h.next 5)).bind fun v11 =>
 (M.call 376 [v11, (.int .i64 0), (.int .i64 64)] p10.2).bind fun p12 =>
 some (p12.1, p12.2))
 | .bool false => (
 some ((.bool false), p10.2))
 | .tup [] => (
 (asB p10.1).bind fun b11 =>
 some ((match b11 with | true => (.tup []) | false => (.bool false) : V), p10.2))
 | _ => none)
 | .bool false => (
 some ((.bool false), p8.2))
 | .tup [] => (
 (asB p8.1).bind fun b9 =>
 match (match b9 with | true => (.tup []) | false => (.bool false) : V) with
 | .bool true => (
 (p8.2.ld1 (.ptr h.next 5)).bind fun v10 =>
 (M.call 376 [v10, (.int .i64 0), (.int .i64 64)] p8.2).bind fun p11 =>
 some (p11.1, p11.2))
 | .bool false => (
 some ((.bool false), p8.2))
 | .tup [] => (
 (asB (match b9 with | true => (.tup []) | false => (.bool false) : V)).bind fun b10 =>
 some ((match b10 with | true => (.tup []) | false => (.bool false) : V), p8.2))
 | _ => none)
 | _ => none)
 | .bool false => (
 some ((.bool false), p6.2))
 | .tup [] => (
 (asB p6.1).bind fun b7 =>
 match (match b7 with | true => (.tup []) | false => (.bool false) : V) with
 | .bool true => (
 (p6.2.ld1 (.ptr h.next 4)).bind fun v8 =>
 (M.call 376 [v8, (.int .i64 1), (.int .i64 1048576)] p6.2).bind fun p9 =>
 match p9.1 with
 | .bool true => (
 (p9.2.ld1 (.ptr h.next 5)).bind fun v10 =>
 (M.call 376 [v10, (.int .i64 0), (.int .i64 64)] p9.2).bind fun p11 =>
 some (p11.1, p11.2))
 | .bool false => (
 some ((.bool false), p9.2))
 | .tup [] => (
 (asB p9.1).bind fun b10 =>
 some ((match b10 with | true => (.tup []) | false => (.bool false) : V), p9.2))
 | _ => none)
 | .bool false => (
 some ((.bool false), p6.2))
 | .tup [] => (
 (asB (match b7 with | true => (.tup []) | false => (.bool false) : V)).bind fun b8 =>
 match (match b8 with | true => (.tup []) | false => (.bool false) : V) with
 | .bool true => (
 (p6.2.ld1 (.ptr h.next 5)).bind fun v9 =>
 (M.call 376 [v9, (.int .i64 0), (.int .i64 64)] p6.2).bind fun p10 =>
 some (p10.1, p10.2))
 | .bool false => (
 some ((.bool false), p6.2))
 | .tup [] => (
 (asB (match b8 with | true => (.tup []) | false => (.bool false) : V)).bind fun b9 =>
 some ((match b9 with | true => (.tup []) | false => (.bool false) : V), p6.2))
 | _ => none)
 | _ => none)
 | _ => none)
 | .bool false => (
 some ((.bool false), p4.2))
 | .tup [] => (
 (asB p4.1).bind fun b5 =>
 match (match b5 with | true => (.tup []) | false => (.bool false) : V) with
 | .bool true => (
 (p4.2.ld1 (.ptr h.next 3)).bind fun v6 =>
 (M.call 376 [v6, (.int .i64 1), (.int .i64 16)] p4.2).bind fun p7 =>
 match p7.1 with
 | .bool true => (
 (p7.2.ld1 (.ptr h.next 4)).bind fun v8 =>
 (M.call 376 [v8, (.int .i64 1), (.int .i64 1048576)] p7.2).bind fun p9 =>
 match p9.1 with
 | .bool true => (
 (p9.2.ld1 (.ptr h.next 5)).bind fun v10 =>
 (M.call 376 [v10, (.int .i64 0), (.int .i64 64)] p9.2).bind fun p11 =>
 some (p11.1, p11.2))
 | .bool false => (
 some ((.bool false), p9.2))
 | .tup [] => (
 (asB p9.1).bind fun b10 =>
 some ((match b10 with | true => (.tup []) | false => (.bool false) : V), p9.2))
 | _ => none)
 | .bool false => (
 some ((.bool false), p7.2))
 | .tup [] => (
 (asB p7.1).bind fun b8 =>
 match (match b8 with | true => (.tup []) | false => (.bool false) : V) with
 | .bool true => (
 (p7.2.ld1 (.ptr h.next 5)).bind fun v9 =>
 (M.call 376 [v9, (.int .i64 0), (.int .i64 64)] p7.2).bind fun p10 =>
 some (p10.1, p10.2))
 | .bool false => (
 some ((.bool false), p7.2))
 | .tup [] => (
 (asB (match b8 with | true => (.tup []) | false => (.bool false) : V)).bind fun b9 =>
 some ((match b9 with | true => (.tup []) | false => (.bool false) : V), p7.2))
 | _ => none)
 | _ => none)
 | .bool false => (
 some ((.bool false), p4.2))
 | .tup [] => (
 (asB (match b5 with | true => (.tup []) | false => (.bool false) : V)).bind fun b6 =>
 match (match b6 with | true => (.tup []) | false => (.bool false) : V) with
 | .bool true => (
 (p4.2.ld1 (.ptr h.next 4)).bind fun v7 =>
 (M.call 376 [v7, (.int .i64 1), (.int .i64 1048576)] p4.2).bind fun p8 =>
 match p8.1 with
 | .bool true => (
 (p8.2.ld1 (.ptr h.next 5)).bind fun v9 =>
 (M.call 376 [v9, (.int .i64 0), (.int .i64 64)] p8.2).bind fun p10 =>
 some (p10.1, p10.2))
 | .bool false => (
 some ((.bool false), p8.2))
 | .tup [] => (
 (asB p8.1).bind fun b9 =>
 some ((match b9 with | true => (.tup []) | false => (.bool false) : V), p8.2))
 | _ => none)
 | .bool false => (
 some ((.bool false), p4.2))
 | .tup [] => (
 (asB (match b6 with | true => (.tup []) | false => (.bool false) : V)).bind fun b7 =>
 match (match b7 with | true => (.tup []) | false => (.bool false) : V) with
 | .bool true => (
 (p4.2.ld1 (.ptr h.next 5)).bind fun v8 =>
 (M.call 376 [v8, (.int .i64 0), (.int .i64 64)] p4.2).bind fun p9 =>
 some (p9.1, p9.2))
 | .bool false => (
 some ((.bool false), p4.2))
 | .tup [] => (
 (asB (match b7 with | true => (.tup []) | false => (.bool false) : V)).bind fun b8 =>
 some ((match b8 with | true => (.tup []) | false => (.bool false) : V), p4.2))
 | _ => none)
 | _ => none)
 | _ => none)
 | _ => none)
 | .bool false => (
 some ((.bool false), p2.2))
 | .tup [] => (
 (asB p2.1).bind fun b3 =>
 match (match b3 with | true => (.tup []) | false => (.bool false) : V) with
 | .bool true => (
 (p2.2.ld1 (.ptr h.next 2)).bind fun v4 =>
 (M.call 376 [v4, (.int .i64 1), (.int .i64 8)] p2.2).bind fun p5 =>
 match p5.1 with
 | .bool true => (
 (p5.2.ld1 (.ptr h.next 3)).bind fun v6 =>
 (M.call 376 [v6, (.int .i64 1), (.int .i64 16)] p5.2).bind fun p7 =>
 match p7.1 with
 | .bool true => (
 (p7.2.ld1 (.ptr h.next 4)).bind fun v8 =>
 (M.call 376 [v8, (.int .i64 1), (.int .i64 1048576)] p7.2).bind fun p9 =>
 match p9.1 with
 | .bool true => (
 (p9.2.ld1 (.ptr h.next 5)).bind fun v10 =>
 (M.call 376 [v10, (.int .i64 0), (.int .i64 64)] p9.2).bind fun p11 =>
 some (p11.1, p11.2))
 | .bool false => (
 some ((.bool false), p9.2))
 | .tup [] => (
 (asB p9.1).bind fun b10 =>
 some ((match b10 with | true => (.tup []) | false => (.bool false) : V), p9.2))
 | _ => none)
 | .bool false => (
 some ((.bool false), p7.2))
 | .tup [] => (
 (asB p7.1).bind fun b8 =>
 match (match b8 with | true => (.tup []) | false => (.bool false) : V) with
 | .bool true => (
 (p7.2.ld1 (.ptr h.next 5)).bind fun v9 =>
 (M.call 376 [v9, (.int .i64 0), (.int .i64 64)] p7.2).bind fun p10 =>
 some (p10.1, p10.2))
 | .bool false => (
 some ((.bool false), p7.2))
 | .tup [] => (
 (asB (match b8 with | true => (.tup []) | false => (.bool false) : V)).bind fun b9 =>
 some ((match b9 with | true => (.tup []) | false => (.bool false) : V), p7.2))
 | _ => none)
 | _ => none)
 | .bool false => (
 some ((.bool false), p5.2))
 | .tup [] => (
 (asB p5.1).bind fun b6 =>
 match (match b6 with | true => (.tup []) | false => (.bool false) : V) with
 | .bool true => (
 (p5.2.ld1 (.ptr h.next 4)).bind fun v7 =>
 (M.call 376 [v7, (.int .i64 1), (.int .i64 1048576)] p5.2).bind fun p8 =>
 match p8.1 with
 | .bool true => (
 (p8.2.ld1 (.ptr h.next 5)).bind fun v9 =>
 (M.call 376 [v9, (.int .i64 0), (.int .i64 64)] p8.2).bind fun p10 =>
 some (p10.1, p10.2))
 | .bool false => (
 some ((.bool false), p8.2))
 | .tup [] => (
 (asB p8.1).bind fun b9 =>
 some ((match b9 with | true => (.tup []) | false => (.bool false) : V), p8.2))
 | _ => none)
 | .bool false => (
 some ((.bool false), p5.2))
 | .tup [] => (
 (asB (match b6 with | true => (.tup []) | false => (.bool false) : V)).bind fun b7 =>
 match (match b7 with | true => (.tup []) | false => (.bool false) : V) with
 | .bool true => (
 (p5.2.ld1 (.ptr h.next 5)).bind fun v8 =>
 (M.call 376 [v8, (.int .i64 0), (.int .i64 64)] p5.2).bind fun p9 =>
 some (p9.1, p9.2))
 | .bool false => (
 some ((.bool false), p5.2))
 | .tup [] => (
 (asB (match b7 with | true => (.tup []) | false => (.bool false) : V)).bind fun b8 =>
 some ((match b8 with | true => (.tup []) | false => (.bool false) : V), p5.2))
 | _ => none)
 | _ => none)
 | _ => none)
 | .bool false => (
 some ((.bool false), p2.2))
 | .tup [] => (
 (asB (match b3 with | true => (.tup []) | false => (.bool false) : V)).bind fun b4 =>
 match (match b4 with | true => (.tup []) | false => (.bool false) : V) with
 | .bool true => (
 (p2.2.ld1 (.ptr h.next 3)).bind fun v5 =>
 (M.call 376 [v5, (.int .i64 1), (.int .i64 16)] p2.2).bind fun p6 =>
 match p6.1 with
 | .bool true => (
 (p6.2.ld1 (.ptr h.next 4)).bind fun v7 =>
 (M.call 376 [v7, (.int .i64 1), (.int .i64 1048576)] p6.2).bind fun p8 =>
 match p8.1 with
 | .bool true => (
 (p8.2.ld1 (.ptr h.next 5)).bind fun v9 =>
 (M.call 376 [v9, (.int .i64 0), (.int .i64 64)] p8.2).bind fun p10 =>
 some (p10.1, p10.2))
 | .bool false => (
 some ((.bool false), p8.2))
 | .tup [] => (
 (asB p8.1).bind fun b9 =>
 some ((match b9 with | true => (.tup []) | false => (.bool false) : V), p8.2))
 | _ => none)
 | .bool false => (
 some ((.bool false), p6.2))
 | .tup [] => (
 (asB p6.1).bind fun b7 =>
 match (match b7 with | true => (.tup []) | false => (.bool false) : V) with
 | .bool true => (
 (p6.2.ld1 (.ptr h.next 5)).bind fun v8 =>
 (M.call 376 [v8, (.int .i64 0), (.int .i64 64)] p6.2).bind fun p9 =>
 some (p9.1, p9.2))
 | .bool false => (
 some ((.bool false), p6.2))
 | .tup [] => (
 (asB (match b7 with | true => (.tup []) | false => (.bool false) : V)).bind fun b8 =>
 some ((match b8 with | true => (.tup []) | false => (.bool false) : V), p6.2))
 | _ => none)
 | _ => none)
 | .bool false => (
 some ((.bool false), p2.2))
 | .tup [] => (
 (asB (match b4 with | true => (.tup []) | false => (.bool false) : V)).bind fun b5 =>
 match (match b5 with | true => (.tup []) | false => (.bool false) : V) with
 | .bool true => (
 (p2.2.ld1 (.ptr h.next 4)).bind fun v6 =>
 (M.call 376 [v6, (.int .i64 1), (.int .i64 1048576)] p2.2).bind fun p7 =>
 match p7.1 with
 | .bool true => (
 (p7.2.ld1 (.ptr h.next 5)).bind fun v8 =>
 (M.call 376 [v8, (.int .i64 0), (.int .i64 64)] p7.2).bind fun p9 =>
 some (p9.1, p9.2))
 | .bool false => (
 some ((.bool false), p7.2))
 | .tup [] => (
 (asB p7.1).bind fun b8 =>
 some ((match b8 with | true => (.tup []) | false => (.bool false) : V), p7.2))
 | _ => none)
 | .bool false => (
 some ((.bool false), p2.2))
 | .tup [] => (
 (asB (match b5 with | true => (.tup []) | false => (.bool false) : V)).bind fun b6 =>
 match (match b6 with | true => (.tup []) | false => (.bool false) : V) with
 | .bool true => (
 (p2.2.ld1 (.ptr h.next 5)).bind fun v7 =>
 (M.call 376 [v7, (.int .i64 0), (.int .i64 64)] p2.2).bind fun p8 =>
 some (p8.1, p8.2))
 | .bool false => (
 some ((.bool false), p2.2))
 | .tup [] => (
 (asB (match b6 with | true => (.tup []) | false => (.bool false) : V)).bind fun b7 =>
 some ((match b7 with | true => (.tup []) | false => (.bool false) : V), p2.2))
 | _ => none)
 | _ => none)
 | _ => none)
 | _ => none)
 | _ => none

theorem plan_Right_eq (M : Env) (a0_0 : Int) (a0_1 : Int) (a0_2 : Int) (a0_3 : Int) (a0_4 : Int) (a0_5 : Int) (h : H) : evalF M F.plan_Right [(.agg [(.int .i64 a0_0), (.int .i64 a0_1), (.int .i64 a0_2), (.int .i64 a0_3), (.int .i64 a0_4), (.int .i64 a0_5)])] h = plan_Right M a0_0 a0_1 a0_2 a0_3 a0_4 a0_5 h := by kernel_rfl

end Wm.S
end

section
/- PRINTED by my tool (wip/wm/tool/Gen.lean): what a function comes to, stretch by stretch. -/
namespace Wm.S
open Wm
set_option maxRecDepth 100000
set_option linter.unusedVariables false


def withyref06_Right (M : Env) (a0_0 : Int) (a0_1 : Int) (a0_2 : Int) (a0_3 : Int) (a0_4 : Int) (a0_5 : Int) (h : H) : Option (V × H) :=
 let h0 := h.new (.cells [(.int .i64 a0_0), (.int .i64 a0_1), (.int .i64 a0_2), (.int .i64 a0_3), (.int .i64 a0_4), (.int .i64 a0_5)] .rw)
 (h0.ld1 (.ptr h.next 0)).bind fun v1 =>
 (asI .i64 v1).bind fun n2 =>
 match (decide (1 ≤ n2)) with
 | true => (
 (h0.ld1 (.ptr h.next 0)).bind fun v3 =>
 (asI .i64 v3).bind fun n4 =>
 match (decide (n4 ≤ 64)) with
 | true => (
 (h0.ld1 (.ptr h.next 1)).bind fun v5 =>
 (asI .i64 v5).bind fun n6 =>
 match (decide (0 ≤ n6)) with
 | true => (
 (h0.ld1 (.ptr h.next 1)).bind fun v7 =>
 (asI .i64 v7).bind fun n8 =>
 match (decide (n8 ≤ 8)) with
 | true => (
 (h0.ld1 (.ptr h.next 2)).bind fun v9 =>
 (asI .i64 v9).bind fun n10 =>
 match (decide (1 ≤ n10)) with
 | true => (
 (h0.ld1 (.ptr h.next 2)).bind fun v11 =>
 (asI .i64 v11).bind fun n12 =>
 match (decide (n12 ≤ 8)) with
 | true => (
 (h0.ld1 (.ptr h.next 3)).bind fun v13 =>
 (asI .i64 v13).bind fun n14 =>
 match (decide (1 ≤ n14)) with
 | true => (
 (h0.ld1 (.ptr h.next 3)).bind fun v15 =>
 (asI .i64 v15).bind fun n16 =>
 match (decide (n16 ≤ 16)) with
 | true => (
 (h0.ld1 (.ptr h.next 4)).bind fun v17 =>
 (asI .i64 v17).bind fun n18 =>
 match (decide (1 ≤ n18)) with
 | true => (
 (h0.ld1 (.ptr h.next 4)).bind fun v19 =>
 (asI .i64 v19).bind fun n20 =>
 match (decide (n20 ≤ 1048576)) with
 | true => (
 (h0.ld1 (.ptr h.next 5)).bind fun v21 =>
 (asI .i64 v21).bind fun n22 =>
 match (decide (0 ≤ n22)) with
 | true => (
 (h0.ld1 (.ptr h.next 5)).bind fun v23 =>
 (asI .i64 v23).bind fun n24 =>
 some ((.bool (decide (n24 ≤ 64))), h0))
 | false => (
 some ((.bool false), h0)))
 | false => (
 some ((.bool false), h0)))
 | false => (
 some ((.bool false), h0)))
 | false => (
 some ((.bool false), h0)))
 | false => (
 some ((.bool false), h0)))
 | false => (
 some ((.bool false), h0)))
 | false => (
 some ((.bool false), h0)))
 | false => (
 some ((.bool false), h0)))
 | false => (
 some ((.bool false), h0)))
 | false => (
 some ((.bool false), h0)))
 | false => (
 some ((.bool false), h0))

theorem withyref06_Right_eq (M : Env) (a0_0 : Int) (a0_1 : Int) (a0_2 : Int) (a0_3 : Int) (a0_4 : Int) (a0_5 : Int) (h : H) : evalF M F.withyref06_Right [(.agg [(.int .i64 a0_0), (.int .i64 a0_1), (.int .i64 a0_2), (.int .i64 a0_3), (.int .i64 a0_4), (.int .i64 a0_5)])] h = withyref06_Right M a0_0 a0_1 a0_2 a0_3 a0_4 a0_5 h := by kernel_rfl

end Wm.S
end

section
/- PRINTED by my tool (wip/wm/tool/Gen.lean): what a function comes to, stretch by stretch. -/
namespace Wm.S
open Wm
set_option maxRecDepth 100000
set_option linter.unusedVariables false


def plan_Header (M : Env) (a0_0 : Int) (a0_1 : Int) (a0_2 : Int) (a0_3 : Int) (a0_4 : Int) (a0_5 : Int) (a1 : Int) (h : H) : Option (V × H) :=
 let h0 := h.new (.cells [(.int .i64 a0_0), (.int .i64 a0_1), (.int .i64 a0_2), (.int .i64 a0_3), (.int .i64 a0_4), (.int .i64 a0_5)] .rw)
 (h0.ldN 6 (.ptr h.next 0)).bind fun v1 =>
 (M.call 375 [v1, (.int .i64 a1), (.int .i64 0)] h0).bind fun p2 =>
 some (p2.1, p2.2)

theorem plan_Header_eq (M : Env) (a0_0 : Int) (a0_1 : Int) (a0_2 : Int) (a0_3 : Int) (a0_4 : Int) (a0_5 : Int) (a1 : Int) (h : H) : evalF M F.plan_Header [(.agg [(.int .i64 a0_0), (.int .i64 a0_1), (.int .i64 a0_2), (.int .i64 a0_3), (.int .i64 a0_4), (.int .i64 a0_5)]), (.int .i64 a1)] h = plan_Header M a0_0 a0_1 a0_2 a0_3 a0_4 a0_5 a1 h := by kernel_rfl

end Wm.S
end

section
/- PRINTED by my tool (wip/wm/tool/Gen.lean): what a function comes to, stretch by stretch. -/
namespace Wm.S
open Wm
set_option maxRecDepth 100000
set_option linter.unusedVariables false


def plan_within (M : Env) (a0_0 : Int) (a0_1 : Int) (a0_2 : Int) (a0_3 : Int) (a0_4 : Int) (a0_5 : Int) (a1 : Int) (a2 : Int) (h : H) : Option (V × H) :=
 let h0 := h.new (.cells [(.int .i64 a0_0), (.int .i64 a0_1), (.int .i64 a0_2), (.int .i64 a0_3), (.int .i64 a0_4), (.int .i64 a0_5)] .rw)
 (h0.ldN 6 (.ptr h.next 0)).bind fun v1 =>
 (M.call 263 [v1] h0).bind fun p2 =>
 (asB p2.1).bind fun b3 =>
 match (!b3) with
 | true => (
 some ((.int .i64 (-1)), p2.2))
 | false => (
 (p2.2.ld1 (.ptr h.next 0)).bind fun v4 =>
 (asI .i64 v4).bind fun n5 =>
 (M.call 376 [(.int .i64 a1), (.int .i64 0), (.int .i64 (wr .i64 (n5 - 1)))] p2.2).bind fun p6 =>
 (asB p6.1).bind fun b7 =>
 match (!b7) with
 | true => (
 some ((.int .i64 (-1)), p6.2))
 | false => (
 (p6.2.ldN 6 (.ptr h.next 0)).bind fun v8 =>
 (M.call 378 [v8] p6.2).bind fun p9 =>
 (asI .i64 p9.1).bind fun n10 =>
 (M.call 376 [(.int .i64 a2), (.int .i64 0), (.int .i64 (wr .i64 (n10 - 1)))] p9.2).bind fun p11 =>
 (asB p11.1).bind fun b12 =>
 match (!b12) with
 | true => (
 some ((.int .i64 (-1)), p11.2))
 | false => (
 (p11.2.ldN 6 (.ptr h.next 0)).bind fun v13 =>
 (p11.2.ldN 6 (.ptr h.next 0)).bind fun v14 =>
 (M.call 377 [v13] p11.2).bind fun p15 =>
 match ckB (p15.2.ldN 6 (.ptr h.next 0)) v14 with
 | true => (
 (M.call 378 [v14] p15.2).bind fun p16 =>
 (asI .i64 p16.1).bind fun n17 =>
 (asI .i64 p15.1).bind fun n18 =>
 some ((.int .i64 (wr .i64 ((wr .i64 (n18 + (wr .i64 (a1 * n17)))) + a2))), p16.2))
 | false => none)))

theorem plan_within_eq (M : Env) (a0_0 : Int) (a0_1 : Int) (a0_2 : Int) (a0_3 : Int) (a0_4 : Int) (a0_5 : Int) (a1 : Int) (a2 : Int) (h : H) : evalF M F.plan_within [(.agg [(.int .i64 a0_0), (.int .i64 a0_1), (.int .i64 a0_2), (.int .i64 a0_3), (.int .i64 a0_4), (.int .i64 a0_5)]), (.int .i64 a1), (.int .i64 a2)] h = plan_within M a0_0 a0_1 a0_2 a0_3 a0_4 a0_5 a1 a2 h := by kernel_rfl

end Wm.S
end

section
/- PRINTED by my tool (wip/wm/tool/Gen.lean): what a function comes to, stretch by stretch. -/
namespace Wm.S
open Wm
set_option maxRecDepth 100000
set_option linter.unusedVariables false


def plan_slots (M : Env) (a0_0 : Int) (a0_1 : Int) (a0_2 : Int) (a0_3 : Int) (a0_4 : Int) (a0_5 : Int) (h : H) : Option (V × H) :=
 let h0 := h.new (.cells [(.int .i64 a0_0), (.int .i64 a0_1), (.int .i64 a0_2), (.int .i64 a0_3), (.int .i64 a0_4), (.int .i64 a0_5)] .rw)
 (h0.ld1 (.ptr h.next 2)).bind fun v1 =>
 (h0.ld1 (.ptr h.next 3)).bind fun v2 =>
 (asI .i64 v2).bind fun n3 =>
 (asI .i64 v1).bind fun n4 =>
 some ((.int .i64 (wr .i64 (4 + (wr .i64 (n4 * (wr .i64 ((wr .i64 (1 + n3)) + 2))))))), h0)

theorem plan_slots_eq (M : Env) (a0_0 : Int) (a0_1 : Int) (a0_2 : Int) (a0_3 : Int) (a0_4 : Int) (a0_5 : Int) (h : H) : evalF M F.plan_slots [(.agg [(.int .i64 a0_0), (.int .i64 a0_1), (.int .i64 a0_2), (.int .i64 a0_3), (.int .i64 a0_4), (.int .i64 a0_5)])] h = plan_slots M a0_0 a0_1 a0_2 a0_3 a0_4 a0_5 h := by kernel_rfl

end Wm.S
end

section
/- PRINTED by my tool (wip/wm/tool/Gen.lean): what a function comes to, stretch by stretch. -/
namespace Wm.S
open Wm
set_option maxRecDepth 100000
set_option linter.unusedVariables false


def plan_room (M : Env) (a0_0 : Int) (a0_1 : Int) (a0_2 : Int) (a0_3 : Int) (a0_4 : Int) (a0_5 : Int) (h : H) : Option (V × H) :=
 let h0 := h.new (.cells [(.int .i64 a0_0), (.int .i64 a0_1), (.int .i64 a0_2), (.int .i64 a0_3), (.int .i64 a0_4), (.int .i64 a0_5)] .rw)
 (h0.ld1 (.ptr h.next 1)).bind fun v1 =>
 (asI .i64 v1).bind fun n2 =>
 some ((.int .i64 (wr .i64 (2 + (max n2 3)))), h0)

theorem plan_room_eq (M : Env) (a0_0 : Int) (a0_1 : Int) (a0_2 : Int) (a0_3 : Int) (a0_4 : Int) (a0_5 : Int) (h : H) : evalF M F.plan_room [(.agg [(.int .i64 a0_0), (.int .i64 a0_1), (.int .i64 a0_2), (.int .i64 a0_3), (.int .i64 a0_4), (.int .i64 a0_5)])] h = plan_room M a0_0 a0_1 a0_2 a0_3 a0_4 a0_5 h := by kernel_rfl

end Wm.S
end

section
/- PRINTED by my tool (wip/wm/tool/Gen.lean): what a function comes to, stretch by stretch. -/
namespace Wm.S
open Wm
set_option maxRecDepth 100000
set_option linter.unusedVariables false


def word_some (M : Env) (a0 : Int) (a1 : Int) (h : H) : Option (V × H) :=
 match (decide (1 ≤ a1)) with
 | true => (
 match (decide (a1 ≤ 64)) with
 | true => (
 match (decide (0 ≤ a0)) with
 | true => (
 some ((.bool (decide (a0 ≤ (wr .i64 (64 - a1))))), h))
 | false => (
 some ((.bool false), h)))
 | false => (
 some ((.bool false), h)))
 | false => (
 some ((.bool false), h))

theorem word_some_eq (M : Env) (a0 : Int) (a1 : Int) (h : H) : evalF M F.word_some [(.int .i64 a0), (.int .i64 a1)] h = word_some M a0 a1 h := by kernel_rfl

end Wm.S
end

section
/- PRINTED by my tool (wip/wm/tool/Gen.lean): what a function comes to, stretch by stretch. -/
namespace Wm.S
open Wm
set_option maxRecDepth 100000
set_option linter.unusedVariables false


def word_mask (M : Env) (a0 : Int) (h : H) : Option (V × H) :=
 (shiftI true .u64 1 a0).bind fun n0 =>
 some ((.int .u64 (wr .u64 (n0 - 1))), h)

theorem word_mask_eq (M : Env) (a0 : Int) (h : H) : evalF M F.word_mask [(.int .i64 a0)] h = word_mask M a0 h := by kernel_rfl

end Wm.S
end

section
/- PRINTED by my tool (wip/wm/tool/Gen.lean): what a function comes to, stretch by stretch. -/
namespace Wm.S
open Wm
set_option maxRecDepth 100000
set_option linter.unusedVariables false


def word_Get (M : Env) (a0 : Int) (a1 : Int) (a2 : Int) (h : H) : Option (V × H) :=
 (M.call 441 [(.int .i64 a1), (.int .i64 a2)] h).bind fun p0 =>
 (asB p0.1).bind fun b1 =>
 match (!b1) with
 | true => (
 some ((.int .u64 0), p0.2))
 | false => (
 (shiftI false .u64 a0 a1).bind fun n2 =>
 (M.call 449 [(.int .i64 a2)] p0.2).bind fun p3 =>
 (asI .u64 p3.1).bind fun n4 =>
 some ((.int .u64 (and64 n2 n4)), p3.2))

theorem word_Get_eq (M : Env) (a0 : Int) (a1 : Int) (a2 : Int) (h : H) : evalF M F.word_Get [(.int .u64 a0), (.int .i64 a1), (.int .i64 a2)] h = word_Get M a0 a1 a2 h := by kernel_rfl

end Wm.S
end

section
/- PRINTED by my tool (wip/wm/tool/Gen.lean): what a function comes to, stretch by stretch. -/
namespace Wm.S
open Wm
set_option maxRecDepth 100000
set_option linter.unusedVariables false

def word_Unpack_c1_B (M : Env) : List V → H → Option (AX × List V × H) :=
 fun env h => evalC M F.word_Unpack_c1 env h fun x env h => match x with
 | .normal => some (.normal, keepOf [0, 6, 7, 10, 11, 12] 0 env, h)
 | x => some (x, keepOf [4, 5, 6] 0 env, h)

def word_Unpack_c1_E (x0 x6 x7 x10 x11 x12 : V) : List V := x0 :: dd 5 (x6 :: x7 :: dd 2 (x10 :: x11 :: x12 :: dd 19 []))
def word_Unpack_c1_O (x4 x5 x6 : V) : List V := dd 4 (x4 :: x5 :: x6 :: dd 25 [])

def word_Unpack_K0 (M : Env) : AX → List V → H → Option (V × H) :=
 fun x env h => fin F.word_Unpack x env h

def word_Unpack_K1 (M : Env) : AX → List V → H → Option (V × H) :=
 fun x env h => match x with | .normal => evalC M F.word_Unpack_c0 env h (fun x env h => word_Unpack_K0 M x env h) | x => word_Unpack_K0 M x env h

def word_Unpack_K2 (M : Env) : AX → List V → H → Option (V × H) :=
 fun x env h => match x with | .exit j => (match Nat.beq j 0 with | true => word_Unpack_K1 M .normal env h | false => word_Unpack_K1 M (.exit j) env h) | x => word_Unpack_K1 M x env h

def word_Unpack (M : Env) (a0 : Int) (a1 : V) (h : H) : Option (V × H) :=
 (lenSl a1).bind fun n0 =>
 (M.loop (word_Unpack_c1_B M) (word_Unpack_c1_E (.int .u64 a0) .nilsl (.int .i64 0) a1 (.int .i64 ((n0 : Nat) : Int)) (.int .i64 0)) h).bind fun p1 => word_Unpack_K2 M p1.1 p1.2.1 p1.2.2

def word_Unpack_c1_S (M : Env) (x0 : Int) (x6 : V) (x7 : Int) (x10 : V) (x11 : Int) (x12 : Int) (h : H) : Option (AX × List V × H) :=
 match (decide (x12 < x11)) with
 | true => (
 (indexAV 1 x10 (.int .i64 x12)).bind fun v0 =>
 (h.ld1 v0).bind fun v1 =>
 (M.call 441 [(.int .i64 x7), v1] h).bind fun p2 =>
 (asB p2.1).bind fun b3 =>
 match (!b3) with
 | true => (
 some (.ret, (word_Unpack_c1_O .nilsl (.bool false) x6), p2.2))
 | false => (
 (M.call 396 [(.int .u64 x0), (.int .i64 x7), v1] p2.2).bind fun p4 =>
 (fill (repl [(.int .u64 0)] 1) [] [(0, 1, .c p4.1)]).bind fun cs5 =>
 let h6 := p4.2.new (.cells cs5 .rw)
 (h6.append 1 8 x6 (.sl p4.2.next 0 1 (.ex 1))).bind fun p7 =>
 (asI .i64 v1).bind fun n8 =>
 some (.normal, (word_Unpack_c1_E (.int .u64 x0) p7.1 (.int .i64 (wr .i64 (x7 + n8))) x10 (.int .i64 x11) (.int .i64 (wr .i64 (x12 + 1)))), p7.2)))
 | false => (
 some ((.exit 0), (word_Unpack_c1_O .dead .dead x6), h))

def word_Unpack_c1_e0 (M : Env) (x4 : V) (x5 : V) (x6 : V) (h : H) : Option (V × H) :=
 some ((.tup [x6, (.bool true)]), h)

theorem word_Unpack_eq (M : Env) (a0 : Int) (a1 : V) (h : H) : evalF M F.word_Unpack [(.int .u64 a0), a1] h = word_Unpack M a0 a1 h := by kernel_rfl

theorem word_Unpack_c1_eq (M : Env) (x0 : Int) (x6 : V) (x7 : Int) (x10 : V) (x11 : Int) (x12 : Int) (h : H) : word_Unpack_c1_B M (word_Unpack_c1_E (.int .u64 x0) x6 (.int .i64 x7) x10 (.int .i64 x11) (.int .i64 x12)) h = word_Unpack_c1_S M x0 x6 x7 x10 x11 x12 h := by kernel_rfl

theorem word_Unpack_c1_e0_eq (M : Env) (x4 : V) (x5 : V) (x6 : V) (h : H) : word_Unpack_K2 M (.exit 0) (word_Unpack_c1_O x4 x5 x6) h = word_Unpack_c1_e0 M x4 x5 x6 h := by kernel_rfl

end Wm.S
end

section
/- PRINTED by my tool (wip/wm/tool/Gen.lean): what a function comes to, stretch by stretch. -/
namespace Wm.S
open Wm
set_option maxRecDepth 100000
set_option linter.unusedVariables false


def head_Unpack (M : Env) (a0 : Int) (h : H) : Option (V × H) :=
 let h0 := h.new (.cells [(.int .i64 0), (.int .i64 0), (.bool false), (.int .i64 0), (.int .i64 0), (.int .i64 0)] .rw)
 let h1 := h0.new (.cells [(.int .i64 3), (.int .i64 1), (.int .i64 1), (.int .i64 4), (.int .i64 7), (.int .i64 32), (.int .i64 16)] .rw)
 (M.call 379 [(.int .u64 a0), (.sl h0.next 0 7 (.ex 7))] h1).bind fun p2 =>
 match p2.1 with
 | .tup vs3 => ((vs3[0]?).bind fun v4 =>
 match p2.1 with
 | .tup vs5 => ((vs5[1]?).bind fun v6 =>
 (lenSl v4).bind fun n7 =>
 match (decide (((n7 : Nat) : Int) < 7)) with
 | true => (
 (p2.2.st 6 (.ptr h.next 0) (.agg [(.int .i64 0), (.int .i64 0), (.bool false), (.int .i64 0), (.int .i64 0), (.int .i64 0)])).bind fun h8 =>
 finV h8 [.cell true 6 (.ptr h.next 0), .v (.bool false)])
 | false => (
 (indexAV 1 v4 (.int .i64 0)).bind fun v8 =>
 (p2.2.ld1 v8).bind fun v9 =>
 (asI .u64 v9).bind fun n10 =>
 match (decide (4 < n10)) with
 | true => (
 (p2.2.st 6 (.ptr h.next 0) (.agg [(.int .i64 0), (.int .i64 0), (.bool false), (.int .i64 0), (.int .i64 0), (.int .i64 0)])).bind fun h11 =>
 finV h11 [.cell true 6 (.ptr h.next 0), .v (.bool false)])
 | false => (
 (indexAV 1 v4 (.int .i64 4)).bind fun v11 =>
 (p2.2.ld1 v11).bind fun v12 =>
 (asI .u64 v12).bind fun n13 =>
 match (!decide (n13 = 0)) with
 | true => (
 (p2.2.st 6 (.ptr h.next 0) (.agg [(.int .i64 0), (.int .i64 0), (.bool false), (.int .i64 0), (.int .i64 0), (.int .i64 0)])).bind fun h14 =>
 finV h14 [.cell true 6 (.ptr h.next 0), .v (.bool false)])
 | false => (
 (indexAV 1 v4 (.int .i64 0)).bind fun v14 =>
 (p2.2.ld1 v14).bind fun v15 =>
 (asIAny v15).bind fun n16 =>
 (indexAV 1 v4 (.int .i64 1)).bind fun v17 =>
 (p2.2.ld1 v17).bind fun v18 =>
 (asIAny v18).bind fun n19 =>
 (indexAV 1 v4 (.int .i64 2)).bind fun v20 =>
 (p2.2.ld1 v20).bind fun v21 =>
 (asI .u64 v21).bind fun n22 =>
 (indexAV 1 v4 (.int .i64 3)).bind fun v23 =>
 (p2.2.ld1 v23).bind fun v24 =>
 (asIAny v24).bind fun n25 =>
 (indexAV 1 v4 (.int .i64 5)).bind fun v26 =>
 (p2.2.ld1 v26).bind fun v27 =>
 (asIAny v27).bind fun n28 =>
 (indexAV 1 v4 (.int .i64 6)).bind fun v29 =>
 (p2.2.ld1 v29).bind fun v30 =>
 (asIAny v30).bind fun n31 =>
 (p2.2.st 6 (.ptr h.next 0) (.agg [(.int .i64 (wr .i64 n16)), (.int .i64 (wr .i64 n19)), (.bool (decide (n22 = 1))), (.int .i64 (wr .i64 n25)), (.int .i64 (wr .i64 n28)), (.int .i64 (wr .i64 n31))])).bind fun h32 =>
 finV h32 [.cell true 6 (.ptr h.next 0), .v (.bool true)]))))
 | _ => none)
 | _ => none

theorem head_Unpack_eq (M : Env) (a0 : Int) (h : H) : evalF M F.head_Unpack [(.int .u64 a0)] h = head_Unpack M a0 h := by kernel_rfl

end Wm.S
end

section
/- PRINTED by my tool (wip/wm/tool/Gen.lean): what a function comes to, stretch by stretch. -/
namespace Wm.S
open Wm
set_option maxRecDepth 100000
set_option linter.unusedVariables false


def withyref04_Unpack (M : Env) (a0 : Int) (h : H) : Option (V × H) :=
 let h0 := h.new (.cells [(.int .i64 0), (.int .i64 0), (.bool false), (.int .i64 0), (.int .i64 0), (.int .i64 0)] .rw)
 let h1 := h0.new (.cells [(.int .i64 0), (.int .i64 0), (.bool false), (.int .i64 0), (.int .i64 0), (.int .i64 0)] .rw)
 (h1.st 6 (.ptr h0.next 0) (.agg [(.int .i64 (wr .i64 (Int.tmod a0 8))), (.int .i64 (wr .i64 (Int.tmod (wr .u64 (Int.tdiv a0 8)) 2))), (.bool (decide ((Int.tmod (wr .u64 (Int.tdiv a0 16)) 2) = 1))), (.int .i64 (wr .i64 (Int.tmod (wr .u64 (Int.tdiv a0 32)) 16))), (.int .i64 (wr .i64 (Int.tmod (wr .u64 (Int.tdiv a0 65536)) 4294967296))), (.int .i64 (wr .i64 (wr .u64 (Int.tdiv a0 281474976710656))))])).bind fun h2 =>
 (h2.ld1 (.ptr h0.next 0)).bind fun v3 =>
 (asI .i64 v3).bind fun n4 =>
 match (decide (4 < n4)) with
 | true => (
 (h2.st 6 (.ptr h.next 0) (.agg [(.int .i64 0), (.int .i64 0), (.bool false), (.int .i64 0), (.int .i64 0), (.int .i64 0)])).bind fun h5 =>
 finV h5 [.cell true 6 (.ptr h.next 0), .v (.bool false)])
 | false => (
 match (!decide ((Int.tmod (wr .u64 (Int.tdiv a0 512)) 128) = 0)) with
 | true => (
 (h2.st 6 (.ptr h.next 0) (.agg [(.int .i64 0), (.int .i64 0), (.bool false), (.int .i64 0), (.int .i64 0), (.int .i64 0)])).bind fun h5 =>
 finV h5 [.cell true 6 (.ptr h.next 0), .v (.bool false)])
 | false => (
 (h2.ldN 6 (.ptr h0.next 0)).bind fun v5 =>
 (h2.st 6 (.ptr h.next 0) v5).bind fun h6 =>
 finV h6 [.cell true 6 (.ptr h.next 0), .v (.bool true)]))

theorem withyref04_Unpack_eq (M : Env) (a0 : Int) (h : H) : evalF M F.withyref04_Unpack [(.int .u64 a0)] h = withyref04_Unpack M a0 h := by kernel_rfl

end Wm.S
end

section
/- PRINTED by my tool (wip/wm/tool/Gen.lean): what a function comes to, stretch by stretch. -/
namespace Wm.S
open Wm
set_option maxRecDepth 100000
set_option linter.unusedVariables false

def withyref06_Words_c1_B (M : Env) : List V → H → Option (AX × List V × H) :=
 fun env h => evalC M F.withyref06_Words_c1 env h fun x env h => match x with
 | .normal => some (.normal, keepOf [1, 3, 4] 0 env, h)
 | x => some (x, keepOf [1, 3] 0 env, h)

def withyref06_Words_c1_E (x1 x3 x4 : V) : List V := dd 1 (x1 :: dd 1 (x3 :: x4 :: dd 78 []))
def withyref06_Words_c1_O (x1 x3 : V) : List V := dd 1 (x1 :: dd 1 (x3 :: dd 79 []))

def withyref06_Words_c3_B (M : Env) : List V → H → Option (AX × List V × H) :=
 fun env h => evalC M F.withyref06_Words_c3 env h fun x env h => match x with
 | .normal => some (.normal, keepOf [1, 3, 5] 0 env, h)
 | x => some (x, keepOf [1, 3] 0 env, h)

def withyref06_Words_c3_E (x1 x3 x5 : V) : List V := dd 1 (x1 :: dd 1 (x3 :: dd 1 (x5 :: dd 77 [])))
def withyref06_Words_c3_O (x1 x3 : V) : List V := dd 1 (x1 :: dd 1 (x3 :: dd 79 []))

def withyref06_Words_c5_B (M : Env) : List V → H → Option (AX × List V × H) :=
 fun env h => evalC M F.withyref06_Words_c5 env h fun x env h => match x with
 | .normal => some (.normal, keepOf [1, 3, 5, 6] 0 env, h)
 | x => some (x, keepOf [1, 3, 5] 0 env, h)

def withyref06_Words_c5_E (x1 x3 x5 x6 : V) : List V := dd 1 (x1 :: dd 1 (x3 :: dd 1 (x5 :: x6 :: dd 76 [])))
def withyref06_Words_c5_O (x1 x3 x5 : V) : List V := dd 1 (x1 :: dd 1 (x3 :: dd 1 (x5 :: dd 77 [])))

def withyref06_Words_c7_B (M : Env) : List V → H → Option (AX × List V × H) :=
 fun env h => evalC M F.withyref06_Words_c7 env h fun x env h => match x with
 | .normal => some (.normal, keepOf [1, 3, 7] 0 env, h)
 | x => some (x, keepOf [1, 3] 0 env, h)

def withyref06_Words_c7_E (x1 x3 x7 : V) : List V := dd 1 (x1 :: dd 1 (x3 :: dd 3 (x7 :: dd 75 [])))
def withyref06_Words_c7_O (x1 x3 : V) : List V := dd 1 (x1 :: dd 1 (x3 :: dd 79 []))

def withyref06_Words_c9_B (M : Env) : List V → H → Option (AX × List V × H) :=
 fun env h => evalC M F.withyref06_Words_c9 env h fun x env h => match x with
 | .normal => some (.normal, keepOf [1, 3, 8] 0 env, h)
 | x => some (x, keepOf [3] 0 env, h)

def withyref06_Words_c9_E (x1 x3 x8 : V) : List V := dd 1 (x1 :: dd 1 (x3 :: dd 4 (x8 :: dd 74 [])))
def withyref06_Words_c9_O (x3 : V) : List V := dd 3 (x3 :: dd 79 [])

def withyref06_Words_c11_B (M : Env) : List V → H → Option (AX × List V × H) :=
 fun env h => evalC M F.withyref06_Words_c11 env h fun x env h => match x with
 | .normal => some (.normal, keepOf [1, 3, 8, 9] 0 env, h)
 | x => some (x, keepOf [1, 3, 8] 0 env, h)

def withyref06_Words_c11_E (x1 x3 x8 x9 : V) : List V := dd 1 (x1 :: dd 1 (x3 :: dd 4 (x8 :: x9 :: dd 73 [])))
def withyref06_Words_c11_O (x1 x3 x8 : V) : List V := dd 1 (x1 :: dd 1 (x3 :: dd 4 (x8 :: dd 74 [])))

def withyref06_Words_K0 (M : Env) : AX → List V → H → Option (V × H) :=
 fun x env h => fin F.withyref06_Words x env h

def withyref06_Words_K1 (M : Env) : AX → List V → H → Option (V × H) :=
 fun x env h => match x with | .normal => evalC M F.withyref06_Words_c0 env h (fun x env h => withyref06_Words_K0 M x env h) | x => withyref06_Words_K0 M x env h

def withyref06_Words_K2 (M : Env) : AX → List V → H → Option (V × H) :=
 fun x env h => match x with | .exit j => (match Nat.beq j 0 with | true => withyref06_Words_K1 M .normal env h | false => withyref06_Words_K1 M (.exit j) env h) | x => withyref06_Words_K1 M x env h

def withyref06_Words_K3 (M : Env) : AX → List V → H → Option (V × H) :=
 fun x env h => match x with | .normal => evalC M F.withyref06_Words_c2 env h (fun x env h => withyref06_Words_K0 M x env h) | x => withyref06_Words_K0 M x env h

def withyref06_Words_K4 (M : Env) : AX → List V → H → Option (V × H) :=
 fun x env h => match x with | .exit j => (match Nat.beq j 2 with | true => withyref06_Words_K3 M .normal env h | false => withyref06_Words_K3 M (.exit j) env h) | x => withyref06_Words_K3 M x env h

def withyref06_Words_K5 (M : Env) : AX → List V → H → Option (AX × List V × H) :=
 fun x env h => match x with | .normal => some (.normal, keepOf [1, 3, 5] 0 env, h) | x => some (x, keepOf [1, 3] 0 env, h)

def withyref06_Words_K6 (M : Env) : AX → List V → H → Option (AX × List V × H) :=
 fun x env h => match x with | .normal => evalC M F.withyref06_Words_c4 env h (fun x env h => withyref06_Words_K5 M x env h) | x => withyref06_Words_K5 M x env h

def withyref06_Words_K7 (M : Env) : AX → List V → H → Option (AX × List V × H) :=
 fun x env h => match x with | .exit j => (match Nat.beq j 3 with | true => withyref06_Words_K6 M .normal env h | false => withyref06_Words_K6 M (.exit j) env h) | x => withyref06_Words_K6 M x env h

def withyref06_Words_K8 (M : Env) : AX → List V → H → Option (AX × List V × H) :=
 fun x env h => match x with | .exit j => (match Nat.beq j 4 with | true => withyref06_Words_K7 M .normal env h | false => withyref06_Words_K7 M (.exit j) env h) | x => withyref06_Words_K7 M x env h

def withyref06_Words_K9 (M : Env) : AX → List V → H → Option (V × H) :=
 fun x env h => match x with | .normal => evalC M F.withyref06_Words_c6 env h (fun x env h => withyref06_Words_K0 M x env h) | x => withyref06_Words_K0 M x env h

def withyref06_Words_K10 (M : Env) : AX → List V → H → Option (V × H) :=
 fun x env h => match x with | .exit j => (match Nat.beq j 6 with | true => withyref06_Words_K9 M .normal env h | false => withyref06_Words_K9 M (.exit j) env h) | x => withyref06_Words_K9 M x env h

def withyref06_Words_K11 (M : Env) : AX → List V → H → Option (V × H) :=
 fun x env h => match x with | .normal => evalC M F.withyref06_Words_c8 env h (fun x env h => withyref06_Words_K0 M x env h) | x => withyref06_Words_K0 M x env h

def withyref06_Words_K12 (M : Env) : AX → List V → H → Option (V × H) :=
 fun x env h => match x with | .exit j => (match Nat.beq j 8 with | true => withyref06_Words_K11 M .normal env h | false => withyref06_Words_K11 M (.exit j) env h) | x => withyref06_Words_K11 M x env h

def withyref06_Words_K13 (M : Env) : AX → List V → H → Option (AX × List V × H) :=
 fun x env h => match x with | .normal => some (.normal, keepOf [1, 3, 8] 0 env, h) | x => some (x, keepOf [3] 0 env, h)

def withyref06_Words_K14 (M : Env) : AX → List V → H → Option (AX × List V × H) :=
 fun x env h => match x with | .normal => evalC M F.withyref06_Words_c10 env h (fun x env h => withyref06_Words_K13 M x env h) | x => withyref06_Words_K13 M x env h

def withyref06_Words_K15 (M : Env) : AX → List V → H → Option (AX × List V × H) :=
 fun x env h => match x with | .exit j => (match Nat.beq j 9 with | true => withyref06_Words_K14 M .normal env h | false => withyref06_Words_K14 M (.exit j) env h) | x => withyref06_Words_K14 M x env h

def withyref06_Words_K16 (M : Env) : AX → List V → H → Option (AX × List V × H) :=
 fun x env h => match x with | .exit j => (match Nat.beq j 10 with | true => withyref06_Words_K15 M .normal env h | false => withyref06_Words_K15 M (.exit j) env h) | x => withyref06_Words_K15 M x env h

def withyref06_Words (M : Env) (a0_0 : Int) (a0_1 : Int) (a0_2 : Int) (a0_3 : Int) (a0_4 : Int) (a0_5 : Int) (h : H) : Option (V × H) :=
 let h0 := h.new (.cells [(.int .i64 a0_0), (.int .i64 a0_1), (.int .i64 a0_2), (.int .i64 a0_3), (.int .i64 a0_4), (.int .i64 a0_5)] .rw)
 let h1 := h0.new (.cells [(.str ⟨⟨[99, 108, 111, 99, 107]⟩⟩), (.int .i64 0), (.int .i64 0), (.str ⟨⟨[101, 112, 111, 99, 104]⟩⟩), (.int .i64 0), (.int .i64 0), (.str ⟨⟨[103, 114, 97, 121, 115]⟩⟩), (.int .i64 0), (.int .i64 0), (.str ⟨⟨[116, 111, 112]⟩⟩), (.int .i64 0), (.int .i64 0)] .rw)
 (M.loop (withyref06_Words_c1_B M) (withyref06_Words_c1_E (.ptr h.next 0) (.sl h0.next 0 4 (.ex 4)) (.int .i64 0)) h1).bind fun p2 => withyref06_Words_K2 M p2.1 p2.2.1 p2.2.2

def withyref06_Words_c1_S (M : Env) (x1 : V) (x3 : V) (x4 : Int) (h : H) : Option (AX × List V × H) :=
 (ptrAt x1 2).bind fun v0 =>
 (h.ld1 v0).bind fun v1 =>
 (asI .i64 v1).bind fun n2 =>
 match (decide (x4 < n2)) with
 | true => (
 let h3 := h.new (.cells [(.str ⟨⟨[112, 105, 110]⟩⟩), (.int .i64 x4), (.int .i64 0)] .rw)
 (h3.append 3 32 x3 (.sl h.next 0 1 (.ex 1))).bind fun p4 =>
 some (.normal, (withyref06_Words_c1_E x1 p4.1 (.int .i64 (wr .i64 (x4 + 1)))), p4.2))
 | false => (
 some ((.exit 0), (withyref06_Words_c1_O x1 x3), h))

def withyref06_Words_c1_e0 (M : Env) (x1 : V) (x3 : V) (h : H) : Option (V × H) :=
 (M.loop (withyref06_Words_c3_B M) (withyref06_Words_c3_E x1 x3 (.int .i64 0)) h).bind fun p0 => withyref06_Words_K4 M p0.1 p0.2.1 p0.2.2

def withyref06_Words_c3_S (M : Env) (x1 : V) (x3 : V) (x5 : Int) (h : H) : Option (AX × List V × H) :=
 (ptrAt x1 2).bind fun v0 =>
 (h.ld1 v0).bind fun v1 =>
 (asI .i64 v1).bind fun n2 =>
 match (decide (x5 < n2)) with
 | true => (
 (M.loop (withyref06_Words_c5_B M) (withyref06_Words_c5_E x1 x3 (.int .i64 x5) (.int .i64 0)) h).bind fun p3 => withyref06_Words_K8 M p3.1 p3.2.1 p3.2.2)
 | false => (
 some ((.exit 2), (withyref06_Words_c3_O x1 x3), h))

def withyref06_Words_c3_e2 (M : Env) (x1 : V) (x3 : V) (h : H) : Option (V × H) :=
 (M.loop (withyref06_Words_c7_B M) (withyref06_Words_c7_E x1 x3 (.int .i64 0)) h).bind fun p0 => withyref06_Words_K10 M p0.1 p0.2.1 p0.2.2

def withyref06_Words_c5_S (M : Env) (x1 : V) (x3 : V) (x5 : Int) (x6 : Int) (h : H) : Option (AX × List V × H) :=
 (ptrAt x1 3).bind fun v0 =>
 (h.ld1 v0).bind fun v1 =>
 (asI .i64 v1).bind fun n2 =>
 match (decide (x6 < n2)) with
 | true => (
 let h3 := h.new (.cells [(.str ⟨⟨[101, 110, 116, 114, 121]⟩⟩), (.int .i64 x5), (.int .i64 x6)] .rw)
 (h3.append 3 32 x3 (.sl h.next 0 1 (.ex 1))).bind fun p4 =>
 some (.normal, (withyref06_Words_c5_E x1 p4.1 (.int .i64 x5) (.int .i64 (wr .i64 (x6 + 1)))), p4.2))
 | false => (
 some ((.exit 4), (withyref06_Words_c5_O x1 x3 (.int .i64 x5)), h))

def withyref06_Words_c5_e4 (M : Env) (x1 : V) (x3 : V) (x5 : Int) (h : H) : Option (AX × List V × H) :=
 some (.normal, (withyref06_Words_c3_E x1 x3 (.int .i64 (wr .i64 (x5 + 1)))), h)

def withyref06_Words_c7_S (M : Env) (x1 : V) (x3 : V) (x7 : Int) (h : H) : Option (AX × List V × H) :=
 (ptrAt x1 2).bind fun v0 =>
 (h.ld1 v0).bind fun v1 =>
 (asI .i64 v1).bind fun n2 =>
 match (decide (x7 < n2)) with
 | true => (
 let h3 := h.new (.cells [(.str ⟨⟨[118, 105, 101, 119]⟩⟩), (.int .i64 x7), (.int .i64 0), (.str ⟨⟨[115, 116, 97, 114, 116]⟩⟩), (.int .i64 x7), (.int .i64 0)] .rw)
 (h3.append 3 32 x3 (.sl h.next 0 2 (.ex 2))).bind fun p4 =>
 some (.normal, (withyref06_Words_c7_E x1 p4.1 (.int .i64 (wr .i64 (x7 + 1)))), p4.2))
 | false => (
 some ((.exit 6), (withyref06_Words_c7_O x1 x3), h))

def withyref06_Words_c7_e6 (M : Env) (x1 : V) (x3 : V) (h : H) : Option (V × H) :=
 (M.loop (withyref06_Words_c9_B M) (withyref06_Words_c9_E x1 x3 (.int .i64 0)) h).bind fun p0 => withyref06_Words_K12 M p0.1 p0.2.1 p0.2.2

def withyref06_Words_c9_S (M : Env) (x1 : V) (x3 : V) (x8 : Int) (h : H) : Option (AX × List V × H) :=
 (ptrAt x1 0).bind fun v0 =>
 (h.ld1 v0).bind fun v1 =>
 (asI .i64 v1).bind fun n2 =>
 match (decide (x8 < n2)) with
 | true => (
 let h3 := h.new (.cells [(.str ⟨⟨[104, 101, 97, 100, 101, 114]⟩⟩), (.int .i64 x8), (.int .i64 0), (.str ⟨⟨[108, 105, 110, 107]⟩⟩), (.int .i64 x8), (.int .i64 0)] .rw)
 (h3.append 3 32 x3 (.sl h.next 0 2 (.ex 2))).bind fun p4 =>
 (M.loop (withyref06_Words_c11_B M) (withyref06_Words_c11_E x1 p4.1 (.int .i64 x8) (.int .i64 0)) p4.2).bind fun p5 => withyref06_Words_K16 M p5.1 p5.2.1 p5.2.2)
 | false => (
 some ((.exit 8), (withyref06_Words_c9_O x3), h))

def withyref06_Words_c9_e8 (M : Env) (x3 : V) (h : H) : Option (V × H) :=
 some (x3, h)

def withyref06_Words_c11_S (M : Env) (x1 : V) (x3 : V) (x8 : Int) (x9 : Int) (h : H) : Option (AX × List V × H) :=
 (h.ldN 6 x1).bind fun v0 =>
 (M.call 149 [v0] h).bind fun p1 =>
 (asI .i64 p1.1).bind fun n2 =>
 match (decide (x9 < n2)) with
 | true => (
 let h3 := p1.2.new (.cells [(.str ⟨⟨[98, 111, 100, 121]⟩⟩), (.int .i64 x8), (.int .i64 x9)] .rw)
 (h3.append 3 32 x3 (.sl p1.2.next 0 1 (.ex 1))).bind fun p4 =>
 some (.normal, (withyref06_Words_c11_E x1 p4.1 (.int .i64 x8) (.int .i64 (wr .i64 (x9 + 1)))), p4.2))
 | false => (
 some ((.exit 10), (withyref06_Words_c11_O x1 x3 (.int .i64 x8)), p1.2))

def withyref06_Words_c11_e10 (M : Env) (x1 : V) (x3 : V) (x8 : Int) (h : H) : Option (AX × List V × H) :=
 some (.normal, (withyref06_Words_c9_E x1 x3 (.int .i64 (wr .i64 (x8 + 1)))), h)

theorem withyref06_Words_eq (M : Env) (a0_0 : Int) (a0_1 : Int) (a0_2 : Int) (a0_3 : Int) (a0_4 : Int) (a0_5 : Int) (h : H) : evalF M F.withyref06_Words [(.agg [(.int .i64 a0_0), (.int .i64 a0_1), (.int .i64 a0_2), (.int .i64 a0_3), (.int .i64 a0_4), (.int .i64 a0_5)])] h = withyref06_Words M a0_0 a0_1 a0_2 a0_3 a0_4 a0_5 h := by kernel_rfl

theorem withyref06_Words_c1_eq (M : Env) (x1 : V) (x3 : V) (x4 : Int) (h : H) : withyref06_Words_c1_B M (withyref06_Words_c1_E x1 x3 (.int .i64 x4)) h = withyref06_Words_c1_S M x1 x3 x4 h := by kernel_rfl

theorem withyref06_Words_c1_e0_eq (M : Env) (x1 : V) (x3 : V) (h : H) : withyref06_Words_K2 M (.exit 0) (withyref06_Words_c1_O x1 x3) h = withyref06_Words_c1_e0 M x1 x3 h := by kernel_rfl

theorem withyref06_Words_c3_eq (M : Env) (x1 : V) (x3 : V) (x5 : Int) (h : H) : withyref06_Words_c3_B M (withyref06_Words_c3_E x1 x3 (.int .i64 x5)) h = withyref06_Words_c3_S M x1 x3 x5 h := by kernel_rfl

theorem withyref06_Words_c3_e2_eq (M : Env) (x1 : V) (x3 : V) (h : H) : withyref06_Words_K4 M (.exit 2) (withyref06_Words_c3_O x1 x3) h = withyref06_Words_c3_e2 M x1 x3 h := by kernel_rfl

theorem withyref06_Words_c5_eq (M : Env) (x1 : V) (x3 : V) (x5 : Int) (x6 : Int) (h : H) : withyref06_Words_c5_B M (withyref06_Words_c5_E x1 x3 (.int .i64 x5) (.int .i64 x6)) h = withyref06_Words_c5_S M x1 x3 x5 x6 h := by kernel_rfl

theorem withyref06_Words_c5_e4_eq (M : Env) (x1 : V) (x3 : V) (x5 : Int) (h : H) : withyref06_Words_K8 M (.exit 4) (withyref06_Words_c5_O x1 x3 (.int .i64 x5)) h = withyref06_Words_c5_e4 M x1 x3 x5 h := by kernel_rfl

theorem withyref06_Words_c7_eq (M : Env) (x1 : V) (x3 : V) (x7 : Int) (h : H) : withyref06_Words_c7_B M (withyref06_Words_c7_E x1 x3 (.int .i64 x7)) h = withyref06_Words_c7_S M x1 x3 x7 h := by kernel_rfl

theorem withyref06_Words_c7_e6_eq (M : Env) (x1 : V) (x3 : V) (h : H) : withyref06_Words_K10 M (.exit 6) (withyref06_Words_c7_O x1 x3) h = withyref06_Words_c7_e6 M x1 x3 h := by kernel_rfl

theorem withyref06_Words_c9_eq (M : Env) (x1 : V) (x3 : V) (x8 : Int) (h : H) : withyref06_Words_c9_B M (withyref06_Words_c9_E x1 x3 (.int .i64 x8)) h = withyref06_Words_c9_S M x1 x3 x8 h := by kernel_rfl

theorem withyref06_Words_c9_e8_eq (M : Env) (x3 : V) (h : H) : withyref06_Words_K12 M (.exit 8) (withyref06_Words_c9_O x3) h = withyref06_Words_c9_e8 M x3 h := by kernel_rfl

theorem withyref06_Words_c11_eq (M : Env) (x1 : V) (x3 : V) (x8 : Int) (x9 : Int) (h : H) : withyref06_Words_c11_B M (withyref06_Words_c11_E x1 x3 (.int .i64 x8) (.int .i64 x9)) h = withyref06_Words_c11_S M x1 x3 x8 x9 h := by kernel_rfl

theorem withyref06_Words_c11_e10_eq (M : Env) (x1 : V) (x3 : V) (x8 : Int) (h : H) : withyref06_Words_K16 M (.exit 10) (withyref06_Words_c11_O x1 x3 (.int .i64 x8)) h = withyref06_Words_c11_e10 M x1 x3 x8 h := by kernel_rfl

end Wm.S
end

section
/- PRINTED by my tool (wip/wm/tool/Gen.lean): what a function comes to, stretch by stretch. -/
namespace Wm.S
open Wm
set_option maxRecDepth 100000
set_option linter.unusedVariables false


def withyref06_Room (M : Env) (a0_0 : Int) (a0_1 : Int) (a0_2 : Int) (a0_3 : Int) (a0_4 : Int) (a0_5 : Int) (h : H) : Option (V × H) :=
 let h0 := h.new (.cells [(.int .i64 a0_0), (.int .i64 a0_1), (.int .i64 a0_2), (.int .i64 a0_3), (.int .i64 a0_4), (.int .i64 a0_5)] .rw)
 (h0.ld1 (.ptr h.next 1)).bind fun v1 =>
 (asI .i64 v1).bind fun n2 =>
 match (decide (n2 < 3)) with
 | true => (
 some ((.int .i64 3), h0))
 | false => (
 (h0.ld1 (.ptr h.next 1)).bind fun v3 =>
 some (v3, h0))

theorem withyref06_Room_eq (M : Env) (a0_0 : Int) (a0_1 : Int) (a0_2 : Int) (a0_3 : Int) (a0_4 : Int) (a0_5 : Int) (h : H) : evalF M F.withyref06_Room [(.agg [(.int .i64 a0_0), (.int .i64 a0_1), (.int .i64 a0_2), (.int .i64 a0_3), (.int .i64 a0_4), (.int .i64 a0_5)])] h = withyref06_Room M a0_0 a0_1 a0_2 a0_3 a0_4 a0_5 h := by kernel_rfl

end Wm.S
end

section
/- PRINTED by my tool (wip/wm/tool/Gen.lean): what a function comes to, stretch by stretch. -/
namespace Wm.S
open Wm
set_option maxRecDepth 100000
set_option linter.unusedVariables false

def withyref06_At_c1_B (M : Env) : List V → H → Option (AX × List V × H) :=
 fun env h => evalC M F.withyref06_At_c1 env h fun x env h => match x with
 | .normal => some (.normal, keepOf [3, 5, 6] 0 env, h)
 | x => some (x, keepOf [4] 0 env, h)

def withyref06_At_c1_E (x3 x5 x6 : V) : List V := dd 3 (x3 :: dd 1 (x5 :: x6 :: dd 18 []))
def withyref06_At_c1_O (x4 : V) : List V := dd 4 (x4 :: dd 20 [])

def withyref06_At_K0 (M : Env) : AX → List V → H → Option (V × H) :=
 fun x env h => fin F.withyref06_At x env h

def withyref06_At_K1 (M : Env) : AX → List V → H → Option (V × H) :=
 fun x env h => match x with | .normal => evalC M F.withyref06_At_c0 env h (fun x env h => withyref06_At_K0 M x env h) | x => withyref06_At_K0 M x env h

def withyref06_At_K2 (M : Env) : AX → List V → H → Option (V × H) :=
 fun x env h => match x with | .exit j => (match Nat.beq j 0 with | true => withyref06_At_K1 M .normal env h | false => withyref06_At_K1 M (.exit j) env h) | x => withyref06_At_K1 M x env h

def withyref06_At (M : Env) (a0_0 : Int) (a0_1 : Int) (a0_2 : Int) (a0_3 : Int) (a0_4 : Int) (a0_5 : Int) (a1_0 : ByteArray) (a1_1 : Int) (a1_2 : Int) (h : H) : Option (V × H) :=
 let h0 := h.new (.cells [(.int .i64 a0_0), (.int .i64 a0_1), (.int .i64 a0_2), (.int .i64 a0_3), (.int .i64 a0_4), (.int .i64 a0_5)] .rw)
 let h1 := h0.new (.cells [(.str a1_0), (.int .i64 a1_1), (.int .i64 a1_2)] .rw)
 (h1.ldN 6 (.ptr h.next 0)).bind fun v2 =>
 (M.call 85 [v2] h1).bind fun p3 =>
 (asB p3.1).bind fun b4 =>
 match (!b4) with
 | true => (
 some ((.int .i64 (-1)), p3.2))
 | false => (
 (p3.2.ldN 6 (.ptr h.next 0)).bind fun v5 =>
 (M.call 87 [v5] p3.2).bind fun p6 =>
 (M.loop (withyref06_At_c1_B M) (withyref06_At_c1_E (.ptr h0.next 0) p6.1 (.int .i64 0)) p6.2).bind fun p7 => withyref06_At_K2 M p7.1 p7.2.1 p7.2.2)

def withyref06_At_c1_S (M : Env) (x3 : V) (x5 : V) (x6 : Int) (h : H) : Option (AX × List V × H) :=
 (lenSl x5).bind fun n0 =>
 match (decide (x6 < ((n0 : Nat) : Int))) with
 | true => (
 (indexAV 3 x5 (.int .i64 x6)).bind fun v1 =>
 (h.ldN 3 v1).bind fun v2 =>
 (h.ldN 3 x3).bind fun v3 =>
 (eqV (.agg [(0, .str), (1, .int), (2, .int)]) v2 v3).bind fun b4 =>
 match b4 with
 | true => (
 some (.ret, (withyref06_At_c1_O (.int .i64 x6)), h))
 | false => (
 some (.normal, (withyref06_At_c1_E x3 x5 (.int .i64 (wr .i64 (x6 + 1)))), h)))
 | false => (
 some ((.exit 0), (withyref06_At_c1_O .dead), h))

def withyref06_At_c1_e0 (M : Env) (x4 : V) (h : H) : Option (V × H) :=
 some ((.int .i64 (-1)), h)

def withyref06_At_c1_r (M : Env) (x4 : Int) (h : H) : Option (V × H) :=
 some ((.int .i64 x4), h)

theorem withyref06_At_eq (M : Env) (a0_0 : Int) (a0_1 : Int) (a0_2 : Int) (a0_3 : Int) (a0_4 : Int) (a0_5 : Int) (a1_0 : ByteArray) (a1_1 : Int) (a1_2 : Int) (h : H) : evalF M F.withyref06_At [(.agg [(.int .i64 a0_0), (.int .i64 a0_1), (.int .i64 a0_2), (.int .i64 a0_3), (.int .i64 a0_4), (.int .i64 a0_5)]), (.agg [(.str a1_0), (.int .i64 a1_1), (.int .i64 a1_2)])] h = withyref06_At M a0_0 a0_1 a0_2 a0_3 a0_4 a0_5 a1_0 a1_1 a1_2 h := by kernel_rfl

theorem withyref06_At_c1_eq (M : Env) (x3 : V) (x5 : V) (x6 : Int) (h : H) : withyref06_At_c1_B M (withyref06_At_c1_E x3 x5 (.int .i64 x6)) h = withyref06_At_c1_S M x3 x5 x6 h := by kernel_rfl

theorem withyref06_At_c1_e0_eq (M : Env) (x4 : V) (h : H) : withyref06_At_K2 M (.exit 0) (withyref06_At_c1_O x4) h = withyref06_At_c1_e0 M x4 h := by kernel_rfl

theorem withyref06_At_c1_r_eq (M : Env) (x4 : Int) (h : H) : withyref06_At_K2 M .ret (withyref06_At_c1_O (.int .i64 x4)) h = withyref06_At_c1_r M x4 h := by kernel_rfl

end Wm.S
end

section
/- PRINTED by my tool (wip/wm/tool/Gen.lean): what a function comes to, stretch by stretch. -/
namespace Wm.S
open Wm
set_option maxRecDepth 100000
set_option linter.unusedVariables false

end Wm.S
end

section
/- PRINTED by my tool (wip/wm/tool/Gen.lean): what a function comes to, stretch by stretch. -/
namespace Wm.S
open Wm
set_option maxRecDepth 100000
set_option linter.unusedVariables false

end Wm.S
end

section
/- PRINTED by my tool (wip/wm/tool/Gen.lean): what a function comes to, stretch by stretch. -/
namespace Wm.S
open Wm
set_option maxRecDepth 100000
set_option linter.unusedVariables false


def plan_Size (M : Env) (a0_0 : Int) (a0_1 : Int) (a0_2 : Int) (a0_3 : Int) (a0_4 : Int) (a0_5 : Int) (h : H) : Option (V × H) :=
 let h0 := h.new (.cells [(.int .i64 a0_0), (.int .i64 a0_1), (.int .i64 a0_2), (.int .i64 a0_3), (.int .i64 a0_4), (.int .i64 a0_5)] .rw)
 (h0.ldN 6 (.ptr h.next 0)).bind fun v1 =>
 (M.call 263 [v1] h0).bind fun p2 =>
 (asB p2.1).bind fun b3 =>
 match (!b3) with
 | true => (
 some ((.int .i64 0), p2.2))
 | false => (
 (p2.2.ldN 6 (.ptr h.next 0)).bind fun v4 =>
 (p2.2.ld1 (.ptr h.next 0)).bind fun v5 =>
 (p2.2.ldN 6 (.ptr h.next 0)).bind fun v6 =>
 (M.call 377 [v4] p2.2).bind fun p7 =>
 match ckB (p7.2.ldN 6 (.ptr h.next 0)) v6 with
 | true => (
 match ckB (p7.2.ld1 (.ptr h.next 0)) v5 with
 | true => (
 (M.call 378 [v6] p7.2).bind fun p8 =>
 match ckB (p8.2.ld1 (.ptr h.next 0)) v5 with
 | true => (
 (asI .i64 v5).bind fun n9 =>
 (asI .i64 p8.1).bind fun n10 =>
 (asI .i64 p7.1).bind fun n11 =>
 some ((.int .i64 (wr .i64 (n11 + (wr .i64 (n9 * n10))))), p8.2))
 | false => none)
 | false => none)
 | false => none)

theorem plan_Size_eq (M : Env) (a0_0 : Int) (a0_1 : Int) (a0_2 : Int) (a0_3 : Int) (a0_4 : Int) (a0_5 : Int) (h : H) : evalF M F.plan_Size [(.agg [(.int .i64 a0_0), (.int .i64 a0_1), (.int .i64 a0_2), (.int .i64 a0_3), (.int .i64 a0_4), (.int .i64 a0_5)])] h = plan_Size M a0_0 a0_1 a0_2 a0_3 a0_4 a0_5 h := by kernel_rfl

end Wm.S
end

section
/- PRINTED by my tool (wip/wm/tool/Gen.lean): what a function comes to, stretch by stretch. -/
namespace Wm.S
open Wm
set_option maxRecDepth 100000
set_option linter.unusedVariables false

def withyref06_Memory_c1_B (M : Env) : List V → H → Option (AX × List V × H) :=
 fun env h => evalC M F.withyref06_Memory_c1 env h fun x env h => match x with
 | .normal => some (.normal, keepOf [1, 3, 4, 5] 0 env, h)
 | x => some (x, keepOf [4] 0 env, h)

def withyref06_Memory_c1_E (x1 x3 x4 x5 : V) : List V := dd 1 (x1 :: dd 1 (x3 :: x4 :: x5 :: dd 43 []))
def withyref06_Memory_c1_O (x4 : V) : List V := dd 4 (x4 :: dd 44 [])

def withyref06_Memory_K0 (M : Env) : AX → List V → H → Option (V × H) :=
 fun x env h => fin F.withyref06_Memory x env h

def withyref06_Memory_K1 (M : Env) : AX → List V → H → Option (V × H) :=
 fun x env h => match x with | .normal => evalC M F.withyref06_Memory_c0 env h (fun x env h => withyref06_Memory_K0 M x env h) | x => withyref06_Memory_K0 M x env h

def withyref06_Memory_K2 (M : Env) : AX → List V → H → Option (V × H) :=
 fun x env h => match x with | .exit j => (match Nat.beq j 0 with | true => withyref06_Memory_K1 M .normal env h | false => withyref06_Memory_K1 M (.exit j) env h) | x => withyref06_Memory_K1 M x env h

def withyref06_Memory (M : Env) (a0_0 : Int) (a0_1 : Int) (a0_2 : Int) (a0_3 : Int) (a0_4 : Int) (a0_5 : Int) (h : H) : Option (V × H) :=
 let h0 := h.new (.cells [(.int .i64 a0_0), (.int .i64 a0_1), (.int .i64 a0_2), (.int .i64 a0_3), (.int .i64 a0_4), (.int .i64 a0_5)] .rw)
 (h0.ldN 6 (.ptr h.next 0)).bind fun v1 =>
 (M.call 87 [v1] h0).bind fun p2 =>
 (lenSl p2.1).bind fun n3 =>
 (p2.2.mkSl 1 8 [(.int .u64 0)] ((n3 : Nat) : Int) ((n3 : Nat) : Int)).bind fun p4 =>
 (indexAV 1 p4.1 (.int .i64 0)).bind fun v5 =>
 (p4.2.st 1 v5 (.int .u64 1)).bind fun h6 =>
 (indexAV 1 p4.1 (.int .i64 3)).bind fun v7 =>
 (h6.st 1 v7 (.int .u64 1)).bind fun h8 =>
 (M.loop (withyref06_Memory_c1_B M) (withyref06_Memory_c1_E (.ptr h.next 0) p2.1 p4.1 (.int .i64 0)) h8).bind fun p9 => withyref06_Memory_K2 M p9.1 p9.2.1 p9.2.2

def withyref06_Memory_c1_S (M : Env) (x1 : V) (x3 : V) (x4 : V) (x5 : Int) (h : H) : Option (AX × List V × H) :=
 (lenSl x3).bind fun n0 =>
 match (decide (x5 < ((n0 : Nat) : Int))) with
 | true => (
 (indexAV 3 x3 (.int .i64 x5)).bind fun v1 =>
 (ptrAt v1 0).bind fun v2 =>
 (h.ld1 v2).bind fun v3 =>
 (eqV .str v3 (.str ⟨⟨[108, 105, 110, 107]⟩⟩)).bind fun b4 =>
 match b4 with
 | true => (
 (indexAV 3 x3 (.int .i64 x5)).bind fun v5 =>
 (ptrAt v5 1).bind fun v6 =>
 (h.ld1 v6).bind fun v7 =>
 (asI .i64 v7).bind fun n8 =>
 (ptrAt x1 0).bind fun v9 =>
 (h.ld1 v9).bind fun v10 =>
 (asI .i64 v10).bind fun n11 =>
 match (decide ((wr .i64 (n8 + 1)) < n11)) with
 | true => (
 (indexAV 3 x3 (.int .i64 x5)).bind fun v12 =>
 (ptrAt v12 1).bind fun v13 =>
 (h.ld1 v13).bind fun v14 =>
 (asI .i64 v14).bind fun n15 =>
 (indexAV 1 x4 (.int .i64 x5)).bind fun v16 =>
 (h.st 1 v16 (.int .u64 (wr .u64 (wr .i64 (n15 + 2))))).bind fun h17 =>
 some (.normal, (withyref06_Memory_c1_E x1 x3 x4 (.int .i64 (wr .i64 (x5 + 1)))), h17))
 | false => (
 some (.normal, (withyref06_Memory_c1_E x1 x3 x4 (.int .i64 (wr .i64 (x5 + 1)))), h)))
 | false => (
 some (.normal, (withyref06_Memory_c1_E x1 x3 x4 (.int .i64 (wr .i64 (x5 + 1)))), h)))
 | false => (
 some ((.exit 0), (withyref06_Memory_c1_O x4), h))

def withyref06_Memory_c1_e0 (M : Env) (x4 : V) (h : H) : Option (V × H) :=
 some (x4, h)

theorem withyref06_Memory_eq (M : Env) (a0_0 : Int) (a0_1 : Int) (a0_2 : Int) (a0_3 : Int) (a0_4 : Int) (a0_5 : Int) (h : H) : evalF M F.withyref06_Memory [(.agg [(.int .i64 a0_0), (.int .i64 a0_1), (.int .i64 a0_2), (.int .i64 a0_3), (.int .i64 a0_4), (.int .i64 a0_5)])] h = withyref06_Memory M a0_0 a0_1 a0_2 a0_3 a0_4 a0_5 h := by kernel_rfl

theorem withyref06_Memory_c1_eq (M : Env) (x1 : V) (x3 : V) (x4 : V) (x5 : Int) (h : H) : withyref06_Memory_c1_B M (withyref06_Memory_c1_E x1 x3 x4 (.int .i64 x5)) h = withyref06_Memory_c1_S M x1 x3 x4 x5 h := by kernel_rfl

theorem withyref06_Memory_c1_e0_eq (M : Env) (x4 : V) (h : H) : withyref06_Memory_K2 M (.exit 0) (withyref06_Memory_c1_O x4) h = withyref06_Memory_c1_e0 M x4 h := by kernel_rfl

end Wm.S
end

section
/- PRINTED by my tool (wip/wm/tool/Gen.lean): what a function comes to, stretch by stretch. -/
namespace Wm.S
open Wm
set_option maxRecDepth 100000
set_option linter.unusedVariables false


end Wm.S
end

section
/- PRINTED by my tool (wip/wm/tool/Gen.lean): what a function comes to, stretch by stretch. -/
namespace Wm.S
open Wm
set_option maxRecDepth 100000
set_option linter.unusedVariables false


end Wm.S
end

section
/- PRINTED by my tool (wip/wm/tool/Gen.lean): what a function comes to, stretch by stretch. -/
namespace Wm.S
open Wm
set_option maxRecDepth 100000
set_option linter.unusedVariables false


end Wm.S
end

section
/- PRINTED by my tool (wip/wm/tool/Gen.lean): what a function comes to, stretch by stretch. -/
namespace Wm.S
open Wm
set_option maxRecDepth 100000
set_option linter.unusedVariables false


end Wm.S
end

section
/- PRINTED by my tool (wip/wm/tool/Gen.lean): what a function comes to, stretch by stretch. -/
namespace Wm.S
open Wm
set_option maxRecDepth 100000
set_option linter.unusedVariables false


end Wm.S
end

section
/- PRINTED by my tool (wip/wm/tool/Gen.lean): what a function comes to, stretch by stretch. -/
namespace Wm.S
open Wm
set_option maxRecDepth 100000
set_option linter.unusedVariables false


end Wm.S
end

section
/- PRINTED by my tool (wip/wm/tool/Gen.lean): what a function comes to, stretch by stretch. -/
namespace Wm.S
open Wm
set_option maxRecDepth 100000
set_option linter.unusedVariables false


end Wm.S
end

section
/- PRINTED by my tool (wip/wm/tool/Gen.lean): what a function comes to, stretch by stretch. -/
namespace Wm.S
open Wm
set_option maxRecDepth 100000
set_option linter.unusedVariables false


end Wm.S
end

section
/- PRINTED by my tool (wip/wm/tool/Gen.lean): what a function comes to, stretch by stretch. -/
namespace Wm.S
open Wm
set_option maxRecDepth 100000
set_option linter.unusedVariables false

def word_Pack_c1_B (M : Env) : List V → H → Option (AX × List V × H) :=
 fun env h => evalC M F.word_Pack_c1 env h fun x env h => match x with
 | .normal => some (.normal, keepOf [4, 5, 8, 9, 10] 0 env, h)
 | x => some (x, keepOf [2, 3, 4] 0 env, h)

def word_Pack_c1_E (x4 x5 x8 x9 x10 : V) : List V := dd 4 (x4 :: x5 :: dd 2 (x8 :: x9 :: x10 :: dd 28 []))
def word_Pack_c1_O (x2 x3 x4 : V) : List V := dd 2 (x2 :: x3 :: x4 :: dd 34 [])

def word_Pack_K0 (M : Env) : AX → List V → H → Option (V × H) :=
 fun x env h => fin F.word_Pack x env h

def word_Pack_K1 (M : Env) : AX → List V → H → Option (V × H) :=
 fun x env h => match x with | .normal => evalC M F.word_Pack_c0 env h (fun x env h => word_Pack_K0 M x env h) | x => word_Pack_K0 M x env h

def word_Pack_K2 (M : Env) : AX → List V → H → Option (V × H) :=
 fun x env h => match x with | .exit j => (match Nat.beq j 0 with | true => word_Pack_K1 M .normal env h | false => word_Pack_K1 M (.exit j) env h) | x => word_Pack_K1 M x env h

def word_Pack (M : Env) (a0 : V) (h : H) : Option (V × H) :=
 (lenSl a0).bind fun n0 =>
 (M.loop (word_Pack_c1_B M) (word_Pack_c1_E (.int .u64 0) (.int .i64 0) a0 (.int .i64 ((n0 : Nat) : Int)) (.int .i64 0)) h).bind fun p1 => word_Pack_K2 M p1.1 p1.2.1 p1.2.2

def word_Pack_c1_S (M : Env) (x4 : Int) (x5 : Int) (x8 : V) (x9 : Int) (x10 : Int) (h : H) : Option (AX × List V × H) :=
 match (decide (x10 < x9)) with
 | true => (
 (indexAV 2 x8 (.int .i64 x10)).bind fun v0 =>
 (h.ldN 2 v0).bind fun v1 =>
 let h2 := h.new (.cells [(.int .i64 0), (.int .u64 0)] .rw)
 (h2.st 2 (.ptr h.next 0) v1).bind fun h3 =>
 (h3.ld1 (.ptr h.next 0)).bind fun v4 =>
 (M.call 441 [(.int .i64 x5), v4] h3).bind fun p5 =>
 (asB p5.1).bind fun b6 =>
 match (!b6) with
 | true => (
 some (.ret, (word_Pack_c1_O (.int .u64 0) (.bool false) (.int .u64 x4)), p5.2))
 | false => (
 (p5.2.ld1 (.ptr h.next 1)).bind fun v7 =>
 (p5.2.ld1 (.ptr h.next 0)).bind fun v8 =>
 (M.call 484 [v7, v8] p5.2).bind fun p9 =>
 (asB p9.1).bind fun b10 =>
 match (!b10) with
 | true => (
 some (.ret, (word_Pack_c1_O (.int .u64 0) (.bool false) (.int .u64 x4)), p9.2))
 | false => (
 (p9.2.ld1 (.ptr h.next 1)).bind fun v11 =>
 (asI .u64 v11).bind fun n12 =>
 (shiftI true .u64 n12 x5).bind fun n13 =>
 (p9.2.ld1 (.ptr h.next 0)).bind fun v14 =>
 (asI .i64 v14).bind fun n15 =>
 some (.normal, (word_Pack_c1_E (.int .u64 (or64 x4 n13)) (.int .i64 (wr .i64 (x5 + n15))) x8 (.int .i64 x9) (.int .i64 (wr .i64 (x10 + 1)))), p9.2))))
 | false => (
 some ((.exit 0), (word_Pack_c1_O .dead .dead (.int .u64 x4)), h))

def word_Pack_c1_e0 (M : Env) (x2 : V) (x3 : V) (x4 : Int) (h : H) : Option (V × H) :=
 some ((.tup [(.int .u64 x4), (.bool true)]), h)

def word_Pack_c1_r (M : Env) (x2 : Int) (x3 : Bool) (x4 : V) (h : H) : Option (V × H) :=
 some ((.tup [(.int .u64 x2), (.bool x3)]), h)

theorem word_Pack_eq (M : Env) (a0 : V) (h : H) : evalF M F.word_Pack [a0] h = word_Pack M a0 h := by kernel_rfl

theorem word_Pack_c1_eq (M : Env) (x4 : Int) (x5 : Int) (x8 : V) (x9 : Int) (x10 : Int) (h : H) : word_Pack_c1_B M (word_Pack_c1_E (.int .u64 x4) (.int .i64 x5) x8 (.int .i64 x9) (.int .i64 x10)) h = word_Pack_c1_S M x4 x5 x8 x9 x10 h := by kernel_rfl

theorem word_Pack_c1_e0_eq (M : Env) (x2 : V) (x3 : V) (x4 : Int) (h : H) : word_Pack_K2 M (.exit 0) (word_Pack_c1_O x2 x3 (.int .u64 x4)) h = word_Pack_c1_e0 M x2 x3 x4 h := by kernel_rfl

theorem word_Pack_c1_r_eq (M : Env) (x2 : Int) (x3 : Bool) (x4 : V) (h : H) : word_Pack_K2 M .ret (word_Pack_c1_O (.int .u64 x2) (.bool x3) x4) h = word_Pack_c1_r M x2 x3 x4 h := by kernel_rfl

end Wm.S
end

section
/- PRINTED by my tool (wip/wm/tool/Gen.lean): what a function comes to, stretch by stretch. -/
namespace Wm.S
open Wm
set_option maxRecDepth 100000
set_option linter.unusedVariables false


def word_Fits (M : Env) (a0 : Int) (a1 : Int) (h : H) : Option (V × H) :=
 match (decide (0 ≤ a1)) with
 | true => (
 match (decide (63 < a1)) with
 | true => (
 some ((.bool true), h))
 | false => (
 (shiftI false .u64 a0 a1).bind fun n0 =>
 some ((.bool (decide (n0 = 0))), h)))
 | false => (
 some ((.bool false), h))

theorem word_Fits_eq (M : Env) (a0 : Int) (a1 : Int) (h : H) : evalF M F.word_Fits [(.int .u64 a0), (.int .i64 a1)] h = word_Fits M a0 a1 h := by kernel_rfl

end Wm.S
end

section
/- PRINTED by my tool (wip/wm/tool/Gen.lean): what a function comes to, stretch by stretch. -/
namespace Wm.S
open Wm
set_option maxRecDepth 100000
set_option linter.unusedVariables false


def head_bit (M : Env) (a0 : Bool) (h : H) : Option (V × H) :=
 match a0 with
 | true => (
 some ((.int .u64 1), h))
 | false => (
 some ((.int .u64 0), h))

theorem head_bit_eq (M : Env) (a0 : Bool) (h : H) : evalF M F.head_bit [(.bool a0)] h = head_bit M a0 h := by kernel_rfl

end Wm.S
end

section
/- PRINTED by my tool (wip/wm/tool/Gen.lean): what a function comes to, stretch by stretch. -/
namespace Wm.S
open Wm
set_option maxRecDepth 100000
set_option linter.unusedVariables false

def head_Pack_c1_B (M : Env) : List V → H → Option (AX × List V × H) :=
 fun env h => evalC M F.head_Pack_c1 env h fun x env h => match x with
 | .normal => some (.normal, keepOf [1, 18, 19] 0 env, h)
 | x => some (x, keepOf [1, 2, 3] 0 env, h)

def head_Pack_c1_E (x1 x18 x19 : V) : List V := dd 1 (x1 :: dd 16 (x18 :: x19 :: dd 43 []))
def head_Pack_c1_O (x1 x2 x3 : V) : List V := dd 1 (x1 :: x2 :: x3 :: dd 59 [])

def head_Pack_K0 (M : Env) : AX → List V → H → Option (V × H) :=
 fun x env h => fin F.head_Pack x env h

def head_Pack_K1 (M : Env) : AX → List V → H → Option (V × H) :=
 fun x env h => match x with | .normal => evalC M F.head_Pack_c0 env h (fun x env h => head_Pack_K0 M x env h) | x => head_Pack_K0 M x env h

def head_Pack_K2 (M : Env) : AX → List V → H → Option (V × H) :=
 fun x env h => match x with | .exit j => (match Nat.beq j 0 with | true => head_Pack_K1 M .normal env h | false => head_Pack_K1 M (.exit j) env h) | x => head_Pack_K1 M x env h

def head_Pack (M : Env) (a0_0 : Int) (a0_1 : Int) (a0_2 : Bool) (a0_3 : Int) (a0_4 : Int) (a0_5 : Int) (h : H) : Option (V × H) :=
 let h0 := h.new (.cells [(.int .i64 a0_0), (.int .i64 a0_1), (.bool a0_2), (.int .i64 a0_3), (.int .i64 a0_4), (.int .i64 a0_5)] .rw)
 (h0.ld1 (.ptr h.next 0)).bind fun v1 =>
 (h0.ld1 (.ptr h.next 1)).bind fun v2 =>
 (h0.ld1 (.ptr h.next 3)).bind fun v3 =>
 (h0.ld1 (.ptr h.next 4)).bind fun v4 =>
 (h0.ld1 (.ptr h.next 5)).bind fun v5 =>
 (fill [(.int .i64 0), (.int .i64 0), (.int .i64 0), (.int .i64 0), (.int .i64 0)] [] [(0, 1, .c v1), (1, 1, .c v2), (2, 1, .c v3), (3, 1, .c v4), (4, 1, .c v5)]).bind fun cs6 =>
 (M.loop (head_Pack_c1_B M) (head_Pack_c1_E (.ptr h.next 0) (.agg cs6) (.int .i64 0)) h0).bind fun p7 => head_Pack_K2 M p7.1 p7.2.1 p7.2.2

def head_Pack_c1_S (M : Env) (x1 : V) (x18 : V) (x19 : Int) (h : H) : Option (AX × List V × H) :=
 match (decide (x19 < 5)) with
 | true => (
 (aggCells x18).bind fun cs0 =>
 (indexOf 5 (.int .i64 x19)).bind fun j1 =>
 (part false cs0 (j1 * 1) 1).bind fun v2 =>
 (asI .i64 v2).bind fun n3 =>
 match (decide (n3 < 0)) with
 | true => (
 some (.ret, (head_Pack_c1_O x1 (.int .u64 0) (.bool false)), h))
 | false => (
 some (.normal, (head_Pack_c1_E x1 x18 (.int .i64 (wr .i64 (x19 + 1)))), h)))
 | false => (
 some ((.exit 0), (head_Pack_c1_O x1 .dead .dead), h))

def head_Pack_c1_e0 (M : Env) (x1 : V) (x2 : V) (x3 : V) (h : H) : Option (V × H) :=
 (ptrAt x1 0).bind fun v0 =>
 (h.ld1 v0).bind fun v1 =>
 (asIAny v1).bind fun n2 =>
 (ptrAt x1 1).bind fun v3 =>
 (h.ld1 v3).bind fun v4 =>
 (asIAny v4).bind fun n5 =>
 (ptrAt x1 2).bind fun v6 =>
 (h.ld1 v6).bind fun v7 =>
 (ptrAt x1 3).bind fun v8 =>
 (h.ld1 v8).bind fun v9 =>
 (asIAny v9).bind fun n10 =>
 (ptrAt x1 4).bind fun v11 =>
 (h.ld1 v11).bind fun v12 =>
 (asIAny v12).bind fun n13 =>
 (ptrAt x1 5).bind fun v14 =>
 (h.ld1 v14).bind fun v15 =>
 (asIAny v15).bind fun n16 =>
 (M.call 444 [v7] h).bind fun p17 =>
 match ckB (p17.2.ld1 v14) v15 with
 | true => (
 match ckB (p17.2.ld1 v11) v12 with
 | true => (
 match ckB (p17.2.ld1 v8) v9 with
 | true => (
 match ckB (p17.2.ld1 v3) v4 with
 | true => (
 match ckB (p17.2.ld1 v0) v1 with
 | true => (
 (fill [(.int .i64 0), (.int .u64 0)] [] [(0, 1, .c (.int .i64 1)), (1, 1, .c p17.1)]).bind fun cs18 =>
 (fill (repl [(.int .i64 0), (.int .u64 0)] 7) [] [(0, 2, .c (.agg [(.int .i64 3), (.int .u64 (wr .u64 n2))])), (2, 2, .c (.agg [(.int .i64 1), (.int .u64 (wr .u64 n5))])), (4, 2, .c (.agg cs18)), (6, 2, .c (.agg [(.int .i64 4), (.int .u64 (wr .u64 n10))])), (8, 2, .c (.agg [(.int .i64 7), (.int .u64 0)])), (10, 2, .c (.agg [(.int .i64 32), (.int .u64 (wr .u64 n13))])), (12, 2, .c (.agg [(.int .i64 16), (.int .u64 (wr .u64 n16))]))]).bind fun cs19 =>
 let h20 := p17.2.new (.cells cs19 .rw)
 (M.call 443 [(.sl p17.2.next 0 7 (.ex 7))] h20).bind fun p21 =>
 match p21.1 with
 | .tup vs22 => ((vs22[0]?).bind fun v23 =>
 match p21.1 with
 | .tup vs24 => ((vs24[1]?).bind fun v25 =>
 (asB v25).bind fun b26 =>
 match (!b26) with
 | true => (
 some ((.tup [(.int .u64 0), (.bool false)]), p21.2))
 | false => (
 (ptrAt x1 0).bind fun v27 =>
 (p21.2.ld1 v27).bind fun v28 =>
 (asI .i64 v28).bind fun n29 =>
 match (decide (4 < n29)) with
 | true => (
 some ((.tup [(.int .u64 0), (.bool false)]), p21.2))
 | false => (
 some ((.tup [v23, (.bool true)]), p21.2))))
 | _ => none)
 | _ => none)
 | false => none)
 | false => none)
 | false => none)
 | false => none)
 | false => none

def head_Pack_c1_r (M : Env) (x1 : V) (x2 : Int) (x3 : Bool) (h : H) : Option (V × H) :=
 some ((.tup [(.int .u64 x2), (.bool x3)]), h)

theorem head_Pack_eq (M : Env) (a0_0 : Int) (a0_1 : Int) (a0_2 : Bool) (a0_3 : Int) (a0_4 : Int) (a0_5 : Int) (h : H) : evalF M F.head_Pack [(.agg [(.int .i64 a0_0), (.int .i64 a0_1), (.bool a0_2), (.int .i64 a0_3), (.int .i64 a0_4), (.int .i64 a0_5)])] h = head_Pack M a0_0 a0_1 a0_2 a0_3 a0_4 a0_5 h := by kernel_rfl

theorem head_Pack_c1_eq (M : Env) (x1 : V) (x18 : V) (x19 : Int) (h : H) : head_Pack_c1_B M (head_Pack_c1_E x1 x18 (.int .i64 x19)) h = head_Pack_c1_S M x1 x18 x19 h := by kernel_rfl

theorem head_Pack_c1_e0_eq (M : Env) (x1 : V) (x2 : V) (x3 : V) (h : H) : head_Pack_K2 M (.exit 0) (head_Pack_c1_O x1 x2 x3) h = head_Pack_c1_e0 M x1 x2 x3 h := by kernel_rfl

theorem head_Pack_c1_r_eq (M : Env) (x1 : V) (x2 : Int) (x3 : Bool) (h : H) : head_Pack_K2 M .ret (head_Pack_c1_O x1 (.int .u64 x2) (.bool x3)) h = head_Pack_c1_r M x1 x2 x3 h := by kernel_rfl

end Wm.S
end

section
/- PRINTED by my tool (wip/wm/tool/Gen.lean): what a function comes to, stretch by stretch. -/
namespace Wm.S
open Wm
set_option maxRecDepth 100000
set_option linter.unusedVariables false


def head_lives (M : Env) (a0 : Int) (h : H) : Option (V × H) :=
 let h0 := h.new (.cells [(.int .i64 0), (.int .i64 0), (.bool false), (.int .i64 0), (.int .i64 0), (.int .i64 0)] .rw)
 (M.call 265 [(.int .u64 a0)] h0).bind fun p1 =>
 match p1.1 with
 | .tup vs2 => ((vs2[0]?).bind fun v3 =>
 match p1.1 with
 | .tup vs4 => ((vs4[1]?).bind fun v5 =>
 let h6 := p1.2.new (.cells [(.int .i64 0), (.int .i64 0), (.bool false), (.int .i64 0), (.int .i64 0), (.int .i64 0)] .rw)
 (h6.st 6 (.ptr p1.2.next 0) v3).bind fun h7 =>
 (h7.ldN 6 (.ptr p1.2.next 0)).bind fun v8 =>
 match v5 with
 | .bool true => (
 (h7.ld1 (.ptr p1.2.next 0)).bind fun v9 =>
 (asI .i64 v9).bind fun n10 =>
 match (decide (n10 = 1)) with
 | true => (
 (h7.st 6 (.ptr h.next 0) v8).bind fun h11 =>
 finV h11 [.cell true 6 (.ptr h.next 0), .v (.bool true)])
 | false => (
 (h7.ld1 (.ptr p1.2.next 0)).bind fun v11 =>
 (asI .i64 v11).bind fun n12 =>
 (h7.st 6 (.ptr h.next 0) v8).bind fun h13 =>
 match ckB (h13.ld1 (.ptr p1.2.next 0)) v11 with
 | true => (
 finV h13 [.cell true 6 (.ptr h.next 0), .v (.bool (decide (n12 = 2)))])
 | false => none))
 | .bool false => (
 (h7.st 6 (.ptr h.next 0) v8).bind fun h9 =>
 finV h9 [.cell true 6 (.ptr h.next 0), .v (.bool false)])
 | .tup [] => (
 match v5 with
 | .bool true => (
 none)
 | .bool false => (
 (h7.st 6 (.ptr h.next 0) v8).bind fun h9 =>
 finV h9 [.cell true 6 (.ptr h.next 0), .v (.bool false)])
 | .tup [] => (
 (asB v5).bind fun b9 =>
 (h7.st 6 (.ptr h.next 0) v8).bind fun h10 =>
 finV h10 [.cell true 6 (.ptr h.next 0), .v (match b9 with | true => (.tup []) | false => (.bool false) : V)])
 | _ => none)
 | _ => none)
 | _ => none)
 | _ => none

theorem head_lives_eq (M : Env) (a0 : Int) (h : H) : evalF M F.head_lives [(.int .u64 a0)] h = head_lives M a0 h := by kernel_rfl

end Wm.S
end

section
/- PRINTED by my tool (wip/wm/tool/Gen.lean): what a function comes to, stretch by stretch. -/
namespace Wm.S
open Wm
set_option maxRecDepth 100000
set_option linter.unusedVariables false


def head_Shaded (M : Env) (a0 : Int) (a1 : Int) (h : H) : Option (V × H) :=
 (M.call 380 [(.int .u64 a0)] h).bind fun p0 =>
 match p0.1 with
 | .tup vs1 => ((vs1[0]?).bind fun v2 =>
 match p0.1 with
 | .tup vs3 => ((vs3[1]?).bind fun v4 =>
 let h5 := p0.2.new (.cells [(.int .i64 0), (.int .i64 0), (.bool false), (.int .i64 0), (.int .i64 0), (.int .i64 0)] .rw)
 (h5.st 6 (.ptr p0.2.next 0) v2).bind fun h6 =>
 (asB v4).bind fun b7 =>
 match (!b7) with
 | true => (
 some ((.tup [(.int .u64 a0), (.bool false)]), h6))
 | false => (
 (h6.ld1 (.ptr p0.2.next 1)).bind fun v8 =>
 (M.call 381 [(.int .u64 a1)] h6).bind fun p9 =>
 match ckB (p9.2.ld1 (.ptr p0.2.next 1)) v8 with
 | true => (
 (asI .i64 v8).bind fun n10 =>
 (asI .i64 p9.1).bind fun n11 =>
 match (decide (n10 = n11)) with
 | true => (
 some ((.tup [(.int .u64 a0), (.bool false)]), p9.2))
 | false => (
 (M.call 381 [(.int .u64 a1)] p9.2).bind fun p12 =>
 (p12.2.st 1 (.ptr p0.2.next 1) p12.1).bind fun h13 =>
 (h13.st 1 (.ptr p0.2.next 2) (.bool true)).bind fun h14 =>
 (h14.ldN 6 (.ptr p0.2.next 0)).bind fun v15 =>
 (M.call 382 [v15] h14).bind fun p16 =>
 match p16.1 with
 | .tup vs17 => ((vs17[0]?).bind fun v18 =>
 match p16.1 with
 | .tup vs19 => ((vs19[1]?).bind fun v20 =>
 some ((.tup [v18, v20]), p16.2))
 | _ => none)
 | _ => none))
 | false => none))
 | _ => none)
 | _ => none

theorem head_Shaded_eq (M : Env) (a0 : Int) (a1 : Int) (h : H) : evalF M F.head_Shaded [(.int .u64 a0), (.int .u64 a1)] h = head_Shaded M a0 a1 h := by kernel_rfl

end Wm.S
end

section
/- PRINTED by my tool (wip/wm/tool/Gen.lean): what a function comes to, stretch by stretch. -/
namespace Wm.S
open Wm
set_option maxRecDepth 100000
set_option linter.unusedVariables false


end Wm.S
end

section
/- PRINTED by my tool (wip/wm/tool/Gen.lean): what a function comes to, stretch by stretch. -/
namespace Wm.S
open Wm
set_option maxRecDepth 100000
set_option linter.unusedVariables false


end Wm.S
end

section
/- PRINTED by my tool (wip/wm/tool/Gen.lean): what a function comes to, stretch by stretch. -/
namespace Wm.S
open Wm
set_option maxRecDepth 100000
set_option linter.unusedVariables false


end Wm.S
end

section
/- PRINTED by my tool (wip/wm/tool/Gen.lean): what a function comes to, stretch by stretch. -/
namespace Wm.S
open Wm
set_option maxRecDepth 100000
set_option linter.unusedVariables false


end Wm.S
end

section
/- PRINTED by my tool (wip/wm/tool/Gen.lean): what a function comes to, stretch by stretch. -/
namespace Wm.S
open Wm
set_option maxRecDepth 100000
set_option linter.unusedVariables false


def head_Marked (M : Env) (a0 : Int) (a1 : Int) (h : H) : Option (V × H) :=
 (M.call 380 [(.int .u64 a0)] h).bind fun p0 =>
 match p0.1 with
 | .tup vs1 => ((vs1[0]?).bind fun v2 =>
 match p0.1 with
 | .tup vs3 => ((vs3[1]?).bind fun v4 =>
 let h5 := p0.2.new (.cells [(.int .i64 0), (.int .i64 0), (.bool false), (.int .i64 0), (.int .i64 0), (.int .i64 0)] .rw)
 (h5.st 6 (.ptr p0.2.next 0) v2).bind fun h6 =>
 match v4 with
 | .bool true => (
 (h6.ld1 (.ptr p0.2.next 1)).bind fun v7 =>
 (M.call 381 [(.int .u64 a1)] h6).bind fun p8 =>
 match ckB (p8.2.ld1 (.ptr p0.2.next 1)) v7 with
 | true => (
 (asI .i64 v7).bind fun n9 =>
 (asI .i64 p8.1).bind fun n10 =>
 some ((.bool (decide (n9 = n10))), p8.2))
 | false => none)
 | .bool false => (
 some ((.bool false), h6))
 | .tup [] => (
 (asB v4).bind fun b7 =>
 some ((match b7 with | true => (.tup []) | false => (.bool false) : V), h6))
 | _ => none)
 | _ => none)
 | _ => none

theorem head_Marked_eq (M : Env) (a0 : Int) (a1 : Int) (h : H) : evalF M F.head_Marked [(.int .u64 a0), (.int .u64 a1)] h = head_Marked M a0 a1 h := by kernel_rfl

end Wm.S
end

section
/- PRINTED by my tool (wip/wm/tool/Gen.lean): what a function comes to, stretch by stretch. -/
namespace Wm.S
open Wm
set_option maxRecDepth 100000
set_option linter.unusedVariables false


def turn_Black (M : Env) (a0 : Int) (h : H) : Option (V × H) :=
 (M.call 442 [(.int .u64 a0)] h).bind fun p0 =>
 (asI .u64 p0.1).bind fun n1 =>
 some ((.int .i64 (wr .i64 (Int.tmod (wr .u64 (n1 + 1)) 2))), p0.2)

theorem turn_Black_eq (M : Env) (a0 : Int) (h : H) : evalF M F.turn_Black [(.int .u64 a0)] h = turn_Black M a0 h := by kernel_rfl

end Wm.S
end

section
/- PRINTED by my tool (wip/wm/tool/Gen.lean): what a function comes to, stretch by stretch. -/
namespace Wm.S
open Wm
set_option maxRecDepth 100000
set_option linter.unusedVariables false


def turn_Cycle (M : Env) (a0 : Int) (h : H) : Option (V × H) :=
 some ((.int .u64 (wr .u64 (Int.tdiv a0 4))), h)

theorem turn_Cycle_eq (M : Env) (a0 : Int) (h : H) : evalF M F.turn_Cycle [(.int .u64 a0)] h = turn_Cycle M a0 h := by kernel_rfl

end Wm.S
end

section
/- PRINTED by my tool (wip/wm/tool/Gen.lean): what a function comes to, stretch by stretch. -/
namespace Wm.S
open Wm
set_option maxRecDepth 100000
set_option linter.unusedVariables false


end Wm.S
end

section
/- PRINTED by my tool (wip/wm/tool/Gen.lean): what a function comes to, stretch by stretch. -/
namespace Wm.S
open Wm
set_option maxRecDepth 100000
set_option linter.unusedVariables false


end Wm.S
end

section
/- PRINTED by my tool (wip/wm/tool/Gen.lean): what a function comes to, stretch by stretch. -/
namespace Wm.S
open Wm
set_option maxRecDepth 100000
set_option linter.unusedVariables false


def withyref06_Fit (M : Env) (a0_0 : Int) (a0_1 : Int) (a0_2 : Int) (a0_3 : Int) (a0_4 : Int) (a0_5 : Int) (h : H) : Option (V × H) :=
 let h0 := h.new (.cells [(.int .i64 a0_0), (.int .i64 a0_1), (.int .i64 a0_2), (.int .i64 a0_3), (.int .i64 a0_4), (.int .i64 a0_5)] .rw)
 let h1 := h0.new (.cells [(.int .i64 0), (.int .i64 0), (.int .i64 0), (.int .i64 0), (.int .i64 0), (.int .i64 0)] .rw)
 (h1.ld1 (.ptr h.next 0)).bind fun v2 =>
 (h1.ld1 (.ptr h.next 1)).bind fun v3 =>
 (h1.ld1 (.ptr h.next 2)).bind fun v4 =>
 (h1.ld1 (.ptr h.next 3)).bind fun v5 =>
 (h1.ld1 (.ptr h.next 4)).bind fun v6 =>
 (h1.ld1 (.ptr h.next 5)).bind fun v7 =>
 (M.call 270 [v2, (.int .i64 1), (.int .i64 12)] h1).bind fun p8 =>
 match ckB (p8.2.ld1 (.ptr h.next 5)) v7 with
 | true => (
 match ckB (p8.2.ld1 (.ptr h.next 4)) v6 with
 | true => (
 match ckB (p8.2.ld1 (.ptr h.next 3)) v5 with
 | true => (
 match ckB (p8.2.ld1 (.ptr h.next 2)) v4 with
 | true => (
 match ckB (p8.2.ld1 (.ptr h.next 1)) v3 with
 | true => (
 (M.call 270 [v3, (.int .i64 0), (.int .i64 4)] p8.2).bind fun p9 =>
 match ckB (p9.2.ld1 (.ptr h.next 5)) v7 with
 | true => (
 match ckB (p9.2.ld1 (.ptr h.next 4)) v6 with
 | true => (
 match ckB (p9.2.ld1 (.ptr h.next 3)) v5 with
 | true => (
 match ckB (p9.2.ld1 (.ptr h.next 2)) v4 with
 | true => (
 (M.call 270 [v4, (.int .i64 1), (.int .i64 4)] p9.2).bind fun p10 =>
 match ckB (p10.2.ld1 (.ptr h.next 5)) v7 with
 | true => (
 match ckB (p10.2.ld1 (.ptr h.next 4)) v6 with
 | true => (
 match ckB (p10.2.ld1 (.ptr h.next 3)) v5 with
 | true => (
 (M.call 270 [v5, (.int .i64 1), (.int .i64 4)] p10.2).bind fun p11 =>
 match ckB (p11.2.ld1 (.ptr h.next 5)) v7 with
 | true => (
 match ckB (p11.2.ld1 (.ptr h.next 4)) v6 with
 | true => (
 (M.call 270 [v6, (.int .i64 1), (.int .i64 40)] p11.2).bind fun p12 =>
 match ckB (p12.2.ld1 (.ptr h.next 5)) v7 with
 | true => (
 (M.call 270 [v7, (.int .i64 0), (.int .i64 6)] p12.2).bind fun p13 =>
 (fill [(.int .i64 0), (.int .i64 0), (.int .i64 0), (.int .i64 0), (.int .i64 0), (.int .i64 0)] [] [(0, 1, .c p8.1), (1, 1, .c p9.1), (2, 1, .c p10.1), (3, 1, .c p11.1), (4, 1, .c p12.1), (5, 1, .c p13.1)]).bind fun cs14 =>
 (p13.2.st 6 (.ptr h0.next 0) (.agg cs14)).bind fun h15 =>
 finV h15 [.cell true 6 (.ptr h0.next 0)])
 | false => none)
 | false => none)
 | false => none)
 | false => none)
 | false => none)
 | false => none)
 | false => none)
 | false => none)
 | false => none)
 | false => none)
 | false => none)
 | false => none)
 | false => none)
 | false => none)
 | false => none

theorem withyref06_Fit_eq (M : Env) (a0_0 : Int) (a0_1 : Int) (a0_2 : Int) (a0_3 : Int) (a0_4 : Int) (a0_5 : Int) (h : H) : evalF M F.withyref06_Fit [(.agg [(.int .i64 a0_0), (.int .i64 a0_1), (.int .i64 a0_2), (.int .i64 a0_3), (.int .i64 a0_4), (.int .i64 a0_5)])] h = withyref06_Fit M a0_0 a0_1 a0_2 a0_3 a0_4 a0_5 h := by kernel_rfl

end Wm.S
end

section
/- PRINTED by my tool (wip/wm/tool/Gen.lean): what a function comes to, stretch by stretch. -/
namespace Wm.S
open Wm
set_option maxRecDepth 100000
set_option linter.unusedVariables false


def withyref06_fit (M : Env) (a0 : Int) (a1 : Int) (a2 : Int) (h : H) : Option (V × H) :=
 (arith .rem .u64 (wr .u64 a0) (wr .u64 (wr .i64 ((wr .i64 (a2 - a1)) + 1)))).bind fun n0 =>
 some ((.int .i64 (wr .i64 (a1 + (wr .i64 n0)))), h)

theorem withyref06_fit_eq (M : Env) (a0 : Int) (a1 : Int) (a2 : Int) (h : H) : evalF M F.withyref06_fit [(.int .i64 a0), (.int .i64 a1), (.int .i64 a2)] h = withyref06_fit M a0 a1 a2 h := by kernel_rfl

end Wm.S
end

section
/- PRINTED by my tool (wip/wm/tool/Gen.lean): what a function comes to, stretch by stretch. -/
namespace Wm.S
open Wm
set_option maxRecDepth 100000
set_option linter.unusedVariables false


def withyref03_Black (M : Env) (a0 : Int) (h : H) : Option (V × H) :=
 match (decide ((Int.tmod (wr .u64 (Int.tdiv a0 4)) 2) = 0)) with
 | true => (
 some ((.int .i64 1), h))
 | false => (
 some ((.int .i64 0), h))

theorem withyref03_Black_eq (M : Env) (a0 : Int) (h : H) : evalF M F.withyref03_Black [(.int .u64 a0)] h = withyref03_Black M a0 h := by kernel_rfl

end Wm.S
end

section
/- PRINTED by my tool (wip/wm/tool/Gen.lean): what a function comes to, stretch by stretch. -/
namespace Wm.S
open Wm
set_option maxRecDepth 100000
set_option linter.unusedVariables false


def withyref04_Pack (M : Env) (a0_0 : Int) (a0_1 : Int) (a0_2 : Bool) (a0_3 : Int) (a0_4 : Int) (a0_5 : Int) (h : H) : Option (V × H) :=
 let h0 := h.new (.cells [(.int .i64 a0_0), (.int .i64 a0_1), (.bool a0_2), (.int .i64 a0_3), (.int .i64 a0_4), (.int .i64 a0_5)] .rw)
 (h0.ld1 (.ptr h.next 0)).bind fun v1 =>
 (asIAny v1).bind fun n2 =>
 (h0.ld1 (.ptr h.next 1)).bind fun v3 =>
 (asIAny v3).bind fun n4 =>
 (h0.ld1 (.ptr h.next 3)).bind fun v5 =>
 (asIAny v5).bind fun n6 =>
 (h0.ld1 (.ptr h.next 4)).bind fun v7 =>
 (asIAny v7).bind fun n8 =>
 (h0.ld1 (.ptr h.next 5)).bind fun v9 =>
 (asIAny v9).bind fun n10 =>
 (h0.ld1 (.ptr h.next 2)).bind fun v11 =>
 (asB v11).bind fun b12 =>
 match b12 with
 | true => (
 some ((.int .u64 (wr .u64 ((wr .u64 ((wr .u64 ((wr .u64 ((wr .u64 ((wr .u64 n2) + (wr .u64 (8 * (wr .u64 n4))))) + (wr .u64 (32 * (wr .u64 n6))))) + (wr .u64 (65536 * (wr .u64 n8))))) + (wr .u64 (281474976710656 * (wr .u64 n10))))) + 16))), h0))
 | false => (
 some ((.int .u64 (wr .u64 ((wr .u64 ((wr .u64 ((wr .u64 ((wr .u64 n2) + (wr .u64 (8 * (wr .u64 n4))))) + (wr .u64 (32 * (wr .u64 n6))))) + (wr .u64 (65536 * (wr .u64 n8))))) + (wr .u64 (281474976710656 * (wr .u64 n10)))))), h0))

theorem withyref04_Pack_eq (M : Env) (a0_0 : Int) (a0_1 : Int) (a0_2 : Bool) (a0_3 : Int) (a0_4 : Int) (a0_5 : Int) (h : H) : evalF M F.withyref04_Pack [(.agg [(.int .i64 a0_0), (.int .i64 a0_1), (.bool a0_2), (.int .i64 a0_3), (.int .i64 a0_4), (.int .i64 a0_5)])] h = withyref04_Pack M a0_0 a0_1 a0_2 a0_3 a0_4 a0_5 h := by kernel_rfl

end Wm.S
end

section
/- PRINTED by my tool (wip/wm/tool/Gen.lean): what a function comes to, stretch by stretch. -/
namespace Wm.S
open Wm
set_option maxRecDepth 100000
set_option linter.unusedVariables false


def withyref04_Right (M : Env) (a0_0 : Int) (a0_1 : Int) (a0_2 : Bool) (a0_3 : Int) (a0_4 : Int) (a0_5 : Int) (h : H) : Option (V × H) :=
 let h0 := h.new (.cells [(.int .i64 a0_0), (.int .i64 a0_1), (.bool a0_2), (.int .i64 a0_3), (.int .i64 a0_4), (.int .i64 a0_5)] .rw)
 (h0.ld1 (.ptr h.next 0)).bind fun v1 =>
 (asI .i64 v1).bind fun n2 =>
 match (decide (0 ≤ n2)) with
 | true => (
 (h0.ld1 (.ptr h.next 0)).bind fun v3 =>
 (asI .i64 v3).bind fun n4 =>
 match (decide (n4 ≤ 4)) with
 | true => (
 (h0.ld1 (.ptr h.next 1)).bind fun v5 =>
 (asI .i64 v5).bind fun n6 =>
 match (decide (n6 = 0)) with
 | true => (
 (h0.ld1 (.ptr h.next 3)).bind fun v7 =>
 (asI .i64 v7).bind fun n8 =>
 match (decide (0 ≤ n8)) with
 | true => (
 (h0.ld1 (.ptr h.next 3)).bind fun v9 =>
 (asI .i64 v9).bind fun n10 =>
 match (decide (n10 ≤ 15)) with
 | true => (
 (h0.ld1 (.ptr h.next 4)).bind fun v11 =>
 (asI .i64 v11).bind fun n12 =>
 match (decide (0 ≤ n12)) with
 | true => (
 (h0.ld1 (.ptr h.next 4)).bind fun v13 =>
 (asI .i64 v13).bind fun n14 =>
 match (decide (n14 ≤ 4294967295)) with
 | true => (
 (h0.ld1 (.ptr h.next 5)).bind fun v15 =>
 (asI .i64 v15).bind fun n16 =>
 match (decide (0 ≤ n16)) with
 | true => (
 (h0.ld1 (.ptr h.next 5)).bind fun v17 =>
 (asI .i64 v17).bind fun n18 =>
 some ((.bool (decide (n18 ≤ 65535))), h0))
 | false => (
 some ((.bool false), h0)))
 | false => (
 some ((.bool false), h0)))
 | false => (
 some ((.bool false), h0)))
 | false => (
 some ((.bool false), h0)))
 | false => (
 some ((.bool false), h0)))
 | false => (
 (h0.ld1 (.ptr h.next 1)).bind fun v7 =>
 (asI .i64 v7).bind fun n8 =>
 match (decide (n8 = 1)) with
 | true => (
 (h0.ld1 (.ptr h.next 3)).bind fun v9 =>
 (asI .i64 v9).bind fun n10 =>
 match (decide (0 ≤ n10)) with
 | true => (
 (h0.ld1 (.ptr h.next 3)).bind fun v11 =>
 (asI .i64 v11).bind fun n12 =>
 match (decide (n12 ≤ 15)) with
 | true => (
 (h0.ld1 (.ptr h.next 4)).bind fun v13 =>
 (asI .i64 v13).bind fun n14 =>
 match (decide (0 ≤ n14)) with
 | true => (
 (h0.ld1 (.ptr h.next 4)).bind fun v15 =>
 (asI .i64 v15).bind fun n16 =>
 match (decide (n16 ≤ 4294967295)) with
 | true => (
 (h0.ld1 (.ptr h.next 5)).bind fun v17 =>
 (asI .i64 v17).bind fun n18 =>
 match (decide (0 ≤ n18)) with
 | true => (
 (h0.ld1 (.ptr h.next 5)).bind fun v19 =>
 (asI .i64 v19).bind fun n20 =>
 some ((.bool (decide (n20 ≤ 65535))), h0))
 | false => (
 some ((.bool false), h0)))
 | false => (
 some ((.bool false), h0)))
 | false => (
 some ((.bool false), h0)))
 | false => (
 some ((.bool false), h0)))
 | false => (
 some ((.bool false), h0)))
 | false => (
 some ((.bool false), h0))))
 | false => (
 some ((.bool false), h0)))
 | false => (
 some ((.bool false), h0))

theorem withyref04_Right_eq (M : Env) (a0_0 : Int) (a0_1 : Int) (a0_2 : Bool) (a0_3 : Int) (a0_4 : Int) (a0_5 : Int) (h : H) : evalF M F.withyref04_Right [(.agg [(.int .i64 a0_0), (.int .i64 a0_1), (.bool a0_2), (.int .i64 a0_3), (.int .i64 a0_4), (.int .i64 a0_5)])] h = withyref04_Right M a0_0 a0_1 a0_2 a0_3 a0_4 a0_5 h := by kernel_rfl

end Wm.S
end

section
/- PRINTED by my tool (wip/wm/tool/Gen.lean): what a function comes to, stretch by stretch. -/
namespace Wm.S
open Wm
set_option maxRecDepth 100000
set_option linter.unusedVariables false


def withyref04_Lives (M : Env) (a0 : Int) (h : H) : Option (V × H) :=
 (M.call 109 [(.int .u64 a0)] h).bind fun p0 =>
 match p0.1 with
 | .tup vs1 => ((vs1[0]?).bind fun v2 =>
 match p0.1 with
 | .tup vs3 => ((vs3[1]?).bind fun v4 =>
 let h5 := p0.2.new (.cells [(.int .i64 0), (.int .i64 0), (.bool false), (.int .i64 0), (.int .i64 0), (.int .i64 0)] .rw)
 (h5.st 6 (.ptr p0.2.next 0) v2).bind fun h6 =>
 match v4 with
 | .bool true => (
 (h6.ld1 (.ptr p0.2.next 0)).bind fun v7 =>
 (asI .i64 v7).bind fun n8 =>
 match (decide (n8 = 1)) with
 | true => (
 some ((.bool true), h6))
 | false => (
 (h6.ld1 (.ptr p0.2.next 0)).bind fun v9 =>
 (asI .i64 v9).bind fun n10 =>
 some ((.bool (decide (n10 = 2))), h6)))
 | .bool false => (
 some ((.bool false), h6))
 | .tup [] => (
 match v4 with
 | .bool true => (
 none)
 | .bool false => (
 some ((.bool false), h6))
 | .tup [] => (
 (asB v4).bind fun b7 =>
 some ((match b7 with | true => (.tup []) | false => (.bool false) : V), h6))
 | _ => none)
 | _ => none)
 | _ => none)
 | _ => none

theorem withyref04_Lives_eq (M : Env) (a0 : Int) (h : H) : evalF M F.withyref04_Lives [(.int .u64 a0)] h = withyref04_Lives M a0 h := by kernel_rfl

end Wm.S
end

section
/- PRINTED by my tool (wip/wm/tool/Gen.lean): what a function comes to, stretch by stretch. -/
namespace Wm.S
open Wm
set_option maxRecDepth 100000
set_option linter.unusedVariables false


def withyref04_Marked (M : Env) (a0 : Int) (a1 : Int) (h : H) : Option (V × H) :=
 (M.call 109 [(.int .u64 a0)] h).bind fun p0 =>
 match p0.1 with
 | .tup vs1 => ((vs1[0]?).bind fun v2 =>
 match p0.1 with
 | .tup vs3 => ((vs3[1]?).bind fun v4 =>
 let h5 := p0.2.new (.cells [(.int .i64 0), (.int .i64 0), (.bool false), (.int .i64 0), (.int .i64 0), (.int .i64 0)] .rw)
 (h5.st 6 (.ptr p0.2.next 0) v2).bind fun h6 =>
 (M.call 112 [(.int .u64 a0)] h6).bind fun p7 =>
 match p7.1 with
 | .bool true => (
 (p7.2.ld1 (.ptr p0.2.next 1)).bind fun v8 =>
 (M.call 110 [(.int .u64 a1)] p7.2).bind fun p9 =>
 match ckB (p9.2.ld1 (.ptr p0.2.next 1)) v8 with
 | true => (
 (asI .i64 v8).bind fun n10 =>
 (asI .i64 p9.1).bind fun n11 =>
 some ((.bool (decide (n10 = n11))), p9.2))
 | false => none)
 | .bool false => (
 some ((.bool false), p7.2))
 | .tup [] => (
 (asB p7.1).bind fun b8 =>
 some ((match b8 with | true => (.tup []) | false => (.bool false) : V), p7.2))
 | _ => none)
 | _ => none)
 | _ => none

theorem withyref04_Marked_eq (M : Env) (a0 : Int) (a1 : Int) (h : H) : evalF M F.withyref04_Marked [(.int .u64 a0), (.int .u64 a1)] h = withyref04_Marked M a0 a1 h := by kernel_rfl

end Wm.S
end

section
/- PRINTED by my tool (wip/wm/tool/Gen.lean): what a function comes to, stretch by stretch. -/
namespace Wm.S
open Wm
set_option maxRecDepth 100000
set_option linter.unusedVariables false


end Wm.S
end

section
/- PRINTED by my tool (wip/wm/tool/Gen.lean): what a function comes to, stretch by stretch. -/
namespace Wm.S
open Wm
set_option maxRecDepth 100000
set_option linter.unusedVariables false


end Wm.S
end

section
/- PRINTED by my tool (wip/wm/tool/Gen.lean): what a function comes to, stretch by stretch. -/
namespace Wm.S
open Wm
set_option maxRecDepth 100000
set_option linter.unusedVariables false


end Wm.S
end

section
/- PRINTED by my tool (wip/wm/tool/Gen.lean): what a function comes to, stretch by stretch. -/
namespace Wm.S
open Wm
set_option maxRecDepth 100000
set_option linter.unusedVariables false


end Wm.S
end

section
/- PRINTED by my tool (wip/wm/tool/Gen.lean): what a function comes to, stretch by stretch. -/
namespace Wm.S
open Wm
set_option maxRecDepth 100000
set_option linter.unusedVariables false


end Wm.S
end

section
/- PRINTED by my tool (wip/wm/tool/Gen.lean): what a function comes to, stretch by stretch. -/
namespace Wm.S
open Wm
set_option maxRecDepth 100000
set_option linter.unusedVariables false


def withyref13_at (M : Env) (a0_0 : Int) (a0_1 : Int) (a0_2 : Int) (a0_3 : Int) (a0_4 : Int) (a0_5 : Int) (a1 : V) (a2 : ByteArray) (a3 : Int) (a4 : Int) (h : H) : Option (V × H) :=
 let h0 := h.new (.cells [(.int .i64 a0_0), (.int .i64 a0_1), (.int .i64 a0_2), (.int .i64 a0_3), (.int .i64 a0_4), (.int .i64 a0_5)] .rw)
 (h0.ldN 6 (.ptr h.next 0)).bind fun v1 =>
 (M.call 108 [v1, (.agg [(.str a2), (.int .i64 a3), (.int .i64 a4)])] h0).bind fun p2 =>
 (asI .i64 p2.1).bind fun n3 =>
 match (decide (n3 < 0)) with
 | true => (
 some ((.int .u64 0), p2.2))
 | false => (
 (indexAV 1 a1 p2.1).bind fun v4 =>
 (p2.2.ld1 v4).bind fun v5 =>
 some (v5, p2.2))

theorem withyref13_at_eq (M : Env) (a0_0 : Int) (a0_1 : Int) (a0_2 : Int) (a0_3 : Int) (a0_4 : Int) (a0_5 : Int) (a1 : V) (a2 : ByteArray) (a3 : Int) (a4 : Int) (h : H) : evalF M F.withyref13_at [(.agg [(.int .i64 a0_0), (.int .i64 a0_1), (.int .i64 a0_2), (.int .i64 a0_3), (.int .i64 a0_4), (.int .i64 a0_5)]), a1, (.str a2), (.int .i64 a3), (.int .i64 a4)] h = withyref13_at M a0_0 a0_1 a0_2 a0_3 a0_4 a0_5 a1 a2 a3 a4 h := by kernel_rfl

end Wm.S
end

section
/- PRINTED by my tool (wip/wm/tool/Gen.lean): what a function comes to, stretch by stretch. -/
namespace Wm.S
open Wm
set_option maxRecDepth 100000
set_option linter.unusedVariables false

def withyref13_Grays_c1_B (M : Env) : List V → H → Option (AX × List V × H) :=
 fun env h => evalC M F.withyref13_Grays_c1 env h fun x env h => match x with
 | .normal => some (.normal, keepOf [1, 2, 5, 6] 0 env, h)
 | x => some (x, keepOf [5] 0 env, h)

def withyref13_Grays_c1_E (x1 x2 x5 x6 : V) : List V := dd 1 (x1 :: x2 :: dd 2 (x5 :: x6 :: dd 24 []))
def withyref13_Grays_c1_O (x5 : V) : List V := dd 5 (x5 :: dd 25 [])

def withyref13_Grays_K0 (M : Env) : AX → List V → H → Option (V × H) :=
 fun x env h => fin F.withyref13_Grays x env h

def withyref13_Grays_K1 (M : Env) : AX → List V → H → Option (V × H) :=
 fun x env h => match x with | .normal => evalC M F.withyref13_Grays_c0 env h (fun x env h => withyref13_Grays_K0 M x env h) | x => withyref13_Grays_K0 M x env h

def withyref13_Grays_K2 (M : Env) : AX → List V → H → Option (V × H) :=
 fun x env h => match x with | .exit j => (match Nat.beq j 0 with | true => withyref13_Grays_K1 M .normal env h | false => withyref13_Grays_K1 M (.exit j) env h) | x => withyref13_Grays_K1 M x env h

def withyref13_Grays (M : Env) (a0_0 : Int) (a0_1 : Int) (a0_2 : Int) (a0_3 : Int) (a0_4 : Int) (a0_5 : Int) (a1 : V) (h : H) : Option (V × H) :=
 let h0 := h.new (.cells [(.int .i64 a0_0), (.int .i64 a0_1), (.int .i64 a0_2), (.int .i64 a0_3), (.int .i64 a0_4), (.int .i64 a0_5)] .rw)
 (M.loop (withyref13_Grays_c1_B M) (withyref13_Grays_c1_E a1 (.ptr h.next 0) (.int .i64 0) (.int .i64 0)) h0).bind fun p1 => withyref13_Grays_K2 M p1.1 p1.2.1 p1.2.2

def withyref13_Grays_c1_S (M : Env) (x1 : V) (x2 : V) (x5 : Int) (x6 : Int) (h : H) : Option (AX × List V × H) :=
 (ptrAt x2 0).bind fun v0 =>
 (h.ld1 v0).bind fun v1 =>
 (asI .i64 v1).bind fun n2 =>
 match (decide (x6 < n2)) with
 | true => (
 (h.ldN 6 x2).bind fun v3 =>
 (M.call 322 [v3, x1, (.str ⟨⟨[104, 101, 97, 100, 101, 114]⟩⟩), (.int .i64 x6), (.int .i64 0)] h).bind fun p4 =>
 (M.call 109 [p4.1] p4.2).bind fun p5 =>
 match p5.1 with
 | .tup vs6 => ((vs6[0]?).bind fun v7 =>
 match p5.1 with
 | .tup vs8 => ((vs8[1]?).bind fun v9 =>
 let h10 := p5.2.new (.cells [(.int .i64 0), (.int .i64 0), (.bool false), (.int .i64 0), (.int .i64 0), (.int .i64 0)] .rw)
 (h10.st 6 (.ptr p5.2.next 0) v7).bind fun h11 =>
 match v9 with
 | .bool true => (
 (h11.ld1 (.ptr p5.2.next 2)).bind fun v12 =>
 (asB v12).bind fun b13 =>
 match b13 with
 | true => (
 some (.normal, (withyref13_Grays_c1_E x1 x2 (.int .i64 (wr .i64 (x5 + 1))) (.int .i64 (wr .i64 (x6 + 1)))), h11))
 | false => (
 some (.normal, (withyref13_Grays_c1_E x1 x2 (.int .i64 x5) (.int .i64 (wr .i64 (x6 + 1)))), h11)))
 | .bool false => (
 some (.normal, (withyref13_Grays_c1_E x1 x2 (.int .i64 x5) (.int .i64 (wr .i64 (x6 + 1)))), h11))
 | .tup [] => (
 (asB v9).bind fun b12 =>
 (asB (match b12 with | true => (.tup []) | false => (.bool false) : V)).bind fun b13 =>
 match b13 with
 | true => (
 some (.normal, (withyref13_Grays_c1_E x1 x2 (.int .i64 (wr .i64 (x5 + 1))) (.int .i64 (wr .i64 (x6 + 1)))), h11))
 | false => (
 some (.normal, (withyref13_Grays_c1_E x1 x2 (.int .i64 x5) (.int .i64 (wr .i64 (x6 + 1)))), h11)))
 | _ => none)
 | _ => none)
 | _ => none)
 | false => (
 some ((.exit 0), (withyref13_Grays_c1_O (.int .i64 x5)), h))

def withyref13_Grays_c1_e0 (M : Env) (x5 : Int) (h : H) : Option (V × H) :=
 some ((.int .i64 x5), h)

theorem withyref13_Grays_eq (M : Env) (a0_0 : Int) (a0_1 : Int) (a0_2 : Int) (a0_3 : Int) (a0_4 : Int) (a0_5 : Int) (a1 : V) (h : H) : evalF M F.withyref13_Grays [(.agg [(.int .i64 a0_0), (.int .i64 a0_1), (.int .i64 a0_2), (.int .i64 a0_3), (.int .i64 a0_4), (.int .i64 a0_5)]), a1] h = withyref13_Grays M a0_0 a0_1 a0_2 a0_3 a0_4 a0_5 a1 h := by kernel_rfl

theorem withyref13_Grays_c1_eq (M : Env) (x1 : V) (x2 : V) (x5 : Int) (x6 : Int) (h : H) : withyref13_Grays_c1_B M (withyref13_Grays_c1_E x1 x2 (.int .i64 x5) (.int .i64 x6)) h = withyref13_Grays_c1_S M x1 x2 x5 x6 h := by kernel_rfl

theorem withyref13_Grays_c1_e0_eq (M : Env) (x5 : Int) (h : H) : withyref13_Grays_K2 M (.exit 0) (withyref13_Grays_c1_O (.int .i64 x5)) h = withyref13_Grays_c1_e0 M x5 h := by kernel_rfl

end Wm.S
end

section
/- PRINTED by my tool (wip/wm/tool/Gen.lean): what a function comes to, stretch by stretch. -/
namespace Wm.S
open Wm
set_option maxRecDepth 100000
set_option linter.unusedVariables false


end Wm.S
end

section
/- PRINTED by my tool (wip/wm/tool/Gen.lean): what a function comes to, stretch by stretch. -/
namespace Wm.S
open Wm
set_option maxRecDepth 100000
set_option linter.unusedVariables false


end Wm.S
end

section
/- PRINTED by my tool (wip/wm/tool/Gen.lean): what a function comes to, stretch by stretch. -/
namespace Wm.S
open Wm
set_option maxRecDepth 100000
set_option linter.unusedVariables false


end Wm.S
end

section
/- PRINTED by my tool (wip/wm/tool/Gen.lean): what a function comes to, stretch by stretch. -/
namespace Wm.S
open Wm
set_option maxRecDepth 100000
set_option linter.unusedVariables false


end Wm.S
end

section
/- PRINTED by my tool (wip/wm/tool/Gen.lean): what a function comes to, stretch by stretch. -/
namespace Wm.S
open Wm
set_option maxRecDepth 100000
set_option linter.unusedVariables false


end Wm.S
end

section
/- PRINTED by my tool (wip/wm/tool/Gen.lean): what a function comes to, stretch by stretch. -/
namespace Wm.S
open Wm
set_option maxRecDepth 100000
set_option linter.unusedVariables false


end Wm.S
end

section
/- PRINTED by my tool (wip/wm/tool/Gen.lean): what a function comes to, stretch by stretch. -/
namespace Wm.S
open Wm
set_option maxRecDepth 100000
set_option linter.unusedVariables false

end Wm.S
end

section
/- PRINTED by my tool (wip/wm/tool/Gen.lean): what a function comes to, stretch by stretch. -/
namespace Wm.S
open Wm
set_option maxRecDepth 100000
set_option linter.unusedVariables false


end Wm.S
end

section
/- PRINTED by my tool (wip/wm/tool/Gen.lean): what a function comes to, stretch by stretch. -/
namespace Wm.S
open Wm
set_option maxRecDepth 100000
set_option linter.unusedVariables false


end Wm.S
end

section
/- PRINTED by my tool (wip/wm/tool/Gen.lean): what a function comes to, stretch by stretch. -/
namespace Wm.S
open Wm
set_option maxRecDepth 100000
set_option linter.unusedVariables false

end Wm.S
end

section
/- PRINTED by my tool (wip/wm/tool/Gen.lean): what a function comes to, stretch by stretch. -/
namespace Wm.S
open Wm
set_option maxRecDepth 100000
set_option linter.unusedVariables false


end Wm.S
end

section
/- PRINTED by my tool (wip/wm/tool/Gen.lean): what a function comes to, stretch by stretch. -/
namespace Wm.S
open Wm
set_option maxRecDepth 100000
set_option linter.unusedVariables false


def plan_place (M : Env) (a0_0 : Int) (a0_1 : Int) (a0_2 : Int) (a0_3 : Int) (a0_4 : Int) (a0_5 : Int) (a1 : Int) (a2 : Int) (a3 : Int) (a4 : Int) (h : H) : Option (V × H) :=
 let h0 := h.new (.cells [(.int .i64 a0_0), (.int .i64 a0_1), (.int .i64 a0_2), (.int .i64 a0_3), (.int .i64 a0_4), (.int .i64 a0_5)] .rw)
 (h0.ldN 6 (.ptr h.next 0)).bind fun v1 =>
 (M.call 263 [v1] h0).bind fun p2 =>
 (asB p2.1).bind fun b3 =>
 match (!b3) with
 | true => (
 some ((.int .i64 (-1)), p2.2))
 | false => (
 (p2.2.ld1 (.ptr h.next 2)).bind fun v4 =>
 (asI .i64 v4).bind fun n5 =>
 (M.call 376 [(.int .i64 a1), (.int .i64 0), (.int .i64 (wr .i64 (n5 - 1)))] p2.2).bind fun p6 =>
 (asB p6.1).bind fun b7 =>
 match (!b7) with
 | true => (
 some ((.int .i64 (-1)), p6.2))
 | false => (
 (M.call 376 [(.int .i64 a4), (.int .i64 0), (.int .i64 (wr .i64 (a3 - 1)))] p6.2).bind fun p8 =>
 (asB p8.1).bind fun b9 =>
 match (!b9) with
 | true => (
 some ((.int .i64 (-1)), p8.2))
 | false => (
 (p8.2.ld1 (.ptr h.next 2)).bind fun v10 =>
 (asI .i64 v10).bind fun n11 =>
 some ((.int .i64 (wr .i64 ((wr .i64 ((wr .i64 (4 + (wr .i64 (a2 * n11)))) + (wr .i64 (a1 * a3)))) + a4))), p8.2))))

theorem plan_place_eq (M : Env) (a0_0 : Int) (a0_1 : Int) (a0_2 : Int) (a0_3 : Int) (a0_4 : Int) (a0_5 : Int) (a1 : Int) (a2 : Int) (a3 : Int) (a4 : Int) (h : H) : evalF M F.plan_place [(.agg [(.int .i64 a0_0), (.int .i64 a0_1), (.int .i64 a0_2), (.int .i64 a0_3), (.int .i64 a0_4), (.int .i64 a0_5)]), (.int .i64 a1), (.int .i64 a2), (.int .i64 a3), (.int .i64 a4)] h = plan_place M a0_0 a0_1 a0_2 a0_3 a0_4 a0_5 a1 a2 a3 a4 h := by kernel_rfl

end Wm.S
end

section
/- PRINTED by my tool (wip/wm/tool/Gen.lean): what a function comes to, stretch by stretch. -/
namespace Wm.S
open Wm
set_option maxRecDepth 100000
set_option linter.unusedVariables false


def plan_Body (M : Env) (a0_0 : Int) (a0_1 : Int) (a0_2 : Int) (a0_3 : Int) (a0_4 : Int) (a0_5 : Int) (a1 : Int) (a2 : Int) (h : H) : Option (V × H) :=
 let h0 := h.new (.cells [(.int .i64 a0_0), (.int .i64 a0_1), (.int .i64 a0_2), (.int .i64 a0_3), (.int .i64 a0_4), (.int .i64 a0_5)] .rw)
 match (decide (a2 < 0)) with
 | true => (
 some ((.int .i64 (-1)), h0))
 | false => (
 match (decide (8 < a2)) with
 | true => (
 some ((.int .i64 (-1)), h0))
 | false => (
 (h0.ldN 6 (.ptr h.next 0)).bind fun v1 =>
 (M.call 375 [v1, (.int .i64 a1), (.int .i64 (wr .i64 (2 + a2)))] h0).bind fun p2 =>
 some (p2.1, p2.2)))

theorem plan_Body_eq (M : Env) (a0_0 : Int) (a0_1 : Int) (a0_2 : Int) (a0_3 : Int) (a0_4 : Int) (a0_5 : Int) (a1 : Int) (a2 : Int) (h : H) : evalF M F.plan_Body [(.agg [(.int .i64 a0_0), (.int .i64 a0_1), (.int .i64 a0_2), (.int .i64 a0_3), (.int .i64 a0_4), (.int .i64 a0_5)]), (.int .i64 a1), (.int .i64 a2)] h = plan_Body M a0_0 a0_1 a0_2 a0_3 a0_4 a0_5 a1 a2 h := by kernel_rfl

end Wm.S
end

section
/- PRINTED by my tool (wip/wm/tool/Gen.lean): what a function comes to, stretch by stretch. -/
namespace Wm.S
open Wm
set_option maxRecDepth 100000
set_option linter.unusedVariables false


def plan_Entry (M : Env) (a0_0 : Int) (a0_1 : Int) (a0_2 : Int) (a0_3 : Int) (a0_4 : Int) (a0_5 : Int) (a1 : Int) (a2 : Int) (h : H) : Option (V × H) :=
 let h0 := h.new (.cells [(.int .i64 a0_0), (.int .i64 a0_1), (.int .i64 a0_2), (.int .i64 a0_3), (.int .i64 a0_4), (.int .i64 a0_5)] .rw)
 (h0.ldN 6 (.ptr h.next 0)).bind fun v1 =>
 (h0.ld1 (.ptr h.next 3)).bind fun v2 =>
 (M.call 397 [v1, (.int .i64 a1), (.int .i64 1), v2, (.int .i64 a2)] h0).bind fun p3 =>
 some (p3.1, p3.2)

theorem plan_Entry_eq (M : Env) (a0_0 : Int) (a0_1 : Int) (a0_2 : Int) (a0_3 : Int) (a0_4 : Int) (a0_5 : Int) (a1 : Int) (a2 : Int) (h : H) : evalF M F.plan_Entry [(.agg [(.int .i64 a0_0), (.int .i64 a0_1), (.int .i64 a0_2), (.int .i64 a0_3), (.int .i64 a0_4), (.int .i64 a0_5)]), (.int .i64 a1), (.int .i64 a2)] h = plan_Entry M a0_0 a0_1 a0_2 a0_3 a0_4 a0_5 a1 a2 h := by kernel_rfl

end Wm.S
end

section
/- PRINTED by my tool (wip/wm/tool/Gen.lean): what a function comes to, stretch by stretch. -/
namespace Wm.S
open Wm
set_option maxRecDepth 100000
set_option linter.unusedVariables false


end Wm.S
end

section
/- PRINTED by my tool (wip/wm/tool/Gen.lean): what a function comes to, stretch by stretch. -/
namespace Wm.S
open Wm
set_option maxRecDepth 100000
set_option linter.unusedVariables false


def plan_Start (M : Env) (a0_0 : Int) (a0_1 : Int) (a0_2 : Int) (a0_3 : Int) (a0_4 : Int) (a0_5 : Int) (a1 : Int) (h : H) : Option (V × H) :=
 let h0 := h.new (.cells [(.int .i64 a0_0), (.int .i64 a0_1), (.int .i64 a0_2), (.int .i64 a0_3), (.int .i64 a0_4), (.int .i64 a0_5)] .rw)
 (h0.ldN 6 (.ptr h.next 0)).bind fun v1 =>
 (h0.ld1 (.ptr h.next 3)).bind fun v2 =>
 (asI .i64 v2).bind fun n3 =>
 (M.call 397 [v1, (.int .i64 a1), (.int .i64 (wr .i64 (1 + n3))), (.int .i64 2), (.int .i64 1)] h0).bind fun p4 =>
 some (p4.1, p4.2)

theorem plan_Start_eq (M : Env) (a0_0 : Int) (a0_1 : Int) (a0_2 : Int) (a0_3 : Int) (a0_4 : Int) (a0_5 : Int) (a1 : Int) (h : H) : evalF M F.plan_Start [(.agg [(.int .i64 a0_0), (.int .i64 a0_1), (.int .i64 a0_2), (.int .i64 a0_3), (.int .i64 a0_4), (.int .i64 a0_5)]), (.int .i64 a1)] h = plan_Start M a0_0 a0_1 a0_2 a0_3 a0_4 a0_5 a1 h := by kernel_rfl

end Wm.S
end

section
/- PRINTED by my tool (wip/wm/tool/Gen.lean): what a function comes to, stretch by stretch. -/
namespace Wm.S
open Wm
set_option maxRecDepth 100000
set_option linter.unusedVariables false


end Wm.S
end

section
/- PRINTED by my tool (wip/wm/tool/Gen.lean): what a function comes to, stretch by stretch. -/
namespace Wm.S
open Wm
set_option maxRecDepth 100000
set_option linter.unusedVariables false


end Wm.S
end

section
/- PRINTED by my tool (wip/wm/tool/Gen.lean): what a function comes to, stretch by stretch. -/
namespace Wm.S
open Wm
set_option maxRecDepth 100000
set_option linter.unusedVariables false


end Wm.S
end

section
/- PRINTED by my tool (wip/wm/tool/Gen.lean): what a function comes to, stretch by stretch. -/
namespace Wm.S
open Wm
set_option maxRecDepth 100000
set_option linter.unusedVariables false


end Wm.S
end

section
/- PRINTED by my tool (wip/wm/tool/Gen.lean): what a function comes to, stretch by stretch. -/
namespace Wm.S
open Wm
set_option maxRecDepth 100000
set_option linter.unusedVariables false


end Wm.S
end

section
/- PRINTED by my tool (wip/wm/tool/Gen.lean): what a function comes to, stretch by stretch. -/
namespace Wm.S
open Wm
set_option maxRecDepth 100000
set_option linter.unusedVariables false


end Wm.S
end

section
/- PRINTED by my tool (wip/wm/tool/Gen.lean): what a function comes to, stretch by stretch. -/
namespace Wm.S
open Wm
set_option maxRecDepth 100000
set_option linter.unusedVariables false


end Wm.S
end

section
/- PRINTED by my tool (wip/wm/tool/Gen.lean): what a function comes to, stretch by stretch. -/
namespace Wm.S
open Wm
set_option maxRecDepth 100000
set_option linter.unusedVariables false


end Wm.S
end

section
/- PRINTED by my tool (wip/wm/tool/Gen.lean): what a function comes to, stretch by stretch. -/
namespace Wm.S
open Wm
set_option maxRecDepth 100000
set_option linter.unusedVariables false


end Wm.S
end

section
/- PRINTED by my tool (wip/wm/tool/Gen.lean): what a function comes to, stretch by stretch. -/
namespace Wm.S
open Wm
set_option maxRecDepth 100000
set_option linter.unusedVariables false


end Wm.S
end

section
/- PRINTED by my tool (wip/wm/tool/Gen.lean): what a function comes to, stretch by stretch. -/
namespace Wm.S
open Wm
set_option maxRecDepth 100000
set_option linter.unusedVariables false


end Wm.S
end

section
/- PRINTED by my tool (wip/wm/tool/Gen.lean): what a function comes to, stretch by stretch. -/
namespace Wm.S
open Wm
set_option maxRecDepth 100000
set_option linter.unusedVariables false


end Wm.S
end

section
/- PRINTED by my tool (wip/wm/tool/Gen.lean): what a function comes to, stretch by stretch. -/
namespace Wm.S
open Wm
set_option maxRecDepth 100000
set_option linter.unusedVariables false


end Wm.S
end

section
/- PRINTED by my tool (wip/wm/tool/Gen.lean): what a function comes to, stretch by stretch. -/
namespace Wm.S
open Wm
set_option maxRecDepth 100000
set_option linter.unusedVariables false


end Wm.S
end

section
/- PRINTED by my tool (wip/wm/tool/Gen.lean): what a function comes to, stretch by stretch. -/
namespace Wm.S
open Wm
set_option maxRecDepth 100000
set_option linter.unusedVariables false


end Wm.S
end

section
/- PRINTED by my tool (wip/wm/tool/Gen.lean): what a function comes to, stretch by stretch. -/
namespace Wm.S
open Wm
set_option maxRecDepth 100000
set_option linter.unusedVariables false


end Wm.S
end

section
/- PRINTED by my tool (wip/wm/tool/Gen.lean): what a function comes to, stretch by stretch. -/
namespace Wm.S
open Wm
set_option maxRecDepth 100000
set_option linter.unusedVariables false


end Wm.S
end

section
/- PRINTED by my tool (wip/wm/tool/Gen.lean): what a function comes to, stretch by stretch. -/
namespace Wm.S
open Wm
set_option maxRecDepth 100000
set_option linter.unusedVariables false


end Wm.S
end

section
/- PRINTED by my tool (wip/wm/tool/Gen.lean): what a function comes to, stretch by stretch. -/
namespace Wm.S
open Wm
set_option maxRecDepth 100000
set_option linter.unusedVariables false

end Wm.S
end

section
/- PRINTED by my tool (wip/wm/tool/Gen.lean): what a function comes to, stretch by stretch. -/
namespace Wm.S
open Wm
set_option maxRecDepth 100000
set_option linter.unusedVariables false


end Wm.S
end

section
/- PRINTED by my tool (wip/wm/tool/Gen.lean): what a function comes to, stretch by stretch. -/
namespace Wm.S
open Wm
set_option maxRecDepth 100000
set_option linter.unusedVariables false


end Wm.S
end

section
/- PRINTED by my tool (wip/wm/tool/Gen.lean): what a function comes to, stretch by stretch. -/
namespace Wm.S
open Wm
set_option maxRecDepth 100000
set_option linter.unusedVariables false


end Wm.S
end

section
/- PRINTED by my tool (wip/wm/tool/Gen.lean): what a function comes to, stretch by stretch. -/
namespace Wm.S
open Wm
set_option maxRecDepth 100000
set_option linter.unusedVariables false


end Wm.S
end

section
/- PRINTED by my tool (wip/wm/tool/Gen.lean): what a function comes to, stretch by stretch. -/
namespace Wm.S
open Wm
set_option maxRecDepth 100000
set_option linter.unusedVariables false


end Wm.S
end

section
/- PRINTED by my tool (wip/wm/tool/Gen.lean): what a function comes to, stretch by stretch. -/
namespace Wm.S
open Wm
set_option maxRecDepth 100000
set_option linter.unusedVariables false


end Wm.S
end

section
/- PRINTED by my tool (wip/wm/tool/Gen.lean): what a function comes to, stretch by stretch. -/
namespace Wm.S
open Wm
set_option maxRecDepth 100000
set_option linter.unusedVariables false

end Wm.S
end

section
/- PRINTED by my tool (wip/wm/tool/Gen.lean): what a function comes to, stretch by stretch. -/
namespace Wm.S
open Wm
set_option maxRecDepth 100000
set_option linter.unusedVariables false

end Wm.S
end

section
/- PRINTED by my tool (wip/wm/tool/Gen.lean): what a function comes to, stretch by stretch. -/
namespace Wm.S
open Wm
set_option maxRecDepth 100000
set_option linter.unusedVariables false

end Wm.S
end

section
/- PRINTED by my tool (wip/wm/tool/Gen.lean): what a function comes to, stretch by stretch. -/
namespace Wm.S
open Wm
set_option maxRecDepth 100000
set_option linter.unusedVariables false

def withyref13_Laid_c1_B (M : Env) : List V → H → Option (AX × List V × H) :=
 fun env h => evalC M F.withyref13_Laid_c1 env h fun x env h => match x with
 | .normal => some (.normal, keepOf [1, 2, 3, 4, 9, 10, 11] 0 env, h)
 | x => some (x, keepOf [2, 3, 4, 9, 10] 0 env, h)

def withyref13_Laid_c1_E (x1 x2 x3 x4 x9 x10 x11 : V) : List V := dd 1 (x1 :: x2 :: x3 :: x4 :: dd 4 (x9 :: x10 :: x11 :: dd 168 []))
def withyref13_Laid_c1_O (x2 x3 x4 x9 x10 : V) : List V := dd 2 (x2 :: x3 :: x4 :: dd 4 (x9 :: x10 :: dd 169 []))

def withyref13_Laid_c4_B (M : Env) : List V → H → Option (AX × List V × H) :=
 fun env h => evalC M F.withyref13_Laid_c4 env h fun x env h => match x with
 | .normal => some (.normal, keepOf [1, 2, 3, 4, 9, 10, 11, 12, 13] 0 env, h)
 | x => some (x, keepOf [1, 2, 3, 4, 9, 10, 11, 12] 0 env, h)

def withyref13_Laid_c4_E (x1 x2 x3 x4 x9 x10 x11 x12 x13 : V) : List V := dd 1 (x1 :: x2 :: x3 :: x4 :: dd 4 (x9 :: x10 :: x11 :: x12 :: x13 :: dd 166 []))
def withyref13_Laid_c4_O (x1 x2 x3 x4 x9 x10 x11 x12 : V) : List V := dd 1 (x1 :: x2 :: x3 :: x4 :: dd 4 (x9 :: x10 :: x11 :: x12 :: dd 167 []))

def withyref13_Laid_c6_B (M : Env) : List V → H → Option (AX × List V × H) :=
 fun env h => evalC M F.withyref13_Laid_c6 env h fun x env h => match x with
 | .normal => some (.normal, keepOf [2, 3, 4, 9, 14] 0 env, h)
 | x => some (x, keepOf [3, 4, 9] 0 env, h)

def withyref13_Laid_c6_E (x2 x3 x4 x9 x14 : V) : List V := dd 2 (x2 :: x3 :: x4 :: dd 4 (x9 :: dd 4 (x14 :: dd 165 [])))
def withyref13_Laid_c6_O (x3 x4 x9 : V) : List V := dd 3 (x3 :: x4 :: dd 4 (x9 :: dd 170 []))

def withyref13_Laid_c8_B (M : Env) : List V → H → Option (AX × List V × H) :=
 fun env h => evalC M F.withyref13_Laid_c8 env h fun x env h => match x with
 | .normal => some (.normal, keepOf [3, 4, 9, 17] 0 env, h)
 | x => some (x, keepOf [4, 9] 0 env, h)

def withyref13_Laid_c8_E (x3 x4 x9 x17 : V) : List V := dd 3 (x3 :: x4 :: dd 4 (x9 :: dd 7 (x17 :: dd 162 [])))
def withyref13_Laid_c8_O (x4 x9 : V) : List V := dd 4 (x4 :: dd 4 (x9 :: dd 170 []))

def withyref13_Laid_K0 (M : Env) : AX → List V → H → Option (V × H) :=
 fun x env h => fin F.withyref13_Laid x env h

def withyref13_Laid_K1 (M : Env) : AX → List V → H → Option (V × H) :=
 fun x env h => match x with | .normal => evalC M F.withyref13_Laid_c0 env h (fun x env h => withyref13_Laid_K0 M x env h) | x => withyref13_Laid_K0 M x env h

def withyref13_Laid_K2 (M : Env) : AX → List V → H → Option (V × H) :=
 fun x env h => match x with | .exit j => (match Nat.beq j 0 with | true => withyref13_Laid_K1 M .normal env h | false => withyref13_Laid_K1 M (.exit j) env h) | x => withyref13_Laid_K1 M x env h

def withyref13_Laid_K3 (M : Env) : AX → List V → H → Option (AX × List V × H) :=
 fun x env h => match x with | .normal => some (.normal, keepOf [1, 2, 3, 4, 9, 10, 11] 0 env, h) | x => some (x, keepOf [2, 3, 4, 9, 10] 0 env, h)

def withyref13_Laid_K4 (M : Env) : AX → List V → H → Option (AX × List V × H) :=
 fun x env h => match x with | .normal => evalC M F.withyref13_Laid_c2 env h (fun x env h => withyref13_Laid_K3 M x env h) | x => withyref13_Laid_K3 M x env h

def withyref13_Laid_K5 (M : Env) : AX → List V → H → Option (AX × List V × H) :=
 fun x env h => match x with | .exit j => (match Nat.beq j 1 with | true => withyref13_Laid_K4 M .normal env h | false => withyref13_Laid_K4 M (.exit j) env h) | x => withyref13_Laid_K4 M x env h

def withyref13_Laid_K6 (M : Env) : AX → List V → H → Option (AX × List V × H) :=
 fun x env h => match x with | .normal => evalC M F.withyref13_Laid_c3 env h (fun x env h => withyref13_Laid_K5 M x env h) | x => withyref13_Laid_K5 M x env h

def withyref13_Laid_K7 (M : Env) : AX → List V → H → Option (AX × List V × H) :=
 fun x env h => match x with | .exit j => (match Nat.beq j 2 with | true => withyref13_Laid_K6 M .normal env h | false => withyref13_Laid_K6 M (.exit j) env h) | x => withyref13_Laid_K6 M x env h

def withyref13_Laid_K8 (M : Env) : AX → List V → H → Option (V × H) :=
 fun x env h => match x with | .normal => evalC M F.withyref13_Laid_c5 env h (fun x env h => withyref13_Laid_K0 M x env h) | x => withyref13_Laid_K0 M x env h

def withyref13_Laid_K9 (M : Env) : AX → List V → H → Option (V × H) :=
 fun x env h => match x with | .exit j => (match Nat.beq j 4 with | true => withyref13_Laid_K8 M .normal env h | false => withyref13_Laid_K8 M (.exit j) env h) | x => withyref13_Laid_K8 M x env h

def withyref13_Laid_K10 (M : Env) : AX → List V → H → Option (V × H) :=
 fun x env h => match x with | .normal => evalC M F.withyref13_Laid_c7 env h (fun x env h => withyref13_Laid_K0 M x env h) | x => withyref13_Laid_K0 M x env h

def withyref13_Laid_K11 (M : Env) : AX → List V → H → Option (V × H) :=
 fun x env h => match x with | .exit j => (match Nat.beq j 6 with | true => withyref13_Laid_K10 M .normal env h | false => withyref13_Laid_K10 M (.exit j) env h) | x => withyref13_Laid_K10 M x env h

def withyref13_Laid (M : Env) (a0_0 : Int) (a0_1 : Int) (a0_2 : Int) (a0_3 : Int) (a0_4 : Int) (a0_5 : Int) (a1 : V) (a2 : V) (a3 : V) (h : H) : Option (V × H) :=
 let h0 := h.new (.cells [(.int .i64 a0_0), (.int .i64 a0_1), (.int .i64 a0_2), (.int .i64 a0_3), (.int .i64 a0_4), (.int .i64 a0_5)] .rw)
 (h0.ldN 6 (.ptr h.next 0)).bind fun v1 =>
 (M.call 86 [v1] h0).bind fun p2 =>
 (p2.2.ld1 (.ptr h.next 0)).bind fun v3 =>
 (asI .i64 v3).bind fun n4 =>
 (M.loop (withyref13_Laid_c1_B M) (withyref13_Laid_c1_E a1 a2 a3 (.ptr h.next 0) p2.1 (.int .u64 0) (.int .i64 (wr .i64 (n4 - 1)))) p2.2).bind fun p5 => withyref13_Laid_K2 M p5.1 p5.2.1 p5.2.2

def withyref13_Laid_c1_S (M : Env) (x1 : V) (x2 : V) (x3 : V) (x4 : V) (x9 : V) (x10 : Int) (x11 : Int) (h : H) : Option (AX × List V × H) :=
 match (decide (0 ≤ x11)) with
 | true => (
 let h0 := h.new (.cells [(.int .i64 0), (.int .i64 0), (.bool false), (.int .i64 0), (.int .i64 0), (.int .i64 0)] .rw)
 (h0.st 6 (.ptr h.next 0) (.agg [(.int .i64 0), (.int .i64 0), (.bool false), (.int .i64 0), (.int .i64 0), (.int .i64 0)])).bind fun h1 =>
 (lenSl x1).bind fun n2 =>
 match (decide (x11 < ((n2 : Nat) : Int))) with
 | true => (
 (indexAV 7 x1 (.int .i64 x11)).bind fun v3 =>
 (ptrAt v3 0).bind fun v4 =>
 (h1.ldN 6 v4).bind fun v5 =>
 (M.call 202 [v5] h1).bind fun p6 =>
 (asB p6.1).bind fun b7 =>
 match b7 with
 | true => (
 (indexAV 7 x1 (.int .i64 x11)).bind fun v8 =>
 (ptrAt v8 0).bind fun v9 =>
 (p6.2.ldN 6 v9).bind fun v10 =>
 (p6.2.st 6 (.ptr h.next 0) v10).bind fun h11 =>
 (M.loop (withyref13_Laid_c4_B M) (withyref13_Laid_c4_E x1 x2 x3 x4 x9 (.int .u64 x10) (.int .i64 x11) (.ptr h.next 0) (.int .i64 0)) h11).bind fun p12 => withyref13_Laid_K7 M p12.1 p12.2.1 p12.2.2)
 | false => (
 (p6.2.ldN 6 x4).bind fun v8 =>
 (p6.2.ldN 6 (.ptr h.next 0)).bind fun v9 =>
 (M.call 108 [v8, (.agg [(.str ⟨⟨[104, 101, 97, 100, 101, 114]⟩⟩), (.int .i64 x11), (.int .i64 0)])] p6.2).bind fun p10 =>
 match ckB (p10.2.ldN 6 (.ptr h.next 0)) v9 with
 | true => (
 (M.call 111 [v9] p10.2).bind fun p11 =>
 (indexAV 1 x9 p10.1).bind fun v12 =>
 (p11.2.st 1 v12 p11.1).bind fun h13 =>
 (h13.ld1 (.ptr h.next 0)).bind fun v14 =>
 (asI .i64 v14).bind fun n15 =>
 match (decide (n15 = 0)) with
 | true => (
 (h13.ldN 6 x4).bind fun v16 =>
 (M.call 108 [v16, (.agg [(.str ⟨⟨[108, 105, 110, 107]⟩⟩), (.int .i64 x11), (.int .i64 0)])] h13).bind fun p17 =>
 (indexAV 1 x9 p17.1).bind fun v18 =>
 (p17.2.st 1 v18 (.int .u64 x10)).bind fun h19 =>
 some (.normal, (withyref13_Laid_c1_E x1 x2 x3 x4 x9 (.int .u64 (wr .u64 (wr .i64 (x11 + 1)))) (.int .i64 (wr .i64 (x11 - 1)))), h19))
 | false => (
 some (.normal, (withyref13_Laid_c1_E x1 x2 x3 x4 x9 (.int .u64 x10) (.int .i64 (wr .i64 (x11 - 1)))), h13)))
 | false => none))
 | false => (
 (h1.ldN 6 x4).bind fun v3 =>
 (h1.ldN 6 (.ptr h.next 0)).bind fun v4 =>
 (M.call 108 [v3, (.agg [(.str ⟨⟨[104, 101, 97, 100, 101, 114]⟩⟩), (.int .i64 x11), (.int .i64 0)])] h1).bind fun p5 =>
 match ckB (p5.2.ldN 6 (.ptr h.next 0)) v4 with
 | true => (
 (M.call 111 [v4] p5.2).bind fun p6 =>
 (indexAV 1 x9 p5.1).bind fun v7 =>
 (p6.2.st 1 v7 p6.1).bind fun h8 =>
 (h8.ld1 (.ptr h.next 0)).bind fun v9 =>
 (asI .i64 v9).bind fun n10 =>
 match (decide (n10 = 0)) with
 | true => (
 (h8.ldN 6 x4).bind fun v11 =>
 (M.call 108 [v11, (.agg [(.str ⟨⟨[108, 105, 110, 107]⟩⟩), (.int .i64 x11), (.int .i64 0)])] h8).bind fun p12 =>
 (indexAV 1 x9 p12.1).bind fun v13 =>
 (p12.2.st 1 v13 (.int .u64 x10)).bind fun h14 =>
 some (.normal, (withyref13_Laid_c1_E x1 x2 x3 x4 x9 (.int .u64 (wr .u64 (wr .i64 (x11 + 1)))) (.int .i64 (wr .i64 (x11 - 1)))), h14))
 | false => (
 some (.normal, (withyref13_Laid_c1_E x1 x2 x3 x4 x9 (.int .u64 x10) (.int .i64 (wr .i64 (x11 - 1)))), h8)))
 | false => none))
 | false => (
 some ((.exit 0), (withyref13_Laid_c1_O x2 x3 x4 x9 (.int .u64 x10)), h))

def withyref13_Laid_c1_e0 (M : Env) (x2 : V) (x3 : V) (x4 : V) (x9 : V) (x10 : Int) (h : H) : Option (V × H) :=
 (indexAV 1 x9 (.int .i64 3)).bind fun v0 =>
 (h.st 1 v0 (.int .u64 x10)).bind fun h1 =>
 (M.loop (withyref13_Laid_c6_B M) (withyref13_Laid_c6_E x2 x3 x4 x9 (.int .i64 0)) h1).bind fun p2 => withyref13_Laid_K9 M p2.1 p2.2.1 p2.2.2

def withyref13_Laid_c4_S (M : Env) (x1 : V) (x2 : V) (x3 : V) (x4 : V) (x9 : V) (x10 : Int) (x11 : Int) (x12 : V) (x13 : Int) (h : H) : Option (AX × List V × H) :=
 (h.ldN 6 x4).bind fun v0 =>
 (M.call 149 [v0] h).bind fun p1 =>
 (asI .i64 p1.1).bind fun n2 =>
 match (decide (x13 < n2)) with
 | true => (
 (indexAV 7 x1 (.int .i64 x11)).bind fun v3 =>
 (ptrAt v3 6).bind fun v4 =>
 (p1.2.ld1 v4).bind fun v5 =>
 (lenSl v5).bind fun n6 =>
 match (decide (x13 < ((n6 : Nat) : Int))) with
 | true => (
 (p1.2.ldN 6 x4).bind fun v7 =>
 (indexAV 7 x1 (.int .i64 x11)).bind fun v8 =>
 (ptrAt v8 6).bind fun v9 =>
 (p1.2.ld1 v9).bind fun v10 =>
 (indexAV 1 v10 (.int .i64 x13)).bind fun v11 =>
 (p1.2.ld1 v11).bind fun v12 =>
 (M.call 108 [v7, (.agg [(.str ⟨⟨[98, 111, 100, 121]⟩⟩), (.int .i64 x11), (.int .i64 x13)])] p1.2).bind fun p13 =>
 match ckB (p13.2.ld1 v11) v12 with
 | true => (
 match ckB (p13.2.ld1 v9) v10 with
 | true => (
 (indexAV 1 x9 p13.1).bind fun v14 =>
 (p13.2.st 1 v14 v12).bind fun h15 =>
 some (.normal, (withyref13_Laid_c4_E x1 x2 x3 x4 x9 (.int .u64 x10) (.int .i64 x11) x12 (.int .i64 (wr .i64 (x13 + 1)))), h15))
 | false => none)
 | false => none)
 | false => (
 some ((.exit 2), (withyref13_Laid_c4_O x1 x2 x3 x4 x9 (.int .u64 x10) (.int .i64 x11) x12), p1.2)))
 | false => (
 some ((.exit 2), (withyref13_Laid_c4_O x1 x2 x3 x4 x9 (.int .u64 x10) (.int .i64 x11) x12), p1.2))

def withyref13_Laid_c4_e2 (M : Env) (x1 : V) (x2 : V) (x3 : V) (x4 : V) (x9 : V) (x10 : Int) (x11 : Int) (x12 : V) (h : H) : Option (AX × List V × H) :=
 (h.ldN 6 x4).bind fun v0 =>
 (h.ldN 6 x12).bind fun v1 =>
 (M.call 108 [v0, (.agg [(.str ⟨⟨[104, 101, 97, 100, 101, 114]⟩⟩), (.int .i64 x11), (.int .i64 0)])] h).bind fun p2 =>
 match ckB (p2.2.ldN 6 x12) v1 with
 | true => (
 (M.call 111 [v1] p2.2).bind fun p3 =>
 (indexAV 1 x9 p2.1).bind fun v4 =>
 (p3.2.st 1 v4 p3.1).bind fun h5 =>
 (ptrAt x12 0).bind fun v6 =>
 (h5.ld1 v6).bind fun v7 =>
 (asI .i64 v7).bind fun n8 =>
 match (decide (n8 = 0)) with
 | true => (
 (h5.ldN 6 x4).bind fun v9 =>
 (M.call 108 [v9, (.agg [(.str ⟨⟨[108, 105, 110, 107]⟩⟩), (.int .i64 x11), (.int .i64 0)])] h5).bind fun p10 =>
 (indexAV 1 x9 p10.1).bind fun v11 =>
 (p10.2.st 1 v11 (.int .u64 x10)).bind fun h12 =>
 some (.normal, (withyref13_Laid_c1_E x1 x2 x3 x4 x9 (.int .u64 (wr .u64 (wr .i64 (x11 + 1)))) (.int .i64 (wr .i64 (x11 - 1)))), h12))
 | false => (
 some (.normal, (withyref13_Laid_c1_E x1 x2 x3 x4 x9 (.int .u64 x10) (.int .i64 (wr .i64 (x11 - 1)))), h5)))
 | false => none

def withyref13_Laid_c6_S (M : Env) (x2 : V) (x3 : V) (x4 : V) (x9 : V) (x14 : Int) (h : H) : Option (AX × List V × H) :=
 (lenSl x2).bind fun n0 =>
 match (decide (x14 < ((n0 : Nat) : Int))) with
 | true => (
 (ptrAt x4 2).bind fun v1 =>
 (h.ld1 v1).bind fun v2 =>
 (ptrAt x4 3).bind fun v3 =>
 (h.ld1 v3).bind fun v4 =>
 (asI .i64 v4).bind fun n5 =>
 (asI .i64 v2).bind fun n6 =>
 match (decide (x14 < (wr .i64 (n6 * (wr .i64 (n5 + 1)))))) with
 | true => (
 (ptrAt x4 2).bind fun v7 =>
 (h.ld1 v7).bind fun v8 =>
 (asI .i64 v8).bind fun n9 =>
 (arith .rem .i64 x14 n9).bind fun n10 =>
 (ptrAt x4 2).bind fun v11 =>
 (h.ld1 v11).bind fun v12 =>
 (asI .i64 v12).bind fun n13 =>
 (arith .quo .i64 x14 n13).bind fun n14 =>
 (ptrAt x4 3).bind fun v15 =>
 (h.ld1 v15).bind fun v16 =>
 (asI .i64 v16).bind fun n17 =>
 match (decide (n14 < n17)) with
 | true => (
 (h.ldN 6 x4).bind fun v18 =>
 (indexAV 1 x2 (.int .i64 x14)).bind fun v19 =>
 (h.ld1 v19).bind fun v20 =>
 (asI .u64 v20).bind fun n21 =>
 (M.call 108 [v18, (.agg [(.str ⟨⟨[101, 110, 116, 114, 121]⟩⟩), (.int .i64 n10), (.int .i64 n14)])] h).bind fun p22 =>
 match ckB (p22.2.ld1 v19) v20 with
 | true => (
 (indexAV 1 x9 p22.1).bind fun v23 =>
 (p22.2.st 1 v23 (.int .u64 (Int.tmod n21 20))).bind fun h24 =>
 some (.normal, (withyref13_Laid_c6_E x2 x3 x4 x9 (.int .i64 (wr .i64 (x14 + 1)))), h24))
 | false => none)
 | false => (
 (h.ldN 6 x4).bind fun v18 =>
 (indexAV 1 x2 (.int .i64 x14)).bind fun v19 =>
 (h.ld1 v19).bind fun v20 =>
 (asI .u64 v20).bind fun n21 =>
 (M.call 108 [v18, (.agg [(.str ⟨⟨[115, 116, 97, 114, 116]⟩⟩), (.int .i64 n10), (.int .i64 0)])] h).bind fun p22 =>
 match ckB (p22.2.ld1 v19) v20 with
 | true => (
 (indexAV 1 x9 p22.1).bind fun v23 =>
 (p22.2.st 1 v23 (.int .u64 (Int.tmod n21 20))).bind fun h24 =>
 some (.normal, (withyref13_Laid_c6_E x2 x3 x4 x9 (.int .i64 (wr .i64 (x14 + 1)))), h24))
 | false => none))
 | false => (
 some ((.exit 4), (withyref13_Laid_c6_O x3 x4 x9), h)))
 | false => (
 some ((.exit 4), (withyref13_Laid_c6_O x3 x4 x9), h))

def withyref13_Laid_c6_e4 (M : Env) (x3 : V) (x4 : V) (x9 : V) (h : H) : Option (V × H) :=
 (M.loop (withyref13_Laid_c8_B M) (withyref13_Laid_c8_E x3 x4 x9 (.int .i64 0)) h).bind fun p0 => withyref13_Laid_K11 M p0.1 p0.2.1 p0.2.2

def withyref13_Laid_c8_S (M : Env) (x3 : V) (x4 : V) (x9 : V) (x17 : Int) (h : H) : Option (AX × List V × H) :=
 (lenSl x3).bind fun n0 =>
 match (decide (x17 < ((n0 : Nat) : Int))) with
 | true => (
 (ptrAt x4 2).bind fun v1 =>
 (h.ld1 v1).bind fun v2 =>
 (asI .i64 v2).bind fun n3 =>
 match (decide (x17 < n3)) with
 | true => (
 (h.ldN 6 x4).bind fun v4 =>
 (indexAV 1 x3 (.int .i64 x17)).bind fun v5 =>
 (h.ld1 v5).bind fun v6 =>
 (M.call 108 [v4, (.agg [(.str ⟨⟨[118, 105, 101, 119]⟩⟩), (.int .i64 x17), (.int .i64 0)])] h).bind fun p7 =>
 match ckB (p7.2.ld1 v5) v6 with
 | true => (
 (indexAV 1 x9 p7.1).bind fun v8 =>
 (p7.2.st 1 v8 v6).bind fun h9 =>
 some (.normal, (withyref13_Laid_c8_E x3 x4 x9 (.int .i64 (wr .i64 (x17 + 1)))), h9))
 | false => none)
 | false => (
 some ((.exit 6), (withyref13_Laid_c8_O x4 x9), h)))
 | false => (
 some ((.exit 6), (withyref13_Laid_c8_O x4 x9), h))

def withyref13_Laid_c8_e6 (M : Env) (x4 : V) (x9 : V) (h : H) : Option (V × H) :=
 (h.ldN 6 x4).bind fun v0 =>
 (M.call 297 [v0, x9] h).bind fun p1 =>
 (asIAny p1.1).bind fun n2 =>
 (indexAV 1 x9 (.int .i64 2)).bind fun v3 =>
 (p1.2.st 1 v3 (.int .u64 (wr .u64 n2))).bind fun h4 =>
 some (x9, h4)

theorem withyref13_Laid_eq (M : Env) (a0_0 : Int) (a0_1 : Int) (a0_2 : Int) (a0_3 : Int) (a0_4 : Int) (a0_5 : Int) (a1 : V) (a2 : V) (a3 : V) (h : H) : evalF M F.withyref13_Laid [(.agg [(.int .i64 a0_0), (.int .i64 a0_1), (.int .i64 a0_2), (.int .i64 a0_3), (.int .i64 a0_4), (.int .i64 a0_5)]), a1, a2, a3] h = withyref13_Laid M a0_0 a0_1 a0_2 a0_3 a0_4 a0_5 a1 a2 a3 h := by kernel_rfl

theorem withyref13_Laid_c1_eq (M : Env) (x1 : V) (x2 : V) (x3 : V) (x4 : V) (x9 : V) (x10 : Int) (x11 : Int) (h : H) : withyref13_Laid_c1_B M (withyref13_Laid_c1_E x1 x2 x3 x4 x9 (.int .u64 x10) (.int .i64 x11)) h = withyref13_Laid_c1_S M x1 x2 x3 x4 x9 x10 x11 h := by kernel_rfl

theorem withyref13_Laid_c1_e0_eq (M : Env) (x2 : V) (x3 : V) (x4 : V) (x9 : V) (x10 : Int) (h : H) : withyref13_Laid_K2 M (.exit 0) (withyref13_Laid_c1_O x2 x3 x4 x9 (.int .u64 x10)) h = withyref13_Laid_c1_e0 M x2 x3 x4 x9 x10 h := by kernel_rfl

theorem withyref13_Laid_c4_eq (M : Env) (x1 : V) (x2 : V) (x3 : V) (x4 : V) (x9 : V) (x10 : Int) (x11 : Int) (x12 : V) (x13 : Int) (h : H) : withyref13_Laid_c4_B M (withyref13_Laid_c4_E x1 x2 x3 x4 x9 (.int .u64 x10) (.int .i64 x11) x12 (.int .i64 x13)) h = withyref13_Laid_c4_S M x1 x2 x3 x4 x9 x10 x11 x12 x13 h := by kernel_rfl

theorem withyref13_Laid_c4_e2_eq (M : Env) (x1 : V) (x2 : V) (x3 : V) (x4 : V) (x9 : V) (x10 : Int) (x11 : Int) (x12 : V) (h : H) : withyref13_Laid_K7 M (.exit 2) (withyref13_Laid_c4_O x1 x2 x3 x4 x9 (.int .u64 x10) (.int .i64 x11) x12) h = withyref13_Laid_c4_e2 M x1 x2 x3 x4 x9 x10 x11 x12 h := by kernel_rfl

theorem withyref13_Laid_c6_eq (M : Env) (x2 : V) (x3 : V) (x4 : V) (x9 : V) (x14 : Int) (h : H) : withyref13_Laid_c6_B M (withyref13_Laid_c6_E x2 x3 x4 x9 (.int .i64 x14)) h = withyref13_Laid_c6_S M x2 x3 x4 x9 x14 h := by kernel_rfl

theorem withyref13_Laid_c6_e4_eq (M : Env) (x3 : V) (x4 : V) (x9 : V) (h : H) : withyref13_Laid_K9 M (.exit 4) (withyref13_Laid_c6_O x3 x4 x9) h = withyref13_Laid_c6_e4 M x3 x4 x9 h := by kernel_rfl

theorem withyref13_Laid_c8_eq (M : Env) (x3 : V) (x4 : V) (x9 : V) (x17 : Int) (h : H) : withyref13_Laid_c8_B M (withyref13_Laid_c8_E x3 x4 x9 (.int .i64 x17)) h = withyref13_Laid_c8_S M x3 x4 x9 x17 h := by kernel_rfl

theorem withyref13_Laid_c8_e6_eq (M : Env) (x4 : V) (x9 : V) (h : H) : withyref13_Laid_K11 M (.exit 6) (withyref13_Laid_c8_O x4 x9) h = withyref13_Laid_c8_e6 M x4 x9 h := by kernel_rfl

end Wm.S
end

section
/- PRINTED by my tool (wip/wm/tool/Gen.lean): what a function comes to, stretch by stretch. -/
namespace Wm.S
open Wm
set_option maxRecDepth 100000
set_option linter.unusedVariables false


end Wm.S
end

section
/- PRINTED by my tool (wip/wm/tool/Gen.lean): what a function comes to, stretch by stretch. -/
namespace Wm.S
open Wm
set_option maxRecDepth 100000
set_option linter.unusedVariables false


end Wm.S
end

section
/- PRINTED by my tool (wip/wm/tool/Gen.lean): what a function comes to, stretch by stretch. -/
namespace Wm.S
open Wm
set_option maxRecDepth 100000
set_option linter.unusedVariables false


def tag_EntryParts (M : Env) (a0 : Int) (h : H) : Option (V × H) :=
 (M.call 396 [(.int .u64 a0), (.int .i64 32), (.int .i64 32)] h).bind fun p0 =>
 (M.call 396 [(.int .u64 a0), (.int .i64 0), (.int .i64 32)] p0.2).bind fun p1 =>
 (asIAny p1.1).bind fun n2 =>
 some ((.tup [p0.1, (.int .i64 (wr .i64 ((wr .i64 n2) - 1)))]), p1.2)

theorem tag_EntryParts_eq (M : Env) (a0 : Int) (h : H) : evalF M F.tag_EntryParts [(.int .u64 a0)] h = tag_EntryParts M a0 h := by kernel_rfl

end Wm.S
end

section
/- PRINTED by my tool (wip/wm/tool/Gen.lean): what a function comes to, stretch by stretch. -/
namespace Wm.S
open Wm
set_option maxRecDepth 100000
set_option linter.unusedVariables false


def mark_Mark_named (M : Env) (a0 : V) (a1 : Int) (h : H) : Option (V × H) :=
 (nilc a0).bind fun v0 =>
 (ptrAt v0 2).bind fun v1 =>
 (ptrAt v1 0).bind fun v2 =>
 (h.ld1 v2).bind fun v3 =>
 (asIAny v3).bind fun n4 =>
 match (decide ((wr .u64 n4) < a1)) with
 | true => (
 some ((.int .i64 (-1)), h))
 | false => (
 some ((.int .i64 (wr .i64 ((wr .i64 a1) - 1))), h))

theorem mark_Mark_named_eq (M : Env) (a0 : V) (a1 : Int) (h : H) : evalF M F.mark_Mark_named [a0, (.int .u64 a1)] h = mark_Mark_named M a0 a1 h := by kernel_rfl

end Wm.S
end

section
/- PRINTED by my tool (wip/wm/tool/Gen.lean): what a function comes to, stretch by stretch. -/
namespace Wm.S
open Wm
set_option maxRecDepth 100000
set_option linter.unusedVariables false


def mark_Found_1 (M : Env) (a0 : Int) (f0 : V) (f1 : V) (f2 : V) (f3 : V) (f4 : V) (h : H) : Option (V × H) :=
 match (decide (a0 < 0)) with
 | true => (
 some ((.tup []), h))
 | false => (
 (ptrAt f0 0).bind fun v0 =>
 (h.ld1 v0).bind fun v1 =>
 (asI .i64 v1).bind fun n2 =>
 match (decide (n2 ≤ a0)) with
 | true => (
 some ((.tup []), h))
 | false => (
 (h.ld1 f1).bind fun v3 =>
 (indexAV 1 v3 (.int .i64 a0)).bind fun v4 =>
 (h.ld1 v4).bind fun v5 =>
 (asB v5).bind fun b6 =>
 match b6 with
 | true => (
 some ((.tup []), h))
 | false => (
 (h.ld1 f2).bind fun v7 =>
 (h.ldN 6 f0).bind fun v8 =>
 (h.ld1 f3).bind fun v9 =>
 (M.call 261 [v8, (.int .i64 a0)] h).bind fun p10 =>
 match ckB (p10.2.ld1 f3) v9 with
 | true => (
 match ckB (p10.2.ld1 f2) v7 with
 | true => (
 (indexAV 1 v7 p10.1).bind fun v11 =>
 (p10.2.ld1 v11).bind fun v12 =>
 (M.call 267 [v12, v9] p10.2).bind fun p13 =>
 match p13.1 with
 | .tup vs14 => ((vs14[0]?).bind fun v15 =>
 match p13.1 with
 | .tup vs16 => ((vs16[1]?).bind fun v17 =>
 (asB v17).bind fun b18 =>
 match b18 with
 | true => (
 (p13.2.ld1 f1).bind fun v19 =>
 (indexAV 1 v19 (.int .i64 a0)).bind fun v20 =>
 (p13.2.st 1 v20 (.bool true)).bind fun h21 =>
 (h21.ld1 f4).bind fun v22 =>
 let h23 := h21.new (.cells [(.int .i64 a0)] .rw)
 (h23.append 1 8 v22 (.sl h21.next 0 1 (.ex 1))).bind fun p24 =>
 (p24.2.st 1 f4 p24.1).bind fun h25 =>
 some ((.tup []), h25))
 | false => (
 some ((.tup []), p13.2)))
 | _ => none)
 | _ => none)
 | false => none)
 | false => none)))

theorem mark_Found_1_eq (M : Env) (a0 : Int) (f0 : V) (f1 : V) (f2 : V) (f3 : V) (f4 : V) (h : H) : evalF M F.mark_Found_1 [(.int .i64 a0), f0, f1, f2, f3, f4] h = mark_Found_1 M a0 f0 f1 f2 f3 f4 h := by kernel_rfl

end Wm.S
end

section
/- PRINTED by my tool (wip/wm/tool/Gen.lean): what a function comes to, stretch by stretch. -/
namespace Wm.S
open Wm
set_option maxRecDepth 100000
set_option linter.unusedVariables false


def withyref13_named (M : Env) (a0_0 : Int) (a0_1 : Int) (a0_2 : Int) (a0_3 : Int) (a0_4 : Int) (a0_5 : Int) (a1 : Int) (h : H) : Option (V × H) :=
 let h0 := h.new (.cells [(.int .i64 a0_0), (.int .i64 a0_1), (.int .i64 a0_2), (.int .i64 a0_3), (.int .i64 a0_4), (.int .i64 a0_5)] .rw)
 match (decide (a1 = 0)) with
 | true => (
 some ((.int .i64 (-1)), h0))
 | false => (
 (h0.ld1 (.ptr h.next 0)).bind fun v1 =>
 (asIAny v1).bind fun n2 =>
 match (decide ((wr .u64 n2) < a1)) with
 | true => (
 some ((.int .i64 (-1)), h0))
 | false => (
 some ((.int .i64 (wr .i64 ((wr .i64 a1) - 1))), h0)))

theorem withyref13_named_eq (M : Env) (a0_0 : Int) (a0_1 : Int) (a0_2 : Int) (a0_3 : Int) (a0_4 : Int) (a0_5 : Int) (a1 : Int) (h : H) : evalF M F.withyref13_named [(.agg [(.int .i64 a0_0), (.int .i64 a0_1), (.int .i64 a0_2), (.int .i64 a0_3), (.int .i64 a0_4), (.int .i64 a0_5)]), (.int .u64 a1)] h = withyref13_named M a0_0 a0_1 a0_2 a0_3 a0_4 a0_5 a1 h := by kernel_rfl

end Wm.S
end

section
/- PRINTED by my tool (wip/wm/tool/Gen.lean): what a function comes to, stretch by stretch. -/
namespace Wm.S
open Wm
set_option maxRecDepth 100000
set_option linter.unusedVariables false

def withyref13_Names_c1_B (M : Env) : List V → H → Option (AX × List V × H) :=
 fun env h => evalC M F.withyref13_Names_c1 env h fun x env h => match x with
 | .normal => some (.normal, keepOf [1, 2, 3, 7, 9, 10] 0 env, h)
 | x => some (x, keepOf [9] 0 env, h)

def withyref13_Names_c1_E (x1 x2 x3 x7 x9 x10 : V) : List V := dd 1 (x1 :: x2 :: x3 :: dd 3 (x7 :: dd 1 (x9 :: x10 :: dd 53 [])))
def withyref13_Names_c1_O (x9 : V) : List V := dd 9 (x9 :: dd 54 [])

def withyref13_Names_K0 (M : Env) : AX → List V → H → Option (V × H) :=
 fun x env h => fin F.withyref13_Names x env h

def withyref13_Names_K1 (M : Env) : AX → List V → H → Option (V × H) :=
 fun x env h => match x with | .normal => evalC M F.withyref13_Names_c0 env h (fun x env h => withyref13_Names_K0 M x env h) | x => withyref13_Names_K0 M x env h

def withyref13_Names_K2 (M : Env) : AX → List V → H → Option (V × H) :=
 fun x env h => match x with | .exit j => (match Nat.beq j 0 with | true => withyref13_Names_K1 M .normal env h | false => withyref13_Names_K1 M (.exit j) env h) | x => withyref13_Names_K1 M x env h

def withyref13_Names (M : Env) (a0_0 : Int) (a0_1 : Int) (a0_2 : Int) (a0_3 : Int) (a0_4 : Int) (a0_5 : Int) (a1 : V) (a2 : Int) (h : H) : Option (V × H) :=
 let h0 := h.new (.cells [(.int .i64 a0_0), (.int .i64 a0_1), (.int .i64 a0_2), (.int .i64 a0_3), (.int .i64 a0_4), (.int .i64 a0_5)] .rw)
 (h0.ldN 6 (.ptr h.next 0)).bind fun v1 =>
 (M.call 322 [v1, a1, (.str ⟨⟨[104, 101, 97, 100, 101, 114]⟩⟩), (.int .i64 a2), (.int .i64 0)] h0).bind fun p2 =>
 (M.call 109 [p2.1] p2.2).bind fun p3 =>
 match p3.1 with
 | .tup vs4 => ((vs4[0]?).bind fun v5 =>
 match p3.1 with
 | .tup vs6 => ((vs6[1]?).bind fun v7 =>
 let h8 := p3.2.new (.cells [(.int .i64 0), (.int .i64 0), (.bool false), (.int .i64 0), (.int .i64 0), (.int .i64 0)] .rw)
 (h8.st 6 (.ptr p3.2.next 0) v5).bind fun h9 =>
 (M.loop (withyref13_Names_c1_B M) (withyref13_Names_c1_E a1 (.int .i64 a2) (.ptr h.next 0) (.ptr p3.2.next 0) .nilsl (.int .i64 0)) h9).bind fun p10 => withyref13_Names_K2 M p10.1 p10.2.1 p10.2.2)
 | _ => none)
 | _ => none

def withyref13_Names_c1_S (M : Env) (x1 : V) (x2 : Int) (x3 : V) (x7 : V) (x9 : V) (x10 : Int) (h : H) : Option (AX × List V × H) :=
 match (decide (x10 < 15)) with
 | true => (
 (ptrAt x7 0).bind fun v0 =>
 (h.ld1 v0).bind fun v1 =>
 (asI .i64 v1).bind fun n2 =>
 match (decide (n2 = 1)) with
 | true => (
 (ptrAt x7 3).bind fun v3 =>
 (h.ld1 v3).bind fun v4 =>
 (asI .i64 v4).bind fun n5 =>
 match (decide (x10 < n5)) with
 | true => (
 (h.ldN 6 x3).bind fun v6 =>
 (h.ldN 6 x3).bind fun v7 =>
 (M.call 322 [v7, x1, (.str ⟨⟨[98, 111, 100, 121]⟩⟩), (.int .i64 x2), (.int .i64 x10)] h).bind fun p8 =>
 match ckB (p8.2.ldN 6 x3) v6 with
 | true => (
 (M.call 398 [v6, p8.1] p8.2).bind fun p9 =>
 (asI .i64 p9.1).bind fun n10 =>
 match (decide (0 ≤ n10)) with
 | true => (
 (fill (repl [(.int .i64 0)] 1) [] [(0, 1, .c p9.1)]).bind fun cs11 =>
 let h12 := p9.2.new (.cells cs11 .rw)
 (h12.append 1 8 x9 (.sl p9.2.next 0 1 (.ex 1))).bind fun p13 =>
 some (.normal, (withyref13_Names_c1_E x1 (.int .i64 x2) x3 x7 p13.1 (.int .i64 (wr .i64 (x10 + 1)))), p13.2))
 | false => (
 some (.normal, (withyref13_Names_c1_E x1 (.int .i64 x2) x3 x7 x9 (.int .i64 (wr .i64 (x10 + 1)))), p9.2)))
 | false => none)
 | false => (
 (ptrAt x7 0).bind fun v6 =>
 (h.ld1 v6).bind fun v7 =>
 (asI .i64 v7).bind fun n8 =>
 match (decide (n8 = 2)) with
 | true => (
 match (decide (x10 = 0)) with
 | true => (
 (h.ldN 6 x3).bind fun v9 =>
 (h.ldN 6 x3).bind fun v10 =>
 (M.call 322 [v10, x1, (.str ⟨⟨[98, 111, 100, 121]⟩⟩), (.int .i64 x2), (.int .i64 x10)] h).bind fun p11 =>
 match ckB (p11.2.ldN 6 x3) v9 with
 | true => (
 (M.call 398 [v9, p11.1] p11.2).bind fun p12 =>
 (asI .i64 p12.1).bind fun n13 =>
 match (decide (0 ≤ n13)) with
 | true => (
 (fill (repl [(.int .i64 0)] 1) [] [(0, 1, .c p12.1)]).bind fun cs14 =>
 let h15 := p12.2.new (.cells cs14 .rw)
 (h15.append 1 8 x9 (.sl p12.2.next 0 1 (.ex 1))).bind fun p16 =>
 some (.normal, (withyref13_Names_c1_E x1 (.int .i64 x2) x3 x7 p16.1 (.int .i64 (wr .i64 (x10 + 1)))), p16.2))
 | false => (
 some (.normal, (withyref13_Names_c1_E x1 (.int .i64 x2) x3 x7 x9 (.int .i64 (wr .i64 (x10 + 1)))), p12.2)))
 | false => none)
 | false => (
 (h.ldN 6 x3).bind fun v9 =>
 (h.ldN 6 x3).bind fun v10 =>
 (M.call 322 [v10, x1, (.str ⟨⟨[98, 111, 100, 121]⟩⟩), (.int .i64 x2), (.int .i64 x10)] h).bind fun p11 =>
 match ckB (p11.2.ldN 6 x3) v9 with
 | true => (
 (M.call 398 [v9, p11.1] p11.2).bind fun p12 =>
 match (decide (x10 = 2)) with
 | true => (
 (asI .i64 p12.1).bind fun n13 =>
 match (decide (0 ≤ n13)) with
 | true => (
 (fill (repl [(.int .i64 0)] 1) [] [(0, 1, .c p12.1)]).bind fun cs14 =>
 let h15 := p12.2.new (.cells cs14 .rw)
 (h15.append 1 8 x9 (.sl p12.2.next 0 1 (.ex 1))).bind fun p16 =>
 some (.normal, (withyref13_Names_c1_E x1 (.int .i64 x2) x3 x7 p16.1 (.int .i64 (wr .i64 (x10 + 1)))), p16.2))
 | false => (
 some (.normal, (withyref13_Names_c1_E x1 (.int .i64 x2) x3 x7 x9 (.int .i64 (wr .i64 (x10 + 1)))), p12.2)))
 | false => (
 some (.normal, (withyref13_Names_c1_E x1 (.int .i64 x2) x3 x7 x9 (.int .i64 (wr .i64 (x10 + 1)))), p12.2)))
 | false => none))
 | false => (
 (h.ldN 6 x3).bind fun v9 =>
 (h.ldN 6 x3).bind fun v10 =>
 (M.call 322 [v10, x1, (.str ⟨⟨[98, 111, 100, 121]⟩⟩), (.int .i64 x2), (.int .i64 x10)] h).bind fun p11 =>
 match ckB (p11.2.ldN 6 x3) v9 with
 | true => (
 (M.call 398 [v9, p11.1] p11.2).bind fun p12 =>
 some (.normal, (withyref13_Names_c1_E x1 (.int .i64 x2) x3 x7 x9 (.int .i64 (wr .i64 (x10 + 1)))), p12.2))
 | false => none)))
 | false => (
 (ptrAt x7 0).bind fun v3 =>
 (h.ld1 v3).bind fun v4 =>
 (asI .i64 v4).bind fun n5 =>
 match (decide (n5 = 2)) with
 | true => (
 match (decide (x10 = 0)) with
 | true => (
 (h.ldN 6 x3).bind fun v6 =>
 (h.ldN 6 x3).bind fun v7 =>
 (M.call 322 [v7, x1, (.str ⟨⟨[98, 111, 100, 121]⟩⟩), (.int .i64 x2), (.int .i64 x10)] h).bind fun p8 =>
 match ckB (p8.2.ldN 6 x3) v6 with
 | true => (
 (M.call 398 [v6, p8.1] p8.2).bind fun p9 =>
 (asI .i64 p9.1).bind fun n10 =>
 match (decide (0 ≤ n10)) with
 | true => (
 (fill (repl [(.int .i64 0)] 1) [] [(0, 1, .c p9.1)]).bind fun cs11 =>
 let h12 := p9.2.new (.cells cs11 .rw)
 (h12.append 1 8 x9 (.sl p9.2.next 0 1 (.ex 1))).bind fun p13 =>
 some (.normal, (withyref13_Names_c1_E x1 (.int .i64 x2) x3 x7 p13.1 (.int .i64 (wr .i64 (x10 + 1)))), p13.2))
 | false => (
 some (.normal, (withyref13_Names_c1_E x1 (.int .i64 x2) x3 x7 x9 (.int .i64 (wr .i64 (x10 + 1)))), p9.2)))
 | false => none)
 | false => (
 (h.ldN 6 x3).bind fun v6 =>
 (h.ldN 6 x3).bind fun v7 =>
 (M.call 322 [v7, x1, (.str ⟨⟨[98, 111, 100, 121]⟩⟩), (.int .i64 x2), (.int .i64 x10)] h).bind fun p8 =>
 match ckB (p8.2.ldN 6 x3) v6 with
 | true => (
 (M.call 398 [v6, p8.1] p8.2).bind fun p9 =>
 match (decide (x10 = 2)) with
 | true => (
 (asI .i64 p9.1).bind fun n10 =>
 match (decide (0 ≤ n10)) with
 | true => (
 (fill (repl [(.int .i64 0)] 1) [] [(0, 1, .c p9.1)]).bind fun cs11 =>
 let h12 := p9.2.new (.cells cs11 .rw)
 (h12.append 1 8 x9 (.sl p9.2.next 0 1 (.ex 1))).bind fun p13 =>
 some (.normal, (withyref13_Names_c1_E x1 (.int .i64 x2) x3 x7 p13.1 (.int .i64 (wr .i64 (x10 + 1)))), p13.2))
 | false => (
 some (.normal, (withyref13_Names_c1_E x1 (.int .i64 x2) x3 x7 x9 (.int .i64 (wr .i64 (x10 + 1)))), p9.2)))
 | false => (
 some (.normal, (withyref13_Names_c1_E x1 (.int .i64 x2) x3 x7 x9 (.int .i64 (wr .i64 (x10 + 1)))), p9.2)))
 | false => none))
 | false => (
 (h.ldN 6 x3).bind fun v6 =>
 (h.ldN 6 x3).bind fun v7 =>
 (M.call 322 [v7, x1, (.str ⟨⟨[98, 111, 100, 121]⟩⟩), (.int .i64 x2), (.int .i64 x10)] h).bind fun p8 =>
 match ckB (p8.2.ldN 6 x3) v6 with
 | true => (
 (M.call 398 [v6, p8.1] p8.2).bind fun p9 =>
 some (.normal, (withyref13_Names_c1_E x1 (.int .i64 x2) x3 x7 x9 (.int .i64 (wr .i64 (x10 + 1)))), p9.2))
 | false => none)))
 | false => (
 some ((.exit 0), (withyref13_Names_c1_O x9), h))

def withyref13_Names_c1_e0 (M : Env) (x9 : V) (h : H) : Option (V × H) :=
 some (x9, h)

theorem withyref13_Names_eq (M : Env) (a0_0 : Int) (a0_1 : Int) (a0_2 : Int) (a0_3 : Int) (a0_4 : Int) (a0_5 : Int) (a1 : V) (a2 : Int) (h : H) : evalF M F.withyref13_Names [(.agg [(.int .i64 a0_0), (.int .i64 a0_1), (.int .i64 a0_2), (.int .i64 a0_3), (.int .i64 a0_4), (.int .i64 a0_5)]), a1, (.int .i64 a2)] h = withyref13_Names M a0_0 a0_1 a0_2 a0_3 a0_4 a0_5 a1 a2 h := by kernel_rfl

theorem withyref13_Names_c1_eq (M : Env) (x1 : V) (x2 : Int) (x3 : V) (x7 : V) (x9 : V) (x10 : Int) (h : H) : withyref13_Names_c1_B M (withyref13_Names_c1_E x1 (.int .i64 x2) x3 x7 x9 (.int .i64 x10)) h = withyref13_Names_c1_S M x1 x2 x3 x7 x9 x10 h := by kernel_rfl

theorem withyref13_Names_c1_e0_eq (M : Env) (x9 : V) (h : H) : withyref13_Names_K2 M (.exit 0) (withyref13_Names_c1_O x9) h = withyref13_Names_c1_e0 M x9 h := by kernel_rfl

end Wm.S
end

section
/- PRINTED by my tool (wip/wm/tool/Gen.lean): what a function comes to, stretch by stretch. -/
namespace Wm.S
open Wm
set_option maxRecDepth 100000
set_option linter.unusedVariables false

def withyref13_Roots_c1_B (M : Env) : List V → H → Option (AX × List V × H) :=
 fun env h => evalC M F.withyref13_Roots_c1 env h fun x env h => match x with
 | .normal => some (.normal, keepOf [1, 2, 5, 6] 0 env, h)
 | x => some (x, keepOf [5] 0 env, h)

def withyref13_Roots_c1_E (x1 x2 x5 x6 : V) : List V := dd 1 (x1 :: x2 :: dd 2 (x5 :: x6 :: dd 42 []))
def withyref13_Roots_c1_O (x5 : V) : List V := dd 5 (x5 :: dd 43 [])

def withyref13_Roots_c4_B (M : Env) : List V → H → Option (AX × List V × H) :=
 fun env h => evalC M F.withyref13_Roots_c4 env h fun x env h => match x with
 | .normal => some (.normal, keepOf [1, 2, 5, 6, 7] 0 env, h)
 | x => some (x, keepOf [1, 2, 5, 6] 0 env, h)

def withyref13_Roots_c4_E (x1 x2 x5 x6 x7 : V) : List V := dd 1 (x1 :: x2 :: dd 2 (x5 :: x6 :: x7 :: dd 41 []))
def withyref13_Roots_c4_O (x1 x2 x5 x6 : V) : List V := dd 1 (x1 :: x2 :: dd 2 (x5 :: x6 :: dd 42 []))

def withyref13_Roots_K0 (M : Env) : AX → List V → H → Option (V × H) :=
 fun x env h => fin F.withyref13_Roots x env h

def withyref13_Roots_K1 (M : Env) : AX → List V → H → Option (V × H) :=
 fun x env h => match x with | .normal => evalC M F.withyref13_Roots_c0 env h (fun x env h => withyref13_Roots_K0 M x env h) | x => withyref13_Roots_K0 M x env h

def withyref13_Roots_K2 (M : Env) : AX → List V → H → Option (V × H) :=
 fun x env h => match x with | .exit j => (match Nat.beq j 0 with | true => withyref13_Roots_K1 M .normal env h | false => withyref13_Roots_K1 M (.exit j) env h) | x => withyref13_Roots_K1 M x env h

def withyref13_Roots_K3 (M : Env) : AX → List V → H → Option (AX × List V × H) :=
 fun x env h => match x with | .normal => some (.normal, keepOf [1, 2, 5, 6] 0 env, h) | x => some (x, keepOf [5] 0 env, h)

def withyref13_Roots_K4 (M : Env) : AX → List V → H → Option (AX × List V × H) :=
 fun x env h => match x with | .normal => evalC M F.withyref13_Roots_c2 env h (fun x env h => withyref13_Roots_K3 M x env h) | x => withyref13_Roots_K3 M x env h

def withyref13_Roots_K5 (M : Env) : AX → List V → H → Option (AX × List V × H) :=
 fun x env h => match x with | .exit j => (match Nat.beq j 1 with | true => withyref13_Roots_K4 M .normal env h | false => withyref13_Roots_K4 M (.exit j) env h) | x => withyref13_Roots_K4 M x env h

def withyref13_Roots_K6 (M : Env) : AX → List V → H → Option (AX × List V × H) :=
 fun x env h => match x with | .normal => evalC M F.withyref13_Roots_c3 env h (fun x env h => withyref13_Roots_K5 M x env h) | x => withyref13_Roots_K5 M x env h

def withyref13_Roots_K7 (M : Env) : AX → List V → H → Option (AX × List V × H) :=
 fun x env h => match x with | .exit j => (match Nat.beq j 2 with | true => withyref13_Roots_K6 M .normal env h | false => withyref13_Roots_K6 M (.exit j) env h) | x => withyref13_Roots_K6 M x env h

def withyref13_Roots (M : Env) (a0_0 : Int) (a0_1 : Int) (a0_2 : Int) (a0_3 : Int) (a0_4 : Int) (a0_5 : Int) (a1 : V) (h : H) : Option (V × H) :=
 let h0 := h.new (.cells [(.int .i64 a0_0), (.int .i64 a0_1), (.int .i64 a0_2), (.int .i64 a0_3), (.int .i64 a0_4), (.int .i64 a0_5)] .rw)
 (M.loop (withyref13_Roots_c1_B M) (withyref13_Roots_c1_E a1 (.ptr h.next 0) .nilsl (.int .i64 0)) h0).bind fun p1 => withyref13_Roots_K2 M p1.1 p1.2.1 p1.2.2

def withyref13_Roots_c1_S (M : Env) (x1 : V) (x2 : V) (x5 : V) (x6 : Int) (h : H) : Option (AX × List V × H) :=
 (ptrAt x2 2).bind fun v0 =>
 (h.ld1 v0).bind fun v1 =>
 (asI .i64 v1).bind fun n2 =>
 match (decide (x6 < n2)) with
 | true => (
 (M.loop (withyref13_Roots_c4_B M) (withyref13_Roots_c4_E x1 x2 x5 (.int .i64 x6) (.int .i64 0)) h).bind fun p3 => withyref13_Roots_K7 M p3.1 p3.2.1 p3.2.2)
 | false => (
 some ((.exit 0), (withyref13_Roots_c1_O x5), h))

def withyref13_Roots_c1_e0 (M : Env) (x5 : V) (h : H) : Option (V × H) :=
 some (x5, h)

def withyref13_Roots_c4_S (M : Env) (x1 : V) (x2 : V) (x5 : V) (x6 : Int) (x7 : Int) (h : H) : Option (AX × List V × H) :=
 (ptrAt x2 3).bind fun v0 =>
 (h.ld1 v0).bind fun v1 =>
 (asI .i64 v1).bind fun n2 =>
 match (decide (x7 < n2)) with
 | true => (
 (h.ldN 6 x2).bind fun v3 =>
 (h.ldN 6 x2).bind fun v4 =>
 (M.call 322 [v4, x1, (.str ⟨⟨[101, 110, 116, 114, 121]⟩⟩), (.int .i64 x6), (.int .i64 x7)] h).bind fun p5 =>
 match ckB (p5.2.ldN 6 x2) v3 with
 | true => (
 (asI .u64 p5.1).bind fun n6 =>
 (M.call 398 [v3, (.int .u64 (Int.tmod n6 4294967296))] p5.2).bind fun p7 =>
 (asI .i64 p7.1).bind fun n8 =>
 match (decide (0 ≤ n8)) with
 | true => (
 (fill (repl [(.int .i64 0)] 1) [] [(0, 1, .c p7.1)]).bind fun cs9 =>
 let h10 := p7.2.new (.cells cs9 .rw)
 (h10.append 1 8 x5 (.sl p7.2.next 0 1 (.ex 1))).bind fun p11 =>
 some (.normal, (withyref13_Roots_c4_E x1 x2 p11.1 (.int .i64 x6) (.int .i64 (wr .i64 (x7 + 1)))), p11.2))
 | false => (
 some (.normal, (withyref13_Roots_c4_E x1 x2 x5 (.int .i64 x6) (.int .i64 (wr .i64 (x7 + 1)))), p7.2)))
 | false => none)
 | false => (
 some ((.exit 2), (withyref13_Roots_c4_O x1 x2 x5 (.int .i64 x6)), h))

def withyref13_Roots_c4_e2 (M : Env) (x1 : V) (x2 : V) (x5 : V) (x6 : Int) (h : H) : Option (AX × List V × H) :=
 (h.ldN 6 x2).bind fun v0 =>
 (h.ldN 6 x2).bind fun v1 =>
 (M.call 322 [v1, x1, (.str ⟨⟨[115, 116, 97, 114, 116]⟩⟩), (.int .i64 x6), (.int .i64 0)] h).bind fun p2 =>
 match ckB (p2.2.ldN 6 x2) v0 with
 | true => (
 (M.call 398 [v0, p2.1] p2.2).bind fun p3 =>
 (asI .i64 p3.1).bind fun n4 =>
 match (decide (0 ≤ n4)) with
 | true => (
 (fill (repl [(.int .i64 0)] 1) [] [(0, 1, .c p3.1)]).bind fun cs5 =>
 let h6 := p3.2.new (.cells cs5 .rw)
 (h6.append 1 8 x5 (.sl p3.2.next 0 1 (.ex 1))).bind fun p7 =>
 some (.normal, (withyref13_Roots_c1_E x1 x2 p7.1 (.int .i64 (wr .i64 (x6 + 1)))), p7.2))
 | false => (
 some (.normal, (withyref13_Roots_c1_E x1 x2 x5 (.int .i64 (wr .i64 (x6 + 1)))), p3.2)))
 | false => none

theorem withyref13_Roots_eq (M : Env) (a0_0 : Int) (a0_1 : Int) (a0_2 : Int) (a0_3 : Int) (a0_4 : Int) (a0_5 : Int) (a1 : V) (h : H) : evalF M F.withyref13_Roots [(.agg [(.int .i64 a0_0), (.int .i64 a0_1), (.int .i64 a0_2), (.int .i64 a0_3), (.int .i64 a0_4), (.int .i64 a0_5)]), a1] h = withyref13_Roots M a0_0 a0_1 a0_2 a0_3 a0_4 a0_5 a1 h := by kernel_rfl

theorem withyref13_Roots_c1_eq (M : Env) (x1 : V) (x2 : V) (x5 : V) (x6 : Int) (h : H) : withyref13_Roots_c1_B M (withyref13_Roots_c1_E x1 x2 x5 (.int .i64 x6)) h = withyref13_Roots_c1_S M x1 x2 x5 x6 h := by kernel_rfl

theorem withyref13_Roots_c1_e0_eq (M : Env) (x5 : V) (h : H) : withyref13_Roots_K2 M (.exit 0) (withyref13_Roots_c1_O x5) h = withyref13_Roots_c1_e0 M x5 h := by kernel_rfl

theorem withyref13_Roots_c4_eq (M : Env) (x1 : V) (x2 : V) (x5 : V) (x6 : Int) (x7 : Int) (h : H) : withyref13_Roots_c4_B M (withyref13_Roots_c4_E x1 x2 x5 (.int .i64 x6) (.int .i64 x7)) h = withyref13_Roots_c4_S M x1 x2 x5 x6 x7 h := by kernel_rfl

theorem withyref13_Roots_c4_e2_eq (M : Env) (x1 : V) (x2 : V) (x5 : V) (x6 : Int) (h : H) : withyref13_Roots_K7 M (.exit 2) (withyref13_Roots_c4_O x1 x2 x5 (.int .i64 x6)) h = withyref13_Roots_c4_e2 M x1 x2 x5 x6 h := by kernel_rfl

end Wm.S
end

section
/- PRINTED by my tool (wip/wm/tool/Gen.lean): what a function comes to, stretch by stretch. -/
namespace Wm.S
open Wm
set_option maxRecDepth 100000
set_option linter.unusedVariables false


end Wm.S
end

section
/- PRINTED by my tool (wip/wm/tool/Gen.lean): what a function comes to, stretch by stretch. -/
namespace Wm.S
open Wm
set_option maxRecDepth 100000
set_option linter.unusedVariables false

def mark_Found_c3_B (M : Env) : List V → H → Option (AX × List V × H) :=
 fun env h => evalC M F.mark_Found_c3 env h fun x env h => match x with
 | .normal => some (.normal, keepOf [3, 4, 5, 7, 8, 9, 10, 44, 45] 0 env, h)
 | x => some (x, keepOf [3, 4, 7, 8, 9, 10] 0 env, h)

def mark_Found_c3_E (x3 x4 x5 x7 x8 x9 x10 x44 x45 : V) : List V := dd 3 (x3 :: x4 :: x5 :: dd 1 (x7 :: x8 :: x9 :: x10 :: dd 33 (x44 :: x45 :: dd 130 [])))
def mark_Found_c3_O (x3 x4 x7 x8 x9 x10 : V) : List V := dd 3 (x3 :: x4 :: dd 2 (x7 :: x8 :: x9 :: x10 :: dd 165 []))

def mark_Found_c5_B (M : Env) : List V → H → Option (AX × List V × H) :=
 fun env h => evalC M F.mark_Found_c5 env h fun x env h => match x with
 | .normal => some (.normal, keepOf [3, 4, 7, 8, 9, 10, 76, 77] 0 env, h)
 | x => some (x, keepOf [3, 4, 7, 8, 9, 10] 0 env, h)

def mark_Found_c5_E (x3 x4 x7 x8 x9 x10 x76 x77 : V) : List V := dd 3 (x3 :: x4 :: dd 2 (x7 :: x8 :: x9 :: x10 :: dd 65 (x76 :: x77 :: dd 98 [])))
def mark_Found_c5_O (x3 x4 x7 x8 x9 x10 : V) : List V := dd 3 (x3 :: x4 :: dd 2 (x7 :: x8 :: x9 :: x10 :: dd 165 []))

def mark_Found_c8_B (M : Env) : List V → H → Option (AX × List V × H) :=
 fun env h => evalC M F.mark_Found_c8 env h fun x env h => match x with
 | .normal => some (.normal, keepOf [3, 4, 7, 8, 9, 10, 15, 76, 77, 81, 82] 0 env, h)
 | x => some (x, keepOf [3, 4, 7, 8, 9, 10, 15, 76, 77] 0 env, h)

def mark_Found_c8_E (x3 x4 x7 x8 x9 x10 x15 x76 x77 x81 x82 : V) : List V := dd 3 (x3 :: x4 :: dd 2 (x7 :: x8 :: x9 :: x10 :: dd 4 (x15 :: dd 60 (x76 :: x77 :: dd 3 (x81 :: x82 :: dd 93 [])))))
def mark_Found_c8_O (x3 x4 x7 x8 x9 x10 x15 x76 x77 : V) : List V := dd 3 (x3 :: x4 :: dd 2 (x7 :: x8 :: x9 :: x10 :: dd 4 (x15 :: dd 60 (x76 :: x77 :: dd 98 []))))

def mark_Found_c10_B (M : Env) : List V → H → Option (AX × List V × H) :=
 fun env h => evalC M F.mark_Found_c10 env h fun x env h => match x with
 | .normal => some (.normal, keepOf [3, 4, 7, 8, 9, 10, 19, 135, 136] 0 env, h)
 | x => some (x, keepOf [3, 4, 7, 8, 9, 10] 0 env, h)

def mark_Found_c10_E (x3 x4 x7 x8 x9 x10 x19 x135 x136 : V) : List V := dd 3 (x3 :: x4 :: dd 2 (x7 :: x8 :: x9 :: x10 :: dd 8 (x19 :: dd 115 (x135 :: x136 :: dd 39 []))))
def mark_Found_c12_B (M : Env) : List V → H → Option (AX × List V × H) :=
 fun env h => evalC M F.mark_Found_c12 env h fun x env h => match x with
 | .normal => some (.normal, keepOf [3, 4, 7, 8, 9, 10, 19, 135, 136] 0 env, h)
 | x => some (x, keepOf [3, 4, 7, 8, 9, 10] 0 env, h)

def mark_Found_c12_E (x3 x4 x7 x8 x9 x10 x19 x135 x136 : V) : List V := dd 3 (x3 :: x4 :: dd 2 (x7 :: x8 :: x9 :: x10 :: dd 8 (x19 :: dd 115 (x135 :: x136 :: dd 39 []))))
def mark_Found_c12_O (x3 x4 x7 x8 x9 x10 : V) : List V := dd 3 (x3 :: x4 :: dd 2 (x7 :: x8 :: x9 :: x10 :: dd 165 []))

def mark_Found_c0_B (M : Env) : Nat → List V → H → Option (AX × List V × H) :=
 fun l env h => match l with
 | 0 => evalC M F.mark_Found_c0 env h (fun x env h => match x with
 | .goto j => some (.goto j, keepOf [3, 4, 7, 8, 9, 10] 0 env, h)
 | x => some (x, keepOf [6] 0 env, h))
 | l + 1 => evalA M F.mark_Found_c1 l env h (fun x env h => match x with
 | .goto j => some (.goto j, keepOf [3, 4, 7, 8, 9, 10] 0 env, h)
 | x => some (x, keepOf [6] 0 env, h))

def mark_Found_c0_E (x3 x4 x7 x8 x9 x10 : V) : List V := dd 3 (x3 :: x4 :: dd 2 (x7 :: x8 :: x9 :: x10 :: dd 165 []))
def mark_Found_c0_O (x6 : V) : List V := dd 6 (x6 :: dd 169 [])

def mark_Found_K0 (M : Env) : AX → List V → H → Option (V × H) :=
 fun x env h => fin F.mark_Found x env h

def mark_Found_K1 (M : Env) : AX → List V → H → Option (AX × List V × H) :=
 fun x env h => match x with | .goto j => some (.goto j, keepOf [3, 4, 7, 8, 9, 10] 0 env, h) | x => some (x, keepOf [6] 0 env, h)

def mark_Found_K2 (M : Env) : AX → List V → H → Option (AX × List V × H) :=
 fun x env h => match x with | .normal => evalC M F.mark_Found_c2 env h (fun x env h => mark_Found_K1 M x env h) | x => mark_Found_K1 M x env h

def mark_Found_K3 (M : Env) : AX → List V → H → Option (AX × List V × H) :=
 fun x env h => match x with | .exit j => (match Nat.beq j 0 with | true => mark_Found_K2 M .normal env h | false => mark_Found_K2 M (.exit j) env h) | x => mark_Found_K2 M x env h

def mark_Found_K4 (M : Env) : AX → List V → H → Option (AX × List V × H) :=
 fun x env h => match x with | .normal => evalC M F.mark_Found_c4 env h (fun x env h => mark_Found_K1 M x env h) | x => mark_Found_K1 M x env h

def mark_Found_K5 (M : Env) : AX → List V → H → Option (AX × List V × H) :=
 fun x env h => match x with | .exit j => (match Nat.beq j 2 with | true => mark_Found_K4 M .normal env h | false => mark_Found_K4 M (.exit j) env h) | x => mark_Found_K4 M x env h

def mark_Found_K6 (M : Env) : AX → List V → H → Option (AX × List V × H) :=
 fun x env h => match x with | .normal => some (.normal, keepOf [3, 4, 7, 8, 9, 10, 76, 77] 0 env, h) | x => some (x, keepOf [3, 4, 7, 8, 9, 10] 0 env, h)

def mark_Found_K7 (M : Env) : AX → List V → H → Option (AX × List V × H) :=
 fun x env h => match x with | .normal => evalC M F.mark_Found_c6 env h (fun x env h => mark_Found_K6 M x env h) | x => mark_Found_K6 M x env h

def mark_Found_K8 (M : Env) : AX → List V → H → Option (AX × List V × H) :=
 fun x env h => match x with | .exit j => (match Nat.beq j 3 with | true => mark_Found_K7 M .normal env h | false => mark_Found_K7 M (.exit j) env h) | x => mark_Found_K7 M x env h

def mark_Found_K9 (M : Env) : AX → List V → H → Option (AX × List V × H) :=
 fun x env h => match x with | .normal => evalC M F.mark_Found_c7 env h (fun x env h => mark_Found_K8 M x env h) | x => mark_Found_K8 M x env h

def mark_Found_K10 (M : Env) : AX → List V → H → Option (AX × List V × H) :=
 fun x env h => match x with | .exit j => (match Nat.beq j 4 with | true => mark_Found_K9 M .normal env h | false => mark_Found_K9 M (.exit j) env h) | x => mark_Found_K9 M x env h

def mark_Found_K11 (M : Env) : AX → List V → H → Option (AX × List V × H) :=
 fun x env h => match x with | .normal => evalC M F.mark_Found_c9 env h (fun x env h => mark_Found_K1 M x env h) | x => mark_Found_K1 M x env h

def mark_Found_K12 (M : Env) : AX → List V → H → Option (AX × List V × H) :=
 fun x env h => match x with | .exit j => (match Nat.beq j 6 with | true => mark_Found_K11 M .normal env h | false => mark_Found_K11 M (.exit j) env h) | x => mark_Found_K11 M x env h

def mark_Found_K13 (M : Env) : AX → List V → H → Option (AX × List V × H) :=
 fun x env h => match x with | .exit j => (match Nat.beq j 7 with | true => mark_Found_K12 M .normal env h | false => mark_Found_K12 M (.exit j) env h) | x => mark_Found_K12 M x env h

def mark_Found_K14 (M : Env) : AX → List V → H → Option (AX × List V × H) :=
 fun x env h => match x with | .normal => evalC M F.mark_Found_c11 env h (fun x env h => mark_Found_K1 M x env h) | x => mark_Found_K1 M x env h

def mark_Found_K15 (M : Env) : AX → List V → H → Option (AX × List V × H) :=
 fun x env h => match x with | .exit j => (match Nat.beq j 6 with | true => mark_Found_K14 M .normal env h | false => mark_Found_K14 M (.exit j) env h) | x => mark_Found_K14 M x env h

def mark_Found_K16 (M : Env) : AX → List V → H → Option (AX × List V × H) :=
 fun x env h => match x with | .exit j => (match Nat.beq j 7 with | true => mark_Found_K15 M .normal env h | false => mark_Found_K15 M (.exit j) env h) | x => mark_Found_K15 M x env h

def mark_Found (M : Env) (a0_0 : Int) (a0_1 : Int) (a0_2 : Int) (a0_3 : Int) (a0_4 : Int) (a0_5 : Int) (a1 : V) (a2 : Int) (h : H) : Option (V × H) :=
 let h0 := h.new (.cells [(.int .i64 a0_0), (.int .i64 a0_1), (.int .i64 a0_2), (.int .i64 a0_3), (.int .i64 a0_4), (.int .i64 a0_5)] .rw)
 (boxc a1).bind fun cs1 =>
 let h2 := h0.new (.cells cs1 .rw)
 let h3 := h2.new (.cells [(.int .u64 a2)] .rw)
 (M.scope (mark_Found_c0_B M) 0 [(.agg [(.int .i64 a0_0), (.int .i64 a0_1), (.int .i64 a0_2), (.int .i64 a0_3), (.int .i64 a0_4), (.int .i64 a0_5)]), a1, (.int .u64 a2), (.ptr h.next 0), (.ptr h0.next 0), (.ptr h2.next 0), .nilsl, (.tup []), (.tup []), (.tup []), (.tup []), (.tup []), (.tup []), (.tup []), (.tup []), (.tup []), (.tup []), (.tup []), (.tup []), (.tup []), (.tup []), (.tup []), (.tup []), (.tup []), (.tup []), (.tup []), (.tup []), (.tup []), (.tup []), (.tup []), (.tup []), (.tup []), (.tup []), (.tup []), (.tup []), (.tup []), (.tup []), (.tup []), (.tup []), (.tup []), (.tup []), (.tup []), (.tup []), (.tup []), (.tup []), (.tup []), (.tup []), (.tup []), (.tup []), (.tup []), (.tup []), (.tup []), (.tup []), (.tup []), (.tup []), (.tup []), (.tup []), (.tup []), (.tup []), (.tup []), (.tup []), (.tup []), (.tup []), (.tup []), (.tup []), (.tup []), (.tup []), (.tup []), (.tup []), (.tup []), (.tup []), (.tup []), (.tup []), (.tup []), (.tup []), (.tup []), (.tup []), (.tup []), (.tup []), (.tup []), (.tup []), (.tup []), (.tup []), (.tup []), (.tup []), (.tup []), (.tup []), (.tup []), (.tup []), (.tup []), (.tup []), (.tup []), (.tup []), (.tup []), (.tup []), (.tup []), (.tup []), (.tup []), (.tup []), (.tup []), (.tup []), (.tup []), (.tup []), (.tup []), (.tup []), (.tup []), (.tup []), (.tup []), (.tup []), (.tup []), (.tup []), (.tup []), (.tup []), (.tup []), (.tup []), (.tup []), (.tup []), (.tup []), (.tup []), (.tup []), (.tup []), (.tup []), (.tup []), (.tup []), (.tup []), (.tup []), (.tup []), (.tup []), (.tup []), (.tup []), (.tup []), (.tup []), (.tup []), (.tup []), (.tup []), (.tup []), (.tup []), (.tup []), (.tup []), (.tup []), (.tup []), (.tup []), (.tup []), (.tup []), (.tup []), (.tup []), (.tup []), (.tup []), (.tup []), (.tup []), (.tup []), (.tup []), (.tup []), (.tup []), (.tup []), (.tup []), (.tup []), (.tup []), (.tup []), (.tup []), (.tup []), (.tup []), (.tup []), (.tup []), (.tup []), (.tup []), (.tup []), (.tup []), (.tup []), (.tup []), (.tup []), (.tup []), (.tup []), (.tup []), (.tup []), (.tup [])] h3).bind fun p4 => mark_Found_K0 M p4.1 p4.2.1 p4.2.2

def mark_Found_c3_S (M : Env) (x3 : V) (x4 : V) (x5 : V) (x7 : V) (x8 : V) (x9 : V) (x10 : V) (x44 : Int) (x45 : Int) (h : H) : Option (AX × List V × H) :=
 match (decide (x45 < x44)) with
 | true => (
 (h.ld1 x4).bind fun v0 =>
 (h.ldN 6 x3).bind fun v1 =>
 (M.call 261 [v1, (.int .i64 x45)] h).bind fun p2 =>
 match ckB (p2.2.ld1 x4) v0 with
 | true => (
 (indexAV 1 v0 p2.1).bind fun v3 =>
 (p2.2.ld1 v3).bind fun v4 =>
 (M.call 265 [v4] p2.2).bind fun p5 =>
 match p5.1 with
 | .tup vs6 => ((vs6[0]?).bind fun v7 =>
 match p5.1 with
 | .tup vs8 => ((vs8[1]?).bind fun v9 =>
 let h10 := p5.2.new (.cells [(.int .i64 0), (.int .i64 0), (.bool false), (.int .i64 0), (.int .i64 0), (.int .i64 0)] .rw)
 (h10.st 6 (.ptr p5.2.next 0) v7).bind fun h11 =>
 match v9 with
 | .bool true => (
 (h11.ld1 (.ptr p5.2.next 2)).bind fun v12 =>
 (asB v12).bind fun b13 =>
 match b13 with
 | true => (
 (h11.ld1 x9).bind fun v14 =>
 let h15 := h11.new (.cells [(.int .i64 x45)] .rw)
 (h15.append 1 8 v14 (.sl h11.next 0 1 (.ex 1))).bind fun p16 =>
 (p16.2.st 1 x9 p16.1).bind fun h17 =>
 (h17.ld1 x8).bind fun v18 =>
 (h17.ld1 x5).bind fun v19 =>
 (M.call 317 [v4, v19] h17).bind fun p20 =>
 match ckB (p20.2.ld1 x8) v18 with
 | true => (
 (indexAV 1 v18 (.int .i64 x45)).bind fun v21 =>
 (p20.2.st 1 v21 p20.1).bind fun h22 =>
 some (.normal, (mark_Found_c3_E x3 x4 x5 x7 x8 x9 x10 (.int .i64 x44) (.int .i64 (wr .i64 (x45 + 1)))), h22))
 | false => none)
 | false => (
 (h11.ld1 x8).bind fun v14 =>
 (h11.ld1 x5).bind fun v15 =>
 (M.call 317 [v4, v15] h11).bind fun p16 =>
 match ckB (p16.2.ld1 x8) v14 with
 | true => (
 (indexAV 1 v14 (.int .i64 x45)).bind fun v17 =>
 (p16.2.st 1 v17 p16.1).bind fun h18 =>
 some (.normal, (mark_Found_c3_E x3 x4 x5 x7 x8 x9 x10 (.int .i64 x44) (.int .i64 (wr .i64 (x45 + 1)))), h18))
 | false => none))
 | .bool false => (
 (h11.ld1 x8).bind fun v12 =>
 (h11.ld1 x5).bind fun v13 =>
 (M.call 317 [v4, v13] h11).bind fun p14 =>
 match ckB (p14.2.ld1 x8) v12 with
 | true => (
 (indexAV 1 v12 (.int .i64 x45)).bind fun v15 =>
 (p14.2.st 1 v15 p14.1).bind fun h16 =>
 some (.normal, (mark_Found_c3_E x3 x4 x5 x7 x8 x9 x10 (.int .i64 x44) (.int .i64 (wr .i64 (x45 + 1)))), h16))
 | false => none)
 | .tup [] => (
 (asB v9).bind fun b12 =>
 (asB (match b12 with | true => (.tup []) | false => (.bool false) : V)).bind fun b13 =>
 match b13 with
 | true => (
 (h11.ld1 x9).bind fun v14 =>
 let h15 := h11.new (.cells [(.int .i64 x45)] .rw)
 (h15.append 1 8 v14 (.sl h11.next 0 1 (.ex 1))).bind fun p16 =>
 (p16.2.st 1 x9 p16.1).bind fun h17 =>
 (h17.ld1 x8).bind fun v18 =>
 (h17.ld1 x5).bind fun v19 =>
 (M.call 317 [v4, v19] h17).bind fun p20 =>
 match ckB (p20.2.ld1 x8) v18 with
 | true => (
 (indexAV 1 v18 (.int .i64 x45)).bind fun v21 =>
 (p20.2.st 1 v21 p20.1).bind fun h22 =>
 some (.normal, (mark_Found_c3_E x3 x4 x5 x7 x8 x9 x10 (.int .i64 x44) (.int .i64 (wr .i64 (x45 + 1)))), h22))
 | false => none)
 | false => (
 (h11.ld1 x8).bind fun v14 =>
 (h11.ld1 x5).bind fun v15 =>
 (M.call 317 [v4, v15] h11).bind fun p16 =>
 match ckB (p16.2.ld1 x8) v14 with
 | true => (
 (indexAV 1 v14 (.int .i64 x45)).bind fun v17 =>
 (p16.2.st 1 v17 p16.1).bind fun h18 =>
 some (.normal, (mark_Found_c3_E x3 x4 x5 x7 x8 x9 x10 (.int .i64 x44) (.int .i64 (wr .i64 (x45 + 1)))), h18))
 | false => none))
 | _ => none)
 | _ => none)
 | _ => none)
 | false => none)
 | false => (
 some ((.exit 0), (mark_Found_c3_O x3 x4 x7 x8 x9 x10), h))

def mark_Found_c3_e0 (M : Env) (x3 : V) (x4 : V) (x7 : V) (x8 : V) (x9 : V) (x10 : V) (h : H) : Option (AX × List V × H) :=
 (ptrAt x3 2).bind fun v0 =>
 (h.ld1 v0).bind fun v1 =>
 (M.loop (mark_Found_c5_B M) (mark_Found_c5_E x3 x4 x7 x8 x9 x10 v1 (.int .i64 0)) h).bind fun p2 => mark_Found_K5 M p2.1 p2.2.1 p2.2.2

def mark_Found_c5_S (M : Env) (x3 : V) (x4 : V) (x7 : V) (x8 : V) (x9 : V) (x10 : V) (x76 : Int) (x77 : Int) (h : H) : Option (AX × List V × H) :=
 match (decide (x77 < x76)) with
 | true => (
 (ptrAt x3 3).bind fun v0 =>
 (h.ld1 v0).bind fun v1 =>
 (M.loop (mark_Found_c8_B M) (mark_Found_c8_E x3 x4 x7 x8 x9 x10 (.int .i64 x77) (.int .i64 x76) (.int .i64 x77) v1 (.int .i64 0)) h).bind fun p2 => mark_Found_K10 M p2.1 p2.2.1 p2.2.2)
 | false => (
 some ((.exit 2), (mark_Found_c5_O x3 x4 x7 x8 x9 x10), h))

def mark_Found_c5_e2 (M : Env) (x3 : V) (x4 : V) (x7 : V) (x8 : V) (x9 : V) (x10 : V) (h : H) : Option (AX × List V × H) :=
 (h.ld1 x9).bind fun v0 =>
 (lenSl v0).bind fun n1 =>
 match (decide (((n1 : Nat) : Int) = 0)) with
 | true => (
 (h.ld1 x8).bind fun v2 =>
 some (.ret, (mark_Found_c0_O v2), h))
 | false => (
 (h.ld1 x9).bind fun v2 =>
 (indexAV 1 v2 (.int .i64 0)).bind fun v3 =>
 (h.ld1 v3).bind fun v4 =>
 (h.ld1 x9).bind fun v5 =>
 (sliceV 1 v5 (some (.int .i64 1)) none none).bind fun v6 =>
 (h.st 1 x9 v6).bind fun h7 =>
 (h7.ld1 x4).bind fun v8 =>
 (h7.ldN 6 x3).bind fun v9 =>
 (M.call 261 [v9, v4] h7).bind fun p10 =>
 match ckB (p10.2.ld1 x4) v8 with
 | true => (
 (indexAV 1 v8 p10.1).bind fun v11 =>
 (p10.2.ld1 v11).bind fun v12 =>
 (M.call 265 [v12] p10.2).bind fun p13 =>
 match p13.1 with
 | .tup vs14 => ((vs14[0]?).bind fun v15 =>
 match p13.1 with
 | .tup vs16 => ((vs16[1]?).bind fun v17 =>
 let h18 := p13.2.new (.cells [(.int .i64 0), (.int .i64 0), (.bool false), (.int .i64 0), (.int .i64 0), (.int .i64 0)] .rw)
 (h18.st 6 (.ptr p13.2.next 0) v15).bind fun h19 =>
 (h19.ld1 (.ptr p13.2.next 0)).bind fun v20 =>
 (asI .i64 v20).bind fun n21 =>
 match (decide (n21 = 1)) with
 | true => (
 (h19.ld1 (.ptr p13.2.next 3)).bind fun v22 =>
 (M.loop (mark_Found_c10_B M) (mark_Found_c10_E x3 x4 x7 x8 x9 x10 v4 v22 (.int .i64 0)) h19).bind fun p23 => mark_Found_K13 M p23.1 p23.2.1 p23.2.2)
 | false => (
 (asI .i64 v20).bind fun n22 =>
 match (decide (n22 = 2)) with
 | true => (
 (h19.ld1 x4).bind fun v23 =>
 (h19.ldN 6 x3).bind fun v24 =>
 (M.call 305 [v24, v4, (.int .i64 0)] h19).bind fun p25 =>
 match ckB (p25.2.ld1 x4) v23 with
 | true => (
 (indexAV 1 v23 p25.1).bind fun v26 =>
 (p25.2.ld1 v26).bind fun v27 =>
 (M.call 320 [x7, v27] p25.2).bind fun p28 =>
 match x10 with
 | .fn f29 cs30 => ((M.call f29 ([p28.1] ++ cs30) p28.2).bind fun p31 =>
 (p31.2.ld1 x4).bind fun v32 =>
 (p31.2.ldN 6 x3).bind fun v33 =>
 (M.call 305 [v33, v4, (.int .i64 2)] p31.2).bind fun p34 =>
 match ckB (p34.2.ld1 x4) v32 with
 | true => (
 (indexAV 1 v32 p34.1).bind fun v35 =>
 (p34.2.ld1 v35).bind fun v36 =>
 (M.call 320 [x7, v36] p34.2).bind fun p37 =>
 match x10 with
 | .fn f38 cs39 => ((M.call f38 ([p37.1] ++ cs39) p37.2).bind fun p40 =>
 some (.goto 0, (mark_Found_c0_E x3 x4 x7 x8 x9 x10), p40.2))
 | _ => none)
 | false => none)
 | _ => none)
 | false => none)
 | false => (
 some (.goto 0, (mark_Found_c0_E x3 x4 x7 x8 x9 x10), h19))))
 | _ => none)
 | _ => none)
 | false => none)

def mark_Found_c8_S (M : Env) (x3 : V) (x4 : V) (x7 : V) (x8 : V) (x9 : V) (x10 : V) (x15 : Int) (x76 : Int) (x77 : Int) (x81 : Int) (x82 : Int) (h : H) : Option (AX × List V × H) :=
 match (decide (x82 < x81)) with
 | true => (
 (h.ld1 x4).bind fun v0 =>
 (h.ldN 6 x3).bind fun v1 =>
 (M.call 319 [v1, (.int .i64 x15), (.int .i64 x82)] h).bind fun p2 =>
 match ckB (p2.2.ld1 x4) v0 with
 | true => (
 (indexAV 1 v0 p2.1).bind fun v3 =>
 (p2.2.ld1 v3).bind fun v4 =>
 (M.call 318 [v4] p2.2).bind fun p5 =>
 match p5.1 with
 | .tup vs6 => ((vs6[0]?).bind fun v7 =>
 match p5.1 with
 | .tup vs8 => ((vs8[1]?).bind fun v9 =>
 match x10 with
 | .fn f10 cs11 => ((M.call f10 ([v9] ++ cs11) p5.2).bind fun p12 =>
 some (.normal, (mark_Found_c8_E x3 x4 x7 x8 x9 x10 (.int .i64 x15) (.int .i64 x76) (.int .i64 x77) (.int .i64 x81) (.int .i64 (wr .i64 (x82 + 1)))), p12.2))
 | _ => none)
 | _ => none)
 | _ => none)
 | false => none)
 | false => (
 some ((.exit 4), (mark_Found_c8_O x3 x4 x7 x8 x9 x10 (.int .i64 x15) (.int .i64 x76) (.int .i64 x77)), h))

def mark_Found_c8_e4 (M : Env) (x3 : V) (x4 : V) (x7 : V) (x8 : V) (x9 : V) (x10 : V) (x15 : Int) (x76 : Int) (x77 : Int) (h : H) : Option (AX × List V × H) :=
 (h.ld1 x4).bind fun v0 =>
 (h.ldN 6 x3).bind fun v1 =>
 (M.call 321 [v1, (.int .i64 x15)] h).bind fun p2 =>
 match ckB (p2.2.ld1 x4) v0 with
 | true => (
 (indexAV 1 v0 p2.1).bind fun v3 =>
 (p2.2.ld1 v3).bind fun v4 =>
 (M.call 320 [x7, v4] p2.2).bind fun p5 =>
 match x10 with
 | .fn f6 cs7 => ((M.call f6 ([p5.1] ++ cs7) p5.2).bind fun p8 =>
 some (.normal, (mark_Found_c5_E x3 x4 x7 x8 x9 x10 (.int .i64 x76) (.int .i64 (wr .i64 (x77 + 1)))), p8.2))
 | _ => none)
 | false => none

def mark_Found_c12_S (M : Env) (x3 : V) (x4 : V) (x7 : V) (x8 : V) (x9 : V) (x10 : V) (x19 : Int) (x135 : Int) (x136 : Int) (h : H) : Option (AX × List V × H) :=
 match (decide (x136 < x135)) with
 | true => (
 (h.ldN 6 x3).bind fun v0 =>
 (M.call 305 [v0, (.int .i64 x19), (.int .i64 x136)] h).bind fun p1 =>
 (asI .i64 p1.1).bind fun n2 =>
 match (decide (0 ≤ n2)) with
 | true => (
 (p1.2.ld1 x4).bind fun v3 =>
 (indexAV 1 v3 p1.1).bind fun v4 =>
 (p1.2.ld1 v4).bind fun v5 =>
 (M.call 320 [x7, v5] p1.2).bind fun p6 =>
 match x10 with
 | .fn f7 cs8 => ((M.call f7 ([p6.1] ++ cs8) p6.2).bind fun p9 =>
 some (.normal, (mark_Found_c12_E x3 x4 x7 x8 x9 x10 (.int .i64 x19) (.int .i64 x135) (.int .i64 (wr .i64 (x136 + 1)))), p9.2))
 | _ => none)
 | false => (
 some (.normal, (mark_Found_c12_E x3 x4 x7 x8 x9 x10 (.int .i64 x19) (.int .i64 x135) (.int .i64 (wr .i64 (x136 + 1)))), p1.2)))
 | false => (
 some ((.exit 7), (mark_Found_c12_O x3 x4 x7 x8 x9 x10), h))

def mark_Found_c12_e7 (M : Env) (x3 : V) (x4 : V) (x7 : V) (x8 : V) (x9 : V) (x10 : V) (h : H) : Option (AX × List V × H) :=
 some (.goto 0, (mark_Found_c0_E x3 x4 x7 x8 x9 x10), h)

def mark_Found_c0_S (M : Env) (x0 : V) (x1 : V) (x2 : Int) (x3 : V) (x4 : V) (x5 : V) (x6 : V) (h : H) : Option (AX × List V × H) :=
 (h.ldN 6 x3).bind fun v0 =>
 (M.call 263 [v0] h).bind fun p1 =>
 (asB p1.1).bind fun b2 =>
 match (!b2) with
 | true => (
 some (.ret, (mark_Found_c0_O .nilsl), p1.2))
 | false => (
 (p1.2.ld1 x4).bind fun v3 =>
 (lenSl v3).bind fun n4 =>
 (p1.2.ldN 6 x3).bind fun v5 =>
 (M.call 264 [v5] p1.2).bind fun p6 =>
 match ckB (p6.2.ld1 x4) v3 with
 | true => (
 (asI .i64 p6.1).bind fun n7 =>
 match (!decide (((n4 : Nat) : Int) = n7)) with
 | true => (
 some (.ret, (mark_Found_c0_O .nilsl), p6.2))
 | false => (
 (p6.2.ldN 6 x3).bind fun v8 =>
 (p6.2.ld1 x5).bind fun v9 =>
 (fill [(.int .i64 0), (.int .i64 0), (.int .i64 0), (.int .i64 0), (.int .i64 0), (.int .i64 0), (.int .i64 0), (.int .i64 0), (.int .u64 0), (.int .i64 0), (.int .u64 0), (.int .i64 0), (.int .i64 0), (.int .i64 0), (.int .i64 0), (.int .i64 0), (.int .u64 0), (.int .u64 0), .nilsl, .nilp, (.int .i64 0)] [] [(2, 6, .c v8), (8, 1, .c v9)]).bind fun cs10 =>
 (boxc (.agg cs10)).bind fun cs11 =>
 let h12 := p6.2.new (.cells cs11 .rw)
 (ptrAt x3 0).bind fun v13 =>
 (h12.ld1 v13).bind fun v14 =>
 (asI .i64 v14).bind fun n15 =>
 (asI .i64 v14).bind fun n16 =>
 (h12.mkSl 1 1 [(.bool false)] n15 n16).bind fun p17 =>
 let h18 := p17.2.new (.cells [] .rw)
 let h19 := h18.new (.cells [.nilsl] .rw)
 let h20 := h19.new (.cells [.nilsl] .rw)
 (h20.st 1 (.ptr h18.next 0) p17.1).bind fun h21 =>
 (h21.st 1 (.ptr h19.next 0) (.sl p17.2.next 0 0 (.ex 0))).bind fun h22 =>
 (ptrAt x3 0).bind fun v23 =>
 (h22.ld1 v23).bind fun v24 =>
 (M.loop (mark_Found_c3_B M) (mark_Found_c3_E x3 x4 x5 (.ptr p6.2.next 0) (.ptr h18.next 0) (.ptr h19.next 0) (.fn 316 [x3, (.ptr h18.next 0), x4, x5, (.ptr h19.next 0)]) v24 (.int .i64 0)) h22).bind fun p25 => mark_Found_K3 M p25.1 p25.2.1 p25.2.2))
 | false => none)

def mark_Found_c0_l0 (M : Env) (x3 : V) (x4 : V) (x7 : V) (x8 : V) (x9 : V) (x10 : V) (h : H) : Option (AX × List V × H) :=
 (h.ld1 x9).bind fun v0 =>
 (lenSl v0).bind fun n1 =>
 match (decide (((n1 : Nat) : Int) = 0)) with
 | true => (
 (h.ld1 x8).bind fun v2 =>
 some (.ret, (mark_Found_c0_O v2), h))
 | false => (
 (h.ld1 x9).bind fun v2 =>
 (indexAV 1 v2 (.int .i64 0)).bind fun v3 =>
 (h.ld1 v3).bind fun v4 =>
 (h.ld1 x9).bind fun v5 =>
 (sliceV 1 v5 (some (.int .i64 1)) none none).bind fun v6 =>
 (h.st 1 x9 v6).bind fun h7 =>
 (h7.ld1 x4).bind fun v8 =>
 (h7.ldN 6 x3).bind fun v9 =>
 (M.call 261 [v9, v4] h7).bind fun p10 =>
 match ckB (p10.2.ld1 x4) v8 with
 | true => (
 (indexAV 1 v8 p10.1).bind fun v11 =>
 (p10.2.ld1 v11).bind fun v12 =>
 (M.call 265 [v12] p10.2).bind fun p13 =>
 match p13.1 with
 | .tup vs14 => ((vs14[0]?).bind fun v15 =>
 match p13.1 with
 | .tup vs16 => ((vs16[1]?).bind fun v17 =>
 let h18 := p13.2.new (.cells [(.int .i64 0), (.int .i64 0), (.bool false), (.int .i64 0), (.int .i64 0), (.int .i64 0)] .rw)
 (h18.st 6 (.ptr p13.2.next 0) v15).bind fun h19 =>
 (h19.ld1 (.ptr p13.2.next 0)).bind fun v20 =>
 (asI .i64 v20).bind fun n21 =>
 match (decide (n21 = 1)) with
 | true => (
 (h19.ld1 (.ptr p13.2.next 3)).bind fun v22 =>
 (M.loop (mark_Found_c12_B M) (mark_Found_c12_E x3 x4 x7 x8 x9 x10 v4 v22 (.int .i64 0)) h19).bind fun p23 => mark_Found_K16 M p23.1 p23.2.1 p23.2.2)
 | false => (
 (asI .i64 v20).bind fun n22 =>
 match (decide (n22 = 2)) with
 | true => (
 (h19.ld1 x4).bind fun v23 =>
 (h19.ldN 6 x3).bind fun v24 =>
 (M.call 305 [v24, v4, (.int .i64 0)] h19).bind fun p25 =>
 match ckB (p25.2.ld1 x4) v23 with
 | true => (
 (indexAV 1 v23 p25.1).bind fun v26 =>
 (p25.2.ld1 v26).bind fun v27 =>
 (M.call 320 [x7, v27] p25.2).bind fun p28 =>
 match x10 with
 | .fn f29 cs30 => ((M.call f29 ([p28.1] ++ cs30) p28.2).bind fun p31 =>
 (p31.2.ld1 x4).bind fun v32 =>
 (p31.2.ldN 6 x3).bind fun v33 =>
 (M.call 305 [v33, v4, (.int .i64 2)] p31.2).bind fun p34 =>
 match ckB (p34.2.ld1 x4) v32 with
 | true => (
 (indexAV 1 v32 p34.1).bind fun v35 =>
 (p34.2.ld1 v35).bind fun v36 =>
 (M.call 320 [x7, v36] p34.2).bind fun p37 =>
 match x10 with
 | .fn f38 cs39 => ((M.call f38 ([p37.1] ++ cs39) p37.2).bind fun p40 =>
 some (.goto 0, (mark_Found_c0_E x3 x4 x7 x8 x9 x10), p40.2))
 | _ => none)
 | false => none)
 | _ => none)
 | false => none)
 | false => (
 some (.goto 0, (mark_Found_c0_E x3 x4 x7 x8 x9 x10), h19))))
 | _ => none)
 | _ => none)
 | false => none)

def mark_Found_c0_r (M : Env) (x6 : V) (h : H) : Option (V × H) :=
 some (x6, h)

theorem mark_Found_eq (M : Env) (a0_0 : Int) (a0_1 : Int) (a0_2 : Int) (a0_3 : Int) (a0_4 : Int) (a0_5 : Int) (a1 : V) (a2 : Int) (h : H) : evalF M F.mark_Found [(.agg [(.int .i64 a0_0), (.int .i64 a0_1), (.int .i64 a0_2), (.int .i64 a0_3), (.int .i64 a0_4), (.int .i64 a0_5)]), a1, (.int .u64 a2)] h = mark_Found M a0_0 a0_1 a0_2 a0_3 a0_4 a0_5 a1 a2 h := by kernel_rfl

theorem mark_Found_c3_eq (M : Env) (x3 : V) (x4 : V) (x5 : V) (x7 : V) (x8 : V) (x9 : V) (x10 : V) (x44 : Int) (x45 : Int) (h : H) : mark_Found_c3_B M (mark_Found_c3_E x3 x4 x5 x7 x8 x9 x10 (.int .i64 x44) (.int .i64 x45)) h = mark_Found_c3_S M x3 x4 x5 x7 x8 x9 x10 x44 x45 h := by kernel_rfl

theorem mark_Found_c3_e0_eq (M : Env) (x3 : V) (x4 : V) (x7 : V) (x8 : V) (x9 : V) (x10 : V) (h : H) : mark_Found_K3 M (.exit 0) (mark_Found_c3_O x3 x4 x7 x8 x9 x10) h = mark_Found_c3_e0 M x3 x4 x7 x8 x9 x10 h := by kernel_rfl

theorem mark_Found_c5_eq (M : Env) (x3 : V) (x4 : V) (x7 : V) (x8 : V) (x9 : V) (x10 : V) (x76 : Int) (x77 : Int) (h : H) : mark_Found_c5_B M (mark_Found_c5_E x3 x4 x7 x8 x9 x10 (.int .i64 x76) (.int .i64 x77)) h = mark_Found_c5_S M x3 x4 x7 x8 x9 x10 x76 x77 h := by kernel_rfl

theorem mark_Found_c5_e2_eq (M : Env) (x3 : V) (x4 : V) (x7 : V) (x8 : V) (x9 : V) (x10 : V) (h : H) : mark_Found_K5 M (.exit 2) (mark_Found_c5_O x3 x4 x7 x8 x9 x10) h = mark_Found_c5_e2 M x3 x4 x7 x8 x9 x10 h := by kernel_rfl

theorem mark_Found_c8_eq (M : Env) (x3 : V) (x4 : V) (x7 : V) (x8 : V) (x9 : V) (x10 : V) (x15 : Int) (x76 : Int) (x77 : Int) (x81 : Int) (x82 : Int) (h : H) : mark_Found_c8_B M (mark_Found_c8_E x3 x4 x7 x8 x9 x10 (.int .i64 x15) (.int .i64 x76) (.int .i64 x77) (.int .i64 x81) (.int .i64 x82)) h = mark_Found_c8_S M x3 x4 x7 x8 x9 x10 x15 x76 x77 x81 x82 h := by kernel_rfl

theorem mark_Found_c8_e4_eq (M : Env) (x3 : V) (x4 : V) (x7 : V) (x8 : V) (x9 : V) (x10 : V) (x15 : Int) (x76 : Int) (x77 : Int) (h : H) : mark_Found_K10 M (.exit 4) (mark_Found_c8_O x3 x4 x7 x8 x9 x10 (.int .i64 x15) (.int .i64 x76) (.int .i64 x77)) h = mark_Found_c8_e4 M x3 x4 x7 x8 x9 x10 x15 x76 x77 h := by kernel_rfl

theorem mark_Found_c12_eq (M : Env) (x3 : V) (x4 : V) (x7 : V) (x8 : V) (x9 : V) (x10 : V) (x19 : Int) (x135 : Int) (x136 : Int) (h : H) : mark_Found_c12_B M (mark_Found_c12_E x3 x4 x7 x8 x9 x10 (.int .i64 x19) (.int .i64 x135) (.int .i64 x136)) h = mark_Found_c12_S M x3 x4 x7 x8 x9 x10 x19 x135 x136 h := by kernel_rfl

theorem mark_Found_c12_e7_eq (M : Env) (x3 : V) (x4 : V) (x7 : V) (x8 : V) (x9 : V) (x10 : V) (h : H) : mark_Found_K16 M (.exit 7) (mark_Found_c12_O x3 x4 x7 x8 x9 x10) h = mark_Found_c12_e7 M x3 x4 x7 x8 x9 x10 h := by kernel_rfl

theorem mark_Found_c0_eq (M : Env) (x0 : V) (x1 : V) (x2 : Int) (x3 : V) (x4 : V) (x5 : V) (x6 : V) (h : H) : mark_Found_c0_B M 0 [x0, x1, (.int .u64 x2), x3, x4, x5, x6, (.tup []), (.tup []), (.tup []), (.tup []), (.tup []), (.tup []), (.tup []), (.tup []), (.tup []), (.tup []), (.tup []), (.tup []), (.tup []), (.tup []), (.tup []), (.tup []), (.tup []), (.tup []), (.tup []), (.tup []), (.tup []), (.tup []), (.tup []), (.tup []), (.tup []), (.tup []), (.tup []), (.tup []), (.tup []), (.tup []), (.tup []), (.tup []), (.tup []), (.tup []), (.tup []), (.tup []), (.tup []), (.tup []), (.tup []), (.tup []), (.tup []), (.tup []), (.tup []), (.tup []), (.tup []), (.tup []), (.tup []), (.tup []), (.tup []), (.tup []), (.tup []), (.tup []), (.tup []), (.tup []), (.tup []), (.tup []), (.tup []), (.tup []), (.tup []), (.tup []), (.tup []), (.tup []), (.tup []), (.tup []), (.tup []), (.tup []), (.tup []), (.tup []), (.tup []), (.tup []), (.tup []), (.tup []), (.tup []), (.tup []), (.tup []), (.tup []), (.tup []), (.tup []), (.tup []), (.tup []), (.tup []), (.tup []), (.tup []), (.tup []), (.tup []), (.tup []), (.tup []), (.tup []), (.tup []), (.tup []), (.tup []), (.tup []), (.tup []), (.tup []), (.tup []), (.tup []), (.tup []), (.tup []), (.tup []), (.tup []), (.tup []), (.tup []), (.tup []), (.tup []), (.tup []), (.tup []), (.tup []), (.tup []), (.tup []), (.tup []), (.tup []), (.tup []), (.tup []), (.tup []), (.tup []), (.tup []), (.tup []), (.tup []), (.tup []), (.tup []), (.tup []), (.tup []), (.tup []), (.tup []), (.tup []), (.tup []), (.tup []), (.tup []), (.tup []), (.tup []), (.tup []), (.tup []), (.tup []), (.tup []), (.tup []), (.tup []), (.tup []), (.tup []), (.tup []), (.tup []), (.tup []), (.tup []), (.tup []), (.tup []), (.tup []), (.tup []), (.tup []), (.tup []), (.tup []), (.tup []), (.tup []), (.tup []), (.tup []), (.tup []), (.tup []), (.tup []), (.tup []), (.tup []), (.tup []), (.tup []), (.tup []), (.tup []), (.tup []), (.tup []), (.tup []), (.tup []), (.tup []), (.tup []), (.tup [])] h = mark_Found_c0_S M x0 x1 x2 x3 x4 x5 x6 h := by kernel_rfl

theorem mark_Found_c0_l0_eq (M : Env) (x3 : V) (x4 : V) (x7 : V) (x8 : V) (x9 : V) (x10 : V) (h : H) : mark_Found_c0_B M 1 (mark_Found_c0_E x3 x4 x7 x8 x9 x10) h = mark_Found_c0_l0 M x3 x4 x7 x8 x9 x10 h := by kernel_rfl

theorem mark_Found_c0_r_eq (M : Env) (x6 : V) (h : H) : mark_Found_K0 M .ret (mark_Found_c0_O x6) h = mark_Found_c0_r M x6 h := by kernel_rfl

end Wm.S
end

section
/- PRINTED by my tool (wip/wm/tool/Gen.lean): what a function comes to, stretch by stretch. -/
namespace Wm.S
open Wm
set_option maxRecDepth 100000
set_option linter.unusedVariables false

def withyref13_Found_c1_B (M : Env) : List V → H → Option (AX × List V × H) :=
 fun env h => evalC M F.withyref13_Found_c1 env h fun x env h => match x with
 | .normal => some (.normal, keepOf [1, 2, 3, 7, 8, 9] 0 env, h)
 | x => some (x, keepOf [1, 3, 7, 8] 0 env, h)

def withyref13_Found_c1_E (x1 x2 x3 x7 x8 x9 : V) : List V := dd 1 (x1 :: x2 :: x3 :: dd 3 (x7 :: x8 :: x9 :: dd 113 []))
def withyref13_Found_c1_O (x1 x3 x7 x8 : V) : List V := dd 1 (x1 :: dd 1 (x3 :: dd 3 (x7 :: x8 :: dd 114 [])))

def withyref13_Found_c3_B (M : Env) : List V → H → Option (AX × List V × H) :=
 fun env h => evalC M F.withyref13_Found_c3 env h fun x env h => match x with
 | .normal => some (.normal, keepOf [1, 3, 7, 8, 12, 13] 0 env, h)
 | x => some (x, keepOf [1, 3, 7, 8, 12] 0 env, h)

def withyref13_Found_c3_E (x1 x3 x7 x8 x12 x13 : V) : List V := dd 1 (x1 :: dd 1 (x3 :: dd 3 (x7 :: x8 :: dd 3 (x12 :: x13 :: dd 109 []))))
def withyref13_Found_c3_O (x1 x3 x7 x8 x12 : V) : List V := dd 1 (x1 :: dd 1 (x3 :: dd 3 (x7 :: x8 :: dd 3 (x12 :: dd 110 []))))

def withyref13_Found_c5_B (M : Env) : List V → H → Option (AX × List V × H) :=
 fun env h => evalC M F.withyref13_Found_c5 env h fun x env h => match x with
 | .normal => some (.normal, keepOf [1, 3, 7, 8, 12, 14] 0 env, h)
 | x => some (x, keepOf [7] 0 env, h)

def withyref13_Found_c5_E (x1 x3 x7 x8 x12 x14 : V) : List V := dd 1 (x1 :: dd 1 (x3 :: dd 3 (x7 :: x8 :: dd 3 (x12 :: dd 1 (x14 :: dd 108 [])))))
def withyref13_Found_c5_O (x7 : V) : List V := dd 7 (x7 :: dd 115 [])

def withyref13_Found_K0 (M : Env) : AX → List V → H → Option (V × H) :=
 fun x env h => fin F.withyref13_Found x env h

def withyref13_Found_K1 (M : Env) : AX → List V → H → Option (V × H) :=
 fun x env h => match x with | .normal => evalC M F.withyref13_Found_c0 env h (fun x env h => withyref13_Found_K0 M x env h) | x => withyref13_Found_K0 M x env h

def withyref13_Found_K2 (M : Env) : AX → List V → H → Option (V × H) :=
 fun x env h => match x with | .exit j => (match Nat.beq j 0 with | true => withyref13_Found_K1 M .normal env h | false => withyref13_Found_K1 M (.exit j) env h) | x => withyref13_Found_K1 M x env h

def withyref13_Found_K3 (M : Env) : AX → List V → H → Option (V × H) :=
 fun x env h => match x with | .normal => evalC M F.withyref13_Found_c2 env h (fun x env h => withyref13_Found_K0 M x env h) | x => withyref13_Found_K0 M x env h

def withyref13_Found_K4 (M : Env) : AX → List V → H → Option (V × H) :=
 fun x env h => match x with | .exit j => (match Nat.beq j 2 with | true => withyref13_Found_K3 M .normal env h | false => withyref13_Found_K3 M (.exit j) env h) | x => withyref13_Found_K3 M x env h

def withyref13_Found_K5 (M : Env) : AX → List V → H → Option (V × H) :=
 fun x env h => match x with | .normal => evalC M F.withyref13_Found_c4 env h (fun x env h => withyref13_Found_K0 M x env h) | x => withyref13_Found_K0 M x env h

def withyref13_Found_K6 (M : Env) : AX → List V → H → Option (V × H) :=
 fun x env h => match x with | .exit j => (match Nat.beq j 4 with | true => withyref13_Found_K5 M .normal env h | false => withyref13_Found_K5 M (.exit j) env h) | x => withyref13_Found_K5 M x env h

def withyref13_Found (M : Env) (a0_0 : Int) (a0_1 : Int) (a0_2 : Int) (a0_3 : Int) (a0_4 : Int) (a0_5 : Int) (a1 : V) (a2 : Int) (h : H) : Option (V × H) :=
 let h0 := h.new (.cells [(.int .i64 a0_0), (.int .i64 a0_1), (.int .i64 a0_2), (.int .i64 a0_3), (.int .i64 a0_4), (.int .i64 a0_5)] .rw)
 (h0.ldN 6 (.ptr h.next 0)).bind fun v1 =>
 (M.call 85 [v1] h0).bind fun p2 =>
 (asB p2.1).bind fun b3 =>
 match (!b3) with
 | true => (
 some (.nilsl, p2.2))
 | false => (
 (lenSl a1).bind fun n4 =>
 (p2.2.ldN 6 (.ptr h.next 0)).bind fun v5 =>
 (M.call 87 [v5] p2.2).bind fun p6 =>
 (lenSl p6.1).bind fun n7 =>
 match (!decide (((n4 : Nat) : Int) = ((n7 : Nat) : Int))) with
 | true => (
 some (.nilsl, p6.2))
 | false => (
 (p6.2.ld1 (.ptr h.next 0)).bind fun v8 =>
 (asI .i64 v8).bind fun n9 =>
 (asI .i64 v8).bind fun n10 =>
 (p6.2.mkSl 1 1 [(.bool false)] n9 n10).bind fun p11 =>
 (p11.2.ld1 (.ptr h.next 0)).bind fun v12 =>
 (asI .i64 v12).bind fun n13 =>
 (asI .i64 v12).bind fun n14 =>
 (p11.2.mkSl 1 1 [(.bool false)] n13 n14).bind fun p15 =>
 (M.loop (withyref13_Found_c1_B M) (withyref13_Found_c1_E a1 (.int .u64 a2) (.ptr h.next 0) p11.1 p15.1 (.int .i64 0)) p15.2).bind fun p16 => withyref13_Found_K2 M p16.1 p16.2.1 p16.2.2))

def withyref13_Found_c1_S (M : Env) (x1 : V) (x2 : Int) (x3 : V) (x7 : V) (x8 : V) (x9 : Int) (h : H) : Option (AX × List V × H) :=
 (ptrAt x3 0).bind fun v0 =>
 (h.ld1 v0).bind fun v1 =>
 (asI .i64 v1).bind fun n2 =>
 match (decide (x9 < n2)) with
 | true => (
 (h.ldN 6 x3).bind fun v3 =>
 (M.call 322 [v3, x1, (.str ⟨⟨[104, 101, 97, 100, 101, 114]⟩⟩), (.int .i64 x9), (.int .i64 0)] h).bind fun p4 =>
 (M.call 109 [p4.1] p4.2).bind fun p5 =>
 match p5.1 with
 | .tup vs6 => ((vs6[0]?).bind fun v7 =>
 match p5.1 with
 | .tup vs8 => ((vs8[1]?).bind fun v9 =>
 let h10 := p5.2.new (.cells [(.int .i64 0), (.int .i64 0), (.bool false), (.int .i64 0), (.int .i64 0), (.int .i64 0)] .rw)
 (h10.st 6 (.ptr p5.2.next 0) v7).bind fun h11 =>
 (h11.ldN 6 x3).bind fun v12 =>
 (M.call 322 [v12, x1, (.str ⟨⟨[104, 101, 97, 100, 101, 114]⟩⟩), (.int .i64 x9), (.int .i64 0)] h11).bind fun p13 =>
 (M.call 113 [p13.1, (.int .u64 x2)] p13.2).bind fun p14 =>
 (indexAV 1 x7 (.int .i64 x9)).bind fun v15 =>
 (p14.2.st 1 v15 p14.1).bind fun h16 =>
 match v9 with
 | .bool true => (
 (h16.ld1 (.ptr p5.2.next 2)).bind fun v17 =>
 (indexAV 1 x8 (.int .i64 x9)).bind fun v18 =>
 (h16.st 1 v18 v17).bind fun h19 =>
 some (.normal, (withyref13_Found_c1_E x1 (.int .u64 x2) x3 x7 x8 (.int .i64 (wr .i64 (x9 + 1)))), h19))
 | .bool false => (
 (indexAV 1 x8 (.int .i64 x9)).bind fun v17 =>
 (h16.st 1 v17 (.bool false)).bind fun h18 =>
 some (.normal, (withyref13_Found_c1_E x1 (.int .u64 x2) x3 x7 x8 (.int .i64 (wr .i64 (x9 + 1)))), h18))
 | .tup [] => (
 (asB v9).bind fun b17 =>
 (indexAV 1 x8 (.int .i64 x9)).bind fun v18 =>
 (h16.st 1 v18 (match b17 with | true => (.tup []) | false => (.bool false) : V)).bind fun h19 =>
 some (.normal, (withyref13_Found_c1_E x1 (.int .u64 x2) x3 x7 x8 (.int .i64 (wr .i64 (x9 + 1)))), h19))
 | _ => none)
 | _ => none)
 | _ => none)
 | false => (
 some ((.exit 0), (withyref13_Found_c1_O x1 x3 x7 x8), h))

def withyref13_Found_c1_e0 (M : Env) (x1 : V) (x3 : V) (x7 : V) (x8 : V) (h : H) : Option (V × H) :=
 (h.ldN 6 x3).bind fun v0 =>
 (M.call 323 [v0, x1] h).bind fun p1 =>
 (M.loop (withyref13_Found_c3_B M) (withyref13_Found_c3_E x1 x3 x7 x8 p1.1 (.int .i64 0)) p1.2).bind fun p2 => withyref13_Found_K4 M p2.1 p2.2.1 p2.2.2

def withyref13_Found_c3_S (M : Env) (x1 : V) (x3 : V) (x7 : V) (x8 : V) (x12 : V) (x13 : Int) (h : H) : Option (AX × List V × H) :=
 (ptrAt x3 0).bind fun v0 =>
 (h.ld1 v0).bind fun v1 =>
 (asI .i64 v1).bind fun n2 =>
 match (decide (x13 < n2)) with
 | true => (
 (indexAV 1 x8 (.int .i64 x13)).bind fun v3 =>
 (h.ld1 v3).bind fun v4 =>
 (asB v4).bind fun b5 =>
 match b5 with
 | true => (
 (h.ldN 6 x3).bind fun v6 =>
 (M.call 324 [v6, x1, (.int .i64 x13)] h).bind fun p7 =>
 (p7.2.append 1 8 x12 p7.1).bind fun p8 =>
 some (.normal, (withyref13_Found_c3_E x1 x3 x7 x8 p8.1 (.int .i64 (wr .i64 (x13 + 1)))), p8.2))
 | false => (
 some (.normal, (withyref13_Found_c3_E x1 x3 x7 x8 x12 (.int .i64 (wr .i64 (x13 + 1)))), h)))
 | false => (
 some ((.exit 2), (withyref13_Found_c3_O x1 x3 x7 x8 x12), h))

def withyref13_Found_c3_e2 (M : Env) (x1 : V) (x3 : V) (x7 : V) (x8 : V) (x12 : V) (h : H) : Option (V × H) :=
 (M.loop (withyref13_Found_c5_B M) (withyref13_Found_c5_E x1 x3 x7 x8 x12 (.int .i64 0)) h).bind fun p0 => withyref13_Found_K6 M p0.1 p0.2.1 p0.2.2

def withyref13_Found_c5_S (M : Env) (x1 : V) (x3 : V) (x7 : V) (x8 : V) (x12 : V) (x14 : Int) (h : H) : Option (AX × List V × H) :=
 (lenSl x12).bind fun n0 =>
 match (decide (x14 < ((n0 : Nat) : Int))) with
 | true => (
 (indexAV 1 x12 (.int .i64 x14)).bind fun v1 =>
 (h.ld1 v1).bind fun v2 =>
 (indexAV 1 x7 v2).bind fun v3 =>
 (h.ld1 v3).bind fun v4 =>
 match v4 with
 | .bool true => (
 some (.normal, (withyref13_Found_c5_E x1 x3 x7 x8 x12 (.int .i64 (wr .i64 (x14 + 1)))), h))
 | .bool false => (
 (h.ldN 6 x3).bind fun v5 =>
 (M.call 322 [v5, x1, (.str ⟨⟨[104, 101, 97, 100, 101, 114]⟩⟩), v2, (.int .i64 0)] h).bind fun p6 =>
 (M.call 112 [p6.1] p6.2).bind fun p7 =>
 (asB p7.1).bind fun b8 =>
 match (!b8) with
 | true => (
 some (.normal, (withyref13_Found_c5_E x1 x3 x7 x8 x12 (.int .i64 (wr .i64 (x14 + 1)))), p7.2))
 | false => (
 (indexAV 1 x7 v2).bind fun v9 =>
 (p7.2.st 1 v9 (.bool true)).bind fun h10 =>
 (indexAV 1 x8 v2).bind fun v11 =>
 (h10.ld1 v11).bind fun v12 =>
 (asB v12).bind fun b13 =>
 match (!b13) with
 | true => (
 (indexAV 1 x8 v2).bind fun v14 =>
 (h10.st 1 v14 (.bool true)).bind fun h15 =>
 (h15.ldN 6 x3).bind fun v16 =>
 (M.call 324 [v16, x1, v2] h15).bind fun p17 =>
 (p17.2.append 1 8 x12 p17.1).bind fun p18 =>
 some (.normal, (withyref13_Found_c5_E x1 x3 x7 x8 p18.1 (.int .i64 (wr .i64 (x14 + 1)))), p18.2))
 | false => (
 some (.normal, (withyref13_Found_c5_E x1 x3 x7 x8 x12 (.int .i64 (wr .i64 (x14 + 1)))), h10))))
 | .tup [] => (
 (asB v4).bind fun b5 =>
 (asB (match b5 with | true => (.bool true) | false => (.tup []) : V)).bind fun b6 =>
 match b6 with
 | true => (
 some (.normal, (withyref13_Found_c5_E x1 x3 x7 x8 x12 (.int .i64 (wr .i64 (x14 + 1)))), h))
 | false => (
 (indexAV 1 x7 v2).bind fun v7 =>
 (h.st 1 v7 (.bool true)).bind fun h8 =>
 (indexAV 1 x8 v2).bind fun v9 =>
 (h8.ld1 v9).bind fun v10 =>
 (asB v10).bind fun b11 =>
 match (!b11) with
 | true => (
 (indexAV 1 x8 v2).bind fun v12 =>
 (h8.st 1 v12 (.bool true)).bind fun h13 =>
 (h13.ldN 6 x3).bind fun v14 =>
 (M.call 324 [v14, x1, v2] h13).bind fun p15 =>
 (p15.2.append 1 8 x12 p15.1).bind fun p16 =>
 some (.normal, (withyref13_Found_c5_E x1 x3 x7 x8 p16.1 (.int .i64 (wr .i64 (x14 + 1)))), p16.2))
 | false => (
 some (.normal, (withyref13_Found_c5_E x1 x3 x7 x8 x12 (.int .i64 (wr .i64 (x14 + 1)))), h8))))
 | _ => none)
 | false => (
 some ((.exit 4), (withyref13_Found_c5_O x7), h))

def withyref13_Found_c5_e4 (M : Env) (x7 : V) (h : H) : Option (V × H) :=
 some (x7, h)

theorem withyref13_Found_eq (M : Env) (a0_0 : Int) (a0_1 : Int) (a0_2 : Int) (a0_3 : Int) (a0_4 : Int) (a0_5 : Int) (a1 : V) (a2 : Int) (h : H) : evalF M F.withyref13_Found [(.agg [(.int .i64 a0_0), (.int .i64 a0_1), (.int .i64 a0_2), (.int .i64 a0_3), (.int .i64 a0_4), (.int .i64 a0_5)]), a1, (.int .u64 a2)] h = withyref13_Found M a0_0 a0_1 a0_2 a0_3 a0_4 a0_5 a1 a2 h := by kernel_rfl

theorem withyref13_Found_c1_eq (M : Env) (x1 : V) (x2 : Int) (x3 : V) (x7 : V) (x8 : V) (x9 : Int) (h : H) : withyref13_Found_c1_B M (withyref13_Found_c1_E x1 (.int .u64 x2) x3 x7 x8 (.int .i64 x9)) h = withyref13_Found_c1_S M x1 x2 x3 x7 x8 x9 h := by kernel_rfl

theorem withyref13_Found_c1_e0_eq (M : Env) (x1 : V) (x3 : V) (x7 : V) (x8 : V) (h : H) : withyref13_Found_K2 M (.exit 0) (withyref13_Found_c1_O x1 x3 x7 x8) h = withyref13_Found_c1_e0 M x1 x3 x7 x8 h := by kernel_rfl

theorem withyref13_Found_c3_eq (M : Env) (x1 : V) (x3 : V) (x7 : V) (x8 : V) (x12 : V) (x13 : Int) (h : H) : withyref13_Found_c3_B M (withyref13_Found_c3_E x1 x3 x7 x8 x12 (.int .i64 x13)) h = withyref13_Found_c3_S M x1 x3 x7 x8 x12 x13 h := by kernel_rfl

theorem withyref13_Found_c3_e2_eq (M : Env) (x1 : V) (x3 : V) (x7 : V) (x8 : V) (x12 : V) (h : H) : withyref13_Found_K4 M (.exit 2) (withyref13_Found_c3_O x1 x3 x7 x8 x12) h = withyref13_Found_c3_e2 M x1 x3 x7 x8 x12 h := by kernel_rfl

theorem withyref13_Found_c5_eq (M : Env) (x1 : V) (x3 : V) (x7 : V) (x8 : V) (x12 : V) (x14 : Int) (h : H) : withyref13_Found_c5_B M (withyref13_Found_c5_E x1 x3 x7 x8 x12 (.int .i64 x14)) h = withyref13_Found_c5_S M x1 x3 x7 x8 x12 x14 h := by kernel_rfl

theorem withyref13_Found_c5_e4_eq (M : Env) (x7 : V) (h : H) : withyref13_Found_K6 M (.exit 4) (withyref13_Found_c5_O x7) h = withyref13_Found_c5_e4 M x7 h := by kernel_rfl

end Wm.S
end

section
/- PRINTED by my tool (wip/wm/tool/Gen.lean): what a function comes to, stretch by stretch. -/
namespace Wm.S
open Wm
set_option maxRecDepth 100000
set_option linter.unusedVariables false

def withyref13_Sane_c1_B (M : Env) : List V → H → Option (AX × List V × H) :=
 fun env h => evalC M F.withyref13_Sane_c1 env h fun x env h => match x with
 | .normal => some (.normal, keepOf [0, 1, 5, 6] 0 env, h)
 | x => some (x, keepOf [5] 0 env, h)

def withyref13_Sane_c1_E (x0 x1 x5 x6 : V) : List V := x0 :: x1 :: dd 3 (x5 :: x6 :: dd 33 [])
def withyref13_Sane_c1_O (x5 : V) : List V := dd 5 (x5 :: dd 34 [])

def withyref13_Sane_K0 (M : Env) : AX → List V → H → Option (V × H) :=
 fun x env h => fin F.withyref13_Sane x env h

def withyref13_Sane_K1 (M : Env) : AX → List V → H → Option (V × H) :=
 fun x env h => match x with | .normal => evalC M F.withyref13_Sane_c0 env h (fun x env h => withyref13_Sane_K0 M x env h) | x => withyref13_Sane_K0 M x env h

def withyref13_Sane_K2 (M : Env) : AX → List V → H → Option (V × H) :=
 fun x env h => match x with | .exit j => (match Nat.beq j 0 with | true => withyref13_Sane_K1 M .normal env h | false => withyref13_Sane_K1 M (.exit j) env h) | x => withyref13_Sane_K1 M x env h

def withyref13_Sane (M : Env) (a0 : V) (a1 : Int) (h : H) : Option (V × H) :=
 (M.loop (withyref13_Sane_c1_B M) (withyref13_Sane_c1_E a0 (.int .u64 a1) .nilsl (.int .i64 0)) h).bind fun p0 => withyref13_Sane_K2 M p0.1 p0.2.1 p0.2.2

def withyref13_Sane_c1_S (M : Env) (x0 : V) (x1 : Int) (x5 : V) (x6 : Int) (h : H) : Option (AX × List V × H) :=
 (lenSl x0).bind fun n0 =>
 match (decide (x6 < ((n0 : Nat) : Int))) with
 | true => (
 match (decide (x6 ≤ 20)) with
 | true => (
 (indexAV 7 x0 (.int .i64 x6)).bind fun v1 =>
 (h.ldN 7 v1).bind fun v2 =>
 let h3 := h.new (.cells [(.int .i64 0), (.int .i64 0), (.bool false), (.int .i64 0), (.int .i64 0), (.int .i64 0), .nilsl] .rw)
 (h3.st 7 (.ptr h.next 0) v2).bind fun h4 =>
 (h4.ld1 (.ptr h.next 2)).bind fun v5 =>
 match v5 with
 | .bool true => (
 (h4.ld1 (.ptr h.next 1)).bind fun v6 =>
 (M.call 110 [(.int .u64 x1)] h4).bind fun p7 =>
 match ckB (p7.2.ld1 (.ptr h.next 1)) v6 with
 | true => (
 (asI .i64 v6).bind fun n8 =>
 (asI .i64 p7.1).bind fun n9 =>
 (p7.2.st 1 (.ptr h.next 2) (.bool (decide (n8 = n9)))).bind fun h10 =>
 (h10.ldN 7 (.ptr h.next 0)).bind fun v11 =>
 (fill (repl [(.int .i64 0), (.int .i64 0), (.bool false), (.int .i64 0), (.int .i64 0), (.int .i64 0), .nilsl] 1) [] [(0, 7, .c v11)]).bind fun cs12 =>
 let h13 := h10.new (.cells cs12 .rw)
 (h13.append 7 72 x5 (.sl h10.next 0 1 (.ex 1))).bind fun p14 =>
 some (.normal, (withyref13_Sane_c1_E x0 (.int .u64 x1) p14.1 (.int .i64 (wr .i64 (x6 + 1)))), p14.2))
 | false => none)
 | .bool false => (
 (h4.st 1 (.ptr h.next 2) (.bool false)).bind fun h6 =>
 (h6.ldN 7 (.ptr h.next 0)).bind fun v7 =>
 (fill (repl [(.int .i64 0), (.int .i64 0), (.bool false), (.int .i64 0), (.int .i64 0), (.int .i64 0), .nilsl] 1) [] [(0, 7, .c v7)]).bind fun cs8 =>
 let h9 := h6.new (.cells cs8 .rw)
 (h9.append 7 72 x5 (.sl h6.next 0 1 (.ex 1))).bind fun p10 =>
 some (.normal, (withyref13_Sane_c1_E x0 (.int .u64 x1) p10.1 (.int .i64 (wr .i64 (x6 + 1)))), p10.2))
 | .tup [] => (
 (asB v5).bind fun b6 =>
 (h4.st 1 (.ptr h.next 2) (match b6 with | true => (.tup []) | false => (.bool false) : V)).bind fun h7 =>
 (h7.ldN 7 (.ptr h.next 0)).bind fun v8 =>
 (fill (repl [(.int .i64 0), (.int .i64 0), (.bool false), (.int .i64 0), (.int .i64 0), (.int .i64 0), .nilsl] 1) [] [(0, 7, .c v8)]).bind fun cs9 =>
 let h10 := h7.new (.cells cs9 .rw)
 (h10.append 7 72 x5 (.sl h7.next 0 1 (.ex 1))).bind fun p11 =>
 some (.normal, (withyref13_Sane_c1_E x0 (.int .u64 x1) p11.1 (.int .i64 (wr .i64 (x6 + 1)))), p11.2))
 | _ => none)
 | false => (
 some ((.exit 0), (withyref13_Sane_c1_O x5), h)))
 | false => (
 some ((.exit 0), (withyref13_Sane_c1_O x5), h))

def withyref13_Sane_c1_e0 (M : Env) (x5 : V) (h : H) : Option (V × H) :=
 some (x5, h)

theorem withyref13_Sane_eq (M : Env) (a0 : V) (a1 : Int) (h : H) : evalF M F.withyref13_Sane [a0, (.int .u64 a1)] h = withyref13_Sane M a0 a1 h := by kernel_rfl

theorem withyref13_Sane_c1_eq (M : Env) (x0 : V) (x1 : Int) (x5 : V) (x6 : Int) (h : H) : withyref13_Sane_c1_B M (withyref13_Sane_c1_E x0 (.int .u64 x1) x5 (.int .i64 x6)) h = withyref13_Sane_c1_S M x0 x1 x5 x6 h := by kernel_rfl

theorem withyref13_Sane_c1_e0_eq (M : Env) (x5 : V) (h : H) : withyref13_Sane_K2 M (.exit 0) (withyref13_Sane_c1_O x5) h = withyref13_Sane_c1_e0 M x5 h := by kernel_rfl

end Wm.S
end

section
/- PRINTED by my tool (wip/wm/tool/Gen.lean): what a function comes to, stretch by stretch. -/
namespace Wm.S
open Wm
set_option maxRecDepth 100000
set_option linter.unusedVariables false

def withyref13_Same_c1_B (M : Env) : List V → H → Option (AX × List V × H) :=
 fun env h => evalC M F.withyref13_Same_c1 env h fun x env h => match x with
 | .normal => some (.normal, keepOf [0, 1, 5] 0 env, h)
 | x => some (x, keepOf [4] 0 env, h)

def withyref13_Same_c1_E (x0 x1 x5 : V) : List V := x0 :: x1 :: dd 3 (x5 :: dd 20 [])
def withyref13_Same_c1_O (x4 : V) : List V := dd 4 (x4 :: dd 21 [])

def withyref13_Same_K0 (M : Env) : AX → List V → H → Option (V × H) :=
 fun x env h => fin F.withyref13_Same x env h

def withyref13_Same_K1 (M : Env) : AX → List V → H → Option (V × H) :=
 fun x env h => match x with | .normal => evalC M F.withyref13_Same_c0 env h (fun x env h => withyref13_Same_K0 M x env h) | x => withyref13_Same_K0 M x env h

def withyref13_Same_K2 (M : Env) : AX → List V → H → Option (V × H) :=
 fun x env h => match x with | .exit j => (match Nat.beq j 0 with | true => withyref13_Same_K1 M .normal env h | false => withyref13_Same_K1 M (.exit j) env h) | x => withyref13_Same_K1 M x env h

def withyref13_Same (M : Env) (a0 : V) (a1 : V) (h : H) : Option (V × H) :=
 (lenSl a0).bind fun n0 =>
 (lenSl a1).bind fun n1 =>
 match (!decide (((n0 : Nat) : Int) = ((n1 : Nat) : Int))) with
 | true => (
 some ((.bool false), h))
 | false => (
 (M.loop (withyref13_Same_c1_B M) (withyref13_Same_c1_E a0 a1 (.int .i64 0)) h).bind fun p2 => withyref13_Same_K2 M p2.1 p2.2.1 p2.2.2)

def withyref13_Same_c1_S (M : Env) (x0 : V) (x1 : V) (x5 : Int) (h : H) : Option (AX × List V × H) :=
 (lenSl x0).bind fun n0 =>
 match (decide (x5 < ((n0 : Nat) : Int))) with
 | true => (
 (indexAV 1 x0 (.int .i64 x5)).bind fun v1 =>
 (h.ld1 v1).bind fun v2 =>
 (indexAV 1 x1 (.int .i64 x5)).bind fun v3 =>
 (h.ld1 v3).bind fun v4 =>
 (eqV .bool v2 v4).bind fun b5 =>
 match (!b5) with
 | true => (
 some (.ret, (withyref13_Same_c1_O (.bool false)), h))
 | false => (
 some (.normal, (withyref13_Same_c1_E x0 x1 (.int .i64 (wr .i64 (x5 + 1)))), h)))
 | false => (
 some ((.exit 0), (withyref13_Same_c1_O .dead), h))

def withyref13_Same_c1_e0 (M : Env) (x4 : V) (h : H) : Option (V × H) :=
 some ((.bool true), h)

theorem withyref13_Same_eq (M : Env) (a0 : V) (a1 : V) (h : H) : evalF M F.withyref13_Same [a0, a1] h = withyref13_Same M a0 a1 h := by kernel_rfl

theorem withyref13_Same_c1_eq (M : Env) (x0 : V) (x1 : V) (x5 : Int) (h : H) : withyref13_Same_c1_B M (withyref13_Same_c1_E x0 x1 (.int .i64 x5)) h = withyref13_Same_c1_S M x0 x1 x5 h := by kernel_rfl

theorem withyref13_Same_c1_e0_eq (M : Env) (x4 : V) (h : H) : withyref13_Same_K2 M (.exit 0) (withyref13_Same_c1_O x4) h = withyref13_Same_c1_e0 M x4 h := by kernel_rfl

end Wm.S
end

section
/- PRINTED by my tool (wip/wm/tool/Gen.lean): what a function comes to, stretch by stretch. -/
namespace Wm.S
open Wm
set_option maxRecDepth 100000
set_option linter.unusedVariables false


def withylaw13_MarkFound (M : Env) (a0_0 : Int) (a0_1 : Int) (a0_2 : Int) (a0_3 : Int) (a0_4 : Int) (a0_5 : Int) (a1 : V) (a2 : V) (a3 : V) (a4 : Int) (a5 : Bool) (h : H) : Option (V × H) :=
 let h0 := h.new (.cells [(.int .i64 a0_0), (.int .i64 a0_1), (.int .i64 a0_2), (.int .i64 a0_3), (.int .i64 a0_4), (.int .i64 a0_5)] .rw)
 (lenSl a1).bind fun n1 =>
 match (decide (20 < ((n1 : Nat) : Int))) with
 | true => (
 (lenSl a1).bind fun n2 =>
 match (decide (20 < ((n2 : Nat) : Int))) with
 | true => (
 (M.call 154 [] h0).bind fun p3 =>
 some (p3.1, p3.2))
 | false => (
 (lenSl a2).bind fun n3 =>
 match (decide (700 < ((n3 : Nat) : Int))) with
 | true => (
 (M.call 154 [] h0).bind fun p4 =>
 some (p4.1, p4.2))
 | false => (
 some ((.bool false), h0))))
 | false => (
 (lenSl a2).bind fun n2 =>
 match (decide (700 < ((n2 : Nat) : Int))) with
 | true => (
 (lenSl a1).bind fun n3 =>
 match (decide (20 < ((n3 : Nat) : Int))) with
 | true => (
 (M.call 154 [] h0).bind fun p4 =>
 some (p4.1, p4.2))
 | false => (
 (lenSl a2).bind fun n4 =>
 match (decide (700 < ((n4 : Nat) : Int))) with
 | true => (
 (M.call 154 [] h0).bind fun p5 =>
 some (p5.1, p5.2))
 | false => (
 some ((.bool false), h0))))
 | false => (
 (M.call 154 [] h0).bind fun p3 =>
 (asB p3.1).bind fun b4 =>
 match (!b4) with
 | true => (
 (lenSl a1).bind fun n5 =>
 match (decide (20 < ((n5 : Nat) : Int))) with
 | true => (
 (M.call 154 [] p3.2).bind fun p6 =>
 some (p6.1, p6.2))
 | false => (
 (lenSl a2).bind fun n6 =>
 match (decide (700 < ((n6 : Nat) : Int))) with
 | true => (
 (M.call 154 [] p3.2).bind fun p7 =>
 some (p7.1, p7.2))
 | false => (
 some ((.bool false), p3.2))))
 | false => (
 match a5 with
 | true => (
 (p3.2.ldN 6 (.ptr h.next 0)).bind fun v5 =>
 (p3.2.ldN 6 (.ptr h.next 0)).bind fun v6 =>
 (M.call 155 [v5, a2, (.int .u64 a4)] p3.2).bind fun p7 =>
 match ckB (p7.2.ldN 6 (.ptr h.next 0)) v6 with
 | true => (
 (M.call 156 [v6, a2, (.int .u64 a4)] p7.2).bind fun p8 =>
 (M.call 124 [p7.1, p8.1] p8.2).bind fun p9 =>
 some (p9.1, p9.2))
 | false => none)
 | false => (
 (p3.2.ldN 6 (.ptr h.next 0)).bind fun v5 =>
 (M.call 92 [v5] p3.2).bind fun p6 =>
 (p6.2.st 6 (.ptr h.next 0) p6.1).bind fun h7 =>
 (h7.ldN 6 (.ptr h.next 0)).bind fun v8 =>
 (M.call 157 [a1, (.int .u64 a4)] h7).bind fun p9 =>
 match ckB (p9.2.ldN 6 (.ptr h.next 0)) v8 with
 | true => (
 (M.call 121 [v8, p9.1, a2, a3] p9.2).bind fun p10 =>
 (p10.2.ldN 6 (.ptr h.next 0)).bind fun v11 =>
 (p10.2.ldN 6 (.ptr h.next 0)).bind fun v12 =>
 (M.call 155 [v11, p10.1, (.int .u64 a4)] p10.2).bind fun p13 =>
 match ckB (p13.2.ldN 6 (.ptr h.next 0)) v12 with
 | true => (
 (M.call 156 [v12, p10.1, (.int .u64 a4)] p13.2).bind fun p14 =>
 (M.call 124 [p13.1, p14.1] p14.2).bind fun p15 =>
 some (p15.1, p15.2))
 | false => none)
 | false => none))))

theorem withylaw13_MarkFound_eq (M : Env) (a0_0 : Int) (a0_1 : Int) (a0_2 : Int) (a0_3 : Int) (a0_4 : Int) (a0_5 : Int) (a1 : V) (a2 : V) (a3 : V) (a4 : Int) (a5 : Bool) (h : H) : evalF M F.withylaw13_MarkFound [(.agg [(.int .i64 a0_0), (.int .i64 a0_1), (.int .i64 a0_2), (.int .i64 a0_3), (.int .i64 a0_4), (.int .i64 a0_5)]), a1, a2, a3, (.int .u64 a4), (.bool a5)] h = withylaw13_MarkFound M a0_0 a0_1 a0_2 a0_3 a0_4 a0_5 a1 a2 a3 a4 a5 h := by kernel_rfl

end Wm.S
end

