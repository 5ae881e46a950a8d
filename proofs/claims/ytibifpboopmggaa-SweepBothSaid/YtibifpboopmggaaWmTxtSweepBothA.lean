/- PRINTED by my tool: what functions come to, stretch by stretch. -/
import Derived.KernelRfl
import Derived.Test.YtibifpboopmggaaWmShal
import Derived.Test.YtibifpboopmggaaWmFnsSweepBothA
set_option linter.all false
section
open Wm
namespace Wm.S
def dd : Nat → List V → List V
  | 0, l => l
  | n + 1, l => .dead :: dd n l
end Wm.S

end
section
/- PRINTED by my tool (wip/wm/tool/Gen.lean): what a function comes to, stretch by stretch. -/
namespace Wm.S
open Wm
set_option maxRecDepth 100000
set_option linter.unusedVariables false


def plan_between (M : Env) (a0 : Int) (a1 : Int) (a2 : Int) (h : H) : Option (V × H) :=
 match (decide (a1 ≤ a0)) with
 | true => (
 some ((.bool (decide (a0 ≤ a2))), h))
 | false => (
 some ((.bool false), h))

theorem plan_between_eq (M : Env) (a0 : Int) (a1 : Int) (a2 : Int) (h : H) : evalF M F.plan_between [(.int .i64 a0), (.int .i64 a1), (.int .i64 a2)] h = plan_between M a0 a1 a2 h := by kernel_rfl

end Wm.S
end

section
/- PRINTED by my tool (wip/wm/tool/Gen.lean): what a function comes to, stretch by stretch. -/
namespace Wm.S
open Wm
set_option maxRecDepth 100000
set_option linter.unusedVariables false


def plan_Right (M : Env) (a0_0 : Int) (a0_1 : Int) (a0_2 : Int) (a0_3 : Int) (a0_4 : Int) (a0_5 : Int) (h : H) : Option (V × H) :=
 let h0 := h.new (.cells [(.int .i64 a0_0), (.int .i64 a0_1), (.int .i64 a0_2), (.int .i64 a0_3), (.int .i64 a0_4), (.int .i64 a0_5)] .rw)
 (h0.ld1 (.ptr h.next 0)).bind fun v1 =>
 (M.call 376 [v1, (.int .i64 1), (.int .i64 64)] h0).bind fun p2 =>
 match p2.1 with
 | .bool true => (
 (p2.2.ld1 (.ptr h.next 1)).bind fun v3 =>
 (M.call 376 [v3, (.int .i64 0), (.int .i64 8)] p2.2).bind fun p4 =>
 match p4.1 with
 | .bool true => (
 (p4.2.ld1 (.ptr h.next 2)).bind fun v5 =>
 (M.call 376 [v5, (.int .i64 1), (.int .i64 8)] p4.2).bind fun p6 =>
 match p6.1 with
 | .bool true => (
 (p6.2.ld1 (.ptr h.next 3)).bind fun v7 =>
 (M.call 376 [v7, (.int .i64 1), (.int .i64 16)] p6.2).bind fun p8 =>
 match p8.1 with
 | .bool true => (
 (p8.2.ld1 (.ptr h.next 4)).bind fun v9 =>
 (M.call 376 [v9, (.int .i64 1), (.int .i64 1048576)] p8.2).bind fun p10 =>
 match p10.1 with
 | .bool true => (
 (p10.2.ld1 (.ptr h.next 5)).bind fun v11 =>
 (M.call 376 [v11, (.int .i64 0), (.int .i64 64)] p10.2).bind fun p12 =>
 some (p12.1, p12.2))
 | .bool false => (
 some ((.bool false), p10.2))
 | .tup [] => (
 (asB p10.1).bind fun b11 =>
 some ((match b11 with | true => (.tup []) | false => (.bool false) : V), p10.2))
 | _ => none)
 | .bool false => (
 some ((.bool false), p8.2))
 | .tup [] => (
 (asB p8.1).bind fun b9 =>
 match (match b9 with | true => (.tup []) | false => (.bool false) : V) with
 | .bool true => (
 (p8.2.ld1 (.ptr h.next 5)).bind fun v10 =>
 (M.call 376 [v10, (.int .i64 0), (.int .i64 64)] p8.2).bind fun p11 =>
 some (p11.1, p11.2))
 | .bool false => (
 some ((.bool false), p8.2))
 | .tup [] => (
 (asB (match b9 with | true => (.tup []) | false => (.bool false) : V)).bind fun b10 =>
 some ((match b10 with | true => (.tup []) | false => (.bool false) : V), p8.2))
 | _ => none)
 | _ => none)
 | .bool false => (
 some ((.bool false), p6.2))
 | .tup [] => (
 (asB p6.1).bind fun b7 =>
 match (match b7 with | true => (.tup []) | false => (.bool false) : V) with
 | .bool true => (
 (p6.2.ld1 (.ptr h.next 4)).bind fun v8 =>
 (M.call 376 [v8, (.int .i64 1), (.int .i64 1048576)] p6.2).bind fun p9 =>
 match p9.1 with
 | .bool true => (
 (p9.2.ld1 (.ptr h.next 5)).bind fun v10 =>
 (M.call 376 [v10, (.int .i64 0), (.int .i64 64)] p9.2).bind fun p11 =>
 some (p11.1, p11.2))
 | .bool false => (
 some ((.bool false), p9.2))
 | .tup [] => (
 (asB p9.1).bind fun b10 =>
 some ((match b10 with | true => (.tup []) | false => (.bool false) : V), p9.2))
 | _ => none)
 | .bool false => (
 some ((.bool false), p6.2))
 | .tup [] => (
 (asB (match b7 with | true => (.tup []) | false => (.bool false) : V)).bind fun b8 =>
 match (match b8 with | true => (.tup []) | false => (.bool false) : V) with
 | .bool true => (
 (p6.2.ld1 (.ptr h.next 5)).bind fun v9 =>
 (M.call 376 [v9, (.int .i64 0), (.int .i64 64)] p6.2).bind fun p10 =>
 some (p10.1, p10.2))
 | .bool false => (
 some ((.bool false), p6.2))
 | .tup [] => (
 (asB (match b8 with | true => (.tup []) | false => (.bool false) : V)).bind fun b9 =>
 some ((match b9 with | true => (.tup []) | false => (.bool false) : V), p6.2))
 | _ => none)
 | _ => none)
 | _ => none)
 | .bool false => (
 some ((.bool false), p4.2))
 | .tup [] => (
 (asB p4.1).bind fun b5 =>
 match (match b5 with | true => (.tup []) | false => (.bool false) : V) with
 | .bool true => (
 (p4.2.ld1 (.ptr h.next 3)).bind fun v6 =>
 (M.call 376 [v6, (.int .i64 1), (.int .i64 16)] p4.2).bind fun p7 =>
 match p7.1 with
 | .bool true => (
 (p7.2.ld1 (.ptr h.next 4)).bind fun v8 =>
 (M.call 376 [v8, (.int .i64 1), (.int .i64 1048576)] p7.2).bind fun p9 =>
 match p9.1 with
 | .bool true => (
 (p9.2.ld1 (.ptr h.next 5)).bind fun v10 =>
 (M.call 376 [v10, (.int .i64 0), (.int .i64 64)] p9.2).bind fun p11 =>
 some (p11.1, p11.2))
 | .bool false => (
 some ((.bool false), p9.2))
 | .tup [] => (
 (asB p9.1).bind fun b10 =>
 some ((match b10 with | true => (.tup []) | false => (.bool false) : V), p9.2))
 | _ => none)
 | .bool false => (
 some ((.bool false), p7.2))
 | .tup [] => (
 (asB p7.1).bind fun b8 =>
 match (match b8 with | true => (.tup []) | false => (.bool false) : V) with
 | .bool true => (
 (p7.2.ld1 (.ptr h.next 5)).bind fun v9 =>
 (M.call 376 [v9, (.int .i64 0), (.int .i64 64)] p7.2).bind fun p10 =>
 some (p10.1, p10.2))
 | .bool false => (
 some ((.bool false), p7.2))
 | .tup [] => (
 (asB (match b8 with | true => (.tup []) | false => (.bool false) : V)).bind fun b9 =>
 some ((match b9 with | true => (.tup []) | false => (.bool false) : V), p7.2))
 | _ => none)
 | _ => none)
 | .bool false => (
 some ((.bool false), p4.2))
 | .tup [] => (
 (asB (match b5 with | true => (.tup []) | false => (.bool false) : V)).bind fun b6 =>
 match (match b6 with | true => (.tup []) | false => (.bool false) : V) with
 | .bool true => (
 (p4.2.ld1 (.ptr h.next 4)).bind fun v7 =>
 (M.call 376 [v7, (.int .i64 1), (.int .i64 1048576)] p4.2).bind fun p8 =>
 match p8.1 with
 | .bool true => (
 (p8.2.ld1 (.ptr h.next 5)).bind fun v9 =>
 (M.call 376 [v9, (.int .i64 0), (.int .i64 64)] p8.2).bind fun p10 =>
 some (p10.1, p10.2))
 | .bool false => (
 some ((.bool false), p8.2))
 | .tup [] => (
 (asB p8.1).bind fun b9 =>
 some ((match b9 with | true => (.tup []) | false => (.bool false) : V), p8.2))
 | _ => none)
 | .bool false => (
 some ((.bool false), p4.2))
 | .tup [] => (
 (asB (match b6 with | true => (.tup []) | false => (.bool false) : V)).bind fun b7 =>
 match (match b7 with | true => (.tup []) | false => (.bool false) : V) with
 | .bool true => (
 (p4.2.ld1 (.ptr h.next 5)).bind fun v8 =>
 (M.call 376 [v8, (.int .i64 0), (.int .i64 64)] p4.2).bind fun p9 =>
 some (p9.1, p9.2))
 | .bool false => (
 some ((.bool false), p4.2))
 | .tup [] => (
 (asB (match b7 with | true => (.tup []) | false => (.bool false) : V)).bind fun b8 =>
 some ((match b8 with | true => (.tup []) | false => (.bool false) : V), p4.2))
 | _ => none)
 | _ => none)
 | _ => none)
 | _ => none)
 | .bool false => (
 some ((.bool false), p2.2))
 | .tup [] => (
 (asB p2.1).bind fun b3 =>
 match (match b3 with | true => (.tup []) | false => (.bool false) : V) with
 | .bool true => (
 (p2.2.ld1 (.ptr h.next 2)).bind fun v4 =>
 (M.call 376 [v4, (.int .i64 1), (.int .i64 8)] p2.2).bind fun p5 =>
 match p5.1 with
 | .bool true => (
 (p5.2.ld1 (.ptr h.next 3)).bind fun v6 =>
 (M.call 376 [v6, (.int .i64 1), (.int .i64 16)] p5.2).bind fun p7 =>
 match p7.1 with
 | .bool true => (
 (p7.2.ld1 (.ptr h.next 4)).bind fun v8 =>
 (M.call 376 [v8, (.int .i64 1), (.int .i64 1048576)] p7.2).bind fun p9 =>
 match p9.1 with
 | .bool true => (
 (p9.2.ld1 (.ptr h.next 5)).bind fun v10 =>
 (M.call 376 [v10, (.int .i64 0), (.int .i64 64)] p9.2).bind fun p11 =>
 some (p11.1, p11.2))
 | .bool false => (
 some ((.bool false), p9.2))
 | .tup [] => (
 (asB p9.1).bind fun b10 =>
 some ((match b10 with | true => (.tup []) | false => (.bool false) : V), p9.2))
 | _ => none)
 | .bool false => (
 some ((.bool false), p7.2))
 | .tup [] => (
 (asB p7.1).bind fun b8 =>
 match (match b8 with | true => (.tup []) | false => (.bool false) : V) with
 | .bool true => (
 (p7.2.ld1 (.ptr h.next 5)).bind fun v9 =>
 (M.call 376 [v9, (.int .i64 0), (.int .i64 64)] p7.2).bind fun p10 =>
 some (p10.1, p10.2))
 | .bool false => (
 some ((.bool false), p7.2))
 | .tup [] => (
 (asB (match b8 with | true => (.tup []) | false => (.bool false) : V)).bind fun b9 =>
 some ((match b9 with | true => (.tup []) | false => (.bool false) : V), p7.2))
 | _ => none)
 | _ => none)
 | .bool false => (
 some ((.bool false), p5.2))
 | .tup [] => (
 (asB p5.1).bind fun b6 =>
 match (match b6 with | true => (.tup []) | false => (.bool false) : V) with
 | .bool true => (
 (p5.2.ld1 (.ptr h.next 4)).bind fun v7 =>
 (M.call 376 [v7, (.int .i64 1), (.int .i64 1048576)] p5.2).bind fun p8 =>
 match p8.1 with
 | .bool true => (
 (p8.2.ld1 (.ptr h.next 5)).bind fun v9 =>
 (M.call 376 [v9, (.int .i64 0), (.int .i64 64)] p8.2).bind fun p10 =>
 some (p10.1, p10.2))
 | .bool false => (
 some ((.bool false), p8.2))
 | .tup [] => (
 (asB p8.1).bind fun b9 =>
 some ((match b9 with | true => (.tup []) | false => (.bool false) : V), p8.2))
 | _ => none)
 | .bool false => (
 some ((.bool false), p5.2))
 | .tup [] => (
 (asB (match b6 with | true => (.tup []) | false => (.bool false) : V)).bind fun b7 =>
 match (match b7 with | true => (.tup []) | false => (.bool false) : V) with
 | .bool true => (
 (p5.2.ld1 (.ptr h.next 5)).bind fun v8 =>
 (M.call 376 [v8, (.int .i64 0), (.int .i64 64)] p5.2).bind fun p9 =>
 some (p9.1, p9.2))
 | .bool false => (
 some ((.bool false), p5.2))
 | .tup [] => (
 (asB (match b7 with | true => (.tup []) | false => (.bool false) : V)).bind fun b8 =>
 some ((match b8 with | true => (.tup []) | false => (.bool false) : V), p5.2))
 | _ => none)
 | _ => none)
 | _ => none)
 | .bool false => (
 some ((.bool false), p2.2))
 | .tup [] => (
 (asB (match b3 with | true => (.tup []) | false => (.bool false) : V)).bind fun b4 =>
 match (match b4 with | true => (.tup []) | false => (.bool false) : V) with
 | .bool true => (
 (p2.2.ld1 (.ptr h.next 3)).bind fun v5 =>
 (M.call 376 [v5, (.int .i64 1), (.int .i64 16)] p2.2).bind fun p6 =>
 match p6.1 with
 | .bool true => (
 (p6.2.ld1 (.ptr h.next 4)).bind fun v7 =>
 (M.call 376 [v7, (.int .i64 1), (.int .i64 1048576)] p6.2).bind fun p8 =>
 match p8.1 with
 | .bool true => (
 (p8.2.ld1 (.ptr h.next 5)).bind fun v9 =>
 (M.call 376 [v9, (.int .i64 0), (.int .i64 64)] p8.2).bind fun p10 =>
 some (p10.1, p10.2))
 | .bool false => (
 some ((.bool false), p8.2))
 | .tup [] => (
 (asB p8.1).bind fun b9 =>
 some ((match b9 with | true => (.tup []) | false => (.bool false) : V), p8.2))
 | _ => none)
 | .bool false => (
 some ((.bool false), p6.2))
 | .tup [] => (
 (asB p6.1).bind fun b7 =>
 match (match b7 with | true => (.tup []) | false => (.bool false) : V) with
 | .bool true => (
 (p6.2.ld1 (.ptr h.next 5)).bind fun v8 =>
 (M.call 376 [v8, (.int .i64 0), (.int .i64 64)] p6.2).bind fun p9 =>
 some (p9.1, p9.2))
 | .bool false => (
 some ((.bool false), p6.2))
 | .tup [] => (
 (asB (match b7 with | true => (.tup []) | false => (.bool false) : V)).bind fun b8 =>
 some ((match b8 with | true => (.tup []) | false => (.bool false) : V), p6.2))
 | _ => none)
 | _ => none)
 | .bool false => (
 some ((.bool false), p2.2))
 | .tup [] => (
 (asB (match b4 with | true => (.tup []) | false => (.bool false) : V)).bind fun b5 =>
 match (match b5 with | true => (.tup []) | false => (.bool false) : V) with
 | .bool true => (
 (p2.2.ld1 (.ptr h.next 4)).bind fun v6 =>
 (M.call 376 [v6, (.int .i64 1), (.int .i64 1048576)] p2.2).bind fun p7 =>
 match p7.1 with
 | .bool true => (
 (p7.2.ld1 (.ptr h.next 5)).bind fun v8 =>
 (M.call 376 [v8, (.int .i64 0), (.int .i64 64)] p7.2).bind fun p9 =>
 some (p9.1, p9.2))
 | .bool false => (
 some ((.bool false), p7.2))
 | .tup [] => (
 (asB p7.1).bind fun b8 =>
 some ((match b8 with | true => (.tup []) | false => (.bool false) : V), p7.2))
 | _ => none)
 | .bool false => (
 some ((.bool false), p2.2))
 | .tup [] => (
 (asB (match b5 with | true => (.tup []) | false => (.bool false) : V)).bind fun b6 =>
 match (match b6 with | true => (.tup []) | false => (.bool false) : V) with
 | .bool true => (
 (p2.2.ld1 (.ptr h.next 5)).bind fun v7 =>
 (M.call 376 [v7, (.int .i64 0), (.int .i64 64)] p2.2).bind fun p8 =>
 some (p8.1, p8.2))
 | .bool false => (
 some ((.bool false), p2.2))
 | .tup [] => (
 (asB (match b6 with | true => (.tup []) | false => (.bool false) : V)).bind fun b7 =>
 some ((match b7 with | true => (.tup []) | false => (.bool false) : V), p2.2))
 | _ => none)
 | _ => none)
 | _ => none)
 | _ => none)
 | _ => none

theorem plan_Right_eq (M : Env) (a0_0 : Int) (a0_1 : Int) (a0_2 : Int) (a0_3 : Int) (a0_4 : Int) (a0_5 : Int) (h : H) : evalF M F.plan_Right [(.agg [(.int .i64 a0_0), (.int .i64 a0_1), (.int .i64 a0_2), (.int .i64 a0_3), (.int .i64 a0_4), (.int .i64 a0_5)])] h = plan_Right M a0_0 a0_1 a0_2 a0_3 a0_4 a0_5 h := by kernel_rfl

end Wm.S
end

section
/- PRINTED by my tool (wip/wm/tool/Gen.lean): what a function comes to, stretch by stretch. -/
namespace Wm.S
open Wm
set_option maxRecDepth 100000
set_option linter.unusedVariables false


def withyref06_Right (M : Env) (a0_0 : Int) (a0_1 : Int) (a0_2 : Int) (a0_3 : Int) (a0_4 : Int) (a0_5 : Int) (h : H) : Option (V × H) :=
 let h0 := h.new (.cells [(.int .i64 a0_0), (.int .i64 a0_1), (.int .i64 a0_2), (.int .i64 a0_3), (.int .i64 a0_4), (.int .i64 a0_5)] .rw)
 (h0.ld1 (.ptr h.next 0)).bind fun v1 =>
 (asI .i64 v1).bind fun n2 =>
 match (decide (1 ≤ n2)) with
 | true => (
 (h0.ld1 (.ptr h.next 0)).bind fun v3 =>
 (asI .i64 v3).bind fun n4 =>
 match (decide (n4 ≤ 64)) with
 | true => (
 (h0.ld1 (.ptr h.next 1)).bind fun v5 =>
 (asI .i64 v5).bind fun n6 =>
 match (decide (0 ≤ n6)) with
 | true => (
 (h0.ld1 (.ptr h.next 1)).bind fun v7 =>
 (asI .i64 v7).bind fun n8 =>
 match (decide (n8 ≤ 8)) with
 | true => (
 (h0.ld1 (.ptr h.next 2)).bind fun v9 =>
 (asI .i64 v9).bind fun n10 =>
 match (decide (1 ≤ n10)) with
 | true => (
 (h0.ld1 (.ptr h.next 2)).bind fun v11 =>
 (asI .i64 v11).bind fun n12 =>
 match (decide (n12 ≤ 8)) with
 | true => (
 (h0.ld1 (.ptr h.next 3)).bind fun v13 =>
 (asI .i64 v13).bind fun n14 =>
 match (decide (1 ≤ n14)) with
 | true => (
 (h0.ld1 (.ptr h.next 3)).bind fun v15 =>
 (asI .i64 v15).bind fun n16 =>
 match (decide (n16 ≤ 16)) with
 | true => (
 (h0.ld1 (.ptr h.next 4)).bind fun v17 =>
 (asI .i64 v17).bind fun n18 =>
 match (decide (1 ≤ n18)) with
 | true => (
 (h0.ld1 (.ptr h.next 4)).bind fun v19 =>
 (asI .i64 v19).bind fun n20 =>
 match (decide (n20 ≤ 1048576)) with
 | true => (
 (h0.ld1 (.ptr h.next 5)).bind fun v21 =>
 (asI .i64 v21).bind fun n22 =>
 match (decide (0 ≤ n22)) with
 | true => (
 (h0.ld1 (.ptr h.next 5)).bind fun v23 =>
 (asI .i64 v23).bind fun n24 =>
 some ((.bool (decide (n24 ≤ 64))), h0))
 | false => (
 some ((.bool false), h0)))
 | false => (
 some ((.bool false), h0)))
 | false => (
 some ((.bool false), h0)))
 | false => (
 some ((.bool false), h0)))
 | false => (
 some ((.bool false), h0)))
 | false => (
 some ((.bool false), h0)))
 | false => (
 some ((.bool false), h0)))
 | false => (
 some ((.bool false), h0)))
 | false => (
 some ((.bool false), h0)))
 | false => (
 some ((.bool false), h0)))
 | false => (
 some ((.bool false), h0))

theorem withyref06_Right_eq (M : Env) (a0_0 : Int) (a0_1 : Int) (a0_2 : Int) (a0_3 : Int) (a0_4 : Int) (a0_5 : Int) (h : H) : evalF M F.withyref06_Right [(.agg [(.int .i64 a0_0), (.int .i64 a0_1), (.int .i64 a0_2), (.int .i64 a0_3), (.int .i64 a0_4), (.int .i64 a0_5)])] h = withyref06_Right M a0_0 a0_1 a0_2 a0_3 a0_4 a0_5 h := by kernel_rfl

end Wm.S
end

section
/- PRINTED by my tool (wip/wm/tool/Gen.lean): what a function comes to, stretch by stretch. -/
namespace Wm.S
open Wm
set_option maxRecDepth 100000
set_option linter.unusedVariables false


def plan_Header (M : Env) (a0_0 : Int) (a0_1 : Int) (a0_2 : Int) (a0_3 : Int) (a0_4 : Int) (a0_5 : Int) (a1 : Int) (h : H) : Option (V × H) :=
 let h0 := h.new (.cells [(.int .i64 a0_0), (.int .i64 a0_1), (.int .i64 a0_2), (.int .i64 a0_3), (.int .i64 a0_4), (.int .i64 a0_5)] .rw)
 (h0.ldN 6 (.ptr h.next 0)).bind fun v1 =>
 (M.call 375 [v1, (.int .i64 a1), (.int .i64 0)] h0).bind fun p2 =>
 some (p2.1, p2.2)

theorem plan_Header_eq (M : Env) (a0_0 : Int) (a0_1 : Int) (a0_2 : Int) (a0_3 : Int) (a0_4 : Int) (a0_5 : Int) (a1 : Int) (h : H) : evalF M F.plan_Header [(.agg [(.int .i64 a0_0), (.int .i64 a0_1), (.int .i64 a0_2), (.int .i64 a0_3), (.int .i64 a0_4), (.int .i64 a0_5)]), (.int .i64 a1)] h = plan_Header M a0_0 a0_1 a0_2 a0_3 a0_4 a0_5 a1 h := by kernel_rfl

end Wm.S
end

section
/- PRINTED by my tool (wip/wm/tool/Gen.lean): what a function comes to, stretch by stretch. -/
namespace Wm.S
open Wm
set_option maxRecDepth 100000
set_option linter.unusedVariables false


def plan_within (M : Env) (a0_0 : Int) (a0_1 : Int) (a0_2 : Int) (a0_3 : Int) (a0_4 : Int) (a0_5 : Int) (a1 : Int) (a2 : Int) (h : H) : Option (V × H) :=
 let h0 := h.new (.cells [(.int .i64 a0_0), (.int .i64 a0_1), (.int .i64 a0_2), (.int .i64 a0_3), (.int .i64 a0_4), (.int .i64 a0_5)] .rw)
 (h0.ldN 6 (.ptr h.next 0)).bind fun v1 =>
 (M.call 263 [v1] h0).bind fun p2 =>
 (asB p2.1).bind fun b3 =>
 match (!b3) with
 | true => (
 some ((.int .i64 (-1)), p2.2))
 | false => (
 (p2.2.ld1 (.ptr h.next 0)).bind fun v4 =>
 (asI .i64 v4).bind fun n5 =>
 (M.call 376 [(.int .i64 a1), (.int .i64 0), (.int .i64 (wr .i64 (n5 - 1)))] p2.2).bind fun p6 =>
 (asB p6.1).bind fun b7 =>
 match (!b7) with
 | true => (
 some ((.int .i64 (-1)), p6.2))
 | false => (
 (p6.2.ldN 6 (.ptr h.next 0)).bind fun v8 =>
 (M.call 378 [v8] p6.2).bind fun p9 =>
 (asI .i64 p9.1).bind fun n10 =>
 (M.call 376 [(.int .i64 a2), (.int .i64 0), (.int .i64 (wr .i64 (n10 - 1)))] p9.2).bind fun p11 =>
 (asB p11.1).bind fun b12 =>
 match (!b12) with
 | true => (
 some ((.int .i64 (-1)), p11.2))
 | false => (
 (p11.2.ldN 6 (.ptr h.next 0)).bind fun v13 =>
 (p11.2.ldN 6 (.ptr h.next 0)).bind fun v14 =>
 (M.call 377 [v13] p11.2).bind fun p15 =>
 match ckB (p15.2.ldN 6 (.ptr h.next 0)) v14 with
 | true => (
 (M.call 378 [v14] p15.2).bind fun p16 =>
 (asI .i64 p16.1).bind fun n17 =>
 (asI .i64 p15.1).bind fun n18 =>
 some ((.int .i64 (wr .i64 ((wr .i64 (n18 + (wr .i64 (a1 * n17)))) + a2))), p16.2))
 | false => none)))

theorem plan_within_eq (M : Env) (a0_0 : Int) (a0_1 : Int) (a0_2 : Int) (a0_3 : Int) (a0_4 : Int) (a0_5 : Int) (a1 : Int) (a2 : Int) (h : H) : evalF M F.plan_within [(.agg [(.int .i64 a0_0), (.int .i64 a0_1), (.int .i64 a0_2), (.int .i64 a0_3), (.int .i64 a0_4), (.int .i64 a0_5)]), (.int .i64 a1), (.int .i64 a2)] h = plan_within M a0_0 a0_1 a0_2 a0_3 a0_4 a0_5 a1 a2 h := by kernel_rfl

end Wm.S
end

section
/- PRINTED by my tool (wip/wm/tool/Gen.lean): what a function comes to, stretch by stretch. -/
namespace Wm.S
open Wm
set_option maxRecDepth 100000
set_option linter.unusedVariables false


def plan_slots (M : Env) (a0_0 : Int) (a0_1 : Int) (a0_2 : Int) (a0_3 : Int) (a0_4 : Int) (a0_5 : Int) (h : H) : Option (V × H) :=
 let h0 := h.new (.cells [(.int .i64 a0_0), (.int .i64 a0_1), (.int .i64 a0_2), (.int .i64 a0_3), (.int .i64 a0_4), (.int .i64 a0_5)] .rw)
 (h0.ld1 (.ptr h.next 2)).bind fun v1 =>
 (h0.ld1 (.ptr h.next 3)).bind fun v2 =>
 (asI .i64 v2).bind fun n3 =>
 (asI .i64 v1).bind fun n4 =>
 some ((.int .i64 (wr .i64 (4 + (wr .i64 (n4 * (wr .i64 ((wr .i64 (1 + n3)) + 2))))))), h0)

theorem plan_slots_eq (M : Env) (a0_0 : Int) (a0_1 : Int) (a0_2 : Int) (a0_3 : Int) (a0_4 : Int) (a0_5 : Int) (h : H) : evalF M F.plan_slots [(.agg [(.int .i64 a0_0), (.int .i64 a0_1), (.int .i64 a0_2), (.int .i64 a0_3), (.int .i64 a0_4), (.int .i64 a0_5)])] h = plan_slots M a0_0 a0_1 a0_2 a0_3 a0_4 a0_5 h := by kernel_rfl

end Wm.S
end

section
/- PRINTED by my tool (wip/wm/tool/Gen.lean): what a function comes to, stretch by stretch. -/
namespace Wm.S
open Wm
set_option maxRecDepth 100000
set_option linter.unusedVariables false


def plan_room (M : Env) (a0_0 : Int) (a0_1 : Int) (a0_2 : Int) (a0_3 : Int) (a0_4 : Int) (a0_5 : Int) (h : H) : Option (V × H) :=
 let h0 := h.new (.cells [(.int .i64 a0_0), (.int .i64 a0_1), (.int .i64 a0_2), (.int .i64 a0_3), (.int .i64 a0_4), (.int .i64 a0_5)] .rw)
 (h0.ld1 (.ptr h.next 1)).bind fun v1 =>
 (asI .i64 v1).bind fun n2 =>
 some ((.int .i64 (wr .i64 (2 + (max n2 3)))), h0)

theorem plan_room_eq (M : Env) (a0_0 : Int) (a0_1 : Int) (a0_2 : Int) (a0_3 : Int) (a0_4 : Int) (a0_5 : Int) (h : H) : evalF M F.plan_room [(.agg [(.int .i64 a0_0), (.int .i64 a0_1), (.int .i64 a0_2), (.int .i64 a0_3), (.int .i64 a0_4), (.int .i64 a0_5)])] h = plan_room M a0_0 a0_1 a0_2 a0_3 a0_4 a0_5 h := by kernel_rfl

end Wm.S
end

section
/- PRINTED by my tool (wip/wm/tool/Gen.lean): what a function comes to, stretch by stretch. -/
namespace Wm.S
open Wm
set_option maxRecDepth 100000
set_option linter.unusedVariables false


def word_some (M : Env) (a0 : Int) (a1 : Int) (h : H) : Option (V × H) :=
 match (decide (1 ≤ a1)) with
 | true => (
 match (decide (a1 ≤ 64)) with
 | true => (
 match (decide (0 ≤ a0)) with
 | true => (
 some ((.bool (decide (a0 ≤ (wr .i64 (64 - a1))))), h))
 | false => (
 some ((.bool false), h)))
 | false => (
 some ((.bool false), h)))
 | false => (
 some ((.bool false), h))

theorem word_some_eq (M : Env) (a0 : Int) (a1 : Int) (h : H) : evalF M F.word_some [(.int .i64 a0), (.int .i64 a1)] h = word_some M a0 a1 h := by kernel_rfl

end Wm.S
end

section
/- PRINTED by my tool (wip/wm/tool/Gen.lean): what a function comes to, stretch by stretch. -/
namespace Wm.S
open Wm
set_option maxRecDepth 100000
set_option linter.unusedVariables false


def word_mask (M : Env) (a0 : Int) (h : H) : Option (V × H) :=
 (shiftI true .u64 1 a0).bind fun n0 =>
 some ((.int .u64 (wr .u64 (n0 - 1))), h)

theorem word_mask_eq (M : Env) (a0 : Int) (h : H) : evalF M F.word_mask [(.int .i64 a0)] h = word_mask M a0 h := by kernel_rfl

end Wm.S
end

section
/- PRINTED by my tool (wip/wm/tool/Gen.lean): what a function comes to, stretch by stretch. -/
namespace Wm.S
open Wm
set_option maxRecDepth 100000
set_option linter.unusedVariables false


def word_Get (M : Env) (a0 : Int) (a1 : Int) (a2 : Int) (h : H) : Option (V × H) :=
 (M.call 441 [(.int .i64 a1), (.int .i64 a2)] h).bind fun p0 =>
 (asB p0.1).bind fun b1 =>
 match (!b1) with
 | true => (
 some ((.int .u64 0), p0.2))
 | false => (
 (shiftI false .u64 a0 a1).bind fun n2 =>
 (M.call 449 [(.int .i64 a2)] p0.2).bind fun p3 =>
 (asI .u64 p3.1).bind fun n4 =>
 some ((.int .u64 (and64 n2 n4)), p3.2))

theorem word_Get_eq (M : Env) (a0 : Int) (a1 : Int) (a2 : Int) (h : H) : evalF M F.word_Get [(.int .u64 a0), (.int .i64 a1), (.int .i64 a2)] h = word_Get M a0 a1 a2 h := by kernel_rfl

end Wm.S
end

section
/- PRINTED by my tool (wip/wm/tool/Gen.lean): what a function comes to, stretch by stretch. -/
namespace Wm.S
open Wm
set_option maxRecDepth 100000
set_option linter.unusedVariables false

def word_Unpack_c1_B (M : Env) : List V → H → Option (AX × List V × H) :=
 fun env h => evalC M F.word_Unpack_c1 env h fun x env h => match x with
 | .normal => some (.normal, keepOf [0, 6, 7, 10, 11, 12] 0 env, h)
 | x => some (x, keepOf [4, 5, 6] 0 env, h)

def word_Unpack_c1_E (x0 x6 x7 x10 x11 x12 : V) : List V := x0 :: dd 5 (x6 :: x7 :: dd 2 (x10 :: x11 :: x12 :: dd 19 []))
def word_Unpack_c1_O (x4 x5 x6 : V) : List V := dd 4 (x4 :: x5 :: x6 :: dd 25 [])

def word_Unpack_K0 (M : Env) : AX → List V → H → Option (V × H) :=
 fun x env h => fin F.word_Unpack x env h

def word_Unpack_K1 (M : Env) : AX → List V → H → Option (V × H) :=
 fun x env h => match x with | .normal => evalC M F.word_Unpack_c0 env h (fun x env h => word_Unpack_K0 M x env h) | x => word_Unpack_K0 M x env h

def word_Unpack_K2 (M : Env) : AX → List V → H → Option (V × H) :=
 fun x env h => match x with | .exit j => (match Nat.beq j 0 with | true => word_Unpack_K1 M .normal env h | false => word_Unpack_K1 M (.exit j) env h) | x => word_Unpack_K1 M x env h

def word_Unpack (M : Env) (a0 : Int) (a1 : V) (h : H) : Option (V × H) :=
 (lenSl a1).bind fun n0 =>
 (M.loop (word_Unpack_c1_B M) (word_Unpack_c1_E (.int .u64 a0) .nilsl (.int .i64 0) a1 (.int .i64 ((n0 : Nat) : Int)) (.int .i64 0)) h).bind fun p1 => word_Unpack_K2 M p1.1 p1.2.1 p1.2.2

def word_Unpack_c1_S (M : Env) (x0 : Int) (x6 : V) (x7 : Int) (x10 : V) (x11 : Int) (x12 : Int) (h : H) : Option (AX × List V × H) :=
 match (decide (x12 < x11)) with
 | true => (
 (indexAV 1 x10 (.int .i64 x12)).bind fun v0 =>
 (h.ld1 v0).bind fun v1 =>
 (M.call 441 [(.int .i64 x7), v1] h).bind fun p2 =>
 (asB p2.1).bind fun b3 =>
 match (!b3) with
 | true => (
 some (.ret, (word_Unpack_c1_O .nilsl (.bool false) x6), p2.2))
 | false => (
 (M.call 396 [(.int .u64 x0), (.int .i64 x7), v1] p2.2).bind fun p4 =>
 (fill (repl [(.int .u64 0)] 1) [] [(0, 1, .c p4.1)]).bind fun cs5 =>
 let h6 := p4.2.new (.cells cs5 .rw)
 (h6.append 1 8 x6 (.sl p4.2.next 0 1 (.ex 1))).bind fun p7 =>
 (asI .i64 v1).bind fun n8 =>
 some (.normal, (word_Unpack_c1_E (.int .u64 x0) p7.1 (.int .i64 (wr .i64 (x7 + n8))) x10 (.int .i64 x11) (.int .i64 (wr .i64 (x12 + 1)))), p7.2)))
 | false => (
 some ((.exit 0), (word_Unpack_c1_O .dead .dead x6), h))

def word_Unpack_c1_e0 (M : Env) (x4 : V) (x5 : V) (x6 : V) (h : H) : Option (V × H) :=
 some ((.tup [x6, (.bool true)]), h)

theorem word_Unpack_eq (M : Env) (a0 : Int) (a1 : V) (h : H) : evalF M F.word_Unpack [(.int .u64 a0), a1] h = word_Unpack M a0 a1 h := by kernel_rfl

theorem word_Unpack_c1_eq (M : Env) (x0 : Int) (x6 : V) (x7 : Int) (x10 : V) (x11 : Int) (x12 : Int) (h : H) : word_Unpack_c1_B M (word_Unpack_c1_E (.int .u64 x0) x6 (.int .i64 x7) x10 (.int .i64 x11) (.int .i64 x12)) h = word_Unpack_c1_S M x0 x6 x7 x10 x11 x12 h := by kernel_rfl

theorem word_Unpack_c1_e0_eq (M : Env) (x4 : V) (x5 : V) (x6 : V) (h : H) : word_Unpack_K2 M (.exit 0) (word_Unpack_c1_O x4 x5 x6) h = word_Unpack_c1_e0 M x4 x5 x6 h := by kernel_rfl

end Wm.S
end

section
/- PRINTED by my tool (wip/wm/tool/Gen.lean): what a function comes to, stretch by stretch. -/
namespace Wm.S
open Wm
set_option maxRecDepth 100000
set_option linter.unusedVariables false


def head_Unpack (M : Env) (a0 : Int) (h : H) : Option (V × H) :=
 let h0 := h.new (.cells [(.int .i64 0), (.int .i64 0), (.bool false), (.int .i64 0), (.int .i64 0), (.int .i64 0)] .rw)
 let h1 := h0.new (.cells [(.int .i64 3), (.int .i64 1), (.int .i64 1), (.int .i64 4), (.int .i64 7), (.int .i64 32), (.int .i64 16)] .rw)
 (M.call 379 [(.int .u64 a0), (.sl h0.next 0 7 (.ex 7))] h1).bind fun p2 =>
 match p2.1 with
 | .tup vs3 => ((vs3[0]?).bind fun v4 =>
 match p2.1 with
 | .tup vs5 => ((vs5[1]?).bind fun v6 =>
 (lenSl v4).bind fun n7 =>
 match (decide (((n7 : Nat) : Int) < 7)) with
 | true => (
 (p2.2.st 6 (.ptr h.next 0) (.agg [(.int .i64 0), (.int .i64 0), (.bool false), (.int .i64 0), (.int .i64 0), (.int .i64 0)])).bind fun h8 =>
 finV h8 [.cell true 6 (.ptr h.next 0), .v (.bool false)])
 | false => (
 (indexAV 1 v4 (.int .i64 0)).bind fun v8 =>
 (p2.2.ld1 v8).bind fun v9 =>
 (asI .u64 v9).bind fun n10 =>
 match (decide (4 < n10)) with
 | true => (
 (p2.2.st 6 (.ptr h.next 0) (.agg [(.int .i64 0), (.int .i64 0), (.bool false), (.int .i64 0), (.int .i64 0), (.int .i64 0)])).bind fun h11 =>
 finV h11 [.cell true 6 (.ptr h.next 0), .v (.bool false)])
 | false => (
 (indexAV 1 v4 (.int .i64 4)).bind fun v11 =>
 (p2.2.ld1 v11).bind fun v12 =>
 (asI .u64 v12).bind fun n13 =>
 match (!decide (n13 = 0)) with
 | true => (
 (p2.2.st 6 (.ptr h.next 0) (.agg [(.int .i64 0), (.int .i64 0), (.bool false), (.int .i64 0), (.int .i64 0), (.int .i64 0)])).bind fun h14 =>
 finV h14 [.cell true 6 (.ptr h.next 0), .v (.bool false)])
 | false => (
 (indexAV 1 v4 (.int .i64 0)).bind fun v14 =>
 (p2.2.ld1 v14).bind fun v15 =>
 (asIAny v15).bind fun n16 =>
 (indexAV 1 v4 (.int .i64 1)).bind fun v17 =>
 (p2.2.ld1 v17).bind fun v18 =>
 (asIAny v18).bind fun n19 =>
 (indexAV 1 v4 (.int .i64 2)).bind fun v20 =>
 (p2.2.ld1 v20).bind fun v21 =>
 (asI .u64 v21).bind fun n22 =>
 (indexAV 1 v4 (.int .i64 3)).bind fun v23 =>
 (p2.2.ld1 v23).bind fun v24 =>
 (asIAny v24).bind fun n25 =>
 (indexAV 1 v4 (.int .i64 5)).bind fun v26 =>
 (p2.2.ld1 v26).bind fun v27 =>
 (asIAny v27).bind fun n28 =>
 (indexAV 1 v4 (.int .i64 6)).bind fun v29 =>
 (p2.2.ld1 v29).bind fun v30 =>
 (asIAny v30).bind fun n31 =>
 (p2.2.st 6 (.ptr h.next 0) (.agg [(.int .i64 (wr .i64 n16)), (.int .i64 (wr .i64 n19)), (.bool (decide (n22 = 1))), (.int .i64 (wr .i64 n25)), (.int .i64 (wr .i64 n28)), (.int .i64 (wr .i64 n31))])).bind fun h32 =>
 finV h32 [.cell true 6 (.ptr h.next 0), .v (.bool true)]))))
 | _ => none)
 | _ => none

theorem head_Unpack_eq (M : Env) (a0 : Int) (h : H) : evalF M F.head_Unpack [(.int .u64 a0)] h = head_Unpack M a0 h := by kernel_rfl

end Wm.S
end

section
/- PRINTED by my tool (wip/wm/tool/Gen.lean): what a function comes to, stretch by stretch. -/
namespace Wm.S
open Wm
set_option maxRecDepth 100000
set_option linter.unusedVariables false


def withyref04_Unpack (M : Env) (a0 : Int) (h : H) : Option (V × H) :=
 let h0 := h.new (.cells [(.int .i64 0), (.int .i64 0), (.bool false), (.int .i64 0), (.int .i64 0), (.int .i64 0)] .rw)
 let h1 := h0.new (.cells [(.int .i64 0), (.int .i64 0), (.bool false), (.int .i64 0), (.int .i64 0), (.int .i64 0)] .rw)
 (h1.st 6 (.ptr h0.next 0) (.agg [(.int .i64 (wr .i64 (Int.tmod a0 8))), (.int .i64 (wr .i64 (Int.tmod (wr .u64 (Int.tdiv a0 8)) 2))), (.bool (decide ((Int.tmod (wr .u64 (Int.tdiv a0 16)) 2) = 1))), (.int .i64 (wr .i64 (Int.tmod (wr .u64 (Int.tdiv a0 32)) 16))), (.int .i64 (wr .i64 (Int.tmod (wr .u64 (Int.tdiv a0 65536)) 4294967296))), (.int .i64 (wr .i64 (wr .u64 (Int.tdiv a0 281474976710656))))])).bind fun h2 =>
 (h2.ld1 (.ptr h0.next 0)).bind fun v3 =>
 (asI .i64 v3).bind fun n4 =>
 match (decide (4 < n4)) with
 | true => (
 (h2.st 6 (.ptr h.next 0) (.agg [(.int .i64 0), (.int .i64 0), (.bool false), (.int .i64 0), (.int .i64 0), (.int .i64 0)])).bind fun h5 =>
 finV h5 [.cell true 6 (.ptr h.next 0), .v (.bool false)])
 | false => (
 match (!decide ((Int.tmod (wr .u64 (Int.tdiv a0 512)) 128) = 0)) with
 | true => (
 (h2.st 6 (.ptr h.next 0) (.agg [(.int .i64 0), (.int .i64 0), (.bool false), (.int .i64 0), (.int .i64 0), (.int .i64 0)])).bind fun h5 =>
 finV h5 [.cell true 6 (.ptr h.next 0), .v (.bool false)])
 | false => (
 (h2.ldN 6 (.ptr h0.next 0)).bind fun v5 =>
 (h2.st 6 (.ptr h.next 0) v5).bind fun h6 =>
 finV h6 [.cell true 6 (.ptr h.next 0), .v (.bool true)]))

theorem withyref04_Unpack_eq (M : Env) (a0 : Int) (h : H) : evalF M F.withyref04_Unpack [(.int .u64 a0)] h = withyref04_Unpack M a0 h := by kernel_rfl

end Wm.S
end

section
/- PRINTED by my tool (wip/wm/tool/Gen.lean): what a function comes to, stretch by stretch. -/
namespace Wm.S
open Wm
set_option maxRecDepth 100000
set_option linter.unusedVariables false


def mem_Mem_Size (M : Env) (a0 : V) (h : H) : Option (V × H) :=
 (eqV .ptr a0 .nilp).bind fun b0 =>
 match b0 with
 | true => (
 some ((.int .i64 0), h))
 | false => (
 (nilc a0).bind fun v1 =>
 (ptrAt v1 0).bind fun v2 =>
 (h.ld1 v2).bind fun v3 =>
 (lenSl v3).bind fun n4 =>
 some ((.int .i64 ((n4 : Nat) : Int)), h))

theorem mem_Mem_Size_eq (M : Env) (a0 : V) (h : H) : evalF M F.mem_Mem_Size [a0] h = mem_Mem_Size M a0 h := by kernel_rfl

end Wm.S
end

section
/- PRINTED by my tool (wip/wm/tool/Gen.lean): what a function comes to, stretch by stretch. -/
namespace Wm.S
open Wm
set_option maxRecDepth 100000
set_option linter.unusedVariables false


def mem_Mem_there (M : Env) (a0 : V) (a1 : Int) (h : H) : Option (V × H) :=
 match (decide (0 ≤ a1)) with
 | true => (
 (M.call 413 [a0] h).bind fun p0 =>
 (asI .i64 p0.1).bind fun n1 =>
 some ((.bool (decide (a1 < n1))), p0.2))
 | false => (
 some ((.bool false), h))

theorem mem_Mem_there_eq (M : Env) (a0 : V) (a1 : Int) (h : H) : evalF M F.mem_Mem_there [a0, (.int .i64 a1)] h = mem_Mem_there M a0 a1 h := by kernel_rfl

end Wm.S
end

section
/- PRINTED by my tool (wip/wm/tool/Gen.lean): what a function comes to, stretch by stretch. -/
namespace Wm.S
open Wm
set_option maxRecDepth 100000
set_option linter.unusedVariables false


def mem_Mem_touch (M : Env) (a0 : V) (a1 : Int) (a2 : Int) (a3 : Int) (h : H) : Option (V × H) :=
 (nilc a0).bind fun v0 =>
 (ptrAt v0 1).bind fun v1 =>
 (h.ld1 v1).bind fun v2 =>
 (asI .i64 v2).bind fun n3 =>
 (nilc a0).bind fun v4 =>
 (ptrAt v4 1).bind fun v5 =>
 (h.st 1 v5 (.int .i64 (wr .i64 (n3 + 1)))).bind fun h6 =>
 (nilc a0).bind fun v7 =>
 (ptrAt v7 0).bind fun v8 =>
 (h6.ld1 v8).bind fun v9 =>
 (indexAV 1 v9 (.int .i64 a2)).bind fun v10 =>
 (h6.ld1 v10).bind fun v11 =>
 (fill [(.int .i64 0), (.int .i64 0), (.int .u64 0), (.int .u64 0)] [] [(0, 1, .c (.int .i64 a1)), (1, 1, .c (.int .i64 a2)), (2, 1, .c v11), (3, 1, .c (.int .u64 a3))]).bind fun cs12 =>
 (nilc a0).bind fun v13 =>
 (ptrAt v13 2).bind fun v14 =>
 (h6.st 4 v14 (.agg cs12)).bind fun h15 =>
 (nilc a0).bind fun v16 =>
 (ptrAt v16 0).bind fun v17 =>
 (h15.ld1 v17).bind fun v18 =>
 (indexAV 1 v18 (.int .i64 a2)).bind fun v19 =>
 (h15.st 1 v19 (.int .u64 a3)).bind fun h20 =>
 some ((.tup []), h20)

theorem mem_Mem_touch_eq (M : Env) (a0 : V) (a1 : Int) (a2 : Int) (a3 : Int) (h : H) : evalF M F.mem_Mem_touch [a0, (.int .i64 a1), (.int .i64 a2), (.int .u64 a3)] h = mem_Mem_touch M a0 a1 a2 a3 h := by kernel_rfl

end Wm.S
end

section
/- PRINTED by my tool (wip/wm/tool/Gen.lean): what a function comes to, stretch by stretch. -/
namespace Wm.S
open Wm
set_option maxRecDepth 100000
set_option linter.unusedVariables false


def mem_Mem_Load (M : Env) (a0 : V) (a1 : Int) (h : H) : Option (V × H) :=
 (M.call 346 [a0, (.int .i64 a1)] h).bind fun p0 =>
 (asB p0.1).bind fun b1 =>
 match (!b1) with
 | true => (
 some ((.int .u64 0), p0.2))
 | false => (
 (nilc a0).bind fun v2 =>
 (ptrAt v2 0).bind fun v3 =>
 (p0.2.ld1 v3).bind fun v4 =>
 (indexAV 1 v4 (.int .i64 a1)).bind fun v5 =>
 (p0.2.ld1 v5).bind fun v6 =>
 (M.call 347 [a0, (.int .i64 1), (.int .i64 a1), v6] p0.2).bind fun p7 =>
 (nilc a0).bind fun v8 =>
 (ptrAt v8 0).bind fun v9 =>
 (p7.2.ld1 v9).bind fun v10 =>
 (indexAV 1 v10 (.int .i64 a1)).bind fun v11 =>
 (p7.2.ld1 v11).bind fun v12 =>
 some (v12, p7.2))

theorem mem_Mem_Load_eq (M : Env) (a0 : V) (a1 : Int) (h : H) : evalF M F.mem_Mem_Load [a0, (.int .i64 a1)] h = mem_Mem_Load M a0 a1 h := by kernel_rfl

end Wm.S
end

section
/- PRINTED by my tool (wip/wm/tool/Gen.lean): what a function comes to, stretch by stretch. -/
namespace Wm.S
open Wm
set_option maxRecDepth 100000
set_option linter.unusedVariables false


def mem_Mem_Store (M : Env) (a0 : V) (a1 : Int) (a2 : Int) (h : H) : Option (V × H) :=
 (M.call 346 [a0, (.int .i64 a1)] h).bind fun p0 =>
 (asB p0.1).bind fun b1 =>
 match (!b1) with
 | true => (
 some ((.bool false), p0.2))
 | false => (
 (M.call 347 [a0, (.int .i64 2), (.int .i64 a1), (.int .u64 a2)] p0.2).bind fun p2 =>
 some ((.bool true), p2.2))

theorem mem_Mem_Store_eq (M : Env) (a0 : V) (a1 : Int) (a2 : Int) (h : H) : evalF M F.mem_Mem_Store [a0, (.int .i64 a1), (.int .u64 a2)] h = mem_Mem_Store M a0 a1 a2 h := by kernel_rfl

end Wm.S
end

section
/- PRINTED by my tool (wip/wm/tool/Gen.lean): what a function comes to, stretch by stretch. -/
namespace Wm.S
open Wm
set_option maxRecDepth 100000
set_option linter.unusedVariables false


def mem_Mem_Swap (M : Env) (a0 : V) (a1 : Int) (a2 : Int) (a3 : Int) (h : H) : Option (V × H) :=
 (M.call 346 [a0, (.int .i64 a1)] h).bind fun p0 =>
 (asB p0.1).bind fun b1 =>
 match (!b1) with
 | true => (
 some ((.bool false), p0.2))
 | false => (
 (nilc a0).bind fun v2 =>
 (ptrAt v2 0).bind fun v3 =>
 (p0.2.ld1 v3).bind fun v4 =>
 (indexAV 1 v4 (.int .i64 a1)).bind fun v5 =>
 (p0.2.ld1 v5).bind fun v6 =>
 (asI .u64 v6).bind fun n7 =>
 match (!decide (n7 = a2)) with
 | true => (
 (M.call 347 [a0, (.int .i64 3), (.int .i64 a1), v6] p0.2).bind fun p8 =>
 (asI .u64 v6).bind fun n9 =>
 some ((.bool (decide (n9 = a2))), p8.2))
 | false => (
 (M.call 347 [a0, (.int .i64 3), (.int .i64 a1), (.int .u64 a3)] p0.2).bind fun p8 =>
 (asI .u64 v6).bind fun n9 =>
 some ((.bool (decide (n9 = a2))), p8.2)))

theorem mem_Mem_Swap_eq (M : Env) (a0 : V) (a1 : Int) (a2 : Int) (a3 : Int) (h : H) : evalF M F.mem_Mem_Swap [a0, (.int .i64 a1), (.int .u64 a2), (.int .u64 a3)] h = mem_Mem_Swap M a0 a1 a2 a3 h := by kernel_rfl

end Wm.S
end

section
/- PRINTED by my tool (wip/wm/tool/Gen.lean): what a function comes to, stretch by stretch. -/
namespace Wm.S
open Wm
set_option maxRecDepth 100000
set_option linter.unusedVariables false


end Wm.S
end

section
/- PRINTED by my tool (wip/wm/tool/Gen.lean): what a function comes to, stretch by stretch. -/
namespace Wm.S
open Wm
set_option maxRecDepth 100000
set_option linter.unusedVariables false


def mem_Mem_Touches (M : Env) (a0 : V) (h : H) : Option (V × H) :=
 (eqV .ptr a0 .nilp).bind fun b0 =>
 match b0 with
 | true => (
 some ((.int .i64 0), h))
 | false => (
 (nilc a0).bind fun v1 =>
 (ptrAt v1 1).bind fun v2 =>
 (h.ld1 v2).bind fun v3 =>
 some (v3, h))

theorem mem_Mem_Touches_eq (M : Env) (a0 : V) (h : H) : evalF M F.mem_Mem_Touches [a0] h = mem_Mem_Touches M a0 h := by kernel_rfl

end Wm.S
end

section
/- PRINTED by my tool (wip/wm/tool/Gen.lean): what a function comes to, stretch by stretch. -/
namespace Wm.S
open Wm
set_option maxRecDepth 100000
set_option linter.unusedVariables false

def word_Pack_c1_B (M : Env) : List V → H → Option (AX × List V × H) :=
 fun env h => evalC M F.word_Pack_c1 env h fun x env h => match x with
 | .normal => some (.normal, keepOf [4, 5, 8, 9, 10] 0 env, h)
 | x => some (x, keepOf [2, 3, 4] 0 env, h)

def word_Pack_c1_E (x4 x5 x8 x9 x10 : V) : List V := dd 4 (x4 :: x5 :: dd 2 (x8 :: x9 :: x10 :: dd 28 []))
def word_Pack_c1_O (x2 x3 x4 : V) : List V := dd 2 (x2 :: x3 :: x4 :: dd 34 [])

def word_Pack_K0 (M : Env) : AX → List V → H → Option (V × H) :=
 fun x env h => fin F.word_Pack x env h

def word_Pack_K1 (M : Env) : AX → List V → H → Option (V × H) :=
 fun x env h => match x with | .normal => evalC M F.word_Pack_c0 env h (fun x env h => word_Pack_K0 M x env h) | x => word_Pack_K0 M x env h

def word_Pack_K2 (M : Env) : AX → List V → H → Option (V × H) :=
 fun x env h => match x with | .exit j => (match Nat.beq j 0 with | true => word_Pack_K1 M .normal env h | false => word_Pack_K1 M (.exit j) env h) | x => word_Pack_K1 M x env h

def word_Pack (M : Env) (a0 : V) (h : H) : Option (V × H) :=
 (lenSl a0).bind fun n0 =>
 (M.loop (word_Pack_c1_B M) (word_Pack_c1_E (.int .u64 0) (.int .i64 0) a0 (.int .i64 ((n0 : Nat) : Int)) (.int .i64 0)) h).bind fun p1 => word_Pack_K2 M p1.1 p1.2.1 p1.2.2

def word_Pack_c1_S (M : Env) (x4 : Int) (x5 : Int) (x8 : V) (x9 : Int) (x10 : Int) (h : H) : Option (AX × List V × H) :=
 match (decide (x10 < x9)) with
 | true => (
 (indexAV 2 x8 (.int .i64 x10)).bind fun v0 =>
 (h.ldN 2 v0).bind fun v1 =>
 let h2 := h.new (.cells [(.int .i64 0), (.int .u64 0)] .rw)
 (h2.st 2 (.ptr h.next 0) v1).bind fun h3 =>
 (h3.ld1 (.ptr h.next 0)).bind fun v4 =>
 (M.call 441 [(.int .i64 x5), v4] h3).bind fun p5 =>
 (asB p5.1).bind fun b6 =>
 match (!b6) with
 | true => (
 some (.ret, (word_Pack_c1_O (.int .u64 0) (.bool false) (.int .u64 x4)), p5.2))
 | false => (
 (p5.2.ld1 (.ptr h.next 1)).bind fun v7 =>
 (p5.2.ld1 (.ptr h.next 0)).bind fun v8 =>
 (M.call 484 [v7, v8] p5.2).bind fun p9 =>
 (asB p9.1).bind fun b10 =>
 match (!b10) with
 | true => (
 some (.ret, (word_Pack_c1_O (.int .u64 0) (.bool false) (.int .u64 x4)), p9.2))
 | false => (
 (p9.2.ld1 (.ptr h.next 1)).bind fun v11 =>
 (asI .u64 v11).bind fun n12 =>
 (shiftI true .u64 n12 x5).bind fun n13 =>
 (p9.2.ld1 (.ptr h.next 0)).bind fun v14 =>
 (asI .i64 v14).bind fun n15 =>
 some (.normal, (word_Pack_c1_E (.int .u64 (or64 x4 n13)) (.int .i64 (wr .i64 (x5 + n15))) x8 (.int .i64 x9) (.int .i64 (wr .i64 (x10 + 1)))), p9.2))))
 | false => (
 some ((.exit 0), (word_Pack_c1_O .dead .dead (.int .u64 x4)), h))

def word_Pack_c1_e0 (M : Env) (x2 : V) (x3 : V) (x4 : Int) (h : H) : Option (V × H) :=
 some ((.tup [(.int .u64 x4), (.bool true)]), h)

def word_Pack_c1_r (M : Env) (x2 : Int) (x3 : Bool) (x4 : V) (h : H) : Option (V × H) :=
 some ((.tup [(.int .u64 x2), (.bool x3)]), h)

theorem word_Pack_eq (M : Env) (a0 : V) (h : H) : evalF M F.word_Pack [a0] h = word_Pack M a0 h := by kernel_rfl

theorem word_Pack_c1_eq (M : Env) (x4 : Int) (x5 : Int) (x8 : V) (x9 : Int) (x10 : Int) (h : H) : word_Pack_c1_B M (word_Pack_c1_E (.int .u64 x4) (.int .i64 x5) x8 (.int .i64 x9) (.int .i64 x10)) h = word_Pack_c1_S M x4 x5 x8 x9 x10 h := by kernel_rfl

theorem word_Pack_c1_e0_eq (M : Env) (x2 : V) (x3 : V) (x4 : Int) (h : H) : word_Pack_K2 M (.exit 0) (word_Pack_c1_O x2 x3 (.int .u64 x4)) h = word_Pack_c1_e0 M x2 x3 x4 h := by kernel_rfl

theorem word_Pack_c1_r_eq (M : Env) (x2 : Int) (x3 : Bool) (x4 : V) (h : H) : word_Pack_K2 M .ret (word_Pack_c1_O (.int .u64 x2) (.bool x3) x4) h = word_Pack_c1_r M x2 x3 x4 h := by kernel_rfl

end Wm.S
end

section
/- PRINTED by my tool (wip/wm/tool/Gen.lean): what a function comes to, stretch by stretch. -/
namespace Wm.S
open Wm
set_option maxRecDepth 100000
set_option linter.unusedVariables false


def word_Fits (M : Env) (a0 : Int) (a1 : Int) (h : H) : Option (V × H) :=
 match (decide (0 ≤ a1)) with
 | true => (
 match (decide (63 < a1)) with
 | true => (
 some ((.bool true), h))
 | false => (
 (shiftI false .u64 a0 a1).bind fun n0 =>
 some ((.bool (decide (n0 = 0))), h)))
 | false => (
 some ((.bool false), h))

theorem word_Fits_eq (M : Env) (a0 : Int) (a1 : Int) (h : H) : evalF M F.word_Fits [(.int .u64 a0), (.int .i64 a1)] h = word_Fits M a0 a1 h := by kernel_rfl

end Wm.S
end

section
/- PRINTED by my tool (wip/wm/tool/Gen.lean): what a function comes to, stretch by stretch. -/
namespace Wm.S
open Wm
set_option maxRecDepth 100000
set_option linter.unusedVariables false


def head_bit (M : Env) (a0 : Bool) (h : H) : Option (V × H) :=
 match a0 with
 | true => (
 some ((.int .u64 1), h))
 | false => (
 some ((.int .u64 0), h))

theorem head_bit_eq (M : Env) (a0 : Bool) (h : H) : evalF M F.head_bit [(.bool a0)] h = head_bit M a0 h := by kernel_rfl

end Wm.S
end

section
/- PRINTED by my tool (wip/wm/tool/Gen.lean): what a function comes to, stretch by stretch. -/
namespace Wm.S
open Wm
set_option maxRecDepth 100000
set_option linter.unusedVariables false

def head_Pack_c1_B (M : Env) : List V → H → Option (AX × List V × H) :=
 fun env h => evalC M F.head_Pack_c1 env h fun x env h => match x with
 | .normal => some (.normal, keepOf [1, 18, 19] 0 env, h)
 | x => some (x, keepOf [1, 2, 3] 0 env, h)

def head_Pack_c1_E (x1 x18 x19 : V) : List V := dd 1 (x1 :: dd 16 (x18 :: x19 :: dd 43 []))
def head_Pack_c1_O (x1 x2 x3 : V) : List V := dd 1 (x1 :: x2 :: x3 :: dd 59 [])

def head_Pack_K0 (M : Env) : AX → List V → H → Option (V × H) :=
 fun x env h => fin F.head_Pack x env h

def head_Pack_K1 (M : Env) : AX → List V → H → Option (V × H) :=
 fun x env h => match x with | .normal => evalC M F.head_Pack_c0 env h (fun x env h => head_Pack_K0 M x env h) | x => head_Pack_K0 M x env h

def head_Pack_K2 (M : Env) : AX → List V → H → Option (V × H) :=
 fun x env h => match x with | .exit j => (match Nat.beq j 0 with | true => head_Pack_K1 M .normal env h | false => head_Pack_K1 M (.exit j) env h) | x => head_Pack_K1 M x env h

def head_Pack (M : Env) (a0_0 : Int) (a0_1 : Int) (a0_2 : Bool) (a0_3 : Int) (a0_4 : Int) (a0_5 : Int) (h : H) : Option (V × H) :=
 let h0 := h.new (.cells [(.int .i64 a0_0), (.int .i64 a0_1), (.bool a0_2), (.int .i64 a0_3), (.int .i64 a0_4), (.int .i64 a0_5)] .rw)
 (h0.ld1 (.ptr h.next 0)).bind fun v1 =>
 (h0.ld1 (.ptr h.next 1)).bind fun v2 =>
 (h0.ld1 (.ptr h.next 3)).bind fun v3 =>
 (h0.ld1 (.ptr h.next 4)).bind fun v4 =>
 (h0.ld1 (.ptr h.next 5)).bind fun v5 =>
 (fill [(.int .i64 0), (.int .i64 0), (.int .i64 0), (.int .i64 0), (.int .i64 0)] [] [(0, 1, .c v1), (1, 1, .c v2), (2, 1, .c v3), (3, 1, .c v4), (4, 1, .c v5)]).bind fun cs6 =>
 (M.loop (head_Pack_c1_B M) (head_Pack_c1_E (.ptr h.next 0) (.agg cs6) (.int .i64 0)) h0).bind fun p7 => head_Pack_K2 M p7.1 p7.2.1 p7.2.2

def head_Pack_c1_S (M : Env) (x1 : V) (x18 : V) (x19 : Int) (h : H) : Option (AX × List V × H) :=
 match (decide (x19 < 5)) with
 | true => (
 (aggCells x18).bind fun cs0 =>
 (indexOf 5 (.int .i64 x19)).bind fun j1 =>
 (part false cs0 (j1 * 1) 1).bind fun v2 =>
 (asI .i64 v2).bind fun n3 =>
 match (decide (n3 < 0)) with
 | true => (
 some (.ret, (head_Pack_c1_O x1 (.int .u64 0) (.bool false)), h))
 | false => (
 some (.normal, (head_Pack_c1_E x1 x18 (.int .i64 (wr .i64 (x19 + 1)))), h)))
 | false => (
 some ((.exit 0), (head_Pack_c1_O x1 .dead .dead), h))

def head_Pack_c1_e0 (M : Env) (x1 : V) (x2 : V) (x3 : V) (h : H) : Option (V × H) :=
 (ptrAt x1 0).bind fun v0 =>
 (h.ld1 v0).bind fun v1 =>
 (asIAny v1).bind fun n2 =>
 (ptrAt x1 1).bind fun v3 =>
 (h.ld1 v3).bind fun v4 =>
 (asIAny v4).bind fun n5 =>
 (ptrAt x1 2).bind fun v6 =>
 (h.ld1 v6).bind fun v7 =>
 (ptrAt x1 3).bind fun v8 =>
 (h.ld1 v8).bind fun v9 =>
 (asIAny v9).bind fun n10 =>
 (ptrAt x1 4).bind fun v11 =>
 (h.ld1 v11).bind fun v12 =>
 (asIAny v12).bind fun n13 =>
 (ptrAt x1 5).bind fun v14 =>
 (h.ld1 v14).bind fun v15 =>
 (asIAny v15).bind fun n16 =>
 (M.call 444 [v7] h).bind fun p17 =>
 match ckB (p17.2.ld1 v14) v15 with
 | true => (
 match ckB (p17.2.ld1 v11) v12 with
 | true => (
 match ckB (p17.2.ld1 v8) v9 with
 | true => (
 match ckB (p17.2.ld1 v3) v4 with
 | true => (
 match ckB (p17.2.ld1 v0) v1 with
 | true => (
 (fill [(.int .i64 0), (.int .u64 0)] [] [(0, 1, .c (.int .i64 1)), (1, 1, .c p17.1)]).bind fun cs18 =>
 (fill (repl [(.int .i64 0), (.int .u64 0)] 7) [] [(0, 2, .c (.agg [(.int .i64 3), (.int .u64 (wr .u64 n2))])), (2, 2, .c (.agg [(.int .i64 1), (.int .u64 (wr .u64 n5))])), (4, 2, .c (.agg cs18)), (6, 2, .c (.agg [(.int .i64 4), (.int .u64 (wr .u64 n10))])), (8, 2, .c (.agg [(.int .i64 7), (.int .u64 0)])), (10, 2, .c (.agg [(.int .i64 32), (.int .u64 (wr .u64 n13))])), (12, 2, .c (.agg [(.int .i64 16), (.int .u64 (wr .u64 n16))]))]).bind fun cs19 =>
 let h20 := p17.2.new (.cells cs19 .rw)
 (M.call 443 [(.sl p17.2.next 0 7 (.ex 7))] h20).bind fun p21 =>
 match p21.1 with
 | .tup vs22 => ((vs22[0]?).bind fun v23 =>
 match p21.1 with
 | .tup vs24 => ((vs24[1]?).bind fun v25 =>
 (asB v25).bind fun b26 =>
 match (!b26) with
 | true => (
 some ((.tup [(.int .u64 0), (.bool false)]), p21.2))
 | false => (
 (ptrAt x1 0).bind fun v27 =>
 (p21.2.ld1 v27).bind fun v28 =>
 (asI .i64 v28).bind fun n29 =>
 match (decide (4 < n29)) with
 | true => (
 some ((.tup [(.int .u64 0), (.bool false)]), p21.2))
 | false => (
 some ((.tup [v23, (.bool true)]), p21.2))))
 | _ => none)
 | _ => none)
 | false => none)
 | false => none)
 | false => none)
 | false => none)
 | false => none

def head_Pack_c1_r (M : Env) (x1 : V) (x2 : Int) (x3 : Bool) (h : H) : Option (V × H) :=
 some ((.tup [(.int .u64 x2), (.bool x3)]), h)

theorem head_Pack_eq (M : Env) (a0_0 : Int) (a0_1 : Int) (a0_2 : Bool) (a0_3 : Int) (a0_4 : Int) (a0_5 : Int) (h : H) : evalF M F.head_Pack [(.agg [(.int .i64 a0_0), (.int .i64 a0_1), (.bool a0_2), (.int .i64 a0_3), (.int .i64 a0_4), (.int .i64 a0_5)])] h = head_Pack M a0_0 a0_1 a0_2 a0_3 a0_4 a0_5 h := by kernel_rfl

theorem head_Pack_c1_eq (M : Env) (x1 : V) (x18 : V) (x19 : Int) (h : H) : head_Pack_c1_B M (head_Pack_c1_E x1 x18 (.int .i64 x19)) h = head_Pack_c1_S M x1 x18 x19 h := by kernel_rfl

theorem head_Pack_c1_e0_eq (M : Env) (x1 : V) (x2 : V) (x3 : V) (h : H) : head_Pack_K2 M (.exit 0) (head_Pack_c1_O x1 x2 x3) h = head_Pack_c1_e0 M x1 x2 x3 h := by kernel_rfl

theorem head_Pack_c1_r_eq (M : Env) (x1 : V) (x2 : Int) (x3 : Bool) (h : H) : head_Pack_K2 M .ret (head_Pack_c1_O x1 (.int .u64 x2) (.bool x3)) h = head_Pack_c1_r M x1 x2 x3 h := by kernel_rfl

end Wm.S
end

section
/- PRINTED by my tool (wip/wm/tool/Gen.lean): what a function comes to, stretch by stretch. -/
namespace Wm.S
open Wm
set_option maxRecDepth 100000
set_option linter.unusedVariables false


def head_lives (M : Env) (a0 : Int) (h : H) : Option (V × H) :=
 let h0 := h.new (.cells [(.int .i64 0), (.int .i64 0), (.bool false), (.int .i64 0), (.int .i64 0), (.int .i64 0)] .rw)
 (M.call 265 [(.int .u64 a0)] h0).bind fun p1 =>
 match p1.1 with
 | .tup vs2 => ((vs2[0]?).bind fun v3 =>
 match p1.1 with
 | .tup vs4 => ((vs4[1]?).bind fun v5 =>
 let h6 := p1.2.new (.cells [(.int .i64 0), (.int .i64 0), (.bool false), (.int .i64 0), (.int .i64 0), (.int .i64 0)] .rw)
 (h6.st 6 (.ptr p1.2.next 0) v3).bind fun h7 =>
 (h7.ldN 6 (.ptr p1.2.next 0)).bind fun v8 =>
 match v5 with
 | .bool true => (
 (h7.ld1 (.ptr p1.2.next 0)).bind fun v9 =>
 (asI .i64 v9).bind fun n10 =>
 match (decide (n10 = 1)) with
 | true => (
 (h7.st 6 (.ptr h.next 0) v8).bind fun h11 =>
 finV h11 [.cell true 6 (.ptr h.next 0), .v (.bool true)])
 | false => (
 (h7.ld1 (.ptr p1.2.next 0)).bind fun v11 =>
 (asI .i64 v11).bind fun n12 =>
 (h7.st 6 (.ptr h.next 0) v8).bind fun h13 =>
 match ckB (h13.ld1 (.ptr p1.2.next 0)) v11 with
 | true => (
 finV h13 [.cell true 6 (.ptr h.next 0), .v (.bool (decide (n12 = 2)))])
 | false => none))
 | .bool false => (
 (h7.st 6 (.ptr h.next 0) v8).bind fun h9 =>
 finV h9 [.cell true 6 (.ptr h.next 0), .v (.bool false)])
 | .tup [] => (
 match v5 with
 | .bool true => (
 none)
 | .bool false => (
 (h7.st 6 (.ptr h.next 0) v8).bind fun h9 =>
 finV h9 [.cell true 6 (.ptr h.next 0), .v (.bool false)])
 | .tup [] => (
 (asB v5).bind fun b9 =>
 (h7.st 6 (.ptr h.next 0) v8).bind fun h10 =>
 finV h10 [.cell true 6 (.ptr h.next 0), .v (match b9 with | true => (.tup []) | false => (.bool false) : V)])
 | _ => none)
 | _ => none)
 | _ => none)
 | _ => none

theorem head_lives_eq (M : Env) (a0 : Int) (h : H) : evalF M F.head_lives [(.int .u64 a0)] h = head_lives M a0 h := by kernel_rfl

end Wm.S
end

section
/- PRINTED by my tool (wip/wm/tool/Gen.lean): what a function comes to, stretch by stretch. -/
namespace Wm.S
open Wm
set_option maxRecDepth 100000
set_option linter.unusedVariables false


end Wm.S
end

section
/- PRINTED by my tool (wip/wm/tool/Gen.lean): what a function comes to, stretch by stretch. -/
namespace Wm.S
open Wm
set_option maxRecDepth 100000
set_option linter.unusedVariables false


end Wm.S
end

section
/- PRINTED by my tool (wip/wm/tool/Gen.lean): what a function comes to, stretch by stretch. -/
namespace Wm.S
open Wm
set_option maxRecDepth 100000
set_option linter.unusedVariables false


def head_Retired (M : Env) (a0 : Int) (a1 : Int) (h : H) : Option (V × H) :=
 (M.call 380 [(.int .u64 a0)] h).bind fun p0 =>
 match p0.1 with
 | .tup vs1 => ((vs1[0]?).bind fun v2 =>
 match p0.1 with
 | .tup vs3 => ((vs3[1]?).bind fun v4 =>
 let h5 := p0.2.new (.cells [(.int .i64 0), (.int .i64 0), (.bool false), (.int .i64 0), (.int .i64 0), (.int .i64 0)] .rw)
 (h5.st 6 (.ptr p0.2.next 0) v2).bind fun h6 =>
 (asB v4).bind fun b7 =>
 match (!b7) with
 | true => (
 some ((.tup [(.int .u64 a0), (.bool false)]), h6))
 | false => (
 (h6.ld1 (.ptr p0.2.next 1)).bind fun v8 =>
 (M.call 381 [(.int .u64 a1)] h6).bind fun p9 =>
 match ckB (p9.2.ld1 (.ptr p0.2.next 1)) v8 with
 | true => (
 (asI .i64 v8).bind fun n10 =>
 (asI .i64 p9.1).bind fun n11 =>
 match (decide (n10 = n11)) with
 | true => (
 some ((.tup [(.int .u64 a0), (.bool false)]), p9.2))
 | false => (
 (p9.2.st 1 (.ptr p0.2.next 0) (.int .i64 3)).bind fun h12 =>
 (h12.st 1 (.ptr p0.2.next 2) (.bool false)).bind fun h13 =>
 (h13.st 1 (.ptr p0.2.next 5) (.int .i64 (wr .i64 (and64 a1 65535)))).bind fun h14 =>
 (h14.ldN 6 (.ptr p0.2.next 0)).bind fun v15 =>
 (M.call 382 [v15] h14).bind fun p16 =>
 match p16.1 with
 | .tup vs17 => ((vs17[0]?).bind fun v18 =>
 match p16.1 with
 | .tup vs19 => ((vs19[1]?).bind fun v20 =>
 some ((.tup [v18, v20]), p16.2))
 | _ => none)
 | _ => none))
 | false => none))
 | _ => none)
 | _ => none

theorem head_Retired_eq (M : Env) (a0 : Int) (a1 : Int) (h : H) : evalF M F.head_Retired [(.int .u64 a0), (.int .u64 a1)] h = head_Retired M a0 a1 h := by kernel_rfl

end Wm.S
end

section
/- PRINTED by my tool (wip/wm/tool/Gen.lean): what a function comes to, stretch by stretch. -/
namespace Wm.S
open Wm
set_option maxRecDepth 100000
set_option linter.unusedVariables false


def head_Freed (M : Env) (a0 : Int) (a1 : Int) (h : H) : Option (V × H) :=
 (M.call 265 [(.int .u64 a0)] h).bind fun p0 =>
 match p0.1 with
 | .tup vs1 => ((vs1[0]?).bind fun v2 =>
 match p0.1 with
 | .tup vs3 => ((vs3[1]?).bind fun v4 =>
 let h5 := p0.2.new (.cells [(.int .i64 0), (.int .i64 0), (.bool false), (.int .i64 0), (.int .i64 0), (.int .i64 0)] .rw)
 (h5.st 6 (.ptr p0.2.next 0) v2).bind fun h6 =>
 (asB v4).bind fun b7 =>
 match (!b7) with
 | true => (
 some ((.tup [(.int .u64 a0), (.bool false)]), h6))
 | false => (
 (h6.ld1 (.ptr p0.2.next 0)).bind fun v8 =>
 (asI .i64 v8).bind fun n9 =>
 match (!decide (n9 = 3)) with
 | true => (
 some ((.tup [(.int .u64 a0), (.bool false)]), h6))
 | false => (
 (h6.ld1 (.ptr p0.2.next 4)).bind fun v10 =>
 (asI .i64 v10).bind fun n11 =>
 match (decide (a1 ≤ (wr .i64 (n11 + 1)))) with
 | true => (
 (h6.st 1 (.ptr p0.2.next 0) (.int .i64 4)).bind fun h12 =>
 (h12.ldN 6 (.ptr p0.2.next 0)).bind fun v13 =>
 (M.call 382 [v13] h12).bind fun p14 =>
 match p14.1 with
 | .tup vs15 => ((vs15[0]?).bind fun v16 =>
 match p14.1 with
 | .tup vs17 => ((vs17[1]?).bind fun v18 =>
 some ((.tup [v16, v18]), p14.2))
 | _ => none)
 | _ => none)
 | false => (
 (h6.ld1 (.ptr p0.2.next 4)).bind fun v12 =>
 (asI .i64 v12).bind fun n13 =>
 match (decide (4294967296 ≤ (wr .i64 (n13 + 1)))) with
 | true => (
 (h6.st 1 (.ptr p0.2.next 0) (.int .i64 4)).bind fun h14 =>
 (h14.ldN 6 (.ptr p0.2.next 0)).bind fun v15 =>
 (M.call 382 [v15] h14).bind fun p16 =>
 match p16.1 with
 | .tup vs17 => ((vs17[0]?).bind fun v18 =>
 match p16.1 with
 | .tup vs19 => ((vs19[1]?).bind fun v20 =>
 some ((.tup [v18, v20]), p16.2))
 | _ => none)
 | _ => none)
 | false => (
 (h6.ld1 (.ptr p0.2.next 4)).bind fun v14 =>
 (asI .i64 v14).bind fun n15 =>
 (M.call 382 [(.agg [(.int .i64 0), (.int .i64 0), (.bool false), (.int .i64 0), (.int .i64 (wr .i64 (n15 + 1))), (.int .i64 0)])] h6).bind fun p16 =>
 match p16.1 with
 | .tup vs17 => ((vs17[0]?).bind fun v18 =>
 match p16.1 with
 | .tup vs19 => ((vs19[1]?).bind fun v20 =>
 some ((.tup [v18, v20]), p16.2))
 | _ => none)
 | _ => none)))))
 | _ => none)
 | _ => none

theorem head_Freed_eq (M : Env) (a0 : Int) (a1 : Int) (h : H) : evalF M F.head_Freed [(.int .u64 a0), (.int .i64 a1)] h = head_Freed M a0 a1 h := by kernel_rfl

end Wm.S
end

section
/- PRINTED by my tool (wip/wm/tool/Gen.lean): what a function comes to, stretch by stretch. -/
namespace Wm.S
open Wm
set_option maxRecDepth 100000
set_option linter.unusedVariables false


end Wm.S
end

section
/- PRINTED by my tool (wip/wm/tool/Gen.lean): what a function comes to, stretch by stretch. -/
namespace Wm.S
open Wm
set_option maxRecDepth 100000
set_option linter.unusedVariables false


end Wm.S
end

section
/- PRINTED by my tool (wip/wm/tool/Gen.lean): what a function comes to, stretch by stretch. -/
namespace Wm.S
open Wm
set_option maxRecDepth 100000
set_option linter.unusedVariables false


def turn_Black (M : Env) (a0 : Int) (h : H) : Option (V × H) :=
 (M.call 442 [(.int .u64 a0)] h).bind fun p0 =>
 (asI .u64 p0.1).bind fun n1 =>
 some ((.int .i64 (wr .i64 (Int.tmod (wr .u64 (n1 + 1)) 2))), p0.2)

theorem turn_Black_eq (M : Env) (a0 : Int) (h : H) : evalF M F.turn_Black [(.int .u64 a0)] h = turn_Black M a0 h := by kernel_rfl

end Wm.S
end

section
/- PRINTED by my tool (wip/wm/tool/Gen.lean): what a function comes to, stretch by stretch. -/
namespace Wm.S
open Wm
set_option maxRecDepth 100000
set_option linter.unusedVariables false


def turn_Cycle (M : Env) (a0 : Int) (h : H) : Option (V × H) :=
 some ((.int .u64 (wr .u64 (Int.tdiv a0 4))), h)

theorem turn_Cycle_eq (M : Env) (a0 : Int) (h : H) : evalF M F.turn_Cycle [(.int .u64 a0)] h = turn_Cycle M a0 h := by kernel_rfl

end Wm.S
end

section
/- PRINTED by my tool (wip/wm/tool/Gen.lean): what a function comes to, stretch by stretch. -/
namespace Wm.S
open Wm
set_option maxRecDepth 100000
set_option linter.unusedVariables false


end Wm.S
end

section
/- PRINTED by my tool (wip/wm/tool/Gen.lean): what a function comes to, stretch by stretch. -/
namespace Wm.S
open Wm
set_option maxRecDepth 100000
set_option linter.unusedVariables false


end Wm.S
end

section
/- PRINTED by my tool (wip/wm/tool/Gen.lean): what a function comes to, stretch by stretch. -/
namespace Wm.S
open Wm
set_option maxRecDepth 100000
set_option linter.unusedVariables false

def withyref06_Words_c1_B (M : Env) : List V → H → Option (AX × List V × H) :=
 fun env h => evalC M F.withyref06_Words_c1 env h fun x env h => match x with
 | .normal => some (.normal, keepOf [1, 3, 4] 0 env, h)
 | x => some (x, keepOf [1, 3] 0 env, h)

def withyref06_Words_c1_E (x1 x3 x4 : V) : List V := dd 1 (x1 :: dd 1 (x3 :: x4 :: dd 78 []))
def withyref06_Words_c1_O (x1 x3 : V) : List V := dd 1 (x1 :: dd 1 (x3 :: dd 79 []))

def withyref06_Words_c3_B (M : Env) : List V → H → Option (AX × List V × H) :=
 fun env h => evalC M F.withyref06_Words_c3 env h fun x env h => match x with
 | .normal => some (.normal, keepOf [1, 3, 5] 0 env, h)
 | x => some (x, keepOf [1, 3] 0 env, h)

def withyref06_Words_c3_E (x1 x3 x5 : V) : List V := dd 1 (x1 :: dd 1 (x3 :: dd 1 (x5 :: dd 77 [])))
def withyref06_Words_c3_O (x1 x3 : V) : List V := dd 1 (x1 :: dd 1 (x3 :: dd 79 []))

def withyref06_Words_c5_B (M : Env) : List V → H → Option (AX × List V × H) :=
 fun env h => evalC M F.withyref06_Words_c5 env h fun x env h => match x with
 | .normal => some (.normal, keepOf [1, 3, 5, 6] 0 env, h)
 | x => some (x, keepOf [1, 3, 5] 0 env, h)

def withyref06_Words_c5_E (x1 x3 x5 x6 : V) : List V := dd 1 (x1 :: dd 1 (x3 :: dd 1 (x5 :: x6 :: dd 76 [])))
def withyref06_Words_c5_O (x1 x3 x5 : V) : List V := dd 1 (x1 :: dd 1 (x3 :: dd 1 (x5 :: dd 77 [])))

def withyref06_Words_c7_B (M : Env) : List V → H → Option (AX × List V × H) :=
 fun env h => evalC M F.withyref06_Words_c7 env h fun x env h => match x with
 | .normal => some (.normal, keepOf [1, 3, 7] 0 env, h)
 | x => some (x, keepOf [1, 3] 0 env, h)

def withyref06_Words_c7_E (x1 x3 x7 : V) : List V := dd 1 (x1 :: dd 1 (x3 :: dd 3 (x7 :: dd 75 [])))
def withyref06_Words_c7_O (x1 x3 : V) : List V := dd 1 (x1 :: dd 1 (x3 :: dd 79 []))

def withyref06_Words_c9_B (M : Env) : List V → H → Option (AX × List V × H) :=
 fun env h => evalC M F.withyref06_Words_c9 env h fun x env h => match x with
 | .normal => some (.normal, keepOf [1, 3, 8] 0 env, h)
 | x => some (x, keepOf [3] 0 env, h)

def withyref06_Words_c9_E (x1 x3 x8 : V) : List V := dd 1 (x1 :: dd 1 (x3 :: dd 4 (x8 :: dd 74 [])))
def withyref06_Words_c9_O (x3 : V) : List V := dd 3 (x3 :: dd 79 [])

def withyref06_Words_c11_B (M : Env) : List V → H → Option (AX × List V × H) :=
 fun env h => evalC M F.withyref06_Words_c11 env h fun x env h => match x with
 | .normal => some (.normal, keepOf [1, 3, 8, 9] 0 env, h)
 | x => some (x, keepOf [1, 3, 8] 0 env, h)

def withyref06_Words_c11_E (x1 x3 x8 x9 : V) : List V := dd 1 (x1 :: dd 1 (x3 :: dd 4 (x8 :: x9 :: dd 73 [])))
def withyref06_Words_c11_O (x1 x3 x8 : V) : List V := dd 1 (x1 :: dd 1 (x3 :: dd 4 (x8 :: dd 74 [])))

def withyref06_Words_K0 (M : Env) : AX → List V → H → Option (V × H) :=
 fun x env h => fin F.withyref06_Words x env h

def withyref06_Words_K1 (M : Env) : AX → List V → H → Option (V × H) :=
 fun x env h => match x with | .normal => evalC M F.withyref06_Words_c0 env h (fun x env h => withyref06_Words_K0 M x env h) | x => withyref06_Words_K0 M x env h

def withyref06_Words_K2 (M : Env) : AX → List V → H → Option (V × H) :=
 fun x env h => match x with | .exit j => (match Nat.beq j 0 with | true => withyref06_Words_K1 M .normal env h | false => withyref06_Words_K1 M (.exit j) env h) | x => withyref06_Words_K1 M x env h

def withyref06_Words_K3 (M : Env) : AX → List V → H → Option (V × H) :=
 fun x env h => match x with | .normal => evalC M F.withyref06_Words_c2 env h (fun x env h => withyref06_Words_K0 M x env h) | x => withyref06_Words_K0 M x env h

def withyref06_Words_K4 (M : Env) : AX → List V → H → Option (V × H) :=
 fun x env h => match x with | .exit j => (match Nat.beq j 2 with | true => withyref06_Words_K3 M .normal env h | false => withyref06_Words_K3 M (.exit j) env h) | x => withyref06_Words_K3 M x env h

def withyref06_Words_K5 (M : Env) : AX → List V → H → Option (AX × List V × H) :=
 fun x env h => match x with | .normal => some (.normal, keepOf [1, 3, 5] 0 env, h) | x => some (x, keepOf [1, 3] 0 env, h)

def withyref06_Words_K6 (M : Env) : AX → List V → H → Option (AX × List V × H) :=
 fun x env h => match x with | .normal => evalC M F.withyref06_Words_c4 env h (fun x env h => withyref06_Words_K5 M x env h) | x => withyref06_Words_K5 M x env h

def withyref06_Words_K7 (M : Env) : AX → List V → H → Option (AX × List V × H) :=
 fun x env h => match x with | .exit j => (match Nat.beq j 3 with | true => withyref06_Words_K6 M .normal env h | false => withyref06_Words_K6 M (.exit j) env h) | x => withyref06_Words_K6 M x env h

def withyref06_Words_K8 (M : Env) : AX → List V → H → Option (AX × List V × H) :=
 fun x env h => match x with | .exit j => (match Nat.beq j 4 with | true => withyref06_Words_K7 M .normal env h | false => withyref06_Words_K7 M (.exit j) env h) | x => withyref06_Words_K7 M x env h

def withyref06_Words_K9 (M : Env) : AX → List V → H → Option (V × H) :=
 fun x env h => match x with | .normal => evalC M F.withyref06_Words_c6 env h (fun x env h => withyref06_Words_K0 M x env h) | x => withyref06_Words_K0 M x env h

def withyref06_Words_K10 (M : Env) : AX → List V → H → Option (V × H) :=
 fun x env h => match x with | .exit j => (match Nat.beq j 6 with | true => withyref06_Words_K9 M .normal env h | false => withyref06_Words_K9 M (.exit j) env h) | x => withyref06_Words_K9 M x env h

def withyref06_Words_K11 (M : Env) : AX → List V → H → Option (V × H) :=
 fun x env h => match x with | .normal => evalC M F.withyref06_Words_c8 env h (fun x env h => withyref06_Words_K0 M x env h) | x => withyref06_Words_K0 M x env h

def withyref06_Words_K12 (M : Env) : AX → List V → H → Option (V × H) :=
 fun x env h => match x with | .exit j => (match Nat.beq j 8 with | true => withyref06_Words_K11 M .normal env h | false => withyref06_Words_K11 M (.exit j) env h) | x => withyref06_Words_K11 M x env h

def withyref06_Words_K13 (M : Env) : AX → List V → H → Option (AX × List V × H) :=
 fun x env h => match x with | .normal => some (.normal, keepOf [1, 3, 8] 0 env, h) | x => some (x, keepOf [3] 0 env, h)

def withyref06_Words_K14 (M : Env) : AX → List V → H → Option (AX × List V × H) :=
 fun x env h => match x with | .normal => evalC M F.withyref06_Words_c10 env h (fun x env h => withyref06_Words_K13 M x env h) | x => withyref06_Words_K13 M x env h

def withyref06_Words_K15 (M : Env) : AX → List V → H → Option (AX × List V × H) :=
 fun x env h => match x with | .exit j => (match Nat.beq j 9 with | true => withyref06_Words_K14 M .normal env h | false => withyref06_Words_K14 M (.exit j) env h) | x => withyref06_Words_K14 M x env h

def withyref06_Words_K16 (M : Env) : AX → List V → H → Option (AX × List V × H) :=
 fun x env h => match x with | .exit j => (match Nat.beq j 10 with | true => withyref06_Words_K15 M .normal env h | false => withyref06_Words_K15 M (.exit j) env h) | x => withyref06_Words_K15 M x env h

def withyref06_Words (M : Env) (a0_0 : Int) (a0_1 : Int) (a0_2 : Int) (a0_3 : Int) (a0_4 : Int) (a0_5 : Int) (h : H) : Option (V × H) :=
 let h0 := h.new (.cells [(.int .i64 a0_0), (.int .i64 a0_1), (.int .i64 a0_2), (.int .i64 a0_3), (.int .i64 a0_4), (.int .i64 a0_5)] .rw)
 let h1 := h0.new (.cells [(.str ⟨⟨[99, 108, 111, 99, 107]⟩⟩), (.int .i64 0), (.int .i64 0), (.str ⟨⟨[101, 112, 111, 99, 104]⟩⟩), (.int .i64 0), (.int .i64 0), (.str ⟨⟨[103, 114, 97, 121, 115]⟩⟩), (.int .i64 0), (.int .i64 0), (.str ⟨⟨[116, 111, 112]⟩⟩), (.int .i64 0), (.int .i64 0)] .rw)
 (M.loop (withyref06_Words_c1_B M) (withyref06_Words_c1_E (.ptr h.next 0) (.sl h0.next 0 4 (.ex 4)) (.int .i64 0)) h1).bind fun p2 => withyref06_Words_K2 M p2.1 p2.2.1 p2.2.2

def withyref06_Words_c1_S (M : Env) (x1 : V) (x3 : V) (x4 : Int) (h : H) : Option (AX × List V × H) :=
 (ptrAt x1 2).bind fun v0 =>
 (h.ld1 v0).bind fun v1 =>
 (asI .i64 v1).bind fun n2 =>
 match (decide (x4 < n2)) with
 | true => (
 let h3 := h.new (.cells [(.str ⟨⟨[112, 105, 110]⟩⟩), (.int .i64 x4), (.int .i64 0)] .rw)
 (h3.append 3 32 x3 (.sl h.next 0 1 (.ex 1))).bind fun p4 =>
 some (.normal, (withyref06_Words_c1_E x1 p4.1 (.int .i64 (wr .i64 (x4 + 1)))), p4.2))
 | false => (
 some ((.exit 0), (withyref06_Words_c1_O x1 x3), h))

def withyref06_Words_c1_e0 (M : Env) (x1 : V) (x3 : V) (h : H) : Option (V × H) :=
 (M.loop (withyref06_Words_c3_B M) (withyref06_Words_c3_E x1 x3 (.int .i64 0)) h).bind fun p0 => withyref06_Words_K4 M p0.1 p0.2.1 p0.2.2

def withyref06_Words_c3_S (M : Env) (x1 : V) (x3 : V) (x5 : Int) (h : H) : Option (AX × List V × H) :=
 (ptrAt x1 2).bind fun v0 =>
 (h.ld1 v0).bind fun v1 =>
 (asI .i64 v1).bind fun n2 =>
 match (decide (x5 < n2)) with
 | true => (
 (M.loop (withyref06_Words_c5_B M) (withyref06_Words_c5_E x1 x3 (.int .i64 x5) (.int .i64 0)) h).bind fun p3 => withyref06_Words_K8 M p3.1 p3.2.1 p3.2.2)
 | false => (
 some ((.exit 2), (withyref06_Words_c3_O x1 x3), h))

def withyref06_Words_c3_e2 (M : Env) (x1 : V) (x3 : V) (h : H) : Option (V × H) :=
 (M.loop (withyref06_Words_c7_B M) (withyref06_Words_c7_E x1 x3 (.int .i64 0)) h).bind fun p0 => withyref06_Words_K10 M p0.1 p0.2.1 p0.2.2

def withyref06_Words_c5_S (M : Env) (x1 : V) (x3 : V) (x5 : Int) (x6 : Int) (h : H) : Option (AX × List V × H) :=
 (ptrAt x1 3).bind fun v0 =>
 (h.ld1 v0).bind fun v1 =>
 (asI .i64 v1).bind fun n2 =>
 match (decide (x6 < n2)) with
 | true => (
 let h3 := h.new (.cells [(.str ⟨⟨[101, 110, 116, 114, 121]⟩⟩), (.int .i64 x5), (.int .i64 x6)] .rw)
 (h3.append 3 32 x3 (.sl h.next 0 1 (.ex 1))).bind fun p4 =>
 some (.normal, (withyref06_Words_c5_E x1 p4.1 (.int .i64 x5) (.int .i64 (wr .i64 (x6 + 1)))), p4.2))
 | false => (
 some ((.exit 4), (withyref06_Words_c5_O x1 x3 (.int .i64 x5)), h))

def withyref06_Words_c5_e4 (M : Env) (x1 : V) (x3 : V) (x5 : Int) (h : H) : Option (AX × List V × H) :=
 some (.normal, (withyref06_Words_c3_E x1 x3 (.int .i64 (wr .i64 (x5 + 1)))), h)

def withyref06_Words_c7_S (M : Env) (x1 : V) (x3 : V) (x7 : Int) (h : H) : Option (AX × List V × H) :=
 (ptrAt x1 2).bind fun v0 =>
 (h.ld1 v0).bind fun v1 =>
 (asI .i64 v1).bind fun n2 =>
 match (decide (x7 < n2)) with
 | true => (
 let h3 := h.new (.cells [(.str ⟨⟨[118, 105, 101, 119]⟩⟩), (.int .i64 x7), (.int .i64 0), (.str ⟨⟨[115, 116, 97, 114, 116]⟩⟩), (.int .i64 x7), (.int .i64 0)] .rw)
 (h3.append 3 32 x3 (.sl h.next 0 2 (.ex 2))).bind fun p4 =>
 some (.normal, (withyref06_Words_c7_E x1 p4.1 (.int .i64 (wr .i64 (x7 + 1)))), p4.2))
 | false => (
 some ((.exit 6), (withyref06_Words_c7_O x1 x3), h))

def withyref06_Words_c7_e6 (M : Env) (x1 : V) (x3 : V) (h : H) : Option (V × H) :=
 (M.loop (withyref06_Words_c9_B M) (withyref06_Words_c9_E x1 x3 (.int .i64 0)) h).bind fun p0 => withyref06_Words_K12 M p0.1 p0.2.1 p0.2.2

def withyref06_Words_c9_S (M : Env) (x1 : V) (x3 : V) (x8 : Int) (h : H) : Option (AX × List V × H) :=
 (ptrAt x1 0).bind fun v0 =>
 (h.ld1 v0).bind fun v1 =>
 (asI .i64 v1).bind fun n2 =>
 match (decide (x8 < n2)) with
 | true => (
 let h3 := h.new (.cells [(.str ⟨⟨[104, 101, 97, 100, 101, 114]⟩⟩), (.int .i64 x8), (.int .i64 0), (.str ⟨⟨[108, 105, 110, 107]⟩⟩), (.int .i64 x8), (.int .i64 0)] .rw)
 (h3.append 3 32 x3 (.sl h.next 0 2 (.ex 2))).bind fun p4 =>
 (M.loop (withyref06_Words_c11_B M) (withyref06_Words_c11_E x1 p4.1 (.int .i64 x8) (.int .i64 0)) p4.2).bind fun p5 => withyref06_Words_K16 M p5.1 p5.2.1 p5.2.2)
 | false => (
 some ((.exit 8), (withyref06_Words_c9_O x3), h))

def withyref06_Words_c9_e8 (M : Env) (x3 : V) (h : H) : Option (V × H) :=
 some (x3, h)

def withyref06_Words_c11_S (M : Env) (x1 : V) (x3 : V) (x8 : Int) (x9 : Int) (h : H) : Option (AX × List V × H) :=
 (h.ldN 6 x1).bind fun v0 =>
 (M.call 149 [v0] h).bind fun p1 =>
 (asI .i64 p1.1).bind fun n2 =>
 match (decide (x9 < n2)) with
 | true => (
 let h3 := p1.2.new (.cells [(.str ⟨⟨[98, 111, 100, 121]⟩⟩), (.int .i64 x8), (.int .i64 x9)] .rw)
 (h3.append 3 32 x3 (.sl p1.2.next 0 1 (.ex 1))).bind fun p4 =>
 some (.normal, (withyref06_Words_c11_E x1 p4.1 (.int .i64 x8) (.int .i64 (wr .i64 (x9 + 1)))), p4.2))
 | false => (
 some ((.exit 10), (withyref06_Words_c11_O x1 x3 (.int .i64 x8)), p1.2))

def withyref06_Words_c11_e10 (M : Env) (x1 : V) (x3 : V) (x8 : Int) (h : H) : Option (AX × List V × H) :=
 some (.normal, (withyref06_Words_c9_E x1 x3 (.int .i64 (wr .i64 (x8 + 1)))), h)

theorem withyref06_Words_eq (M : Env) (a0_0 : Int) (a0_1 : Int) (a0_2 : Int) (a0_3 : Int) (a0_4 : Int) (a0_5 : Int) (h : H) : evalF M F.withyref06_Words [(.agg [(.int .i64 a0_0), (.int .i64 a0_1), (.int .i64 a0_2), (.int .i64 a0_3), (.int .i64 a0_4), (.int .i64 a0_5)])] h = withyref06_Words M a0_0 a0_1 a0_2 a0_3 a0_4 a0_5 h := by kernel_rfl

theorem withyref06_Words_c1_eq (M : Env) (x1 : V) (x3 : V) (x4 : Int) (h : H) : withyref06_Words_c1_B M (withyref06_Words_c1_E x1 x3 (.int .i64 x4)) h = withyref06_Words_c1_S M x1 x3 x4 h := by kernel_rfl

theorem withyref06_Words_c1_e0_eq (M : Env) (x1 : V) (x3 : V) (h : H) : withyref06_Words_K2 M (.exit 0) (withyref06_Words_c1_O x1 x3) h = withyref06_Words_c1_e0 M x1 x3 h := by kernel_rfl

theorem withyref06_Words_c3_eq (M : Env) (x1 : V) (x3 : V) (x5 : Int) (h : H) : withyref06_Words_c3_B M (withyref06_Words_c3_E x1 x3 (.int .i64 x5)) h = withyref06_Words_c3_S M x1 x3 x5 h := by kernel_rfl

theorem withyref06_Words_c3_e2_eq (M : Env) (x1 : V) (x3 : V) (h : H) : withyref06_Words_K4 M (.exit 2) (withyref06_Words_c3_O x1 x3) h = withyref06_Words_c3_e2 M x1 x3 h := by kernel_rfl

theorem withyref06_Words_c5_eq (M : Env) (x1 : V) (x3 : V) (x5 : Int) (x6 : Int) (h : H) : withyref06_Words_c5_B M (withyref06_Words_c5_E x1 x3 (.int .i64 x5) (.int .i64 x6)) h = withyref06_Words_c5_S M x1 x3 x5 x6 h := by kernel_rfl

theorem withyref06_Words_c5_e4_eq (M : Env) (x1 : V) (x3 : V) (x5 : Int) (h : H) : withyref06_Words_K8 M (.exit 4) (withyref06_Words_c5_O x1 x3 (.int .i64 x5)) h = withyref06_Words_c5_e4 M x1 x3 x5 h := by kernel_rfl

theorem withyref06_Words_c7_eq (M : Env) (x1 : V) (x3 : V) (x7 : Int) (h : H) : withyref06_Words_c7_B M (withyref06_Words_c7_E x1 x3 (.int .i64 x7)) h = withyref06_Words_c7_S M x1 x3 x7 h := by kernel_rfl

theorem withyref06_Words_c7_e6_eq (M : Env) (x1 : V) (x3 : V) (h : H) : withyref06_Words_K10 M (.exit 6) (withyref06_Words_c7_O x1 x3) h = withyref06_Words_c7_e6 M x1 x3 h := by kernel_rfl

theorem withyref06_Words_c9_eq (M : Env) (x1 : V) (x3 : V) (x8 : Int) (h : H) : withyref06_Words_c9_B M (withyref06_Words_c9_E x1 x3 (.int .i64 x8)) h = withyref06_Words_c9_S M x1 x3 x8 h := by kernel_rfl

theorem withyref06_Words_c9_e8_eq (M : Env) (x3 : V) (h : H) : withyref06_Words_K12 M (.exit 8) (withyref06_Words_c9_O x3) h = withyref06_Words_c9_e8 M x3 h := by kernel_rfl

theorem withyref06_Words_c11_eq (M : Env) (x1 : V) (x3 : V) (x8 : Int) (x9 : Int) (h : H) : withyref06_Words_c11_B M (withyref06_Words_c11_E x1 x3 (.int .i64 x8) (.int .i64 x9)) h = withyref06_Words_c11_S M x1 x3 x8 x9 h := by kernel_rfl

theorem withyref06_Words_c11_e10_eq (M : Env) (x1 : V) (x3 : V) (x8 : Int) (h : H) : withyref06_Words_K16 M (.exit 10) (withyref06_Words_c11_O x1 x3 (.int .i64 x8)) h = withyref06_Words_c11_e10 M x1 x3 x8 h := by kernel_rfl

end Wm.S
end

section
/- PRINTED by my tool (wip/wm/tool/Gen.lean): what a function comes to, stretch by stretch. -/
namespace Wm.S
open Wm
set_option maxRecDepth 100000
set_option linter.unusedVariables false


def withyref06_Room (M : Env) (a0_0 : Int) (a0_1 : Int) (a0_2 : Int) (a0_3 : Int) (a0_4 : Int) (a0_5 : Int) (h : H) : Option (V × H) :=
 let h0 := h.new (.cells [(.int .i64 a0_0), (.int .i64 a0_1), (.int .i64 a0_2), (.int .i64 a0_3), (.int .i64 a0_4), (.int .i64 a0_5)] .rw)
 (h0.ld1 (.ptr h.next 1)).bind fun v1 =>
 (asI .i64 v1).bind fun n2 =>
 match (decide (n2 < 3)) with
 | true => (
 some ((.int .i64 3), h0))
 | false => (
 (h0.ld1 (.ptr h.next 1)).bind fun v3 =>
 some (v3, h0))

theorem withyref06_Room_eq (M : Env) (a0_0 : Int) (a0_1 : Int) (a0_2 : Int) (a0_3 : Int) (a0_4 : Int) (a0_5 : Int) (h : H) : evalF M F.withyref06_Room [(.agg [(.int .i64 a0_0), (.int .i64 a0_1), (.int .i64 a0_2), (.int .i64 a0_3), (.int .i64 a0_4), (.int .i64 a0_5)])] h = withyref06_Room M a0_0 a0_1 a0_2 a0_3 a0_4 a0_5 h := by kernel_rfl

end Wm.S
end

section
/- PRINTED by my tool (wip/wm/tool/Gen.lean): what a function comes to, stretch by stretch. -/
namespace Wm.S
open Wm
set_option maxRecDepth 100000
set_option linter.unusedVariables false

def withyref06_At_c1_B (M : Env) : List V → H → Option (AX × List V × H) :=
 fun env h => evalC M F.withyref06_At_c1 env h fun x env h => match x with
 | .normal => some (.normal, keepOf [3, 5, 6] 0 env, h)
 | x => some (x, keepOf [4] 0 env, h)

def withyref06_At_c1_E (x3 x5 x6 : V) : List V := dd 3 (x3 :: dd 1 (x5 :: x6 :: dd 18 []))
def withyref06_At_c1_O (x4 : V) : List V := dd 4 (x4 :: dd 20 [])

def withyref06_At_K0 (M : Env) : AX → List V → H → Option (V × H) :=
 fun x env h => fin F.withyref06_At x env h

def withyref06_At_K1 (M : Env) : AX → List V → H → Option (V × H) :=
 fun x env h => match x with | .normal => evalC M F.withyref06_At_c0 env h (fun x env h => withyref06_At_K0 M x env h) | x => withyref06_At_K0 M x env h

def withyref06_At_K2 (M : Env) : AX → List V → H → Option (V × H) :=
 fun x env h => match x with | .exit j => (match Nat.beq j 0 with | true => withyref06_At_K1 M .normal env h | false => withyref06_At_K1 M (.exit j) env h) | x => withyref06_At_K1 M x env h

def withyref06_At (M : Env) (a0_0 : Int) (a0_1 : Int) (a0_2 : Int) (a0_3 : Int) (a0_4 : Int) (a0_5 : Int) (a1_0 : ByteArray) (a1_1 : Int) (a1_2 : Int) (h : H) : Option (V × H) :=
 let h0 := h.new (.cells [(.int .i64 a0_0), (.int .i64 a0_1), (.int .i64 a0_2), (.int .i64 a0_3), (.int .i64 a0_4), (.int .i64 a0_5)] .rw)
 let h1 := h0.new (.cells [(.str a1_0), (.int .i64 a1_1), (.int .i64 a1_2)] .rw)
 (h1.ldN 6 (.ptr h.next 0)).bind fun v2 =>
 (M.call 85 [v2] h1).bind fun p3 =>
 (asB p3.1).bind fun b4 =>
 match (!b4) with
 | true => (
 some ((.int .i64 (-1)), p3.2))
 | false => (
 (p3.2.ldN 6 (.ptr h.next 0)).bind fun v5 =>
 (M.call 87 [v5] p3.2).bind fun p6 =>
 (M.loop (withyref06_At_c1_B M) (withyref06_At_c1_E (.ptr h0.next 0) p6.1 (.int .i64 0)) p6.2).bind fun p7 => withyref06_At_K2 M p7.1 p7.2.1 p7.2.2)

def withyref06_At_c1_S (M : Env) (x3 : V) (x5 : V) (x6 : Int) (h : H) : Option (AX × List V × H) :=
 (lenSl x5).bind fun n0 =>
 match (decide (x6 < ((n0 : Nat) : Int))) with
 | true => (
 (indexAV 3 x5 (.int .i64 x6)).bind fun v1 =>
 (h.ldN 3 v1).bind fun v2 =>
 (h.ldN 3 x3).bind fun v3 =>
 (eqV (.agg [(0, .str), (1, .int), (2, .int)]) v2 v3).bind fun b4 =>
 match b4 with
 | true => (
 some (.ret, (withyref06_At_c1_O (.int .i64 x6)), h))
 | false => (
 some (.normal, (withyref06_At_c1_E x3 x5 (.int .i64 (wr .i64 (x6 + 1)))), h)))
 | false => (
 some ((.exit 0), (withyref06_At_c1_O .dead), h))

def withyref06_At_c1_r (M : Env) (x4 : Int) (h : H) : Option (V × H) :=
 some ((.int .i64 x4), h)

theorem withyref06_At_eq (M : Env) (a0_0 : Int) (a0_1 : Int) (a0_2 : Int) (a0_3 : Int) (a0_4 : Int) (a0_5 : Int) (a1_0 : ByteArray) (a1_1 : Int) (a1_2 : Int) (h : H) : evalF M F.withyref06_At [(.agg [(.int .i64 a0_0), (.int .i64 a0_1), (.int .i64 a0_2), (.int .i64 a0_3), (.int .i64 a0_4), (.int .i64 a0_5)]), (.agg [(.str a1_0), (.int .i64 a1_1), (.int .i64 a1_2)])] h = withyref06_At M a0_0 a0_1 a0_2 a0_3 a0_4 a0_5 a1_0 a1_1 a1_2 h := by kernel_rfl

theorem withyref06_At_c1_eq (M : Env) (x3 : V) (x5 : V) (x6 : Int) (h : H) : withyref06_At_c1_B M (withyref06_At_c1_E x3 x5 (.int .i64 x6)) h = withyref06_At_c1_S M x3 x5 x6 h := by kernel_rfl

theorem withyref06_At_c1_r_eq (M : Env) (x4 : Int) (h : H) : withyref06_At_K2 M .ret (withyref06_At_c1_O (.int .i64 x4)) h = withyref06_At_c1_r M x4 h := by kernel_rfl

end Wm.S
end

section
/- PRINTED by my tool (wip/wm/tool/Gen.lean): what a function comes to, stretch by stretch. -/
namespace Wm.S
open Wm
set_option maxRecDepth 100000
set_option linter.unusedVariables false

end Wm.S
end

section
/- PRINTED by my tool (wip/wm/tool/Gen.lean): what a function comes to, stretch by stretch. -/
namespace Wm.S
open Wm
set_option maxRecDepth 100000
set_option linter.unusedVariables false

end Wm.S
end

section
/- PRINTED by my tool (wip/wm/tool/Gen.lean): what a function comes to, stretch by stretch. -/
namespace Wm.S
open Wm
set_option maxRecDepth 100000
set_option linter.unusedVariables false


end Wm.S
end

section
/- PRINTED by my tool (wip/wm/tool/Gen.lean): what a function comes to, stretch by stretch. -/
namespace Wm.S
open Wm
set_option maxRecDepth 100000
set_option linter.unusedVariables false

def withyref06_Memory_c1_B (M : Env) : List V → H → Option (AX × List V × H) :=
 fun env h => evalC M F.withyref06_Memory_c1 env h fun x env h => match x with
 | .normal => some (.normal, keepOf [1, 3, 4, 5] 0 env, h)
 | x => some (x, keepOf [4] 0 env, h)

def withyref06_Memory_c1_E (x1 x3 x4 x5 : V) : List V := dd 1 (x1 :: dd 1 (x3 :: x4 :: x5 :: dd 43 []))
def withyref06_Memory_c1_O (x4 : V) : List V := dd 4 (x4 :: dd 44 [])

def withyref06_Memory_K0 (M : Env) : AX → List V → H → Option (V × H) :=
 fun x env h => fin F.withyref06_Memory x env h

def withyref06_Memory_K1 (M : Env) : AX → List V → H → Option (V × H) :=
 fun x env h => match x with | .normal => evalC M F.withyref06_Memory_c0 env h (fun x env h => withyref06_Memory_K0 M x env h) | x => withyref06_Memory_K0 M x env h

def withyref06_Memory_K2 (M : Env) : AX → List V → H → Option (V × H) :=
 fun x env h => match x with | .exit j => (match Nat.beq j 0 with | true => withyref06_Memory_K1 M .normal env h | false => withyref06_Memory_K1 M (.exit j) env h) | x => withyref06_Memory_K1 M x env h

def withyref06_Memory (M : Env) (a0_0 : Int) (a0_1 : Int) (a0_2 : Int) (a0_3 : Int) (a0_4 : Int) (a0_5 : Int) (h : H) : Option (V × H) :=
 let h0 := h.new (.cells [(.int .i64 a0_0), (.int .i64 a0_1), (.int .i64 a0_2), (.int .i64 a0_3), (.int .i64 a0_4), (.int .i64 a0_5)] .rw)
 (h0.ldN 6 (.ptr h.next 0)).bind fun v1 =>
 (M.call 87 [v1] h0).bind fun p2 =>
 (lenSl p2.1).bind fun n3 =>
 (p2.2.mkSl 1 8 [(.int .u64 0)] ((n3 : Nat) : Int) ((n3 : Nat) : Int)).bind fun p4 =>
 (indexAV 1 p4.1 (.int .i64 0)).bind fun v5 =>
 (p4.2.st 1 v5 (.int .u64 1)).bind fun h6 =>
 (indexAV 1 p4.1 (.int .i64 3)).bind fun v7 =>
 (h6.st 1 v7 (.int .u64 1)).bind fun h8 =>
 (M.loop (withyref06_Memory_c1_B M) (withyref06_Memory_c1_E (.ptr h.next 0) p2.1 p4.1 (.int .i64 0)) h8).bind fun p9 => withyref06_Memory_K2 M p9.1 p9.2.1 p9.2.2

def withyref06_Memory_c1_S (M : Env) (x1 : V) (x3 : V) (x4 : V) (x5 : Int) (h : H) : Option (AX × List V × H) :=
 (lenSl x3).bind fun n0 =>
 match (decide (x5 < ((n0 : Nat) : Int))) with
 | true => (
 (indexAV 3 x3 (.int .i64 x5)).bind fun v1 =>
 (ptrAt v1 0).bind fun v2 =>
 (h.ld1 v2).bind fun v3 =>
 (eqV .str v3 (.str ⟨⟨[108, 105, 110, 107]⟩⟩)).bind fun b4 =>
 match b4 with
 | true => (
 (indexAV 3 x3 (.int .i64 x5)).bind fun v5 =>
 (ptrAt v5 1).bind fun v6 =>
 (h.ld1 v6).bind fun v7 =>
 (asI .i64 v7).bind fun n8 =>
 (ptrAt x1 0).bind fun v9 =>
 (h.ld1 v9).bind fun v10 =>
 (asI .i64 v10).bind fun n11 =>
 match (decide ((wr .i64 (n8 + 1)) < n11)) with
 | true => (
 (indexAV 3 x3 (.int .i64 x5)).bind fun v12 =>
 (ptrAt v12 1).bind fun v13 =>
 (h.ld1 v13).bind fun v14 =>
 (asI .i64 v14).bind fun n15 =>
 (indexAV 1 x4 (.int .i64 x5)).bind fun v16 =>
 (h.st 1 v16 (.int .u64 (wr .u64 (wr .i64 (n15 + 2))))).bind fun h17 =>
 some (.normal, (withyref06_Memory_c1_E x1 x3 x4 (.int .i64 (wr .i64 (x5 + 1)))), h17))
 | false => (
 some (.normal, (withyref06_Memory_c1_E x1 x3 x4 (.int .i64 (wr .i64 (x5 + 1)))), h)))
 | false => (
 some (.normal, (withyref06_Memory_c1_E x1 x3 x4 (.int .i64 (wr .i64 (x5 + 1)))), h)))
 | false => (
 some ((.exit 0), (withyref06_Memory_c1_O x4), h))

def withyref06_Memory_c1_e0 (M : Env) (x4 : V) (h : H) : Option (V × H) :=
 some (x4, h)

theorem withyref06_Memory_eq (M : Env) (a0_0 : Int) (a0_1 : Int) (a0_2 : Int) (a0_3 : Int) (a0_4 : Int) (a0_5 : Int) (h : H) : evalF M F.withyref06_Memory [(.agg [(.int .i64 a0_0), (.int .i64 a0_1), (.int .i64 a0_2), (.int .i64 a0_3), (.int .i64 a0_4), (.int .i64 a0_5)])] h = withyref06_Memory M a0_0 a0_1 a0_2 a0_3 a0_4 a0_5 h := by kernel_rfl

theorem withyref06_Memory_c1_eq (M : Env) (x1 : V) (x3 : V) (x4 : V) (x5 : Int) (h : H) : withyref06_Memory_c1_B M (withyref06_Memory_c1_E x1 x3 x4 (.int .i64 x5)) h = withyref06_Memory_c1_S M x1 x3 x4 x5 h := by kernel_rfl

theorem withyref06_Memory_c1_e0_eq (M : Env) (x4 : V) (h : H) : withyref06_Memory_K2 M (.exit 0) (withyref06_Memory_c1_O x4) h = withyref06_Memory_c1_e0 M x4 h := by kernel_rfl

end Wm.S
end

section
/- PRINTED by my tool (wip/wm/tool/Gen.lean): what a function comes to, stretch by stretch. -/
namespace Wm.S
open Wm
set_option maxRecDepth 100000
set_option linter.unusedVariables false


def tag_TopParts (M : Env) (a0 : Int) (h : H) : Option (V × H) :=
 (M.call 396 [(.int .u64 a0), (.int .i64 16), (.int .i64 48)] h).bind fun p0 =>
 (M.call 396 [(.int .u64 a0), (.int .i64 0), (.int .i64 16)] p0.2).bind fun p1 =>
 (asIAny p1.1).bind fun n2 =>
 some ((.tup [p0.1, (.int .i64 (wr .i64 ((wr .i64 n2) - 1)))]), p1.2)

theorem tag_TopParts_eq (M : Env) (a0 : Int) (h : H) : evalF M F.tag_TopParts [(.int .u64 a0)] h = tag_TopParts M a0 h := by kernel_rfl

end Wm.S
end

section
/- PRINTED by my tool (wip/wm/tool/Gen.lean): what a function comes to, stretch by stretch. -/
namespace Wm.S
open Wm
set_option maxRecDepth 100000
set_option linter.unusedVariables false


def tag_Moved (M : Env) (a0 : Int) (a1 : Int) (h : H) : Option (V × H) :=
 (M.call 462 [(.int .i64 a1)] h).bind fun p0 =>
 (asB p0.1).bind fun b1 =>
 match (!b1) with
 | true => (
 (M.call 447 [(.int .u64 a0)] p0.2).bind fun p2 =>
 match p2.1 with
 | .tup vs3 => ((vs3[0]?).bind fun v4 =>
 match p2.1 with
 | .tup vs5 => ((vs5[1]?).bind fun v6 =>
 (asI .u64 v4).bind fun n7 =>
 (M.call 350 [(.int .u64 (and64 (wr .u64 (n7 + 1)) 281474976710655)), (.int .i64 (-1))] p2.2).bind fun p8 =>
 match p8.1 with
 | .tup vs9 => ((vs9[0]?).bind fun v10 =>
 match p8.1 with
 | .tup vs11 => ((vs11[1]?).bind fun v12 =>
 some (v10, p8.2))
 | _ => none)
 | _ => none)
 | _ => none)
 | _ => none)
 | false => (
 (M.call 447 [(.int .u64 a0)] p0.2).bind fun p2 =>
 match p2.1 with
 | .tup vs3 => ((vs3[0]?).bind fun v4 =>
 match p2.1 with
 | .tup vs5 => ((vs5[1]?).bind fun v6 =>
 (asI .u64 v4).bind fun n7 =>
 (M.call 350 [(.int .u64 (and64 (wr .u64 (n7 + 1)) 281474976710655)), (.int .i64 a1)] p2.2).bind fun p8 =>
 match p8.1 with
 | .tup vs9 => ((vs9[0]?).bind fun v10 =>
 match p8.1 with
 | .tup vs11 => ((vs11[1]?).bind fun v12 =>
 some (v10, p8.2))
 | _ => none)
 | _ => none)
 | _ => none)
 | _ => none)

theorem tag_Moved_eq (M : Env) (a0 : Int) (a1 : Int) (h : H) : evalF M F.tag_Moved [(.int .u64 a0), (.int .i64 a1)] h = tag_Moved M a0 a1 h := by kernel_rfl

end Wm.S
end

section
/- PRINTED by my tool (wip/wm/tool/Gen.lean): what a function comes to, stretch by stretch. -/
namespace Wm.S
open Wm
set_option maxRecDepth 100000
set_option linter.unusedVariables false


def tag_Top (M : Env) (a0 : Int) (a1 : Int) (h : H) : Option (V × H) :=
 (M.call 414 [(.int .u64 a0), (.int .i64 a1), (.int .i64 16)] h).bind fun p0 =>
 match p0.1 with
 | .tup vs1 => ((vs1[0]?).bind fun v2 =>
 match p0.1 with
 | .tup vs3 => ((vs3[1]?).bind fun v4 =>
 some ((.tup [v2, v4]), p0.2))
 | _ => none)
 | _ => none

theorem tag_Top_eq (M : Env) (a0 : Int) (a1 : Int) (h : H) : evalF M F.tag_Top [(.int .u64 a0), (.int .i64 a1)] h = tag_Top M a0 a1 h := by kernel_rfl

end Wm.S
end

section
/- PRINTED by my tool (wip/wm/tool/Gen.lean): what a function comes to, stretch by stretch. -/
namespace Wm.S
open Wm
set_option maxRecDepth 100000
set_option linter.unusedVariables false


def tag_tagged (M : Env) (a0 : Int) (a1 : Int) (a2 : Int) (h : H) : Option (V × H) :=
 (M.call 462 [(.int .i64 a1)] h).bind fun p0 =>
 (asB p0.1).bind fun b1 =>
 match (!b1) with
 | true => (
 some ((.tup [(.int .u64 0), (.bool false)]), p0.2))
 | false => (
 let h2 := p0.2.new (.cells [(.int .i64 a2), (.int .u64 (wr .u64 (wr .i64 (a1 + 1)))), (.int .i64 (wr .i64 (64 - a2))), (.int .u64 a0)] .rw)
 (M.call 443 [(.sl p0.2.next 0 2 (.ex 2))] h2).bind fun p3 =>
 match p3.1 with
 | .tup vs4 => ((vs4[0]?).bind fun v5 =>
 match p3.1 with
 | .tup vs6 => ((vs6[1]?).bind fun v7 =>
 some ((.tup [v5, v7]), p3.2))
 | _ => none)
 | _ => none)

theorem tag_tagged_eq (M : Env) (a0 : Int) (a1 : Int) (a2 : Int) (h : H) : evalF M F.tag_tagged [(.int .u64 a0), (.int .i64 a1), (.int .i64 a2)] h = tag_tagged M a0 a1 a2 h := by kernel_rfl

end Wm.S
end

section
/- PRINTED by my tool (wip/wm/tool/Gen.lean): what a function comes to, stretch by stretch. -/
namespace Wm.S
open Wm
set_option maxRecDepth 100000
set_option linter.unusedVariables false


def tag_slots (M : Env) (a0 : Int) (h : H) : Option (V × H) :=
 match (decide ((-1) ≤ a0)) with
 | true => (
 some ((.bool (decide (a0 < 64))), h))
 | false => (
 some ((.bool false), h))

theorem tag_slots_eq (M : Env) (a0 : Int) (h : H) : evalF M F.tag_slots [(.int .i64 a0)] h = tag_slots M a0 h := by kernel_rfl

end Wm.S
end

section
/- PRINTED by my tool (wip/wm/tool/Gen.lean): what a function comes to, stretch by stretch. -/
namespace Wm.S
open Wm
set_option maxRecDepth 100000
set_option linter.unusedVariables false


def stack_first (M : Env) (a0_0 : Int) (a0_1 : Int) (a0_2 : Int) (a0_3 : Int) (a0_4 : Int) (a0_5 : Int) (a1 : Int) (h : H) : Option (V × H) :=
 let h0 := h.new (.cells [(.int .i64 a0_0), (.int .i64 a0_1), (.int .i64 a0_2), (.int .i64 a0_3), (.int .i64 a0_4), (.int .i64 a0_5)] .rw)
 (M.call 447 [(.int .u64 a1)] h0).bind fun p1 =>
 match p1.1 with
 | .tup vs2 => ((vs2[0]?).bind fun v3 =>
 match p1.1 with
 | .tup vs4 => ((vs4[1]?).bind fun v5 =>
 (p1.2.ld1 (.ptr h.next 0)).bind fun v6 =>
 (asI .i64 v5).bind fun n7 =>
 (asI .i64 v6).bind fun n8 =>
 match (decide (n8 ≤ n7)) with
 | true => (
 some ((.int .i64 (-1)), p1.2))
 | false => (
 some (v5, p1.2)))
 | _ => none)
 | _ => none

theorem stack_first_eq (M : Env) (a0_0 : Int) (a0_1 : Int) (a0_2 : Int) (a0_3 : Int) (a0_4 : Int) (a0_5 : Int) (a1 : Int) (h : H) : evalF M F.stack_first [(.agg [(.int .i64 a0_0), (.int .i64 a0_1), (.int .i64 a0_2), (.int .i64 a0_3), (.int .i64 a0_4), (.int .i64 a0_5)]), (.int .u64 a1)] h = stack_first M a0_0 a0_1 a0_2 a0_3 a0_4 a0_5 a1 h := by kernel_rfl

end Wm.S
end

section
/- PRINTED by my tool (wip/wm/tool/Gen.lean): what a function comes to, stretch by stretch. -/
namespace Wm.S
open Wm
set_option maxRecDepth 100000
set_option linter.unusedVariables false


def withyref06_Fit (M : Env) (a0_0 : Int) (a0_1 : Int) (a0_2 : Int) (a0_3 : Int) (a0_4 : Int) (a0_5 : Int) (h : H) : Option (V × H) :=
 let h0 := h.new (.cells [(.int .i64 a0_0), (.int .i64 a0_1), (.int .i64 a0_2), (.int .i64 a0_3), (.int .i64 a0_4), (.int .i64 a0_5)] .rw)
 let h1 := h0.new (.cells [(.int .i64 0), (.int .i64 0), (.int .i64 0), (.int .i64 0), (.int .i64 0), (.int .i64 0)] .rw)
 (h1.ld1 (.ptr h.next 0)).bind fun v2 =>
 (h1.ld1 (.ptr h.next 1)).bind fun v3 =>
 (h1.ld1 (.ptr h.next 2)).bind fun v4 =>
 (h1.ld1 (.ptr h.next 3)).bind fun v5 =>
 (h1.ld1 (.ptr h.next 4)).bind fun v6 =>
 (h1.ld1 (.ptr h.next 5)).bind fun v7 =>
 (M.call 270 [v2, (.int .i64 1), (.int .i64 12)] h1).bind fun p8 =>
 match ckB (p8.2.ld1 (.ptr h.next 5)) v7 with
 | true => (
 match ckB (p8.2.ld1 (.ptr h.next 4)) v6 with
 | true => (
 match ckB (p8.2.ld1 (.ptr h.next 3)) v5 with
 | true => (
 match ckB (p8.2.ld1 (.ptr h.next 2)) v4 with
 | true => (
 match ckB (p8.2.ld1 (.ptr h.next 1)) v3 with
 | true => (
 (M.call 270 [v3, (.int .i64 0), (.int .i64 4)] p8.2).bind fun p9 =>
 match ckB (p9.2.ld1 (.ptr h.next 5)) v7 with
 | true => (
 match ckB (p9.2.ld1 (.ptr h.next 4)) v6 with
 | true => (
 match ckB (p9.2.ld1 (.ptr h.next 3)) v5 with
 | true => (
 match ckB (p9.2.ld1 (.ptr h.next 2)) v4 with
 | true => (
 (M.call 270 [v4, (.int .i64 1), (.int .i64 4)] p9.2).bind fun p10 =>
 match ckB (p10.2.ld1 (.ptr h.next 5)) v7 with
 | true => (
 match ckB (p10.2.ld1 (.ptr h.next 4)) v6 with
 | true => (
 match ckB (p10.2.ld1 (.ptr h.next 3)) v5 with
 | true => (
 (M.call 270 [v5, (.int .i64 1), (.int .i64 4)] p10.2).bind fun p11 =>
 match ckB (p11.2.ld1 (.ptr h.next 5)) v7 with
 | true => (
 match ckB (p11.2.ld1 (.ptr h.next 4)) v6 with
 | true => (
 (M.call 270 [v6, (.int .i64 1), (.int .i64 40)] p11.2).bind fun p12 =>
 match ckB (p12.2.ld1 (.ptr h.next 5)) v7 with
 | true => (
 (M.call 270 [v7, (.int .i64 0), (.int .i64 6)] p12.2).bind fun p13 =>
 (fill [(.int .i64 0), (.int .i64 0), (.int .i64 0), (.int .i64 0), (.int .i64 0), (.int .i64 0)] [] [(0, 1, .c p8.1), (1, 1, .c p9.1), (2, 1, .c p10.1), (3, 1, .c p11.1), (4, 1, .c p12.1), (5, 1, .c p13.1)]).bind fun cs14 =>
 (p13.2.st 6 (.ptr h0.next 0) (.agg cs14)).bind fun h15 =>
 finV h15 [.cell true 6 (.ptr h0.next 0)])
 | false => none)
 | false => none)
 | false => none)
 | false => none)
 | false => none)
 | false => none)
 | false => none)
 | false => none)
 | false => none)
 | false => none)
 | false => none)
 | false => none)
 | false => none)
 | false => none)
 | false => none

theorem withyref06_Fit_eq (M : Env) (a0_0 : Int) (a0_1 : Int) (a0_2 : Int) (a0_3 : Int) (a0_4 : Int) (a0_5 : Int) (h : H) : evalF M F.withyref06_Fit [(.agg [(.int .i64 a0_0), (.int .i64 a0_1), (.int .i64 a0_2), (.int .i64 a0_3), (.int .i64 a0_4), (.int .i64 a0_5)])] h = withyref06_Fit M a0_0 a0_1 a0_2 a0_3 a0_4 a0_5 h := by kernel_rfl

end Wm.S
end

section
/- PRINTED by my tool (wip/wm/tool/Gen.lean): what a function comes to, stretch by stretch. -/
namespace Wm.S
open Wm
set_option maxRecDepth 100000
set_option linter.unusedVariables false


def withyref06_fit (M : Env) (a0 : Int) (a1 : Int) (a2 : Int) (h : H) : Option (V × H) :=
 (arith .rem .u64 (wr .u64 a0) (wr .u64 (wr .i64 ((wr .i64 (a2 - a1)) + 1)))).bind fun n0 =>
 some ((.int .i64 (wr .i64 (a1 + (wr .i64 n0)))), h)

theorem withyref06_fit_eq (M : Env) (a0 : Int) (a1 : Int) (a2 : Int) (h : H) : evalF M F.withyref06_fit [(.int .i64 a0), (.int .i64 a1), (.int .i64 a2)] h = withyref06_fit M a0 a1 a2 h := by kernel_rfl

end Wm.S
end

section
/- PRINTED by my tool (wip/wm/tool/Gen.lean): what a function comes to, stretch by stretch. -/
namespace Wm.S
open Wm
set_option maxRecDepth 100000
set_option linter.unusedVariables false


def withyref03_Black (M : Env) (a0 : Int) (h : H) : Option (V × H) :=
 match (decide ((Int.tmod (wr .u64 (Int.tdiv a0 4)) 2) = 0)) with
 | true => (
 some ((.int .i64 1), h))
 | false => (
 some ((.int .i64 0), h))

theorem withyref03_Black_eq (M : Env) (a0 : Int) (h : H) : evalF M F.withyref03_Black [(.int .u64 a0)] h = withyref03_Black M a0 h := by kernel_rfl

end Wm.S
end

section
/- PRINTED by my tool (wip/wm/tool/Gen.lean): what a function comes to, stretch by stretch. -/
namespace Wm.S
open Wm
set_option maxRecDepth 100000
set_option linter.unusedVariables false


def withyref04_Pack (M : Env) (a0_0 : Int) (a0_1 : Int) (a0_2 : Bool) (a0_3 : Int) (a0_4 : Int) (a0_5 : Int) (h : H) : Option (V × H) :=
 let h0 := h.new (.cells [(.int .i64 a0_0), (.int .i64 a0_1), (.bool a0_2), (.int .i64 a0_3), (.int .i64 a0_4), (.int .i64 a0_5)] .rw)
 (h0.ld1 (.ptr h.next 0)).bind fun v1 =>
 (asIAny v1).bind fun n2 =>
 (h0.ld1 (.ptr h.next 1)).bind fun v3 =>
 (asIAny v3).bind fun n4 =>
 (h0.ld1 (.ptr h.next 3)).bind fun v5 =>
 (asIAny v5).bind fun n6 =>
 (h0.ld1 (.ptr h.next 4)).bind fun v7 =>
 (asIAny v7).bind fun n8 =>
 (h0.ld1 (.ptr h.next 5)).bind fun v9 =>
 (asIAny v9).bind fun n10 =>
 (h0.ld1 (.ptr h.next 2)).bind fun v11 =>
 (asB v11).bind fun b12 =>
 match b12 with
 | true => (
 some ((.int .u64 (wr .u64 ((wr .u64 ((wr .u64 ((wr .u64 ((wr .u64 ((wr .u64 n2) + (wr .u64 (8 * (wr .u64 n4))))) + (wr .u64 (32 * (wr .u64 n6))))) + (wr .u64 (65536 * (wr .u64 n8))))) + (wr .u64 (281474976710656 * (wr .u64 n10))))) + 16))), h0))
 | false => (
 some ((.int .u64 (wr .u64 ((wr .u64 ((wr .u64 ((wr .u64 ((wr .u64 n2) + (wr .u64 (8 * (wr .u64 n4))))) + (wr .u64 (32 * (wr .u64 n6))))) + (wr .u64 (65536 * (wr .u64 n8))))) + (wr .u64 (281474976710656 * (wr .u64 n10)))))), h0))

theorem withyref04_Pack_eq (M : Env) (a0_0 : Int) (a0_1 : Int) (a0_2 : Bool) (a0_3 : Int) (a0_4 : Int) (a0_5 : Int) (h : H) : evalF M F.withyref04_Pack [(.agg [(.int .i64 a0_0), (.int .i64 a0_1), (.bool a0_2), (.int .i64 a0_3), (.int .i64 a0_4), (.int .i64 a0_5)])] h = withyref04_Pack M a0_0 a0_1 a0_2 a0_3 a0_4 a0_5 h := by kernel_rfl

end Wm.S
end

section
/- PRINTED by my tool (wip/wm/tool/Gen.lean): what a function comes to, stretch by stretch. -/
namespace Wm.S
open Wm
set_option maxRecDepth 100000
set_option linter.unusedVariables false


def withyref04_Right (M : Env) (a0_0 : Int) (a0_1 : Int) (a0_2 : Bool) (a0_3 : Int) (a0_4 : Int) (a0_5 : Int) (h : H) : Option (V × H) :=
 let h0 := h.new (.cells [(.int .i64 a0_0), (.int .i64 a0_1), (.bool a0_2), (.int .i64 a0_3), (.int .i64 a0_4), (.int .i64 a0_5)] .rw)
 (h0.ld1 (.ptr h.next 0)).bind fun v1 =>
 (asI .i64 v1).bind fun n2 =>
 match (decide (0 ≤ n2)) with
 | true => (
 (h0.ld1 (.ptr h.next 0)).bind fun v3 =>
 (asI .i64 v3).bind fun n4 =>
 match (decide (n4 ≤ 4)) with
 | true => (
 (h0.ld1 (.ptr h.next 1)).bind fun v5 =>
 (asI .i64 v5).bind fun n6 =>
 match (decide (n6 = 0)) with
 | true => (
 (h0.ld1 (.ptr h.next 3)).bind fun v7 =>
 (asI .i64 v7).bind fun n8 =>
 match (decide (0 ≤ n8)) with
 | true => (
 (h0.ld1 (.ptr h.next 3)).bind fun v9 =>
 (asI .i64 v9).bind fun n10 =>
 match (decide (n10 ≤ 15)) with
 | true => (
 (h0.ld1 (.ptr h.next 4)).bind fun v11 =>
 (asI .i64 v11).bind fun n12 =>
 match (decide (0 ≤ n12)) with
 | true => (
 (h0.ld1 (.ptr h.next 4)).bind fun v13 =>
 (asI .i64 v13).bind fun n14 =>
 match (decide (n14 ≤ 4294967295)) with
 | true => (
 (h0.ld1 (.ptr h.next 5)).bind fun v15 =>
 (asI .i64 v15).bind fun n16 =>
 match (decide (0 ≤ n16)) with
 | true => (
 (h0.ld1 (.ptr h.next 5)).bind fun v17 =>
 (asI .i64 v17).bind fun n18 =>
 some ((.bool (decide (n18 ≤ 65535))), h0))
 | false => (
 some ((.bool false), h0)))
 | false => (
 some ((.bool false), h0)))
 | false => (
 some ((.bool false), h0)))
 | false => (
 some ((.bool false), h0)))
 | false => (
 some ((.bool false), h0)))
 | false => (
 (h0.ld1 (.ptr h.next 1)).bind fun v7 =>
 (asI .i64 v7).bind fun n8 =>
 match (decide (n8 = 1)) with
 | true => (
 (h0.ld1 (.ptr h.next 3)).bind fun v9 =>
 (asI .i64 v9).bind fun n10 =>
 match (decide (0 ≤ n10)) with
 | true => (
 (h0.ld1 (.ptr h.next 3)).bind fun v11 =>
 (asI .i64 v11).bind fun n12 =>
 match (decide (n12 ≤ 15)) with
 | true => (
 (h0.ld1 (.ptr h.next 4)).bind fun v13 =>
 (asI .i64 v13).bind fun n14 =>
 match (decide (0 ≤ n14)) with
 | true => (
 (h0.ld1 (.ptr h.next 4)).bind fun v15 =>
 (asI .i64 v15).bind fun n16 =>
 match (decide (n16 ≤ 4294967295)) with
 | true => (
 (h0.ld1 (.ptr h.next 5)).bind fun v17 =>
 (asI .i64 v17).bind fun n18 =>
 match (decide (0 ≤ n18)) with
 | true => (
 (h0.ld1 (.ptr h.next 5)).bind fun v19 =>
 (asI .i64 v19).bind fun n20 =>
 some ((.bool (decide (n20 ≤ 65535))), h0))
 | false => (
 some ((.bool false), h0)))
 | false => (
 some ((.bool false), h0)))
 | false => (
 some ((.bool false), h0)))
 | false => (
 some ((.bool false), h0)))
 | false => (
 some ((.bool false), h0)))
 | false => (
 some ((.bool false), h0))))
 | false => (
 some ((.bool false), h0)))
 | false => (
 some ((.bool false), h0))

theorem withyref04_Right_eq (M : Env) (a0_0 : Int) (a0_1 : Int) (a0_2 : Bool) (a0_3 : Int) (a0_4 : Int) (a0_5 : Int) (h : H) : evalF M F.withyref04_Right [(.agg [(.int .i64 a0_0), (.int .i64 a0_1), (.bool a0_2), (.int .i64 a0_3), (.int .i64 a0_4), (.int .i64 a0_5)])] h = withyref04_Right M a0_0 a0_1 a0_2 a0_3 a0_4 a0_5 h := by kernel_rfl

end Wm.S
end

section
/- PRINTED by my tool (wip/wm/tool/Gen.lean): what a function comes to, stretch by stretch. -/
namespace Wm.S
open Wm
set_option maxRecDepth 100000
set_option linter.unusedVariables false


def withyref04_Lives (M : Env) (a0 : Int) (h : H) : Option (V × H) :=
 (M.call 109 [(.int .u64 a0)] h).bind fun p0 =>
 match p0.1 with
 | .tup vs1 => ((vs1[0]?).bind fun v2 =>
 match p0.1 with
 | .tup vs3 => ((vs3[1]?).bind fun v4 =>
 let h5 := p0.2.new (.cells [(.int .i64 0), (.int .i64 0), (.bool false), (.int .i64 0), (.int .i64 0), (.int .i64 0)] .rw)
 (h5.st 6 (.ptr p0.2.next 0) v2).bind fun h6 =>
 match v4 with
 | .bool true => (
 (h6.ld1 (.ptr p0.2.next 0)).bind fun v7 =>
 (asI .i64 v7).bind fun n8 =>
 match (decide (n8 = 1)) with
 | true => (
 some ((.bool true), h6))
 | false => (
 (h6.ld1 (.ptr p0.2.next 0)).bind fun v9 =>
 (asI .i64 v9).bind fun n10 =>
 some ((.bool (decide (n10 = 2))), h6)))
 | .bool false => (
 some ((.bool false), h6))
 | .tup [] => (
 match v4 with
 | .bool true => (
 none)
 | .bool false => (
 some ((.bool false), h6))
 | .tup [] => (
 (asB v4).bind fun b7 =>
 some ((match b7 with | true => (.tup []) | false => (.bool false) : V), h6))
 | _ => none)
 | _ => none)
 | _ => none)
 | _ => none

theorem withyref04_Lives_eq (M : Env) (a0 : Int) (h : H) : evalF M F.withyref04_Lives [(.int .u64 a0)] h = withyref04_Lives M a0 h := by kernel_rfl

end Wm.S
end

section
/- PRINTED by my tool (wip/wm/tool/Gen.lean): what a function comes to, stretch by stretch. -/
namespace Wm.S
open Wm
set_option maxRecDepth 100000
set_option linter.unusedVariables false


def withyref04_Marked (M : Env) (a0 : Int) (a1 : Int) (h : H) : Option (V × H) :=
 (M.call 109 [(.int .u64 a0)] h).bind fun p0 =>
 match p0.1 with
 | .tup vs1 => ((vs1[0]?).bind fun v2 =>
 match p0.1 with
 | .tup vs3 => ((vs3[1]?).bind fun v4 =>
 let h5 := p0.2.new (.cells [(.int .i64 0), (.int .i64 0), (.bool false), (.int .i64 0), (.int .i64 0), (.int .i64 0)] .rw)
 (h5.st 6 (.ptr p0.2.next 0) v2).bind fun h6 =>
 (M.call 112 [(.int .u64 a0)] h6).bind fun p7 =>
 match p7.1 with
 | .bool true => (
 (p7.2.ld1 (.ptr p0.2.next 1)).bind fun v8 =>
 (M.call 110 [(.int .u64 a1)] p7.2).bind fun p9 =>
 match ckB (p9.2.ld1 (.ptr p0.2.next 1)) v8 with
 | true => (
 (asI .i64 v8).bind fun n10 =>
 (asI .i64 p9.1).bind fun n11 =>
 some ((.bool (decide (n10 = n11))), p9.2))
 | false => none)
 | .bool false => (
 some ((.bool false), p7.2))
 | .tup [] => (
 (asB p7.1).bind fun b8 =>
 some ((match b8 with | true => (.tup []) | false => (.bool false) : V), p7.2))
 | _ => none)
 | _ => none)
 | _ => none

theorem withyref04_Marked_eq (M : Env) (a0 : Int) (a1 : Int) (h : H) : evalF M F.withyref04_Marked [(.int .u64 a0), (.int .u64 a1)] h = withyref04_Marked M a0 a1 h := by kernel_rfl

end Wm.S
end

section
/- PRINTED by my tool (wip/wm/tool/Gen.lean): what a function comes to, stretch by stretch. -/
namespace Wm.S
open Wm
set_option maxRecDepth 100000
set_option linter.unusedVariables false


end Wm.S
end

section
/- PRINTED by my tool (wip/wm/tool/Gen.lean): what a function comes to, stretch by stretch. -/
namespace Wm.S
open Wm
set_option maxRecDepth 100000
set_option linter.unusedVariables false


end Wm.S
end

section
/- PRINTED by my tool (wip/wm/tool/Gen.lean): what a function comes to, stretch by stretch. -/
namespace Wm.S
open Wm
set_option maxRecDepth 100000
set_option linter.unusedVariables false


def slices_Clone___uint64_uint64_ (M : Env) (a0 : V) (h : H) : Option (V × H) :=
 (eqV .sl a0 .nilsl).bind fun b0 =>
 match b0 with
 | true => (
 some (.nilsl, h))
 | false => (
 let h1 := h.new (.cells [] .rw)
 (h1.append 1 8 (.sl h.next 0 0 (.ex 0)) a0).bind fun p2 =>
 some (p2.1, p2.2))

theorem slices_Clone___uint64_uint64__eq (M : Env) (a0 : V) (h : H) : evalF M F.slices_Clone___uint64_uint64_ [a0] h = slices_Clone___uint64_uint64_ M a0 h := by kernel_rfl

end Wm.S
end

section
/- PRINTED by my tool (wip/wm/tool/Gen.lean): what a function comes to, stretch by stretch. -/
namespace Wm.S
open Wm
set_option maxRecDepth 100000
set_option linter.unusedVariables false


def mem_Of (M : Env) (a0 : V) (h : H) : Option (V × H) :=
 (lenSl a0).bind fun n0 =>
 match (decide (65536 < ((n0 : Nat) : Int))) with
 | true => (
 some (.nilp, h))
 | false => (
 (M.call 271 [a0] h).bind fun p1 =>
 (fill [.nilsl, (.int .i64 0), (.int .i64 0), (.int .i64 0), (.int .u64 0), (.int .u64 0)] [] [(0, 1, .c p1.1)]).bind fun cs2 =>
 (boxc (.agg cs2)).bind fun cs3 =>
 let h4 := p1.2.new (.cells cs3 .rw)
 some ((.ptr p1.2.next 0), h4))

theorem mem_Of_eq (M : Env) (a0 : V) (h : H) : evalF M F.mem_Of [a0] h = mem_Of M a0 h := by kernel_rfl

end Wm.S
end

section
/- PRINTED by my tool (wip/wm/tool/Gen.lean): what a function comes to, stretch by stretch. -/
namespace Wm.S
open Wm
set_option maxRecDepth 100000
set_option linter.unusedVariables false


def mem_Mem_Words (M : Env) (a0 : V) (h : H) : Option (V × H) :=
 (eqV .ptr a0 .nilp).bind fun b0 =>
 match b0 with
 | true => (
 some (.nilsl, h))
 | false => (
 (nilc a0).bind fun v1 =>
 (ptrAt v1 0).bind fun v2 =>
 (h.ld1 v2).bind fun v3 =>
 (M.call 271 [v3] h).bind fun p4 =>
 some (p4.1, p4.2))

theorem mem_Mem_Words_eq (M : Env) (a0 : V) (h : H) : evalF M F.mem_Mem_Words [a0] h = mem_Mem_Words M a0 h := by kernel_rfl

end Wm.S
end

section
/- PRINTED by my tool (wip/wm/tool/Gen.lean): what a function comes to, stretch by stretch. -/
namespace Wm.S
open Wm
set_option maxRecDepth 100000
set_option linter.unusedVariables false

end Wm.S
end

section
/- PRINTED by my tool (wip/wm/tool/Gen.lean): what a function comes to, stretch by stretch. -/
namespace Wm.S
open Wm
set_option maxRecDepth 100000
set_option linter.unusedVariables false


end Wm.S
end

section
/- PRINTED by my tool (wip/wm/tool/Gen.lean): what a function comes to, stretch by stretch. -/
namespace Wm.S
open Wm
set_option maxRecDepth 100000
set_option linter.unusedVariables false


end Wm.S
end

section
/- PRINTED by my tool (wip/wm/tool/Gen.lean): what a function comes to, stretch by stretch. -/
namespace Wm.S
open Wm
set_option maxRecDepth 100000
set_option linter.unusedVariables false

end Wm.S
end

section
/- PRINTED by my tool (wip/wm/tool/Gen.lean): what a function comes to, stretch by stretch. -/
namespace Wm.S
open Wm
set_option maxRecDepth 100000
set_option linter.unusedVariables false


end Wm.S
end

section
/- PRINTED by my tool (wip/wm/tool/Gen.lean): what a function comes to, stretch by stretch. -/
namespace Wm.S
open Wm
set_option maxRecDepth 100000
set_option linter.unusedVariables false


end Wm.S
end

section
/- PRINTED by my tool (wip/wm/tool/Gen.lean): what a function comes to, stretch by stretch. -/
namespace Wm.S
open Wm
set_option maxRecDepth 100000
set_option linter.unusedVariables false


end Wm.S
end

section
/- PRINTED by my tool (wip/wm/tool/Gen.lean): what a function comes to, stretch by stretch. -/
namespace Wm.S
open Wm
set_option maxRecDepth 100000
set_option linter.unusedVariables false


end Wm.S
end

section
/- PRINTED by my tool (wip/wm/tool/Gen.lean): what a function comes to, stretch by stretch. -/
namespace Wm.S
open Wm
set_option maxRecDepth 100000
set_option linter.unusedVariables false


end Wm.S
end

section
/- PRINTED by my tool (wip/wm/tool/Gen.lean): what a function comes to, stretch by stretch. -/
namespace Wm.S
open Wm
set_option maxRecDepth 100000
set_option linter.unusedVariables false


end Wm.S
end

section
/- PRINTED by my tool (wip/wm/tool/Gen.lean): what a function comes to, stretch by stretch. -/
namespace Wm.S
open Wm
set_option maxRecDepth 100000
set_option linter.unusedVariables false


def plan_Link (M : Env) (a0_0 : Int) (a0_1 : Int) (a0_2 : Int) (a0_3 : Int) (a0_4 : Int) (a0_5 : Int) (a1 : Int) (h : H) : Option (V × H) :=
 let h0 := h.new (.cells [(.int .i64 a0_0), (.int .i64 a0_1), (.int .i64 a0_2), (.int .i64 a0_3), (.int .i64 a0_4), (.int .i64 a0_5)] .rw)
 (h0.ldN 6 (.ptr h.next 0)).bind fun v1 =>
 (M.call 375 [v1, (.int .i64 a1), (.int .i64 1)] h0).bind fun p2 =>
 some (p2.1, p2.2)

theorem plan_Link_eq (M : Env) (a0_0 : Int) (a0_1 : Int) (a0_2 : Int) (a0_3 : Int) (a0_4 : Int) (a0_5 : Int) (a1 : Int) (h : H) : evalF M F.plan_Link [(.agg [(.int .i64 a0_0), (.int .i64 a0_1), (.int .i64 a0_2), (.int .i64 a0_3), (.int .i64 a0_4), (.int .i64 a0_5)]), (.int .i64 a1)] h = plan_Link M a0_0 a0_1 a0_2 a0_3 a0_4 a0_5 a1 h := by kernel_rfl

end Wm.S
end

section
/- PRINTED by my tool (wip/wm/tool/Gen.lean): what a function comes to, stretch by stretch. -/
namespace Wm.S
open Wm
set_option maxRecDepth 100000
set_option linter.unusedVariables false


end Wm.S
end

section
/- PRINTED by my tool (wip/wm/tool/Gen.lean): what a function comes to, stretch by stretch. -/
namespace Wm.S
open Wm
set_option maxRecDepth 100000
set_option linter.unusedVariables false


end Wm.S
end

section
/- PRINTED by my tool (wip/wm/tool/Gen.lean): what a function comes to, stretch by stretch. -/
namespace Wm.S
open Wm
set_option maxRecDepth 100000
set_option linter.unusedVariables false


end Wm.S
end

section
/- PRINTED by my tool (wip/wm/tool/Gen.lean): what a function comes to, stretch by stretch. -/
namespace Wm.S
open Wm
set_option maxRecDepth 100000
set_option linter.unusedVariables false


end Wm.S
end

section
/- PRINTED by my tool (wip/wm/tool/Gen.lean): what a function comes to, stretch by stretch. -/
namespace Wm.S
open Wm
set_option maxRecDepth 100000
set_option linter.unusedVariables false


end Wm.S
end

section
/- PRINTED by my tool (wip/wm/tool/Gen.lean): what a function comes to, stretch by stretch. -/
namespace Wm.S
open Wm
set_option maxRecDepth 100000
set_option linter.unusedVariables false


end Wm.S
end

section
/- PRINTED by my tool (wip/wm/tool/Gen.lean): what a function comes to, stretch by stretch. -/
namespace Wm.S
open Wm
set_option maxRecDepth 100000
set_option linter.unusedVariables false


end Wm.S
end

section
/- PRINTED by my tool (wip/wm/tool/Gen.lean): what a function comes to, stretch by stretch. -/
namespace Wm.S
open Wm
set_option maxRecDepth 100000
set_option linter.unusedVariables false


end Wm.S
end

section
/- PRINTED by my tool (wip/wm/tool/Gen.lean): what a function comes to, stretch by stretch. -/
namespace Wm.S
open Wm
set_option maxRecDepth 100000
set_option linter.unusedVariables false


end Wm.S
end

section
/- PRINTED by my tool (wip/wm/tool/Gen.lean): what a function comes to, stretch by stretch. -/
namespace Wm.S
open Wm
set_option maxRecDepth 100000
set_option linter.unusedVariables false


end Wm.S
end

section
/- PRINTED by my tool (wip/wm/tool/Gen.lean): what a function comes to, stretch by stretch. -/
namespace Wm.S
open Wm
set_option maxRecDepth 100000
set_option linter.unusedVariables false


end Wm.S
end

section
/- PRINTED by my tool (wip/wm/tool/Gen.lean): what a function comes to, stretch by stretch. -/
namespace Wm.S
open Wm
set_option maxRecDepth 100000
set_option linter.unusedVariables false


end Wm.S
end

section
/- PRINTED by my tool (wip/wm/tool/Gen.lean): what a function comes to, stretch by stretch. -/
namespace Wm.S
open Wm
set_option maxRecDepth 100000
set_option linter.unusedVariables false


end Wm.S
end

section
/- PRINTED by my tool (wip/wm/tool/Gen.lean): what a function comes to, stretch by stretch. -/
namespace Wm.S
open Wm
set_option maxRecDepth 100000
set_option linter.unusedVariables false


end Wm.S
end

section
/- PRINTED by my tool (wip/wm/tool/Gen.lean): what a function comes to, stretch by stretch. -/
namespace Wm.S
open Wm
set_option maxRecDepth 100000
set_option linter.unusedVariables false


end Wm.S
end

section
/- PRINTED by my tool (wip/wm/tool/Gen.lean): what a function comes to, stretch by stretch. -/
namespace Wm.S
open Wm
set_option maxRecDepth 100000
set_option linter.unusedVariables false


def sweep_NewSweep (M : Env) (a0_0 : Int) (a0_1 : Int) (a0_2 : Int) (a0_3 : Int) (a0_4 : Int) (a0_5 : Int) (a1 : Int) (h : H) : Option (V × H) :=
 let h0 := h.new (.cells [(.int .i64 a0_0), (.int .i64 a0_1), (.int .i64 a0_2), (.int .i64 a0_3), (.int .i64 a0_4), (.int .i64 a0_5)] .rw)
 (h0.ldN 6 (.ptr h.next 0)).bind fun v1 =>
 (M.call 263 [v1] h0).bind fun p2 =>
 (asB p2.1).bind fun b3 =>
 match (!b3) with
 | true => (
 some (.nilp, p2.2))
 | false => (
 (p2.2.ldN 6 (.ptr h.next 0)).bind fun v4 =>
 (fill [(.int .i64 0), (.int .i64 0), (.int .i64 0), (.int .i64 0), (.int .i64 0), (.int .i64 0), (.int .i64 0), (.int .u64 0), (.int .i64 0), (.int .u64 0), (.bool false)] [] [(1, 6, .c v4), (7, 1, .c (.int .u64 a1))]).bind fun cs5 =>
 (boxc (.agg cs5)).bind fun cs6 =>
 let h7 := p2.2.new (.cells cs6 .rw)
 some ((.ptr p2.2.next 0), h7))

theorem sweep_NewSweep_eq (M : Env) (a0_0 : Int) (a0_1 : Int) (a0_2 : Int) (a0_3 : Int) (a0_4 : Int) (a0_5 : Int) (a1 : Int) (h : H) : evalF M F.sweep_NewSweep [(.agg [(.int .i64 a0_0), (.int .i64 a0_1), (.int .i64 a0_2), (.int .i64 a0_3), (.int .i64 a0_4), (.int .i64 a0_5)]), (.int .u64 a1)] h = sweep_NewSweep M a0_0 a0_1 a0_2 a0_3 a0_4 a0_5 a1 h := by kernel_rfl

end Wm.S
end

section
/- PRINTED by my tool (wip/wm/tool/Gen.lean): what a function comes to, stretch by stretch. -/
namespace Wm.S
open Wm
set_option maxRecDepth 100000
set_option linter.unusedVariables false


def sweep_Sweep_Step (M : Env) (a0 : V) (a1 : V) (h : H) : Option (V × H) :=
 (eqV .ptr a0 .nilp).bind fun b0 =>
 match b0 with
 | true => (
 some ((.bool true), h))
 | false => (
 (nilc a0).bind fun v1 =>
 (ptrAt v1 8).bind fun v2 =>
 (h.ld1 v2).bind fun v3 =>
 (nilc a0).bind fun v4 =>
 (ptrAt v4 1).bind fun v5 =>
 (ptrAt v5 0).bind fun v6 =>
 (h.ld1 v6).bind fun v7 =>
 (asI .i64 v3).bind fun n8 =>
 (asI .i64 v7).bind fun n9 =>
 match (decide (n8 = n9)) with
 | true => (
 some ((.bool true), h))
 | false => (
 (nilc a0).bind fun v10 =>
 (ptrAt v10 1).bind fun v11 =>
 (h.ldN 6 v11).bind fun v12 =>
 (nilc a0).bind fun v13 =>
 (ptrAt v13 8).bind fun v14 =>
 (h.ld1 v14).bind fun v15 =>
 (M.call 261 [v12, v15] h).bind fun p16 =>
 (nilc a0).bind fun v17 =>
 (ptrAt v17 10).bind fun v18 =>
 (p16.2.ld1 v18).bind fun v19 =>
 (asB v19).bind fun b20 =>
 match b20 with
 | true => (
 (nilc a0).bind fun v21 =>
 (ptrAt v21 9).bind fun v22 =>
 (p16.2.ld1 v22).bind fun v23 =>
 (nilc a0).bind fun v24 =>
 (ptrAt v24 7).bind fun v25 =>
 (p16.2.ld1 v25).bind fun v26 =>
 (M.call 340 [v23, v26] p16.2).bind fun p27 =>
 match p27.1 with
 | .tup vs28 => ((vs28[0]?).bind fun v29 =>
 match p27.1 with
 | .tup vs30 => ((vs30[1]?).bind fun v31 =>
 (nilc a0).bind fun v32 =>
 (ptrAt v32 10).bind fun v33 =>
 (p27.2.st 1 v33 (.bool false)).bind fun h34 =>
 (nilc a0).bind fun v35 =>
 (ptrAt v35 9).bind fun v36 =>
 (h34.ld1 v36).bind fun v37 =>
 (M.call 269 [a1, p16.1, v37, v29] h34).bind fun p38 =>
 (asB p38.1).bind fun b39 =>
 match b39 with
 | true => (
 (nilc a0).bind fun v40 =>
 (ptrAt v40 0).bind fun v41 =>
 (p38.2.ld1 v41).bind fun v42 =>
 (asI .i64 v42).bind fun n43 =>
 (nilc a0).bind fun v44 =>
 (ptrAt v44 0).bind fun v45 =>
 (p38.2.st 1 v45 (.int .i64 (wr .i64 (n43 + 1)))).bind fun h46 =>
 (nilc a0).bind fun v47 =>
 (ptrAt v47 8).bind fun v48 =>
 (h46.ld1 v48).bind fun v49 =>
 (asI .i64 v49).bind fun n50 =>
 (nilc a0).bind fun v51 =>
 (ptrAt v51 8).bind fun v52 =>
 (h46.st 1 v52 (.int .i64 (wr .i64 (n50 + 1)))).bind fun h53 =>
 (nilc a0).bind fun v54 =>
 (ptrAt v54 8).bind fun v55 =>
 (h53.ld1 v55).bind fun v56 =>
 (nilc a0).bind fun v57 =>
 (ptrAt v57 1).bind fun v58 =>
 (ptrAt v58 0).bind fun v59 =>
 (h53.ld1 v59).bind fun v60 =>
 (asI .i64 v56).bind fun n61 =>
 (asI .i64 v60).bind fun n62 =>
 some ((.bool (decide (n61 = n62))), h53))
 | false => (
 (nilc a0).bind fun v40 =>
 (ptrAt v40 8).bind fun v41 =>
 (p38.2.ld1 v41).bind fun v42 =>
 (nilc a0).bind fun v43 =>
 (ptrAt v43 1).bind fun v44 =>
 (ptrAt v44 0).bind fun v45 =>
 (p38.2.ld1 v45).bind fun v46 =>
 (asI .i64 v42).bind fun n47 =>
 (asI .i64 v46).bind fun n48 =>
 some ((.bool (decide (n47 = n48))), p38.2)))
 | _ => none)
 | _ => none)
 | false => (
 (M.call 266 [a1, p16.1] p16.2).bind fun p21 =>
 (nilc a0).bind fun v22 =>
 (ptrAt v22 9).bind fun v23 =>
 (p21.2.st 1 v23 p21.1).bind fun h24 =>
 (nilc a0).bind fun v25 =>
 (ptrAt v25 9).bind fun v26 =>
 (h24.ld1 v26).bind fun v27 =>
 (nilc a0).bind fun v28 =>
 (ptrAt v28 7).bind fun v29 =>
 (h24.ld1 v29).bind fun v30 =>
 (M.call 340 [v27, v30] h24).bind fun p31 =>
 match p31.1 with
 | .tup vs32 => ((vs32[0]?).bind fun v33 =>
 match p31.1 with
 | .tup vs34 => ((vs34[1]?).bind fun v35 =>
 (nilc a0).bind fun v36 =>
 (ptrAt v36 10).bind fun v37 =>
 (p31.2.st 1 v37 v35).bind fun h38 =>
 (nilc a0).bind fun v39 =>
 (ptrAt v39 10).bind fun v40 =>
 (h38.ld1 v40).bind fun v41 =>
 (asB v41).bind fun b42 =>
 match (!b42) with
 | true => (
 (nilc a0).bind fun v43 =>
 (ptrAt v43 8).bind fun v44 =>
 (h38.ld1 v44).bind fun v45 =>
 (asI .i64 v45).bind fun n46 =>
 (nilc a0).bind fun v47 =>
 (ptrAt v47 8).bind fun v48 =>
 (h38.st 1 v48 (.int .i64 (wr .i64 (n46 + 1)))).bind fun h49 =>
 (nilc a0).bind fun v50 =>
 (ptrAt v50 8).bind fun v51 =>
 (h49.ld1 v51).bind fun v52 =>
 (nilc a0).bind fun v53 =>
 (ptrAt v53 1).bind fun v54 =>
 (ptrAt v54 0).bind fun v55 =>
 (h49.ld1 v55).bind fun v56 =>
 (asI .i64 v52).bind fun n57 =>
 (asI .i64 v56).bind fun n58 =>
 some ((.bool (decide (n57 = n58))), h49))
 | false => (
 (nilc a0).bind fun v43 =>
 (ptrAt v43 8).bind fun v44 =>
 (h38.ld1 v44).bind fun v45 =>
 (nilc a0).bind fun v46 =>
 (ptrAt v46 1).bind fun v47 =>
 (ptrAt v47 0).bind fun v48 =>
 (h38.ld1 v48).bind fun v49 =>
 (asI .i64 v45).bind fun n50 =>
 (asI .i64 v49).bind fun n51 =>
 some ((.bool (decide (n50 = n51))), h38)))
 | _ => none)
 | _ => none)))

theorem sweep_Sweep_Step_eq (M : Env) (a0 : V) (a1 : V) (h : H) : evalF M F.sweep_Sweep_Step [a0, a1] h = sweep_Sweep_Step M a0 a1 h := by kernel_rfl

end Wm.S
end

section
/- PRINTED by my tool (wip/wm/tool/Gen.lean): what a function comes to, stretch by stretch. -/
namespace Wm.S
open Wm
set_option maxRecDepth 100000
set_option linter.unusedVariables false

def withylaw14_ends_c1_B (M : Env) : List V → H → Option (AX × List V × H) :=
 fun env h => evalC M F.withylaw14_ends_c1 env h fun x env h => match x with
 | .normal => some (.normal, keepOf [0, 1, 2, 7] 0 env, h)
 | x => some (x, keepOf [6] 0 env, h)

def withylaw14_ends_c1_E (x0 x1 x2 x7 : V) : List V := x0 :: x1 :: x2 :: dd 4 (x7 :: dd 18 [])
def withylaw14_ends_c1_O (x6 : V) : List V := dd 6 (x6 :: dd 19 [])

def withylaw14_ends_K0 (M : Env) : AX → List V → H → Option (V × H) :=
 fun x env h => fin F.withylaw14_ends x env h

def withylaw14_ends_K1 (M : Env) : AX → List V → H → Option (V × H) :=
 fun x env h => match x with | .normal => evalC M F.withylaw14_ends_c0 env h (fun x env h => withylaw14_ends_K0 M x env h) | x => withylaw14_ends_K0 M x env h

def withylaw14_ends_K2 (M : Env) : AX → List V → H → Option (V × H) :=
 fun x env h => match x with | .exit j => (match Nat.beq j 0 with | true => withylaw14_ends_K1 M .normal env h | false => withylaw14_ends_K1 M (.exit j) env h) | x => withylaw14_ends_K1 M x env h

def withylaw14_ends (M : Env) (a0 : V) (a1 : V) (a2 : Int) (h : H) : Option (V × H) :=
 (M.loop (withylaw14_ends_c1_B M) (withylaw14_ends_c1_E a0 a1 (.int .i64 a2) (.int .i64 0)) h).bind fun p0 => withylaw14_ends_K2 M p0.1 p0.2.1 p0.2.2

def withylaw14_ends_c1_S (M : Env) (x0 : V) (x1 : V) (x2 : Int) (x7 : Int) (h : H) : Option (AX × List V × H) :=
 match (decide (x7 < x2)) with
 | true => (
 (M.call 107 [x1] h).bind fun p0 =>
 match x0 with
 | .ifc t1 v2 => ((M.meth t1 0).bind fun f3 => (M.call f3 (v2 :: [x1]) p0.2).bind fun p4 =>
 (M.call 107 [x1] p4.2).bind fun p5 =>
 (asI .i64 p0.1).bind fun n6 =>
 (asI .i64 p5.1).bind fun n7 =>
 match (decide ((wr .i64 (n6 + 1)) < n7)) with
 | true => (
 some (.ret, (withylaw14_ends_c1_O (.bool false)), p5.2))
 | false => (
 (asB p4.1).bind fun b8 =>
 match b8 with
 | true => (
 some (.ret, (withylaw14_ends_c1_O (.bool true)), p5.2))
 | false => (
 some (.normal, (withylaw14_ends_c1_E x0 x1 (.int .i64 x2) (.int .i64 (wr .i64 (x7 + 1)))), p5.2))))
 | _ => none)
 | false => (
 some ((.exit 0), (withylaw14_ends_c1_O .dead), h))

def withylaw14_ends_c1_r (M : Env) (x6 : Bool) (h : H) : Option (V × H) :=
 some ((.bool x6), h)

theorem withylaw14_ends_eq (M : Env) (a0 : V) (a1 : V) (a2 : Int) (h : H) : evalF M F.withylaw14_ends [a0, a1, (.int .i64 a2)] h = withylaw14_ends M a0 a1 a2 h := by kernel_rfl

theorem withylaw14_ends_c1_eq (M : Env) (x0 : V) (x1 : V) (x2 : Int) (x7 : Int) (h : H) : withylaw14_ends_c1_B M (withylaw14_ends_c1_E x0 x1 (.int .i64 x2) (.int .i64 x7)) h = withylaw14_ends_c1_S M x0 x1 x2 x7 h := by kernel_rfl

theorem withylaw14_ends_c1_r_eq (M : Env) (x6 : Bool) (h : H) : withylaw14_ends_K2 M .ret (withylaw14_ends_c1_O (.bool x6)) h = withylaw14_ends_c1_r M x6 h := by kernel_rfl

end Wm.S
end

section
/- PRINTED by my tool (wip/wm/tool/Gen.lean): what a function comes to, stretch by stretch. -/
namespace Wm.S
open Wm
set_option maxRecDepth 100000
set_option linter.unusedVariables false


def stack_NewPush (M : Env) (a0_0 : Int) (a0_1 : Int) (a0_2 : Int) (a0_3 : Int) (a0_4 : Int) (a0_5 : Int) (a1 : Int) (h : H) : Option (V × H) :=
 let h0 := h.new (.cells [(.int .i64 a0_0), (.int .i64 a0_1), (.int .i64 a0_2), (.int .i64 a0_3), (.int .i64 a0_4), (.int .i64 a0_5)] .rw)
 (h0.ldN 6 (.ptr h.next 0)).bind fun v1 =>
 (M.call 263 [v1] h0).bind fun p2 =>
 (asB p2.1).bind fun b3 =>
 match (!b3) with
 | true => (
 some (.nilp, p2.2))
 | false => (
 match (decide (a1 < 0)) with
 | true => (
 some (.nilp, p2.2))
 | false => (
 (p2.2.ld1 (.ptr h.next 0)).bind fun v4 =>
 (asI .i64 v4).bind fun n5 =>
 match (decide (n5 ≤ a1)) with
 | true => (
 some (.nilp, p2.2))
 | false => (
 (p2.2.ldN 6 (.ptr h.next 0)).bind fun v6 =>
 (fill [(.int .i64 0), (.int .i64 0), (.int .i64 0), (.int .i64 0), (.int .i64 0), (.int .i64 0), (.int .i64 0), (.int .i64 0), (.int .u64 0)] [] [(0, 6, .c v6), (6, 1, .c (.int .i64 a1))]).bind fun cs7 =>
 (boxc (.agg cs7)).bind fun cs8 =>
 let h9 := p2.2.new (.cells cs8 .rw)
 some ((.ptr p2.2.next 0), h9))))

theorem stack_NewPush_eq (M : Env) (a0_0 : Int) (a0_1 : Int) (a0_2 : Int) (a0_3 : Int) (a0_4 : Int) (a0_5 : Int) (a1 : Int) (h : H) : evalF M F.stack_NewPush [(.agg [(.int .i64 a0_0), (.int .i64 a0_1), (.int .i64 a0_2), (.int .i64 a0_3), (.int .i64 a0_4), (.int .i64 a0_5)]), (.int .i64 a1)] h = stack_NewPush M a0_0 a0_1 a0_2 a0_3 a0_4 a0_5 a1 h := by kernel_rfl

end Wm.S
end

section
/- PRINTED by my tool (wip/wm/tool/Gen.lean): what a function comes to, stretch by stretch. -/
namespace Wm.S
open Wm
set_option maxRecDepth 100000
set_option linter.unusedVariables false


def stack_Push_Step (M : Env) (a0 : V) (a1 : V) (h : H) : Option (V × H) :=
 (eqV .ptr a0 .nilp).bind fun b0 =>
 match b0 with
 | true => (
 some ((.bool true), h))
 | false => (
 (nilc a0).bind fun v1 =>
 (ptrAt v1 7).bind fun v2 =>
 (h.ld1 v2).bind fun v3 =>
 (asI .i64 v3).bind fun n4 =>
 match (decide (n4 = 0)) with
 | true => (
 (M.call 266 [a1, (.int .i64 3)] h).bind fun p5 =>
 (nilc a0).bind fun v6 =>
 (ptrAt v6 8).bind fun v7 =>
 (p5.2.st 1 v7 p5.1).bind fun h8 =>
 (nilc a0).bind fun v9 =>
 (ptrAt v9 7).bind fun v10 =>
 (h8.st 1 v10 (.int .i64 1)).bind fun h11 =>
 (nilc a0).bind fun v12 =>
 (ptrAt v12 7).bind fun v13 =>
 (h11.ld1 v13).bind fun v14 =>
 (asI .i64 v14).bind fun n15 =>
 some ((.bool (decide (n15 = 3))), h11))
 | false => (
 (asI .i64 v3).bind fun n5 =>
 match (decide (n5 = 1)) with
 | true => (
 (nilc a0).bind fun v6 =>
 (ptrAt v6 0).bind fun v7 =>
 (h.ldN 6 v7).bind fun v8 =>
 (nilc a0).bind fun v9 =>
 (ptrAt v9 6).bind fun v10 =>
 (h.ld1 v10).bind fun v11 =>
 (nilc a0).bind fun v12 =>
 (ptrAt v12 0).bind fun v13 =>
 (h.ldN 6 v13).bind fun v14 =>
 (nilc a0).bind fun v15 =>
 (ptrAt v15 8).bind fun v16 =>
 (h.ld1 v16).bind fun v17 =>
 (M.call 293 [v8, v11] h).bind fun p18 =>
 match ckB (p18.2.ld1 v16) v17 with
 | true => (
 match ckB (p18.2.ldN 6 v13) v14 with
 | true => (
 (M.call 391 [v14, v17] p18.2).bind fun p19 =>
 (asI .i64 p19.1).bind fun n20 =>
 (M.call 203 [a1, p18.1, (.int .u64 (wr .u64 (wr .i64 (n20 + 1))))] p19.2).bind fun p21 =>
 (nilc a0).bind fun v22 =>
 (ptrAt v22 7).bind fun v23 =>
 (p21.2.st 1 v23 (.int .i64 2)).bind fun h24 =>
 (nilc a0).bind fun v25 =>
 (ptrAt v25 7).bind fun v26 =>
 (h24.ld1 v26).bind fun v27 =>
 (asI .i64 v27).bind fun n28 =>
 some ((.bool (decide (n28 = 3))), h24))
 | false => none)
 | false => none)
 | false => (
 (asI .i64 v3).bind fun n6 =>
 match (decide (n6 = 2)) with
 | true => (
 (nilc a0).bind fun v7 =>
 (ptrAt v7 7).bind fun v8 =>
 (h.st 1 v8 (.int .i64 0)).bind fun h9 =>
 (nilc a0).bind fun v10 =>
 (ptrAt v10 8).bind fun v11 =>
 (h9.ld1 v11).bind fun v12 =>
 (nilc a0).bind fun v13 =>
 (ptrAt v13 8).bind fun v14 =>
 (h9.ld1 v14).bind fun v15 =>
 (nilc a0).bind fun v16 =>
 (ptrAt v16 6).bind fun v17 =>
 (h9.ld1 v17).bind fun v18 =>
 (M.call 461 [v15, v18] h9).bind fun p19 =>
 match ckB (p19.2.ld1 v11) v12 with
 | true => (
 (M.call 269 [a1, (.int .i64 3), v12, p19.1] p19.2).bind fun p20 =>
 (asB p20.1).bind fun b21 =>
 match b21 with
 | true => (
 (nilc a0).bind fun v22 =>
 (ptrAt v22 7).bind fun v23 =>
 (p20.2.st 1 v23 (.int .i64 3)).bind fun h24 =>
 (nilc a0).bind fun v25 =>
 (ptrAt v25 7).bind fun v26 =>
 (h24.ld1 v26).bind fun v27 =>
 (asI .i64 v27).bind fun n28 =>
 some ((.bool (decide (n28 = 3))), h24))
 | false => (
 (nilc a0).bind fun v22 =>
 (ptrAt v22 7).bind fun v23 =>
 (p20.2.ld1 v23).bind fun v24 =>
 (asI .i64 v24).bind fun n25 =>
 some ((.bool (decide (n25 = 3))), p20.2)))
 | false => none)
 | false => (
 (nilc a0).bind fun v7 =>
 (ptrAt v7 7).bind fun v8 =>
 (h.ld1 v8).bind fun v9 =>
 (asI .i64 v9).bind fun n10 =>
 some ((.bool (decide (n10 = 3))), h)))))

theorem stack_Push_Step_eq (M : Env) (a0 : V) (a1 : V) (h : H) : evalF M F.stack_Push_Step [a0, a1] h = stack_Push_Step M a0 a1 h := by kernel_rfl

end Wm.S
end

section
/- PRINTED by my tool (wip/wm/tool/Gen.lean): what a function comes to, stretch by stretch. -/
namespace Wm.S
open Wm
set_option maxRecDepth 100000
set_option linter.unusedVariables false


def arena_NewFree (M : Env) (a0_0 : Int) (a0_1 : Int) (a0_2 : Int) (a0_3 : Int) (a0_4 : Int) (a0_5 : Int) (a1 : Int) (h : H) : Option (V × H) :=
 let h0 := h.new (.cells [(.int .i64 a0_0), (.int .i64 a0_1), (.int .i64 a0_2), (.int .i64 a0_3), (.int .i64 a0_4), (.int .i64 a0_5)] .rw)
 (h0.ldN 6 (.ptr h.next 0)).bind fun v1 =>
 (M.call 261 [v1, (.int .i64 a1)] h0).bind fun p2 =>
 (asI .i64 p2.1).bind fun n3 =>
 match (decide (n3 < 0)) with
 | true => (
 some (.nilp, p2.2))
 | false => (
 (p2.2.ldN 6 (.ptr h.next 0)).bind fun v4 =>
 (fill [(.bool false), (.bool false), (.int .i64 0), (.int .i64 0), (.int .i64 0), (.int .i64 0), (.int .i64 0), (.int .i64 0), (.int .i64 0), (.int .u64 0), .nilp, (.int .i64 0)] [] [(2, 6, .c v4), (8, 1, .c (.int .i64 a1)), (11, 1, .c (.int .i64 1))]).bind fun cs5 =>
 (boxc (.agg cs5)).bind fun cs6 =>
 let h7 := p2.2.new (.cells cs6 .rw)
 some ((.ptr p2.2.next 0), h7))

theorem arena_NewFree_eq (M : Env) (a0_0 : Int) (a0_1 : Int) (a0_2 : Int) (a0_3 : Int) (a0_4 : Int) (a0_5 : Int) (a1 : Int) (h : H) : evalF M F.arena_NewFree [(.agg [(.int .i64 a0_0), (.int .i64 a0_1), (.int .i64 a0_2), (.int .i64 a0_3), (.int .i64 a0_4), (.int .i64 a0_5)]), (.int .i64 a1)] h = arena_NewFree M a0_0 a0_1 a0_2 a0_3 a0_4 a0_5 a1 h := by kernel_rfl

end Wm.S
end

section
/- PRINTED by my tool (wip/wm/tool/Gen.lean): what a function comes to, stretch by stretch. -/
namespace Wm.S
open Wm
set_option maxRecDepth 100000
set_option linter.unusedVariables false


def arena_Free_Step (M : Env) (a0 : V) (a1 : V) (h : H) : Option (V × H) :=
 (eqV .ptr a0 .nilp).bind fun b0 =>
 match b0 with
 | true => (
 some ((.bool true), h))
 | false => (
 (nilc a0).bind fun v1 =>
 (ptrAt v1 11).bind fun v2 =>
 (h.ld1 v2).bind fun v3 =>
 (asI .i64 v3).bind fun n4 =>
 match (decide (n4 = 1)) with
 | true => (
 (nilc a0).bind fun v5 =>
 (ptrAt v5 2).bind fun v6 =>
 (h.ldN 6 v6).bind fun v7 =>
 (nilc a0).bind fun v8 =>
 (ptrAt v8 8).bind fun v9 =>
 (h.ld1 v9).bind fun v10 =>
 (nilc a0).bind fun v11 =>
 (ptrAt v11 2).bind fun v12 =>
 (ptrAt v12 4).bind fun v13 =>
 (h.ld1 v13).bind fun v14 =>
 (M.call 261 [v7, v10] h).bind fun p15 =>
 match ckB (p15.2.ld1 v13) v14 with
 | true => (
 (M.call 266 [a1, p15.1] p15.2).bind fun p16 =>
 match ckB (p16.2.ld1 v13) v14 with
 | true => (
 (M.call 409 [p16.1, v14] p16.2).bind fun p17 =>
 match p17.1 with
 | .tup vs18 => ((vs18[0]?).bind fun v19 =>
 match p17.1 with
 | .tup vs20 => ((vs20[1]?).bind fun v21 =>
 (nilc a0).bind fun v22 =>
 (ptrAt v22 9).bind fun v23 =>
 (p17.2.st 1 v23 v19).bind fun h24 =>
 (nilc a0).bind fun v25 =>
 (ptrAt v25 11).bind fun v26 =>
 (h24.st 1 v26 (.int .i64 3)).bind fun h27 =>
 (asB v21).bind fun b28 =>
 match (!b28) with
 | true => (
 (nilc a0).bind fun v29 =>
 (ptrAt v29 11).bind fun v30 =>
 (h27.st 1 v30 (.int .i64 5)).bind fun h31 =>
 (nilc a0).bind fun v32 =>
 (ptrAt v32 11).bind fun v33 =>
 (h31.ld1 v33).bind fun v34 =>
 (asI .i64 v34).bind fun n35 =>
 some ((.bool (decide (n35 = 5))), h31))
 | false => (
 (nilc a0).bind fun v29 =>
 (ptrAt v29 11).bind fun v30 =>
 (h27.ld1 v30).bind fun v31 =>
 (asI .i64 v31).bind fun n32 =>
 some ((.bool (decide (n32 = 5))), h27)))
 | _ => none)
 | _ => none)
 | false => none)
 | false => none)
 | false => (
 (asI .i64 v3).bind fun n5 =>
 match (decide (n5 = 3)) with
 | true => (
 (nilc a0).bind fun v6 =>
 (ptrAt v6 2).bind fun v7 =>
 (h.ldN 6 v7).bind fun v8 =>
 (nilc a0).bind fun v9 =>
 (ptrAt v9 8).bind fun v10 =>
 (h.ld1 v10).bind fun v11 =>
 (nilc a0).bind fun v12 =>
 (ptrAt v12 9).bind fun v13 =>
 (h.ld1 v13).bind fun v14 =>
 (M.call 261 [v8, v11] h).bind fun p15 =>
 match ckB (p15.2.ld1 v13) v14 with
 | true => (
 (M.call 203 [a1, p15.1, v14] p15.2).bind fun p16 =>
 (nilc a0).bind fun v17 =>
 (ptrAt v17 2).bind fun v18 =>
 (p16.2.ldN 6 v18).bind fun v19 =>
 (nilc a0).bind fun v20 =>
 (ptrAt v20 8).bind fun v21 =>
 (p16.2.ld1 v21).bind fun v22 =>
 (M.call 410 [v19, v22] p16.2).bind fun p23 =>
 (nilc a0).bind fun v24 =>
 (ptrAt v24 10).bind fun v25 =>
 (p23.2.st 1 v25 p23.1).bind fun h26 =>
 (nilc a0).bind fun v27 =>
 (ptrAt v27 11).bind fun v28 =>
 (h26.st 1 v28 (.int .i64 4)).bind fun h29 =>
 (nilc a0).bind fun v30 =>
 (ptrAt v30 9).bind fun v31 =>
 (h29.ld1 v31).bind fun v32 =>
 (M.call 265 [v32] h29).bind fun p33 =>
 match p33.1 with
 | .tup vs34 => ((vs34[0]?).bind fun v35 =>
 match p33.1 with
 | .tup vs36 => ((vs36[1]?).bind fun v37 =>
 let h38 := p33.2.new (.cells [(.int .i64 0), (.int .i64 0), (.bool false), (.int .i64 0), (.int .i64 0), (.int .i64 0)] .rw)
 (h38.st 6 (.ptr p33.2.next 0) v35).bind fun h39 =>
 (h39.ld1 (.ptr p33.2.next 0)).bind fun v40 =>
 (asI .i64 v40).bind fun n41 =>
 match (decide (n41 = 4)) with
 | true => (
 (nilc a0).bind fun v42 =>
 (ptrAt v42 1).bind fun v43 =>
 (h39.st 1 v43 (.bool true)).bind fun h44 =>
 (nilc a0).bind fun v45 =>
 (ptrAt v45 11).bind fun v46 =>
 (h44.st 1 v46 (.int .i64 5)).bind fun h47 =>
 (nilc a0).bind fun v48 =>
 (ptrAt v48 11).bind fun v49 =>
 (h47.ld1 v49).bind fun v50 =>
 (asI .i64 v50).bind fun n51 =>
 some ((.bool (decide (n51 = 5))), h47))
 | false => (
 (nilc a0).bind fun v42 =>
 (ptrAt v42 11).bind fun v43 =>
 (h39.ld1 v43).bind fun v44 =>
 (asI .i64 v44).bind fun n45 =>
 some ((.bool (decide (n45 = 5))), h39)))
 | _ => none)
 | _ => none)
 | false => none)
 | false => (
 (asI .i64 v3).bind fun n6 =>
 match (decide (n6 = 4)) with
 | true => (
 (nilc a0).bind fun v7 =>
 (ptrAt v7 10).bind fun v8 =>
 (h.ld1 v8).bind fun v9 =>
 (M.call 411 [v9, a1] h).bind fun p10 =>
 (asB p10.1).bind fun b11 =>
 match b11 with
 | true => (
 (nilc a0).bind fun v12 =>
 (ptrAt v12 0).bind fun v13 =>
 (p10.2.st 1 v13 (.bool true)).bind fun h14 =>
 (nilc a0).bind fun v15 =>
 (ptrAt v15 11).bind fun v16 =>
 (h14.st 1 v16 (.int .i64 5)).bind fun h17 =>
 (nilc a0).bind fun v18 =>
 (ptrAt v18 11).bind fun v19 =>
 (h17.ld1 v19).bind fun v20 =>
 (asI .i64 v20).bind fun n21 =>
 some ((.bool (decide (n21 = 5))), h17))
 | false => (
 (nilc a0).bind fun v12 =>
 (ptrAt v12 11).bind fun v13 =>
 (p10.2.ld1 v13).bind fun v14 =>
 (asI .i64 v14).bind fun n15 =>
 some ((.bool (decide (n15 = 5))), p10.2)))
 | false => (
 (nilc a0).bind fun v7 =>
 (ptrAt v7 11).bind fun v8 =>
 (h.ld1 v8).bind fun v9 =>
 (asI .i64 v9).bind fun n10 =>
 some ((.bool (decide (n10 = 5))), h)))))

theorem arena_Free_Step_eq (M : Env) (a0 : V) (a1 : V) (h : H) : evalF M F.arena_Free_Step [a0, a1] h = arena_Free_Step M a0 a1 h := by kernel_rfl

end Wm.S
end

section
/- PRINTED by my tool (wip/wm/tool/Gen.lean): what a function comes to, stretch by stretch. -/
namespace Wm.S
open Wm
set_option maxRecDepth 100000
set_option linter.unusedVariables false


def sweep_NewReclaim (M : Env) (a0_0 : Int) (a0_1 : Int) (a0_2 : Int) (a0_3 : Int) (a0_4 : Int) (a0_5 : Int) (h : H) : Option (V × H) :=
 let h0 := h.new (.cells [(.int .i64 a0_0), (.int .i64 a0_1), (.int .i64 a0_2), (.int .i64 a0_3), (.int .i64 a0_4), (.int .i64 a0_5)] .rw)
 (h0.ldN 6 (.ptr h.next 0)).bind fun v1 =>
 (M.call 263 [v1] h0).bind fun p2 =>
 (asB p2.1).bind fun b3 =>
 match (!b3) with
 | true => (
 some (.nilp, p2.2))
 | false => (
 (p2.2.ldN 6 (.ptr h.next 0)).bind fun v4 =>
 (fill [(.int .i64 0), (.int .i64 0), (.int .i64 0), (.int .i64 0), (.int .i64 0), (.int .i64 0), (.int .i64 0), (.int .i64 0), (.int .i64 0), .nilp] [] [(2, 6, .c v4)]).bind fun cs5 =>
 (boxc (.agg cs5)).bind fun cs6 =>
 let h7 := p2.2.new (.cells cs6 .rw)
 some ((.ptr p2.2.next 0), h7))

theorem sweep_NewReclaim_eq (M : Env) (a0_0 : Int) (a0_1 : Int) (a0_2 : Int) (a0_3 : Int) (a0_4 : Int) (a0_5 : Int) (h : H) : evalF M F.sweep_NewReclaim [(.agg [(.int .i64 a0_0), (.int .i64 a0_1), (.int .i64 a0_2), (.int .i64 a0_3), (.int .i64 a0_4), (.int .i64 a0_5)])] h = sweep_NewReclaim M a0_0 a0_1 a0_2 a0_3 a0_4 a0_5 h := by kernel_rfl

end Wm.S
end

section
/- PRINTED by my tool (wip/wm/tool/Gen.lean): what a function comes to, stretch by stretch. -/
namespace Wm.S
open Wm
set_option maxRecDepth 100000
set_option linter.unusedVariables false


def sweep_Reclaim_Step (M : Env) (a0 : V) (a1 : V) (h : H) : Option (V × H) :=
 (eqV .ptr a0 .nilp).bind fun b0 =>
 match b0 with
 | true => (
 some ((.bool true), h))
 | false => (
 (nilc a0).bind fun v1 =>
 (ptrAt v1 8).bind fun v2 =>
 (h.ld1 v2).bind fun v3 =>
 (nilc a0).bind fun v4 =>
 (ptrAt v4 2).bind fun v5 =>
 (ptrAt v5 0).bind fun v6 =>
 (h.ld1 v6).bind fun v7 =>
 (asI .i64 v3).bind fun n8 =>
 (asI .i64 v7).bind fun n9 =>
 match (decide (n8 = n9)) with
 | true => (
 some ((.bool true), h))
 | false => (
 (nilc a0).bind fun v10 =>
 (ptrAt v10 9).bind fun v11 =>
 (h.ld1 v11).bind fun v12 =>
 (eqV .ptr v12 .nilp).bind fun b13 =>
 match b13 with
 | true => (
 (nilc a0).bind fun v14 =>
 (ptrAt v14 2).bind fun v15 =>
 (h.ldN 6 v15).bind fun v16 =>
 (nilc a0).bind fun v17 =>
 (ptrAt v17 8).bind fun v18 =>
 (h.ld1 v18).bind fun v19 =>
 (M.call 261 [v16, v19] h).bind fun p20 =>
 (M.call 266 [a1, p20.1] p20.2).bind fun p21 =>
 (M.call 265 [p21.1] p21.2).bind fun p22 =>
 match p22.1 with
 | .tup vs23 => ((vs23[0]?).bind fun v24 =>
 match p22.1 with
 | .tup vs25 => ((vs25[1]?).bind fun v26 =>
 let h27 := p22.2.new (.cells [(.int .i64 0), (.int .i64 0), (.bool false), (.int .i64 0), (.int .i64 0), (.int .i64 0)] .rw)
 (h27.st 6 (.ptr p22.2.next 0) v24).bind fun h28 =>
 match v26 with
 | .bool true => (
 (h28.ld1 (.ptr p22.2.next 0)).bind fun v29 =>
 (asI .i64 v29).bind fun n30 =>
 match (decide (n30 = 3)) with
 | true => (
 (nilc a0).bind fun v31 =>
 (ptrAt v31 2).bind fun v32 =>
 (h28.ldN 6 v32).bind fun v33 =>
 (nilc a0).bind fun v34 =>
 (ptrAt v34 8).bind fun v35 =>
 (h28.ld1 v35).bind fun v36 =>
 (M.call 341 [v33, v36] h28).bind fun p37 =>
 (nilc a0).bind fun v38 =>
 (ptrAt v38 9).bind fun v39 =>
 (p37.2.st 1 v39 p37.1).bind fun h40 =>
 (nilc a0).bind fun v41 =>
 (ptrAt v41 8).bind fun v42 =>
 (h40.ld1 v42).bind fun v43 =>
 (nilc a0).bind fun v44 =>
 (ptrAt v44 2).bind fun v45 =>
 (ptrAt v45 0).bind fun v46 =>
 (h40.ld1 v46).bind fun v47 =>
 (asI .i64 v43).bind fun n48 =>
 (asI .i64 v47).bind fun n49 =>
 some ((.bool (decide (n48 = n49))), h40))
 | false => (
 (nilc a0).bind fun v31 =>
 (ptrAt v31 8).bind fun v32 =>
 (h28.ld1 v32).bind fun v33 =>
 (asI .i64 v33).bind fun n34 =>
 (nilc a0).bind fun v35 =>
 (ptrAt v35 8).bind fun v36 =>
 (h28.st 1 v36 (.int .i64 (wr .i64 (n34 + 1)))).bind fun h37 =>
 (nilc a0).bind fun v38 =>
 (ptrAt v38 8).bind fun v39 =>
 (h37.ld1 v39).bind fun v40 =>
 (nilc a0).bind fun v41 =>
 (ptrAt v41 2).bind fun v42 =>
 (ptrAt v42 0).bind fun v43 =>
 (h37.ld1 v43).bind fun v44 =>
 (asI .i64 v40).bind fun n45 =>
 (asI .i64 v44).bind fun n46 =>
 some ((.bool (decide (n45 = n46))), h37)))
 | .bool false => (
 (nilc a0).bind fun v29 =>
 (ptrAt v29 8).bind fun v30 =>
 (h28.ld1 v30).bind fun v31 =>
 (asI .i64 v31).bind fun n32 =>
 (nilc a0).bind fun v33 =>
 (ptrAt v33 8).bind fun v34 =>
 (h28.st 1 v34 (.int .i64 (wr .i64 (n32 + 1)))).bind fun h35 =>
 (nilc a0).bind fun v36 =>
 (ptrAt v36 8).bind fun v37 =>
 (h35.ld1 v37).bind fun v38 =>
 (nilc a0).bind fun v39 =>
 (ptrAt v39 2).bind fun v40 =>
 (ptrAt v40 0).bind fun v41 =>
 (h35.ld1 v41).bind fun v42 =>
 (asI .i64 v38).bind fun n43 =>
 (asI .i64 v42).bind fun n44 =>
 some ((.bool (decide (n43 = n44))), h35))
 | .tup [] => (
 (asB v26).bind fun b29 =>
 (asB (match b29 with | true => (.tup []) | false => (.bool false) : V)).bind fun b30 =>
 match b30 with
 | true => (
 (nilc a0).bind fun v31 =>
 (ptrAt v31 2).bind fun v32 =>
 (h28.ldN 6 v32).bind fun v33 =>
 (nilc a0).bind fun v34 =>
 (ptrAt v34 8).bind fun v35 =>
 (h28.ld1 v35).bind fun v36 =>
 (M.call 341 [v33, v36] h28).bind fun p37 =>
 (nilc a0).bind fun v38 =>
 (ptrAt v38 9).bind fun v39 =>
 (p37.2.st 1 v39 p37.1).bind fun h40 =>
 (nilc a0).bind fun v41 =>
 (ptrAt v41 8).bind fun v42 =>
 (h40.ld1 v42).bind fun v43 =>
 (nilc a0).bind fun v44 =>
 (ptrAt v44 2).bind fun v45 =>
 (ptrAt v45 0).bind fun v46 =>
 (h40.ld1 v46).bind fun v47 =>
 (asI .i64 v43).bind fun n48 =>
 (asI .i64 v47).bind fun n49 =>
 some ((.bool (decide (n48 = n49))), h40))
 | false => (
 (nilc a0).bind fun v31 =>
 (ptrAt v31 8).bind fun v32 =>
 (h28.ld1 v32).bind fun v33 =>
 (asI .i64 v33).bind fun n34 =>
 (nilc a0).bind fun v35 =>
 (ptrAt v35 8).bind fun v36 =>
 (h28.st 1 v36 (.int .i64 (wr .i64 (n34 + 1)))).bind fun h37 =>
 (nilc a0).bind fun v38 =>
 (ptrAt v38 8).bind fun v39 =>
 (h37.ld1 v39).bind fun v40 =>
 (nilc a0).bind fun v41 =>
 (ptrAt v41 2).bind fun v42 =>
 (ptrAt v42 0).bind fun v43 =>
 (h37.ld1 v43).bind fun v44 =>
 (asI .i64 v40).bind fun n45 =>
 (asI .i64 v44).bind fun n46 =>
 some ((.bool (decide (n45 = n46))), h37)))
 | _ => none)
 | _ => none)
 | _ => none)
 | false => (
 (nilc a0).bind fun v14 =>
 (ptrAt v14 9).bind fun v15 =>
 (h.ld1 v15).bind fun v16 =>
 (M.call 342 [v16, a1] h).bind fun p17 =>
 (asB p17.1).bind fun b18 =>
 match b18 with
 | true => (
 (nilc a0).bind fun v19 =>
 (ptrAt v19 9).bind fun v20 =>
 (p17.2.ld1 v20).bind fun v21 =>
 (nilc v21).bind fun v22 =>
 (ptrAt v22 0).bind fun v23 =>
 (p17.2.ld1 v23).bind fun v24 =>
 (asB v24).bind fun b25 =>
 match b25 with
 | true => (
 (nilc a0).bind fun v26 =>
 (ptrAt v26 0).bind fun v27 =>
 (p17.2.ld1 v27).bind fun v28 =>
 (asI .i64 v28).bind fun n29 =>
 (nilc a0).bind fun v30 =>
 (ptrAt v30 0).bind fun v31 =>
 (p17.2.st 1 v31 (.int .i64 (wr .i64 (n29 + 1)))).bind fun h32 =>
 (nilc a0).bind fun v33 =>
 (ptrAt v33 9).bind fun v34 =>
 (h32.ld1 v34).bind fun v35 =>
 (nilc v35).bind fun v36 =>
 (ptrAt v36 1).bind fun v37 =>
 (h32.ld1 v37).bind fun v38 =>
 (asB v38).bind fun b39 =>
 match b39 with
 | true => (
 (nilc a0).bind fun v40 =>
 (ptrAt v40 1).bind fun v41 =>
 (h32.ld1 v41).bind fun v42 =>
 (asI .i64 v42).bind fun n43 =>
 (nilc a0).bind fun v44 =>
 (ptrAt v44 1).bind fun v45 =>
 (h32.st 1 v45 (.int .i64 (wr .i64 (n43 + 1)))).bind fun h46 =>
 (nilc a0).bind fun v47 =>
 (ptrAt v47 9).bind fun v48 =>
 (h46.st 1 v48 .nilp).bind fun h49 =>
 (nilc a0).bind fun v50 =>
 (ptrAt v50 8).bind fun v51 =>
 (h49.ld1 v51).bind fun v52 =>
 (asI .i64 v52).bind fun n53 =>
 (nilc a0).bind fun v54 =>
 (ptrAt v54 8).bind fun v55 =>
 (h49.st 1 v55 (.int .i64 (wr .i64 (n53 + 1)))).bind fun h56 =>
 (nilc a0).bind fun v57 =>
 (ptrAt v57 8).bind fun v58 =>
 (h56.ld1 v58).bind fun v59 =>
 (nilc a0).bind fun v60 =>
 (ptrAt v60 2).bind fun v61 =>
 (ptrAt v61 0).bind fun v62 =>
 (h56.ld1 v62).bind fun v63 =>
 (asI .i64 v59).bind fun n64 =>
 (asI .i64 v63).bind fun n65 =>
 some ((.bool (decide (n64 = n65))), h56))
 | false => (
 (nilc a0).bind fun v40 =>
 (ptrAt v40 9).bind fun v41 =>
 (h32.st 1 v41 .nilp).bind fun h42 =>
 (nilc a0).bind fun v43 =>
 (ptrAt v43 8).bind fun v44 =>
 (h42.ld1 v44).bind fun v45 =>
 (asI .i64 v45).bind fun n46 =>
 (nilc a0).bind fun v47 =>
 (ptrAt v47 8).bind fun v48 =>
 (h42.st 1 v48 (.int .i64 (wr .i64 (n46 + 1)))).bind fun h49 =>
 (nilc a0).bind fun v50 =>
 (ptrAt v50 8).bind fun v51 =>
 (h49.ld1 v51).bind fun v52 =>
 (nilc a0).bind fun v53 =>
 (ptrAt v53 2).bind fun v54 =>
 (ptrAt v54 0).bind fun v55 =>
 (h49.ld1 v55).bind fun v56 =>
 (asI .i64 v52).bind fun n57 =>
 (asI .i64 v56).bind fun n58 =>
 some ((.bool (decide (n57 = n58))), h49)))
 | false => (
 (nilc a0).bind fun v26 =>
 (ptrAt v26 9).bind fun v27 =>
 (p17.2.ld1 v27).bind fun v28 =>
 (nilc v28).bind fun v29 =>
 (ptrAt v29 1).bind fun v30 =>
 (p17.2.ld1 v30).bind fun v31 =>
 (asB v31).bind fun b32 =>
 match b32 with
 | true => (
 (nilc a0).bind fun v33 =>
 (ptrAt v33 1).bind fun v34 =>
 (p17.2.ld1 v34).bind fun v35 =>
 (asI .i64 v35).bind fun n36 =>
 (nilc a0).bind fun v37 =>
 (ptrAt v37 1).bind fun v38 =>
 (p17.2.st 1 v38 (.int .i64 (wr .i64 (n36 + 1)))).bind fun h39 =>
 (nilc a0).bind fun v40 =>
 (ptrAt v40 9).bind fun v41 =>
 (h39.st 1 v41 .nilp).bind fun h42 =>
 (nilc a0).bind fun v43 =>
 (ptrAt v43 8).bind fun v44 =>
 (h42.ld1 v44).bind fun v45 =>
 (asI .i64 v45).bind fun n46 =>
 (nilc a0).bind fun v47 =>
 (ptrAt v47 8).bind fun v48 =>
 (h42.st 1 v48 (.int .i64 (wr .i64 (n46 + 1)))).bind fun h49 =>
 (nilc a0).bind fun v50 =>
 (ptrAt v50 8).bind fun v51 =>
 (h49.ld1 v51).bind fun v52 =>
 (nilc a0).bind fun v53 =>
 (ptrAt v53 2).bind fun v54 =>
 (ptrAt v54 0).bind fun v55 =>
 (h49.ld1 v55).bind fun v56 =>
 (asI .i64 v52).bind fun n57 =>
 (asI .i64 v56).bind fun n58 =>
 some ((.bool (decide (n57 = n58))), h49))
 | false => (
 (nilc a0).bind fun v33 =>
 (ptrAt v33 9).bind fun v34 =>
 (p17.2.st 1 v34 .nilp).bind fun h35 =>
 (nilc a0).bind fun v36 =>
 (ptrAt v36 8).bind fun v37 =>
 (h35.ld1 v37).bind fun v38 =>
 (asI .i64 v38).bind fun n39 =>
 (nilc a0).bind fun v40 =>
 (ptrAt v40 8).bind fun v41 =>
 (h35.st 1 v41 (.int .i64 (wr .i64 (n39 + 1)))).bind fun h42 =>
 (nilc a0).bind fun v43 =>
 (ptrAt v43 8).bind fun v44 =>
 (h42.ld1 v44).bind fun v45 =>
 (nilc a0).bind fun v46 =>
 (ptrAt v46 2).bind fun v47 =>
 (ptrAt v47 0).bind fun v48 =>
 (h42.ld1 v48).bind fun v49 =>
 (asI .i64 v45).bind fun n50 =>
 (asI .i64 v49).bind fun n51 =>
 some ((.bool (decide (n50 = n51))), h42))))
 | false => (
 (nilc a0).bind fun v19 =>
 (ptrAt v19 8).bind fun v20 =>
 (p17.2.ld1 v20).bind fun v21 =>
 (nilc a0).bind fun v22 =>
 (ptrAt v22 2).bind fun v23 =>
 (ptrAt v23 0).bind fun v24 =>
 (p17.2.ld1 v24).bind fun v25 =>
 (asI .i64 v21).bind fun n26 =>
 (asI .i64 v25).bind fun n27 =>
 some ((.bool (decide (n26 = n27))), p17.2)))))

theorem sweep_Reclaim_Step_eq (M : Env) (a0 : V) (a1 : V) (h : H) : evalF M F.sweep_Reclaim_Step [a0, a1] h = sweep_Reclaim_Step M a0 a1 h := by kernel_rfl

end Wm.S
end

section
/- PRINTED by my tool (wip/wm/tool/Gen.lean): what a function comes to, stretch by stretch. -/
namespace Wm.S
open Wm
set_option maxRecDepth 100000
set_option linter.unusedVariables false


def withyref13_at (M : Env) (a0_0 : Int) (a0_1 : Int) (a0_2 : Int) (a0_3 : Int) (a0_4 : Int) (a0_5 : Int) (a1 : V) (a2 : ByteArray) (a3 : Int) (a4 : Int) (h : H) : Option (V × H) :=
 let h0 := h.new (.cells [(.int .i64 a0_0), (.int .i64 a0_1), (.int .i64 a0_2), (.int .i64 a0_3), (.int .i64 a0_4), (.int .i64 a0_5)] .rw)
 (h0.ldN 6 (.ptr h.next 0)).bind fun v1 =>
 (M.call 108 [v1, (.agg [(.str a2), (.int .i64 a3), (.int .i64 a4)])] h0).bind fun p2 =>
 (asI .i64 p2.1).bind fun n3 =>
 match (decide (n3 < 0)) with
 | true => (
 some ((.int .u64 0), p2.2))
 | false => (
 (indexAV 1 a1 p2.1).bind fun v4 =>
 (p2.2.ld1 v4).bind fun v5 =>
 some (v5, p2.2))

theorem withyref13_at_eq (M : Env) (a0_0 : Int) (a0_1 : Int) (a0_2 : Int) (a0_3 : Int) (a0_4 : Int) (a0_5 : Int) (a1 : V) (a2 : ByteArray) (a3 : Int) (a4 : Int) (h : H) : evalF M F.withyref13_at [(.agg [(.int .i64 a0_0), (.int .i64 a0_1), (.int .i64 a0_2), (.int .i64 a0_3), (.int .i64 a0_4), (.int .i64 a0_5)]), a1, (.str a2), (.int .i64 a3), (.int .i64 a4)] h = withyref13_at M a0_0 a0_1 a0_2 a0_3 a0_4 a0_5 a1 a2 a3 a4 h := by kernel_rfl

end Wm.S
end

section
/- PRINTED by my tool (wip/wm/tool/Gen.lean): what a function comes to, stretch by stretch. -/
namespace Wm.S
open Wm
set_option maxRecDepth 100000
set_option linter.unusedVariables false

def withyref13_Grays_c1_B (M : Env) : List V → H → Option (AX × List V × H) :=
 fun env h => evalC M F.withyref13_Grays_c1 env h fun x env h => match x with
 | .normal => some (.normal, keepOf [1, 2, 5, 6] 0 env, h)
 | x => some (x, keepOf [5] 0 env, h)

def withyref13_Grays_c1_E (x1 x2 x5 x6 : V) : List V := dd 1 (x1 :: x2 :: dd 2 (x5 :: x6 :: dd 24 []))
def withyref13_Grays_c1_O (x5 : V) : List V := dd 5 (x5 :: dd 25 [])

def withyref13_Grays_K0 (M : Env) : AX → List V → H → Option (V × H) :=
 fun x env h => fin F.withyref13_Grays x env h

def withyref13_Grays_K1 (M : Env) : AX → List V → H → Option (V × H) :=
 fun x env h => match x with | .normal => evalC M F.withyref13_Grays_c0 env h (fun x env h => withyref13_Grays_K0 M x env h) | x => withyref13_Grays_K0 M x env h

def withyref13_Grays_K2 (M : Env) : AX → List V → H → Option (V × H) :=
 fun x env h => match x with | .exit j => (match Nat.beq j 0 with | true => withyref13_Grays_K1 M .normal env h | false => withyref13_Grays_K1 M (.exit j) env h) | x => withyref13_Grays_K1 M x env h

def withyref13_Grays (M : Env) (a0_0 : Int) (a0_1 : Int) (a0_2 : Int) (a0_3 : Int) (a0_4 : Int) (a0_5 : Int) (a1 : V) (h : H) : Option (V × H) :=
 let h0 := h.new (.cells [(.int .i64 a0_0), (.int .i64 a0_1), (.int .i64 a0_2), (.int .i64 a0_3), (.int .i64 a0_4), (.int .i64 a0_5)] .rw)
 (M.loop (withyref13_Grays_c1_B M) (withyref13_Grays_c1_E a1 (.ptr h.next 0) (.int .i64 0) (.int .i64 0)) h0).bind fun p1 => withyref13_Grays_K2 M p1.1 p1.2.1 p1.2.2

def withyref13_Grays_c1_S (M : Env) (x1 : V) (x2 : V) (x5 : Int) (x6 : Int) (h : H) : Option (AX × List V × H) :=
 (ptrAt x2 0).bind fun v0 =>
 (h.ld1 v0).bind fun v1 =>
 (asI .i64 v1).bind fun n2 =>
 match (decide (x6 < n2)) with
 | true => (
 (h.ldN 6 x2).bind fun v3 =>
 (M.call 322 [v3, x1, (.str ⟨⟨[104, 101, 97, 100, 101, 114]⟩⟩), (.int .i64 x6), (.int .i64 0)] h).bind fun p4 =>
 (M.call 109 [p4.1] p4.2).bind fun p5 =>
 match p5.1 with
 | .tup vs6 => ((vs6[0]?).bind fun v7 =>
 match p5.1 with
 | .tup vs8 => ((vs8[1]?).bind fun v9 =>
 let h10 := p5.2.new (.cells [(.int .i64 0), (.int .i64 0), (.bool false), (.int .i64 0), (.int .i64 0), (.int .i64 0)] .rw)
 (h10.st 6 (.ptr p5.2.next 0) v7).bind fun h11 =>
 match v9 with
 | .bool true => (
 (h11.ld1 (.ptr p5.2.next 2)).bind fun v12 =>
 (asB v12).bind fun b13 =>
 match b13 with
 | true => (
 some (.normal, (withyref13_Grays_c1_E x1 x2 (.int .i64 (wr .i64 (x5 + 1))) (.int .i64 (wr .i64 (x6 + 1)))), h11))
 | false => (
 some (.normal, (withyref13_Grays_c1_E x1 x2 (.int .i64 x5) (.int .i64 (wr .i64 (x6 + 1)))), h11)))
 | .bool false => (
 some (.normal, (withyref13_Grays_c1_E x1 x2 (.int .i64 x5) (.int .i64 (wr .i64 (x6 + 1)))), h11))
 | .tup [] => (
 (asB v9).bind fun b12 =>
 (asB (match b12 with | true => (.tup []) | false => (.bool false) : V)).bind fun b13 =>
 match b13 with
 | true => (
 some (.normal, (withyref13_Grays_c1_E x1 x2 (.int .i64 (wr .i64 (x5 + 1))) (.int .i64 (wr .i64 (x6 + 1)))), h11))
 | false => (
 some (.normal, (withyref13_Grays_c1_E x1 x2 (.int .i64 x5) (.int .i64 (wr .i64 (x6 + 1)))), h11)))
 | _ => none)
 | _ => none)
 | _ => none)
 | false => (
 some ((.exit 0), (withyref13_Grays_c1_O (.int .i64 x5)), h))

def withyref13_Grays_c1_e0 (M : Env) (x5 : Int) (h : H) : Option (V × H) :=
 some ((.int .i64 x5), h)

theorem withyref13_Grays_eq (M : Env) (a0_0 : Int) (a0_1 : Int) (a0_2 : Int) (a0_3 : Int) (a0_4 : Int) (a0_5 : Int) (a1 : V) (h : H) : evalF M F.withyref13_Grays [(.agg [(.int .i64 a0_0), (.int .i64 a0_1), (.int .i64 a0_2), (.int .i64 a0_3), (.int .i64 a0_4), (.int .i64 a0_5)]), a1] h = withyref13_Grays M a0_0 a0_1 a0_2 a0_3 a0_4 a0_5 a1 h := by kernel_rfl

theorem withyref13_Grays_c1_eq (M : Env) (x1 : V) (x2 : V) (x5 : Int) (x6 : Int) (h : H) : withyref13_Grays_c1_B M (withyref13_Grays_c1_E x1 x2 (.int .i64 x5) (.int .i64 x6)) h = withyref13_Grays_c1_S M x1 x2 x5 x6 h := by kernel_rfl

theorem withyref13_Grays_c1_e0_eq (M : Env) (x5 : Int) (h : H) : withyref13_Grays_K2 M (.exit 0) (withyref13_Grays_c1_O (.int .i64 x5)) h = withyref13_Grays_c1_e0 M x5 h := by kernel_rfl

end Wm.S
end

section
/- PRINTED by my tool (wip/wm/tool/Gen.lean): what a function comes to, stretch by stretch. -/
namespace Wm.S
open Wm
set_option maxRecDepth 100000
set_option linter.unusedVariables false

def withyref07_List_c1_B (M : Env) : List V → H → Option (AX × List V × H) :=
 fun env h => evalC M F.withyref07_List_c1 env h fun x env h => match x with
 | .normal => some (.normal, keepOf [1, 2, 5, 6] 0 env, h)
 | x => some (x, keepOf [5] 0 env, h)

def withyref07_List_c1_E (x1 x2 x5 x6 : V) : List V := dd 1 (x1 :: x2 :: dd 2 (x5 :: x6 :: dd 47 []))
def withyref07_List_c1_O (x5 : V) : List V := dd 5 (x5 :: dd 48 [])

def withyref07_List_K0 (M : Env) : AX → List V → H → Option (V × H) :=
 fun x env h => fin F.withyref07_List x env h

def withyref07_List_K1 (M : Env) : AX → List V → H → Option (V × H) :=
 fun x env h => match x with | .normal => evalC M F.withyref07_List_c0 env h (fun x env h => withyref07_List_K0 M x env h) | x => withyref07_List_K0 M x env h

def withyref07_List_K2 (M : Env) : AX → List V → H → Option (V × H) :=
 fun x env h => match x with | .exit j => (match Nat.beq j 0 with | true => withyref07_List_K1 M .normal env h | false => withyref07_List_K1 M (.exit j) env h) | x => withyref07_List_K1 M x env h

def withyref07_List (M : Env) (a0_0 : Int) (a0_1 : Int) (a0_2 : Int) (a0_3 : Int) (a0_4 : Int) (a0_5 : Int) (a1 : V) (h : H) : Option (V × H) :=
 let h0 := h.new (.cells [(.int .i64 a0_0), (.int .i64 a0_1), (.int .i64 a0_2), (.int .i64 a0_3), (.int .i64 a0_4), (.int .i64 a0_5)] .rw)
 (h0.ldN 6 (.ptr h.next 0)).bind fun v1 =>
 (M.call 85 [v1] h0).bind fun p2 =>
 (asB p2.1).bind fun b3 =>
 match (!b3) with
 | true => (
 some (.nilsl, p2.2))
 | false => (
 (lenSl a1).bind fun n4 =>
 (p2.2.ldN 6 (.ptr h.next 0)).bind fun v5 =>
 (M.call 87 [v5] p2.2).bind fun p6 =>
 (lenSl p6.1).bind fun n7 =>
 match (!decide (((n4 : Nat) : Int) = ((n7 : Nat) : Int))) with
 | true => (
 some (.nilsl, p6.2))
 | false => (
 (indexAV 1 a1 (.int .i64 3)).bind fun v8 =>
 (p6.2.ld1 v8).bind fun v9 =>
 (asI .u64 v9).bind fun n10 =>
 (M.loop (withyref07_List_c1_B M) (withyref07_List_c1_E a1 (.ptr h.next 0) .nilsl (.int .u64 (Int.tmod n10 65536))) p6.2).bind fun p11 => withyref07_List_K2 M p11.1 p11.2.1 p11.2.2))

def withyref07_List_c1_S (M : Env) (x1 : V) (x2 : V) (x5 : V) (x6 : Int) (h : H) : Option (AX × List V × H) :=
 match (decide (1 ≤ x6)) with
 | true => (
 (ptrAt x2 0).bind fun v0 =>
 (h.ld1 v0).bind fun v1 =>
 (asIAny v1).bind fun n2 =>
 match (decide (x6 ≤ (wr .u64 n2))) with
 | true => (
 (lenSl x5).bind fun n3 =>
 (ptrAt x2 0).bind fun v4 =>
 (h.ld1 v4).bind fun v5 =>
 (asI .i64 v5).bind fun n6 =>
 match (decide (((n3 : Nat) : Int) < n6)) with
 | true => (
 let h7 := h.new (.cells [(.int .i64 (wr .i64 ((wr .i64 x6) - 1)))] .rw)
 (h7.append 1 8 x5 (.sl h.next 0 1 (.ex 1))).bind fun p8 =>
 (p8.2.ldN 6 x2).bind fun v9 =>
 (M.call 108 [v9, (.agg [(.str ⟨⟨[108, 105, 110, 107]⟩⟩), (.int .i64 (wr .i64 ((wr .i64 x6) - 1))), (.int .i64 0)])] p8.2).bind fun p10 =>
 (indexAV 1 x1 p10.1).bind fun v11 =>
 (p10.2.ld1 v11).bind fun v12 =>
 some (.normal, (withyref07_List_c1_E x1 x2 p8.1 v12), p10.2))
 | false => (
 some ((.exit 0), (withyref07_List_c1_O x5), h)))
 | false => (
 some ((.exit 0), (withyref07_List_c1_O x5), h)))
 | false => (
 some ((.exit 0), (withyref07_List_c1_O x5), h))

def withyref07_List_c1_e0 (M : Env) (x5 : V) (h : H) : Option (V × H) :=
 some (x5, h)

theorem withyref07_List_eq (M : Env) (a0_0 : Int) (a0_1 : Int) (a0_2 : Int) (a0_3 : Int) (a0_4 : Int) (a0_5 : Int) (a1 : V) (h : H) : evalF M F.withyref07_List [(.agg [(.int .i64 a0_0), (.int .i64 a0_1), (.int .i64 a0_2), (.int .i64 a0_3), (.int .i64 a0_4), (.int .i64 a0_5)]), a1] h = withyref07_List M a0_0 a0_1 a0_2 a0_3 a0_4 a0_5 a1 h := by kernel_rfl

theorem withyref07_List_c1_eq (M : Env) (x1 : V) (x2 : V) (x5 : V) (x6 : Int) (h : H) : withyref07_List_c1_B M (withyref07_List_c1_E x1 x2 x5 (.int .u64 x6)) h = withyref07_List_c1_S M x1 x2 x5 x6 h := by kernel_rfl

theorem withyref07_List_c1_e0_eq (M : Env) (x5 : V) (h : H) : withyref07_List_K2 M (.exit 0) (withyref07_List_c1_O x5) h = withyref07_List_c1_e0 M x5 h := by kernel_rfl

end Wm.S
end

section
/- PRINTED by my tool (wip/wm/tool/Gen.lean): what a function comes to, stretch by stretch. -/
namespace Wm.S
open Wm
set_option maxRecDepth 100000
set_option linter.unusedVariables false

end Wm.S
end

section
/- PRINTED by my tool (wip/wm/tool/Gen.lean): what a function comes to, stretch by stretch. -/
namespace Wm.S
open Wm
set_option maxRecDepth 100000
set_option linter.unusedVariables false

end Wm.S
end

section
/- PRINTED by my tool (wip/wm/tool/Gen.lean): what a function comes to, stretch by stretch. -/
namespace Wm.S
open Wm
set_option maxRecDepth 100000
set_option linter.unusedVariables false

def withyref13_Laid_c1_B (M : Env) : List V → H → Option (AX × List V × H) :=
 fun env h => evalC M F.withyref13_Laid_c1 env h fun x env h => match x with
 | .normal => some (.normal, keepOf [1, 2, 3, 4, 9, 10, 11] 0 env, h)
 | x => some (x, keepOf [2, 3, 4, 9, 10] 0 env, h)

def withyref13_Laid_c1_E (x1 x2 x3 x4 x9 x10 x11 : V) : List V := dd 1 (x1 :: x2 :: x3 :: x4 :: dd 4 (x9 :: x10 :: x11 :: dd 168 []))
def withyref13_Laid_c1_O (x2 x3 x4 x9 x10 : V) : List V := dd 2 (x2 :: x3 :: x4 :: dd 4 (x9 :: x10 :: dd 169 []))

def withyref13_Laid_c4_B (M : Env) : List V → H → Option (AX × List V × H) :=
 fun env h => evalC M F.withyref13_Laid_c4 env h fun x env h => match x with
 | .normal => some (.normal, keepOf [1, 2, 3, 4, 9, 10, 11, 12, 13] 0 env, h)
 | x => some (x, keepOf [1, 2, 3, 4, 9, 10, 11, 12] 0 env, h)

def withyref13_Laid_c4_E (x1 x2 x3 x4 x9 x10 x11 x12 x13 : V) : List V := dd 1 (x1 :: x2 :: x3 :: x4 :: dd 4 (x9 :: x10 :: x11 :: x12 :: x13 :: dd 166 []))
def withyref13_Laid_c4_O (x1 x2 x3 x4 x9 x10 x11 x12 : V) : List V := dd 1 (x1 :: x2 :: x3 :: x4 :: dd 4 (x9 :: x10 :: x11 :: x12 :: dd 167 []))

def withyref13_Laid_c6_B (M : Env) : List V → H → Option (AX × List V × H) :=
 fun env h => evalC M F.withyref13_Laid_c6 env h fun x env h => match x with
 | .normal => some (.normal, keepOf [2, 3, 4, 9, 14] 0 env, h)
 | x => some (x, keepOf [3, 4, 9] 0 env, h)

def withyref13_Laid_c6_E (x2 x3 x4 x9 x14 : V) : List V := dd 2 (x2 :: x3 :: x4 :: dd 4 (x9 :: dd 4 (x14 :: dd 165 [])))
def withyref13_Laid_c6_O (x3 x4 x9 : V) : List V := dd 3 (x3 :: x4 :: dd 4 (x9 :: dd 170 []))

def withyref13_Laid_c8_B (M : Env) : List V → H → Option (AX × List V × H) :=
 fun env h => evalC M F.withyref13_Laid_c8 env h fun x env h => match x with
 | .normal => some (.normal, keepOf [3, 4, 9, 17] 0 env, h)
 | x => some (x, keepOf [4, 9] 0 env, h)

def withyref13_Laid_c8_E (x3 x4 x9 x17 : V) : List V := dd 3 (x3 :: x4 :: dd 4 (x9 :: dd 7 (x17 :: dd 162 [])))
def withyref13_Laid_c8_O (x4 x9 : V) : List V := dd 4 (x4 :: dd 4 (x9 :: dd 170 []))

def withyref13_Laid_K0 (M : Env) : AX → List V → H → Option (V × H) :=
 fun x env h => fin F.withyref13_Laid x env h

def withyref13_Laid_K1 (M : Env) : AX → List V → H → Option (V × H) :=
 fun x env h => match x with | .normal => evalC M F.withyref13_Laid_c0 env h (fun x env h => withyref13_Laid_K0 M x env h) | x => withyref13_Laid_K0 M x env h

def withyref13_Laid_K2 (M : Env) : AX → List V → H → Option (V × H) :=
 fun x env h => match x with | .exit j => (match Nat.beq j 0 with | true => withyref13_Laid_K1 M .normal env h | false => withyref13_Laid_K1 M (.exit j) env h) | x => withyref13_Laid_K1 M x env h

def withyref13_Laid_K3 (M : Env) : AX → List V → H → Option (AX × List V × H) :=
 fun x env h => match x with | .normal => some (.normal, keepOf [1, 2, 3, 4, 9, 10, 11] 0 env, h) | x => some (x, keepOf [2, 3, 4, 9, 10] 0 env, h)

def withyref13_Laid_K4 (M : Env) : AX → List V → H → Option (AX × List V × H) :=
 fun x env h => match x with | .normal => evalC M F.withyref13_Laid_c2 env h (fun x env h => withyref13_Laid_K3 M x env h) | x => withyref13_Laid_K3 M x env h

def withyref13_Laid_K5 (M : Env) : AX → List V → H → Option (AX × List V × H) :=
 fun x env h => match x with | .exit j => (match Nat.beq j 1 with | true => withyref13_Laid_K4 M .normal env h | false => withyref13_Laid_K4 M (.exit j) env h) | x => withyref13_Laid_K4 M x env h

def withyref13_Laid_K6 (M : Env) : AX → List V → H → Option (AX × List V × H) :=
 fun x env h => match x with | .normal => evalC M F.withyref13_Laid_c3 env h (fun x env h => withyref13_Laid_K5 M x env h) | x => withyref13_Laid_K5 M x env h

def withyref13_Laid_K7 (M : Env) : AX → List V → H → Option (AX × List V × H) :=
 fun x env h => match x with | .exit j => (match Nat.beq j 2 with | true => withyref13_Laid_K6 M .normal env h | false => withyref13_Laid_K6 M (.exit j) env h) | x => withyref13_Laid_K6 M x env h

def withyref13_Laid_K8 (M : Env) : AX → List V → H → Option (V × H) :=
 fun x env h => match x with | .normal => evalC M F.withyref13_Laid_c5 env h (fun x env h => withyref13_Laid_K0 M x env h) | x => withyref13_Laid_K0 M x env h

def withyref13_Laid_K9 (M : Env) : AX → List V → H → Option (V × H) :=
 fun x env h => match x with | .exit j => (match Nat.beq j 4 with | true => withyref13_Laid_K8 M .normal env h | false => withyref13_Laid_K8 M (.exit j) env h) | x => withyref13_Laid_K8 M x env h

def withyref13_Laid_K10 (M : Env) : AX → List V → H → Option (V × H) :=
 fun x env h => match x with | .normal => evalC M F.withyref13_Laid_c7 env h (fun x env h => withyref13_Laid_K0 M x env h) | x => withyref13_Laid_K0 M x env h

def withyref13_Laid_K11 (M : Env) : AX → List V → H → Option (V × H) :=
 fun x env h => match x with | .exit j => (match Nat.beq j 6 with | true => withyref13_Laid_K10 M .normal env h | false => withyref13_Laid_K10 M (.exit j) env h) | x => withyref13_Laid_K10 M x env h

def withyref13_Laid (M : Env) (a0_0 : Int) (a0_1 : Int) (a0_2 : Int) (a0_3 : Int) (a0_4 : Int) (a0_5 : Int) (a1 : V) (a2 : V) (a3 : V) (h : H) : Option (V × H) :=
 let h0 := h.new (.cells [(.int .i64 a0_0), (.int .i64 a0_1), (.int .i64 a0_2), (.int .i64 a0_3), (.int .i64 a0_4), (.int .i64 a0_5)] .rw)
 (h0.ldN 6 (.ptr h.next 0)).bind fun v1 =>
 (M.call 86 [v1] h0).bind fun p2 =>
 (p2.2.ld1 (.ptr h.next 0)).bind fun v3 =>
 (asI .i64 v3).bind fun n4 =>
 (M.loop (withyref13_Laid_c1_B M) (withyref13_Laid_c1_E a1 a2 a3 (.ptr h.next 0) p2.1 (.int .u64 0) (.int .i64 (wr .i64 (n4 - 1)))) p2.2).bind fun p5 => withyref13_Laid_K2 M p5.1 p5.2.1 p5.2.2

def withyref13_Laid_c1_S (M : Env) (x1 : V) (x2 : V) (x3 : V) (x4 : V) (x9 : V) (x10 : Int) (x11 : Int) (h : H) : Option (AX × List V × H) :=
 match (decide (0 ≤ x11)) with
 | true => (
 let h0 := h.new (.cells [(.int .i64 0), (.int .i64 0), (.bool false), (.int .i64 0), (.int .i64 0), (.int .i64 0)] .rw)
 (h0.st 6 (.ptr h.next 0) (.agg [(.int .i64 0), (.int .i64 0), (.bool false), (.int .i64 0), (.int .i64 0), (.int .i64 0)])).bind fun h1 =>
 (lenSl x1).bind fun n2 =>
 match (decide (x11 < ((n2 : Nat) : Int))) with
 | true => (
 (indexAV 7 x1 (.int .i64 x11)).bind fun v3 =>
 (ptrAt v3 0).bind fun v4 =>
 (h1.ldN 6 v4).bind fun v5 =>
 (M.call 202 [v5] h1).bind fun p6 =>
 (asB p6.1).bind fun b7 =>
 match b7 with
 | true => (
 (indexAV 7 x1 (.int .i64 x11)).bind fun v8 =>
 (ptrAt v8 0).bind fun v9 =>
 (p6.2.ldN 6 v9).bind fun v10 =>
 (p6.2.st 6 (.ptr h.next 0) v10).bind fun h11 =>
 (M.loop (withyref13_Laid_c4_B M) (withyref13_Laid_c4_E x1 x2 x3 x4 x9 (.int .u64 x10) (.int .i64 x11) (.ptr h.next 0) (.int .i64 0)) h11).bind fun p12 => withyref13_Laid_K7 M p12.1 p12.2.1 p12.2.2)
 | false => (
 (p6.2.ldN 6 x4).bind fun v8 =>
 (p6.2.ldN 6 (.ptr h.next 0)).bind fun v9 =>
 (M.call 108 [v8, (.agg [(.str ⟨⟨[104, 101, 97, 100, 101, 114]⟩⟩), (.int .i64 x11), (.int .i64 0)])] p6.2).bind fun p10 =>
 match ckB (p10.2.ldN 6 (.ptr h.next 0)) v9 with
 | true => (
 (M.call 111 [v9] p10.2).bind fun p11 =>
 (indexAV 1 x9 p10.1).bind fun v12 =>
 (p11.2.st 1 v12 p11.1).bind fun h13 =>
 (h13.ld1 (.ptr h.next 0)).bind fun v14 =>
 (asI .i64 v14).bind fun n15 =>
 match (decide (n15 = 0)) with
 | true => (
 (h13.ldN 6 x4).bind fun v16 =>
 (M.call 108 [v16, (.agg [(.str ⟨⟨[108, 105, 110, 107]⟩⟩), (.int .i64 x11), (.int .i64 0)])] h13).bind fun p17 =>
 (indexAV 1 x9 p17.1).bind fun v18 =>
 (p17.2.st 1 v18 (.int .u64 x10)).bind fun h19 =>
 some (.normal, (withyref13_Laid_c1_E x1 x2 x3 x4 x9 (.int .u64 (wr .u64 (wr .i64 (x11 + 1)))) (.int .i64 (wr .i64 (x11 - 1)))), h19))
 | false => (
 some (.normal, (withyref13_Laid_c1_E x1 x2 x3 x4 x9 (.int .u64 x10) (.int .i64 (wr .i64 (x11 - 1)))), h13)))
 | false => none))
 | false => (
 (h1.ldN 6 x4).bind fun v3 =>
 (h1.ldN 6 (.ptr h.next 0)).bind fun v4 =>
 (M.call 108 [v3, (.agg [(.str ⟨⟨[104, 101, 97, 100, 101, 114]⟩⟩), (.int .i64 x11), (.int .i64 0)])] h1).bind fun p5 =>
 match ckB (p5.2.ldN 6 (.ptr h.next 0)) v4 with
 | true => (
 (M.call 111 [v4] p5.2).bind fun p6 =>
 (indexAV 1 x9 p5.1).bind fun v7 =>
 (p6.2.st 1 v7 p6.1).bind fun h8 =>
 (h8.ld1 (.ptr h.next 0)).bind fun v9 =>
 (asI .i64 v9).bind fun n10 =>
 match (decide (n10 = 0)) with
 | true => (
 (h8.ldN 6 x4).bind fun v11 =>
 (M.call 108 [v11, (.agg [(.str ⟨⟨[108, 105, 110, 107]⟩⟩), (.int .i64 x11), (.int .i64 0)])] h8).bind fun p12 =>
 (indexAV 1 x9 p12.1).bind fun v13 =>
 (p12.2.st 1 v13 (.int .u64 x10)).bind fun h14 =>
 some (.normal, (withyref13_Laid_c1_E x1 x2 x3 x4 x9 (.int .u64 (wr .u64 (wr .i64 (x11 + 1)))) (.int .i64 (wr .i64 (x11 - 1)))), h14))
 | false => (
 some (.normal, (withyref13_Laid_c1_E x1 x2 x3 x4 x9 (.int .u64 x10) (.int .i64 (wr .i64 (x11 - 1)))), h8)))
 | false => none))
 | false => (
 some ((.exit 0), (withyref13_Laid_c1_O x2 x3 x4 x9 (.int .u64 x10)), h))

def withyref13_Laid_c1_e0 (M : Env) (x2 : V) (x3 : V) (x4 : V) (x9 : V) (x10 : Int) (h : H) : Option (V × H) :=
 (indexAV 1 x9 (.int .i64 3)).bind fun v0 =>
 (h.st 1 v0 (.int .u64 x10)).bind fun h1 =>
 (M.loop (withyref13_Laid_c6_B M) (withyref13_Laid_c6_E x2 x3 x4 x9 (.int .i64 0)) h1).bind fun p2 => withyref13_Laid_K9 M p2.1 p2.2.1 p2.2.2

def withyref13_Laid_c4_S (M : Env) (x1 : V) (x2 : V) (x3 : V) (x4 : V) (x9 : V) (x10 : Int) (x11 : Int) (x12 : V) (x13 : Int) (h : H) : Option (AX × List V × H) :=
 (h.ldN 6 x4).bind fun v0 =>
 (M.call 149 [v0] h).bind fun p1 =>
 (asI .i64 p1.1).bind fun n2 =>
 match (decide (x13 < n2)) with
 | true => (
 (indexAV 7 x1 (.int .i64 x11)).bind fun v3 =>
 (ptrAt v3 6).bind fun v4 =>
 (p1.2.ld1 v4).bind fun v5 =>
 (lenSl v5).bind fun n6 =>
 match (decide (x13 < ((n6 : Nat) : Int))) with
 | true => (
 (p1.2.ldN 6 x4).bind fun v7 =>
 (indexAV 7 x1 (.int .i64 x11)).bind fun v8 =>
 (ptrAt v8 6).bind fun v9 =>
 (p1.2.ld1 v9).bind fun v10 =>
 (indexAV 1 v10 (.int .i64 x13)).bind fun v11 =>
 (p1.2.ld1 v11).bind fun v12 =>
 (M.call 108 [v7, (.agg [(.str ⟨⟨[98, 111, 100, 121]⟩⟩), (.int .i64 x11), (.int .i64 x13)])] p1.2).bind fun p13 =>
 match ckB (p13.2.ld1 v11) v12 with
 | true => (
 match ckB (p13.2.ld1 v9) v10 with
 | true => (
 (indexAV 1 x9 p13.1).bind fun v14 =>
 (p13.2.st 1 v14 v12).bind fun h15 =>
 some (.normal, (withyref13_Laid_c4_E x1 x2 x3 x4 x9 (.int .u64 x10) (.int .i64 x11) x12 (.int .i64 (wr .i64 (x13 + 1)))), h15))
 | false => none)
 | false => none)
 | false => (
 some ((.exit 2), (withyref13_Laid_c4_O x1 x2 x3 x4 x9 (.int .u64 x10) (.int .i64 x11) x12), p1.2)))
 | false => (
 some ((.exit 2), (withyref13_Laid_c4_O x1 x2 x3 x4 x9 (.int .u64 x10) (.int .i64 x11) x12), p1.2))

def withyref13_Laid_c4_e2 (M : Env) (x1 : V) (x2 : V) (x3 : V) (x4 : V) (x9 : V) (x10 : Int) (x11 : Int) (x12 : V) (h : H) : Option (AX × List V × H) :=
 (h.ldN 6 x4).bind fun v0 =>
 (h.ldN 6 x12).bind fun v1 =>
 (M.call 108 [v0, (.agg [(.str ⟨⟨[104, 101, 97, 100, 101, 114]⟩⟩), (.int .i64 x11), (.int .i64 0)])] h).bind fun p2 =>
 match ckB (p2.2.ldN 6 x12) v1 with
 | true => (
 (M.call 111 [v1] p2.2).bind fun p3 =>
 (indexAV 1 x9 p2.1).bind fun v4 =>
 (p3.2.st 1 v4 p3.1).bind fun h5 =>
 (ptrAt x12 0).bind fun v6 =>
 (h5.ld1 v6).bind fun v7 =>
 (asI .i64 v7).bind fun n8 =>
 match (decide (n8 = 0)) with
 | true => (
 (h5.ldN 6 x4).bind fun v9 =>
 (M.call 108 [v9, (.agg [(.str ⟨⟨[108, 105, 110, 107]⟩⟩), (.int .i64 x11), (.int .i64 0)])] h5).bind fun p10 =>
 (indexAV 1 x9 p10.1).bind fun v11 =>
 (p10.2.st 1 v11 (.int .u64 x10)).bind fun h12 =>
 some (.normal, (withyref13_Laid_c1_E x1 x2 x3 x4 x9 (.int .u64 (wr .u64 (wr .i64 (x11 + 1)))) (.int .i64 (wr .i64 (x11 - 1)))), h12))
 | false => (
 some (.normal, (withyref13_Laid_c1_E x1 x2 x3 x4 x9 (.int .u64 x10) (.int .i64 (wr .i64 (x11 - 1)))), h5)))
 | false => none

def withyref13_Laid_c6_S (M : Env) (x2 : V) (x3 : V) (x4 : V) (x9 : V) (x14 : Int) (h : H) : Option (AX × List V × H) :=
 (lenSl x2).bind fun n0 =>
 match (decide (x14 < ((n0 : Nat) : Int))) with
 | true => (
 (ptrAt x4 2).bind fun v1 =>
 (h.ld1 v1).bind fun v2 =>
 (ptrAt x4 3).bind fun v3 =>
 (h.ld1 v3).bind fun v4 =>
 (asI .i64 v4).bind fun n5 =>
 (asI .i64 v2).bind fun n6 =>
 match (decide (x14 < (wr .i64 (n6 * (wr .i64 (n5 + 1)))))) with
 | true => (
 (ptrAt x4 2).bind fun v7 =>
 (h.ld1 v7).bind fun v8 =>
 (asI .i64 v8).bind fun n9 =>
 (arith .rem .i64 x14 n9).bind fun n10 =>
 (ptrAt x4 2).bind fun v11 =>
 (h.ld1 v11).bind fun v12 =>
 (asI .i64 v12).bind fun n13 =>
 (arith .quo .i64 x14 n13).bind fun n14 =>
 (ptrAt x4 3).bind fun v15 =>
 (h.ld1 v15).bind fun v16 =>
 (asI .i64 v16).bind fun n17 =>
 match (decide (n14 < n17)) with
 | true => (
 (h.ldN 6 x4).bind fun v18 =>
 (indexAV 1 x2 (.int .i64 x14)).bind fun v19 =>
 (h.ld1 v19).bind fun v20 =>
 (asI .u64 v20).bind fun n21 =>
 (M.call 108 [v18, (.agg [(.str ⟨⟨[101, 110, 116, 114, 121]⟩⟩), (.int .i64 n10), (.int .i64 n14)])] h).bind fun p22 =>
 match ckB (p22.2.ld1 v19) v20 with
 | true => (
 (indexAV 1 x9 p22.1).bind fun v23 =>
 (p22.2.st 1 v23 (.int .u64 (Int.tmod n21 20))).bind fun h24 =>
 some (.normal, (withyref13_Laid_c6_E x2 x3 x4 x9 (.int .i64 (wr .i64 (x14 + 1)))), h24))
 | false => none)
 | false => (
 (h.ldN 6 x4).bind fun v18 =>
 (indexAV 1 x2 (.int .i64 x14)).bind fun v19 =>
 (h.ld1 v19).bind fun v20 =>
 (asI .u64 v20).bind fun n21 =>
 (M.call 108 [v18, (.agg [(.str ⟨⟨[115, 116, 97, 114, 116]⟩⟩), (.int .i64 n10), (.int .i64 0)])] h).bind fun p22 =>
 match ckB (p22.2.ld1 v19) v20 with
 | true => (
 (indexAV 1 x9 p22.1).bind fun v23 =>
 (p22.2.st 1 v23 (.int .u64 (Int.tmod n21 20))).bind fun h24 =>
 some (.normal, (withyref13_Laid_c6_E x2 x3 x4 x9 (.int .i64 (wr .i64 (x14 + 1)))), h24))
 | false => none))
 | false => (
 some ((.exit 4), (withyref13_Laid_c6_O x3 x4 x9), h)))
 | false => (
 some ((.exit 4), (withyref13_Laid_c6_O x3 x4 x9), h))

def withyref13_Laid_c6_e4 (M : Env) (x3 : V) (x4 : V) (x9 : V) (h : H) : Option (V × H) :=
 (M.loop (withyref13_Laid_c8_B M) (withyref13_Laid_c8_E x3 x4 x9 (.int .i64 0)) h).bind fun p0 => withyref13_Laid_K11 M p0.1 p0.2.1 p0.2.2

def withyref13_Laid_c8_S (M : Env) (x3 : V) (x4 : V) (x9 : V) (x17 : Int) (h : H) : Option (AX × List V × H) :=
 (lenSl x3).bind fun n0 =>
 match (decide (x17 < ((n0 : Nat) : Int))) with
 | true => (
 (ptrAt x4 2).bind fun v1 =>
 (h.ld1 v1).bind fun v2 =>
 (asI .i64 v2).bind fun n3 =>
 match (decide (x17 < n3)) with
 | true => (
 (h.ldN 6 x4).bind fun v4 =>
 (indexAV 1 x3 (.int .i64 x17)).bind fun v5 =>
 (h.ld1 v5).bind fun v6 =>
 (M.call 108 [v4, (.agg [(.str ⟨⟨[118, 105, 101, 119]⟩⟩), (.int .i64 x17), (.int .i64 0)])] h).bind fun p7 =>
 match ckB (p7.2.ld1 v5) v6 with
 | true => (
 (indexAV 1 x9 p7.1).bind fun v8 =>
 (p7.2.st 1 v8 v6).bind fun h9 =>
 some (.normal, (withyref13_Laid_c8_E x3 x4 x9 (.int .i64 (wr .i64 (x17 + 1)))), h9))
 | false => none)
 | false => (
 some ((.exit 6), (withyref13_Laid_c8_O x4 x9), h)))
 | false => (
 some ((.exit 6), (withyref13_Laid_c8_O x4 x9), h))

def withyref13_Laid_c8_e6 (M : Env) (x4 : V) (x9 : V) (h : H) : Option (V × H) :=
 (h.ldN 6 x4).bind fun v0 =>
 (M.call 297 [v0, x9] h).bind fun p1 =>
 (asIAny p1.1).bind fun n2 =>
 (indexAV 1 x9 (.int .i64 2)).bind fun v3 =>
 (p1.2.st 1 v3 (.int .u64 (wr .u64 n2))).bind fun h4 =>
 some (x9, h4)

theorem withyref13_Laid_eq (M : Env) (a0_0 : Int) (a0_1 : Int) (a0_2 : Int) (a0_3 : Int) (a0_4 : Int) (a0_5 : Int) (a1 : V) (a2 : V) (a3 : V) (h : H) : evalF M F.withyref13_Laid [(.agg [(.int .i64 a0_0), (.int .i64 a0_1), (.int .i64 a0_2), (.int .i64 a0_3), (.int .i64 a0_4), (.int .i64 a0_5)]), a1, a2, a3] h = withyref13_Laid M a0_0 a0_1 a0_2 a0_3 a0_4 a0_5 a1 a2 a3 h := by kernel_rfl

theorem withyref13_Laid_c1_eq (M : Env) (x1 : V) (x2 : V) (x3 : V) (x4 : V) (x9 : V) (x10 : Int) (x11 : Int) (h : H) : withyref13_Laid_c1_B M (withyref13_Laid_c1_E x1 x2 x3 x4 x9 (.int .u64 x10) (.int .i64 x11)) h = withyref13_Laid_c1_S M x1 x2 x3 x4 x9 x10 x11 h := by kernel_rfl

theorem withyref13_Laid_c1_e0_eq (M : Env) (x2 : V) (x3 : V) (x4 : V) (x9 : V) (x10 : Int) (h : H) : withyref13_Laid_K2 M (.exit 0) (withyref13_Laid_c1_O x2 x3 x4 x9 (.int .u64 x10)) h = withyref13_Laid_c1_e0 M x2 x3 x4 x9 x10 h := by kernel_rfl

theorem withyref13_Laid_c4_eq (M : Env) (x1 : V) (x2 : V) (x3 : V) (x4 : V) (x9 : V) (x10 : Int) (x11 : Int) (x12 : V) (x13 : Int) (h : H) : withyref13_Laid_c4_B M (withyref13_Laid_c4_E x1 x2 x3 x4 x9 (.int .u64 x10) (.int .i64 x11) x12 (.int .i64 x13)) h = withyref13_Laid_c4_S M x1 x2 x3 x4 x9 x10 x11 x12 x13 h := by kernel_rfl

theorem withyref13_Laid_c4_e2_eq (M : Env) (x1 : V) (x2 : V) (x3 : V) (x4 : V) (x9 : V) (x10 : Int) (x11 : Int) (x12 : V) (h : H) : withyref13_Laid_K7 M (.exit 2) (withyref13_Laid_c4_O x1 x2 x3 x4 x9 (.int .u64 x10) (.int .i64 x11) x12) h = withyref13_Laid_c4_e2 M x1 x2 x3 x4 x9 x10 x11 x12 h := by kernel_rfl

theorem withyref13_Laid_c6_eq (M : Env) (x2 : V) (x3 : V) (x4 : V) (x9 : V) (x14 : Int) (h : H) : withyref13_Laid_c6_B M (withyref13_Laid_c6_E x2 x3 x4 x9 (.int .i64 x14)) h = withyref13_Laid_c6_S M x2 x3 x4 x9 x14 h := by kernel_rfl

theorem withyref13_Laid_c6_e4_eq (M : Env) (x3 : V) (x4 : V) (x9 : V) (h : H) : withyref13_Laid_K9 M (.exit 4) (withyref13_Laid_c6_O x3 x4 x9) h = withyref13_Laid_c6_e4 M x3 x4 x9 h := by kernel_rfl

theorem withyref13_Laid_c8_eq (M : Env) (x3 : V) (x4 : V) (x9 : V) (x17 : Int) (h : H) : withyref13_Laid_c8_B M (withyref13_Laid_c8_E x3 x4 x9 (.int .i64 x17)) h = withyref13_Laid_c8_S M x3 x4 x9 x17 h := by kernel_rfl

theorem withyref13_Laid_c8_e6_eq (M : Env) (x4 : V) (x9 : V) (h : H) : withyref13_Laid_K11 M (.exit 6) (withyref13_Laid_c8_O x4 x9) h = withyref13_Laid_c8_e6 M x4 x9 h := by kernel_rfl

end Wm.S
end

section
/- PRINTED by my tool (wip/wm/tool/Gen.lean): what a function comes to, stretch by stretch. -/
namespace Wm.S
open Wm
set_option maxRecDepth 100000
set_option linter.unusedVariables false

def withylaw14_heads_c1_B (M : Env) : List V → H → Option (AX × List V × H) :=
 fun env h => evalC M F.withylaw14_heads_c1 env h fun x env h => match x with
 | .normal => some (.normal, keepOf [1, 2, 5, 6] 0 env, h)
 | x => some (x, keepOf [5] 0 env, h)

def withylaw14_heads_c1_E (x1 x2 x5 x6 : V) : List V := dd 1 (x1 :: x2 :: dd 2 (x5 :: x6 :: dd 24 []))
def withylaw14_heads_c1_O (x5 : V) : List V := dd 5 (x5 :: dd 25 [])

def withylaw14_heads_K0 (M : Env) : AX → List V → H → Option (V × H) :=
 fun x env h => fin F.withylaw14_heads x env h

def withylaw14_heads_K1 (M : Env) : AX → List V → H → Option (V × H) :=
 fun x env h => match x with | .normal => evalC M F.withylaw14_heads_c0 env h (fun x env h => withylaw14_heads_K0 M x env h) | x => withylaw14_heads_K0 M x env h

def withylaw14_heads_K2 (M : Env) : AX → List V → H → Option (V × H) :=
 fun x env h => match x with | .exit j => (match Nat.beq j 0 with | true => withylaw14_heads_K1 M .normal env h | false => withylaw14_heads_K1 M (.exit j) env h) | x => withylaw14_heads_K1 M x env h

def withylaw14_heads (M : Env) (a0_0 : Int) (a0_1 : Int) (a0_2 : Int) (a0_3 : Int) (a0_4 : Int) (a0_5 : Int) (a1 : V) (h : H) : Option (V × H) :=
 let h0 := h.new (.cells [(.int .i64 a0_0), (.int .i64 a0_1), (.int .i64 a0_2), (.int .i64 a0_3), (.int .i64 a0_4), (.int .i64 a0_5)] .rw)
 (M.loop (withylaw14_heads_c1_B M) (withylaw14_heads_c1_E a1 (.ptr h.next 0) .nilsl (.int .i64 0)) h0).bind fun p1 => withylaw14_heads_K2 M p1.1 p1.2.1 p1.2.2

def withylaw14_heads_c1_S (M : Env) (x1 : V) (x2 : V) (x5 : V) (x6 : Int) (h : H) : Option (AX × List V × H) :=
 (ptrAt x2 0).bind fun v0 =>
 (h.ld1 v0).bind fun v1 =>
 (asI .i64 v1).bind fun n2 =>
 match (decide (x6 < n2)) with
 | true => (
 (h.ldN 6 x2).bind fun v3 =>
 (M.call 108 [v3, (.agg [(.str ⟨⟨[104, 101, 97, 100, 101, 114]⟩⟩), (.int .i64 x6), (.int .i64 0)])] h).bind fun p4 =>
 (indexAV 1 x1 p4.1).bind fun v5 =>
 (p4.2.ld1 v5).bind fun v6 =>
 (M.call 109 [v6] p4.2).bind fun p7 =>
 match p7.1 with
 | .tup vs8 => ((vs8[0]?).bind fun v9 =>
 match p7.1 with
 | .tup vs10 => ((vs10[1]?).bind fun v11 =>
 let h12 := p7.2.new (.cells [(.int .i64 0), (.int .i64 0), (.bool false), (.int .i64 0), (.int .i64 0), (.int .i64 0)] .rw)
 (h12.st 6 (.ptr p7.2.next 0) v9).bind fun h13 =>
 (h13.ldN 6 (.ptr p7.2.next 0)).bind fun v14 =>
 (fill (repl [(.int .i64 0), (.int .i64 0), (.bool false), (.int .i64 0), (.int .i64 0), (.int .i64 0)] 1) [] [(0, 6, .c v14)]).bind fun cs15 =>
 let h16 := h13.new (.cells cs15 .rw)
 (h16.append 6 48 x5 (.sl h13.next 0 1 (.ex 1))).bind fun p17 =>
 some (.normal, (withylaw14_heads_c1_E x1 x2 p17.1 (.int .i64 (wr .i64 (x6 + 1)))), p17.2))
 | _ => none)
 | _ => none)
 | false => (
 some ((.exit 0), (withylaw14_heads_c1_O x5), h))

def withylaw14_heads_c1_e0 (M : Env) (x5 : V) (h : H) : Option (V × H) :=
 some (x5, h)

theorem withylaw14_heads_eq (M : Env) (a0_0 : Int) (a0_1 : Int) (a0_2 : Int) (a0_3 : Int) (a0_4 : Int) (a0_5 : Int) (a1 : V) (h : H) : evalF M F.withylaw14_heads [(.agg [(.int .i64 a0_0), (.int .i64 a0_1), (.int .i64 a0_2), (.int .i64 a0_3), (.int .i64 a0_4), (.int .i64 a0_5)]), a1] h = withylaw14_heads M a0_0 a0_1 a0_2 a0_3 a0_4 a0_5 a1 h := by kernel_rfl

theorem withylaw14_heads_c1_eq (M : Env) (x1 : V) (x2 : V) (x5 : V) (x6 : Int) (h : H) : withylaw14_heads_c1_B M (withylaw14_heads_c1_E x1 x2 x5 (.int .i64 x6)) h = withylaw14_heads_c1_S M x1 x2 x5 x6 h := by kernel_rfl

theorem withylaw14_heads_c1_e0_eq (M : Env) (x5 : V) (h : H) : withylaw14_heads_K2 M (.exit 0) (withylaw14_heads_c1_O x5) h = withylaw14_heads_c1_e0 M x5 h := by kernel_rfl

end Wm.S
end

section
/- PRINTED by my tool (wip/wm/tool/Gen.lean): what a function comes to, stretch by stretch. -/
namespace Wm.S
open Wm
set_option maxRecDepth 100000
set_option linter.unusedVariables false

end Wm.S
end

section
/- PRINTED by my tool (wip/wm/tool/Gen.lean): what a function comes to, stretch by stretch. -/
namespace Wm.S
open Wm
set_option maxRecDepth 100000
set_option linter.unusedVariables false


end Wm.S
end

section
/- PRINTED by my tool (wip/wm/tool/Gen.lean): what a function comes to, stretch by stretch. -/
namespace Wm.S
open Wm
set_option maxRecDepth 100000
set_option linter.unusedVariables false

end Wm.S
end

section
/- PRINTED by my tool (wip/wm/tool/Gen.lean): what a function comes to, stretch by stretch. -/
namespace Wm.S
open Wm
set_option maxRecDepth 100000
set_option linter.unusedVariables false

def withylaw14_SweepBoth_c1_B (M : Env) : List V → H → Option (AX × List V × H) :=
 fun env h => evalC M F.withylaw14_SweepBoth_c1 env h fun x env h => match x with
 | .normal => some (.normal, keepOf [2, 3, 8, 11, 12, 13, 14] 0 env, h)
 | x => some (x, keepOf [3, 6, 8, 13] 0 env, h)

def withylaw14_SweepBoth_c1_E (x2 x3 x8 x11 x12 x13 x14 : V) : List V := dd 2 (x2 :: x3 :: dd 4 (x8 :: dd 2 (x11 :: x12 :: x13 :: x14 :: dd 147 [])))
def withylaw14_SweepBoth_c1_O (x3 x6 x8 x13 : V) : List V := dd 3 (x3 :: dd 2 (x6 :: dd 1 (x8 :: dd 4 (x13 :: dd 148 []))))

def withylaw14_SweepBoth_K0 (M : Env) : AX → List V → H → Option (V × H) :=
 fun x env h => fin F.withylaw14_SweepBoth x env h

def withylaw14_SweepBoth_K1 (M : Env) : AX → List V → H → Option (V × H) :=
 fun x env h => match x with | .normal => evalC M F.withylaw14_SweepBoth_c0 env h (fun x env h => withylaw14_SweepBoth_K0 M x env h) | x => withylaw14_SweepBoth_K0 M x env h

def withylaw14_SweepBoth_K2 (M : Env) : AX → List V → H → Option (V × H) :=
 fun x env h => match x with | .exit j => (match Nat.beq j 0 with | true => withylaw14_SweepBoth_K1 M .normal env h | false => withylaw14_SweepBoth_K1 M (.exit j) env h) | x => withylaw14_SweepBoth_K1 M x env h

def withylaw14_SweepBoth (M : Env) (a0_0 : Int) (a0_1 : Int) (a0_2 : Int) (a0_3 : Int) (a0_4 : Int) (a0_5 : Int) (a1 : V) (a2 : Int) (h : H) : Option (V × H) :=
 let h0 := h.new (.cells [(.int .i64 a0_0), (.int .i64 a0_1), (.int .i64 a0_2), (.int .i64 a0_3), (.int .i64 a0_4), (.int .i64 a0_5)] .rw)
 (h0.ldN 6 (.ptr h.next 0)).bind fun v1 =>
 (M.call 92 [v1] h0).bind fun p2 =>
 (p2.2.st 6 (.ptr h.next 0) p2.1).bind fun h3 =>
 (lenSl a1).bind fun n4 =>
 match (decide (20 < ((n4 : Nat) : Int))) with
 | true => (
 (lenSl a1).bind fun n5 =>
 match (decide (20 < ((n5 : Nat) : Int))) with
 | true => (
 (M.call 192 [] h3).bind fun p6 =>
 some (p6.1, p6.2))
 | false => (
 some ((.bool false), h3)))
 | false => (
 (M.call 192 [] h3).bind fun p5 =>
 (asB p5.1).bind fun b6 =>
 match (!b6) with
 | true => (
 (lenSl a1).bind fun n7 =>
 match (decide (20 < ((n7 : Nat) : Int))) with
 | true => (
 (M.call 192 [] p5.2).bind fun p8 =>
 some (p8.1, p8.2))
 | false => (
 some ((.bool false), p5.2)))
 | false => (
 (p5.2.ldN 6 (.ptr h.next 0)).bind fun v7 =>
 (M.call 121 [v7, a1, .nilsl, .nilsl] p5.2).bind fun p8 =>
 (M.call 198 [p8.1] p8.2).bind fun p9 =>
 (p9.2.ldN 6 (.ptr h.next 0)).bind fun v10 =>
 (p9.2.ldN 6 (.ptr h.next 0)).bind fun v11 =>
 (M.call 188 [v10, (.int .u64 a2)] p9.2).bind fun p12 =>
 match ckB (p12.2.ldN 6 (.ptr h.next 0)) v11 with
 | true => (
 (M.call 189 [v11] p12.2).bind fun p13 =>
 (eqV .ptr p9.1 .nilp).bind fun b14 =>
 match b14 with
 | true => (
 some ((.bool false), p13.2))
 | false => (
 (eqV .ptr p12.1 .nilp).bind fun b15 =>
 match b15 with
 | true => (
 some ((.bool false), p13.2))
 | false => (
 (eqV .ptr p13.1 .nilp).bind fun b16 =>
 match b16 with
 | true => (
 some ((.bool false), p13.2))
 | false => (
 (p13.2.ld1 (.ptr h.next 0)).bind fun v17 =>
 (asI .i64 v17).bind fun n18 =>
 (M.call 199 [(.ifc 206 p12.1), p9.1, (.int .i64 (wr .i64 (2 * n18)))] p13.2).bind fun p19 =>
 (asB p19.1).bind fun b20 =>
 match (!b20) with
 | true => (
 some ((.bool false), p19.2))
 | false => (
 (p19.2.ld1 (.ptr h.next 0)).bind fun v21 =>
 (asI .i64 v21).bind fun n22 =>
 (M.call 199 [(.ifc 207 p13.1), p9.1, (.int .i64 (wr .i64 (7 * n22)))] p19.2).bind fun p23 =>
 (asB p23.1).bind fun b24 =>
 match (!b24) with
 | true => (
 some ((.bool false), p23.2))
 | false => (
 (p23.2.ldN 6 (.ptr h.next 0)).bind fun v25 =>
 (p23.2.ldN 6 (.ptr h.next 0)).bind fun v26 =>
 (M.call 200 [v25, p8.1] p23.2).bind fun p27 =>
 match ckB (p27.2.ldN 6 (.ptr h.next 0)) v26 with
 | true => (
 (M.call 94 [p9.1] p27.2).bind fun p28 =>
 match ckB (p28.2.ldN 6 (.ptr h.next 0)) v26 with
 | true => (
 (M.call 200 [v26, p28.1] p28.2).bind fun p29 =>
 (M.loop (withylaw14_SweepBoth_c1_B M) (withylaw14_SweepBoth_c1_E (.int .u64 a2) (.ptr h.next 0) p9.1 p27.1 p29.1 (.int .i64 0) (.int .i64 0)) p29.2).bind fun p30 => withylaw14_SweepBoth_K2 M p30.1 p30.2.1 p30.2.2)
 | false => none)
 | false => none))))))
 | false => none))

def withylaw14_SweepBoth_c1_S (M : Env) (x2 : Int) (x3 : V) (x8 : V) (x11 : V) (x12 : V) (x13 : Int) (x14 : Int) (h : H) : Option (AX × List V × H) :=
 (ptrAt x3 0).bind fun v0 =>
 (h.ld1 v0).bind fun v1 =>
 (asI .i64 v1).bind fun n2 =>
 match (decide (x14 < n2)) with
 | true => (
 (indexAV 6 x11 (.int .i64 x14)).bind fun v3 =>
 (h.ldN 6 v3).bind fun v4 =>
 (M.call 111 [v4] h).bind fun p5 =>
 (M.call 113 [p5.1, (.int .u64 x2)] p5.2).bind fun p6 =>
 match p6.1 with
 | .bool true => (
 (indexAV 6 x12 (.int .i64 x14)).bind fun v7 =>
 (ptrAt v7 0).bind fun v8 =>
 (p6.2.ld1 v8).bind fun v9 =>
 (asI .i64 v9).bind fun n10 =>
 match (decide (n10 = 3)) with
 | true => (
 some (.ret, (withylaw14_SweepBoth_c1_O x3 (.bool false) x8 (.int .i64 x13)), p6.2))
 | false => (
 (indexAV 6 x12 (.int .i64 x14)).bind fun v11 =>
 (p6.2.ldN 6 v11).bind fun v12 =>
 (indexAV 6 x11 (.int .i64 x14)).bind fun v13 =>
 (p6.2.ldN 6 v13).bind fun v14 =>
 (eqV (.agg [(0, .int), (1, .int), (2, .bool), (3, .int), (4, .int), (5, .int)]) v12 v14).bind fun b15 =>
 match (!b15) with
 | true => (
 some (.ret, (withylaw14_SweepBoth_c1_O x3 (.bool false) x8 (.int .i64 x13)), p6.2))
 | false => (
 (indexAV 6 x12 (.int .i64 x14)).bind fun v16 =>
 (ptrAt v16 0).bind fun v17 =>
 (p6.2.ld1 v17).bind fun v18 =>
 (asI .i64 v18).bind fun n19 =>
 match (decide (n19 = 0)) with
 | true => (
 some (.normal, (withylaw14_SweepBoth_c1_E (.int .u64 x2) x3 x8 x11 x12 (.int .i64 (wr .i64 (x13 + 1))) (.int .i64 (wr .i64 (x14 + 1)))), p6.2))
 | false => (
 some (.normal, (withylaw14_SweepBoth_c1_E (.int .u64 x2) x3 x8 x11 x12 (.int .i64 x13) (.int .i64 (wr .i64 (x14 + 1)))), p6.2)))))
 | .bool false => (
 (indexAV 6 x11 (.int .i64 x14)).bind fun v7 =>
 (ptrAt v7 0).bind fun v8 =>
 (p6.2.ld1 v8).bind fun v9 =>
 (asI .i64 v9).bind fun n10 =>
 match (decide (n10 = 0)) with
 | true => (
 (indexAV 6 x12 (.int .i64 x14)).bind fun v11 =>
 (ptrAt v11 0).bind fun v12 =>
 (p6.2.ld1 v12).bind fun v13 =>
 (asI .i64 v13).bind fun n14 =>
 match (decide (n14 = 3)) with
 | true => (
 some (.ret, (withylaw14_SweepBoth_c1_O x3 (.bool false) x8 (.int .i64 x13)), p6.2))
 | false => (
 (indexAV 6 x12 (.int .i64 x14)).bind fun v15 =>
 (p6.2.ldN 6 v15).bind fun v16 =>
 (indexAV 6 x11 (.int .i64 x14)).bind fun v17 =>
 (p6.2.ldN 6 v17).bind fun v18 =>
 (eqV (.agg [(0, .int), (1, .int), (2, .bool), (3, .int), (4, .int), (5, .int)]) v16 v18).bind fun b19 =>
 match (!b19) with
 | true => (
 some (.ret, (withylaw14_SweepBoth_c1_O x3 (.bool false) x8 (.int .i64 x13)), p6.2))
 | false => (
 (indexAV 6 x12 (.int .i64 x14)).bind fun v20 =>
 (ptrAt v20 0).bind fun v21 =>
 (p6.2.ld1 v21).bind fun v22 =>
 (asI .i64 v22).bind fun n23 =>
 match (decide (n23 = 0)) with
 | true => (
 some (.normal, (withylaw14_SweepBoth_c1_E (.int .u64 x2) x3 x8 x11 x12 (.int .i64 (wr .i64 (x13 + 1))) (.int .i64 (wr .i64 (x14 + 1)))), p6.2))
 | false => (
 some (.normal, (withylaw14_SweepBoth_c1_E (.int .u64 x2) x3 x8 x11 x12 (.int .i64 x13) (.int .i64 (wr .i64 (x14 + 1)))), p6.2)))))
 | false => (
 (indexAV 6 x11 (.int .i64 x14)).bind fun v11 =>
 (ptrAt v11 0).bind fun v12 =>
 (p6.2.ld1 v12).bind fun v13 =>
 (asI .i64 v13).bind fun n14 =>
 (indexAV 6 x12 (.int .i64 x14)).bind fun v15 =>
 (ptrAt v15 0).bind fun v16 =>
 (p6.2.ld1 v16).bind fun v17 =>
 (asI .i64 v17).bind fun n18 =>
 match (decide (n18 = 3)) with
 | true => (
 some (.ret, (withylaw14_SweepBoth_c1_O x3 (.bool false) x8 (.int .i64 x13)), p6.2))
 | false => (
 match (decide (n14 = 4)) with
 | true => (
 (indexAV 6 x12 (.int .i64 x14)).bind fun v19 =>
 (p6.2.ldN 6 v19).bind fun v20 =>
 (indexAV 6 x11 (.int .i64 x14)).bind fun v21 =>
 (p6.2.ldN 6 v21).bind fun v22 =>
 (eqV (.agg [(0, .int), (1, .int), (2, .bool), (3, .int), (4, .int), (5, .int)]) v20 v22).bind fun b23 =>
 match (!b23) with
 | true => (
 some (.ret, (withylaw14_SweepBoth_c1_O x3 (.bool false) x8 (.int .i64 x13)), p6.2))
 | false => (
 match (!(decide (n14 = 4))) with
 | true => (
 (indexAV 6 x12 (.int .i64 x14)).bind fun v24 =>
 (ptrAt v24 0).bind fun v25 =>
 (p6.2.ld1 v25).bind fun v26 =>
 (asI .i64 v26).bind fun n27 =>
 match (!decide (n27 = 0)) with
 | true => (
 (indexAV 6 x12 (.int .i64 x14)).bind fun v28 =>
 (ptrAt v28 0).bind fun v29 =>
 (p6.2.ld1 v29).bind fun v30 =>
 (asI .i64 v30).bind fun n31 =>
 match (!decide (n31 = 4)) with
 | true => (
 some (.ret, (withylaw14_SweepBoth_c1_O x3 (.bool false) x8 (.int .i64 x13)), p6.2))
 | false => (
 (indexAV 6 x12 (.int .i64 x14)).bind fun v32 =>
 (ptrAt v32 0).bind fun v33 =>
 (p6.2.ld1 v33).bind fun v34 =>
 (asI .i64 v34).bind fun n35 =>
 match (decide (n35 = 0)) with
 | true => (
 some (.normal, (withylaw14_SweepBoth_c1_E (.int .u64 x2) x3 x8 x11 x12 (.int .i64 (wr .i64 (x13 + 1))) (.int .i64 (wr .i64 (x14 + 1)))), p6.2))
 | false => (
 some (.normal, (withylaw14_SweepBoth_c1_E (.int .u64 x2) x3 x8 x11 x12 (.int .i64 x13) (.int .i64 (wr .i64 (x14 + 1)))), p6.2))))
 | false => (
 (indexAV 6 x12 (.int .i64 x14)).bind fun v28 =>
 (ptrAt v28 0).bind fun v29 =>
 (p6.2.ld1 v29).bind fun v30 =>
 (asI .i64 v30).bind fun n31 =>
 match (decide (n31 = 0)) with
 | true => (
 some (.normal, (withylaw14_SweepBoth_c1_E (.int .u64 x2) x3 x8 x11 x12 (.int .i64 (wr .i64 (x13 + 1))) (.int .i64 (wr .i64 (x14 + 1)))), p6.2))
 | false => (
 some (.normal, (withylaw14_SweepBoth_c1_E (.int .u64 x2) x3 x8 x11 x12 (.int .i64 x13) (.int .i64 (wr .i64 (x14 + 1)))), p6.2))))
 | false => (
 (indexAV 6 x12 (.int .i64 x14)).bind fun v24 =>
 (ptrAt v24 0).bind fun v25 =>
 (p6.2.ld1 v25).bind fun v26 =>
 (asI .i64 v26).bind fun n27 =>
 match (decide (n27 = 0)) with
 | true => (
 some (.normal, (withylaw14_SweepBoth_c1_E (.int .u64 x2) x3 x8 x11 x12 (.int .i64 (wr .i64 (x13 + 1))) (.int .i64 (wr .i64 (x14 + 1)))), p6.2))
 | false => (
 some (.normal, (withylaw14_SweepBoth_c1_E (.int .u64 x2) x3 x8 x11 x12 (.int .i64 x13) (.int .i64 (wr .i64 (x14 + 1)))), p6.2)))))
 | false => (
 match (!(decide (n14 = 4))) with
 | true => (
 (indexAV 6 x12 (.int .i64 x14)).bind fun v19 =>
 (ptrAt v19 0).bind fun v20 =>
 (p6.2.ld1 v20).bind fun v21 =>
 (asI .i64 v21).bind fun n22 =>
 match (!decide (n22 = 0)) with
 | true => (
 (indexAV 6 x12 (.int .i64 x14)).bind fun v23 =>
 (ptrAt v23 0).bind fun v24 =>
 (p6.2.ld1 v24).bind fun v25 =>
 (asI .i64 v25).bind fun n26 =>
 match (!decide (n26 = 4)) with
 | true => (
 some (.ret, (withylaw14_SweepBoth_c1_O x3 (.bool false) x8 (.int .i64 x13)), p6.2))
 | false => (
 (indexAV 6 x12 (.int .i64 x14)).bind fun v27 =>
 (ptrAt v27 0).bind fun v28 =>
 (p6.2.ld1 v28).bind fun v29 =>
 (asI .i64 v29).bind fun n30 =>
 match (decide (n30 = 0)) with
 | true => (
 some (.normal, (withylaw14_SweepBoth_c1_E (.int .u64 x2) x3 x8 x11 x12 (.int .i64 (wr .i64 (x13 + 1))) (.int .i64 (wr .i64 (x14 + 1)))), p6.2))
 | false => (
 some (.normal, (withylaw14_SweepBoth_c1_E (.int .u64 x2) x3 x8 x11 x12 (.int .i64 x13) (.int .i64 (wr .i64 (x14 + 1)))), p6.2))))
 | false => (
 (indexAV 6 x12 (.int .i64 x14)).bind fun v23 =>
 (ptrAt v23 0).bind fun v24 =>
 (p6.2.ld1 v24).bind fun v25 =>
 (asI .i64 v25).bind fun n26 =>
 match (decide (n26 = 0)) with
 | true => (
 some (.normal, (withylaw14_SweepBoth_c1_E (.int .u64 x2) x3 x8 x11 x12 (.int .i64 (wr .i64 (x13 + 1))) (.int .i64 (wr .i64 (x14 + 1)))), p6.2))
 | false => (
 some (.normal, (withylaw14_SweepBoth_c1_E (.int .u64 x2) x3 x8 x11 x12 (.int .i64 x13) (.int .i64 (wr .i64 (x14 + 1)))), p6.2))))
 | false => (
 (indexAV 6 x12 (.int .i64 x14)).bind fun v19 =>
 (ptrAt v19 0).bind fun v20 =>
 (p6.2.ld1 v20).bind fun v21 =>
 (asI .i64 v21).bind fun n22 =>
 match (decide (n22 = 0)) with
 | true => (
 some (.normal, (withylaw14_SweepBoth_c1_E (.int .u64 x2) x3 x8 x11 x12 (.int .i64 (wr .i64 (x13 + 1))) (.int .i64 (wr .i64 (x14 + 1)))), p6.2))
 | false => (
 some (.normal, (withylaw14_SweepBoth_c1_E (.int .u64 x2) x3 x8 x11 x12 (.int .i64 x13) (.int .i64 (wr .i64 (x14 + 1)))), p6.2)))))))
 | .tup [] => (
 (asB p6.1).bind fun b7 =>
 match (match b7 with | true => (.bool true) | false => (.tup []) : V) with
 | .bool true => (
 (indexAV 6 x12 (.int .i64 x14)).bind fun v8 =>
 (ptrAt v8 0).bind fun v9 =>
 (p6.2.ld1 v9).bind fun v10 =>
 (asI .i64 v10).bind fun n11 =>
 match (decide (n11 = 3)) with
 | true => (
 some (.ret, (withylaw14_SweepBoth_c1_O x3 (.bool false) x8 (.int .i64 x13)), p6.2))
 | false => (
 (indexAV 6 x12 (.int .i64 x14)).bind fun v12 =>
 (p6.2.ldN 6 v12).bind fun v13 =>
 (indexAV 6 x11 (.int .i64 x14)).bind fun v14 =>
 (p6.2.ldN 6 v14).bind fun v15 =>
 (eqV (.agg [(0, .int), (1, .int), (2, .bool), (3, .int), (4, .int), (5, .int)]) v13 v15).bind fun b16 =>
 match (!b16) with
 | true => (
 some (.ret, (withylaw14_SweepBoth_c1_O x3 (.bool false) x8 (.int .i64 x13)), p6.2))
 | false => (
 (indexAV 6 x12 (.int .i64 x14)).bind fun v17 =>
 (ptrAt v17 0).bind fun v18 =>
 (p6.2.ld1 v18).bind fun v19 =>
 (asI .i64 v19).bind fun n20 =>
 match (decide (n20 = 0)) with
 | true => (
 some (.normal, (withylaw14_SweepBoth_c1_E (.int .u64 x2) x3 x8 x11 x12 (.int .i64 (wr .i64 (x13 + 1))) (.int .i64 (wr .i64 (x14 + 1)))), p6.2))
 | false => (
 some (.normal, (withylaw14_SweepBoth_c1_E (.int .u64 x2) x3 x8 x11 x12 (.int .i64 x13) (.int .i64 (wr .i64 (x14 + 1)))), p6.2)))))
 | .bool false => (
 (indexAV 6 x11 (.int .i64 x14)).bind fun v8 =>
 (ptrAt v8 0).bind fun v9 =>
 (p6.2.ld1 v9).bind fun v10 =>
 (asI .i64 v10).bind fun n11 =>
 (indexAV 6 x12 (.int .i64 x14)).bind fun v12 =>
 (ptrAt v12 0).bind fun v13 =>
 (p6.2.ld1 v13).bind fun v14 =>
 (asI .i64 v14).bind fun n15 =>
 match (decide (n15 = 3)) with
 | true => (
 some (.ret, (withylaw14_SweepBoth_c1_O x3 (.bool false) x8 (.int .i64 x13)), p6.2))
 | false => (
 match (decide (n11 = 4)) with
 | true => (
 (indexAV 6 x12 (.int .i64 x14)).bind fun v16 =>
 (p6.2.ldN 6 v16).bind fun v17 =>
 (indexAV 6 x11 (.int .i64 x14)).bind fun v18 =>
 (p6.2.ldN 6 v18).bind fun v19 =>
 (eqV (.agg [(0, .int), (1, .int), (2, .bool), (3, .int), (4, .int), (5, .int)]) v17 v19).bind fun b20 =>
 match (!b20) with
 | true => (
 some (.ret, (withylaw14_SweepBoth_c1_O x3 (.bool false) x8 (.int .i64 x13)), p6.2))
 | false => (
 match (!(decide (n11 = 4))) with
 | true => (
 (indexAV 6 x12 (.int .i64 x14)).bind fun v21 =>
 (ptrAt v21 0).bind fun v22 =>
 (p6.2.ld1 v22).bind fun v23 =>
 (asI .i64 v23).bind fun n24 =>
 match (!decide (n24 = 0)) with
 | true => (
 (indexAV 6 x12 (.int .i64 x14)).bind fun v25 =>
 (ptrAt v25 0).bind fun v26 =>
 (p6.2.ld1 v26).bind fun v27 =>
 (asI .i64 v27).bind fun n28 =>
 match (!decide (n28 = 4)) with
 | true => (
 some (.ret, (withylaw14_SweepBoth_c1_O x3 (.bool false) x8 (.int .i64 x13)), p6.2))
 | false => (
 (indexAV 6 x12 (.int .i64 x14)).bind fun v29 =>
 (ptrAt v29 0).bind fun v30 =>
 (p6.2.ld1 v30).bind fun v31 =>
 (asI .i64 v31).bind fun n32 =>
 match (decide (n32 = 0)) with
 | true => (
 some (.normal, (withylaw14_SweepBoth_c1_E (.int .u64 x2) x3 x8 x11 x12 (.int .i64 (wr .i64 (x13 + 1))) (.int .i64 (wr .i64 (x14 + 1)))), p6.2))
 | false => (
 some (.normal, (withylaw14_SweepBoth_c1_E (.int .u64 x2) x3 x8 x11 x12 (.int .i64 x13) (.int .i64 (wr .i64 (x14 + 1)))), p6.2))))
 | false => (
 (indexAV 6 x12 (.int .i64 x14)).bind fun v25 =>
 (ptrAt v25 0).bind fun v26 =>
 (p6.2.ld1 v26).bind fun v27 =>
 (asI .i64 v27).bind fun n28 =>
 match (decide (n28 = 0)) with
 | true => (
 some (.normal, (withylaw14_SweepBoth_c1_E (.int .u64 x2) x3 x8 x11 x12 (.int .i64 (wr .i64 (x13 + 1))) (.int .i64 (wr .i64 (x14 + 1)))), p6.2))
 | false => (
 some (.normal, (withylaw14_SweepBoth_c1_E (.int .u64 x2) x3 x8 x11 x12 (.int .i64 x13) (.int .i64 (wr .i64 (x14 + 1)))), p6.2))))
 | false => (
 (indexAV 6 x12 (.int .i64 x14)).bind fun v21 =>
 (ptrAt v21 0).bind fun v22 =>
 (p6.2.ld1 v22).bind fun v23 =>
 (asI .i64 v23).bind fun n24 =>
 match (decide (n24 = 0)) with
 | true => (
 some (.normal, (withylaw14_SweepBoth_c1_E (.int .u64 x2) x3 x8 x11 x12 (.int .i64 (wr .i64 (x13 + 1))) (.int .i64 (wr .i64 (x14 + 1)))), p6.2))
 | false => (
 some (.normal, (withylaw14_SweepBoth_c1_E (.int .u64 x2) x3 x8 x11 x12 (.int .i64 x13) (.int .i64 (wr .i64 (x14 + 1)))), p6.2)))))
 | false => (
 match (!(decide (n11 = 4))) with
 | true => (
 (indexAV 6 x12 (.int .i64 x14)).bind fun v16 =>
 (ptrAt v16 0).bind fun v17 =>
 (p6.2.ld1 v17).bind fun v18 =>
 (asI .i64 v18).bind fun n19 =>
 match (!decide (n19 = 0)) with
 | true => (
 (indexAV 6 x12 (.int .i64 x14)).bind fun v20 =>
 (ptrAt v20 0).bind fun v21 =>
 (p6.2.ld1 v21).bind fun v22 =>
 (asI .i64 v22).bind fun n23 =>
 match (!decide (n23 = 4)) with
 | true => (
 some (.ret, (withylaw14_SweepBoth_c1_O x3 (.bool false) x8 (.int .i64 x13)), p6.2))
 | false => (
 (indexAV 6 x12 (.int .i64 x14)).bind fun v24 =>
 (ptrAt v24 0).bind fun v25 =>
 (p6.2.ld1 v25).bind fun v26 =>
 (asI .i64 v26).bind fun n27 =>
 match (decide (n27 = 0)) with
 | true => (
 some (.normal, (withylaw14_SweepBoth_c1_E (.int .u64 x2) x3 x8 x11 x12 (.int .i64 (wr .i64 (x13 + 1))) (.int .i64 (wr .i64 (x14 + 1)))), p6.2))
 | false => (
 some (.normal, (withylaw14_SweepBoth_c1_E (.int .u64 x2) x3 x8 x11 x12 (.int .i64 x13) (.int .i64 (wr .i64 (x14 + 1)))), p6.2))))
 | false => (
 (indexAV 6 x12 (.int .i64 x14)).bind fun v20 =>
 (ptrAt v20 0).bind fun v21 =>
 (p6.2.ld1 v21).bind fun v22 =>
 (asI .i64 v22).bind fun n23 =>
 match (decide (n23 = 0)) with
 | true => (
 some (.normal, (withylaw14_SweepBoth_c1_E (.int .u64 x2) x3 x8 x11 x12 (.int .i64 (wr .i64 (x13 + 1))) (.int .i64 (wr .i64 (x14 + 1)))), p6.2))
 | false => (
 some (.normal, (withylaw14_SweepBoth_c1_E (.int .u64 x2) x3 x8 x11 x12 (.int .i64 x13) (.int .i64 (wr .i64 (x14 + 1)))), p6.2))))
 | false => (
 (indexAV 6 x12 (.int .i64 x14)).bind fun v16 =>
 (ptrAt v16 0).bind fun v17 =>
 (p6.2.ld1 v17).bind fun v18 =>
 (asI .i64 v18).bind fun n19 =>
 match (decide (n19 = 0)) with
 | true => (
 some (.normal, (withylaw14_SweepBoth_c1_E (.int .u64 x2) x3 x8 x11 x12 (.int .i64 (wr .i64 (x13 + 1))) (.int .i64 (wr .i64 (x14 + 1)))), p6.2))
 | false => (
 some (.normal, (withylaw14_SweepBoth_c1_E (.int .u64 x2) x3 x8 x11 x12 (.int .i64 x13) (.int .i64 (wr .i64 (x14 + 1)))), p6.2))))))
 | .tup [] => (
 (asB (match b7 with | true => (.bool true) | false => (.tup []) : V)).bind fun b8 =>
 (indexAV 6 x12 (.int .i64 x14)).bind fun v9 =>
 (ptrAt v9 0).bind fun v10 =>
 (p6.2.ld1 v10).bind fun v11 =>
 (asI .i64 v11).bind fun n12 =>
 match (decide (n12 = 3)) with
 | true => (
 some (.ret, (withylaw14_SweepBoth_c1_O x3 (.bool false) x8 (.int .i64 x13)), p6.2))
 | false => (
 match (match b8 with | true => (.bool true) | false => (.tup []) : V) with
 | .bool true => (
 (indexAV 6 x12 (.int .i64 x14)).bind fun v13 =>
 (p6.2.ldN 6 v13).bind fun v14 =>
 (indexAV 6 x11 (.int .i64 x14)).bind fun v15 =>
 (p6.2.ldN 6 v15).bind fun v16 =>
 (eqV (.agg [(0, .int), (1, .int), (2, .bool), (3, .int), (4, .int), (5, .int)]) v14 v16).bind fun b17 =>
 match (!b17) with
 | true => (
 some (.ret, (withylaw14_SweepBoth_c1_O x3 (.bool false) x8 (.int .i64 x13)), p6.2))
 | false => (
 (asB (match b8 with | true => (.bool true) | false => (.tup []) : V)).bind fun b18 =>
 match (!b18) with
 | true => (
 (indexAV 6 x12 (.int .i64 x14)).bind fun v19 =>
 (ptrAt v19 0).bind fun v20 =>
 (p6.2.ld1 v20).bind fun v21 =>
 (asI .i64 v21).bind fun n22 =>
 match (!decide (n22 = 0)) with
 | true => (
 (indexAV 6 x12 (.int .i64 x14)).bind fun v23 =>
 (ptrAt v23 0).bind fun v24 =>
 (p6.2.ld1 v24).bind fun v25 =>
 (asI .i64 v25).bind fun n26 =>
 match (!decide (n26 = 4)) with
 | true => (
 some (.ret, (withylaw14_SweepBoth_c1_O x3 (.bool false) x8 (.int .i64 x13)), p6.2))
 | false => (
 (indexAV 6 x12 (.int .i64 x14)).bind fun v27 =>
 (ptrAt v27 0).bind fun v28 =>
 (p6.2.ld1 v28).bind fun v29 =>
 (asI .i64 v29).bind fun n30 =>
 match (decide (n30 = 0)) with
 | true => (
 some (.normal, (withylaw14_SweepBoth_c1_E (.int .u64 x2) x3 x8 x11 x12 (.int .i64 (wr .i64 (x13 + 1))) (.int .i64 (wr .i64 (x14 + 1)))), p6.2))
 | false => (
 some (.normal, (withylaw14_SweepBoth_c1_E (.int .u64 x2) x3 x8 x11 x12 (.int .i64 x13) (.int .i64 (wr .i64 (x14 + 1)))), p6.2))))
 | false => (
 (indexAV 6 x12 (.int .i64 x14)).bind fun v23 =>
 (ptrAt v23 0).bind fun v24 =>
 (p6.2.ld1 v24).bind fun v25 =>
 (asI .i64 v25).bind fun n26 =>
 match (decide (n26 = 0)) with
 | true => (
 some (.normal, (withylaw14_SweepBoth_c1_E (.int .u64 x2) x3 x8 x11 x12 (.int .i64 (wr .i64 (x13 + 1))) (.int .i64 (wr .i64 (x14 + 1)))), p6.2))
 | false => (
 some (.normal, (withylaw14_SweepBoth_c1_E (.int .u64 x2) x3 x8 x11 x12 (.int .i64 x13) (.int .i64 (wr .i64 (x14 + 1)))), p6.2))))
 | false => (
 (indexAV 6 x12 (.int .i64 x14)).bind fun v19 =>
 (ptrAt v19 0).bind fun v20 =>
 (p6.2.ld1 v20).bind fun v21 =>
 (asI .i64 v21).bind fun n22 =>
 match (decide (n22 = 0)) with
 | true => (
 some (.normal, (withylaw14_SweepBoth_c1_E (.int .u64 x2) x3 x8 x11 x12 (.int .i64 (wr .i64 (x13 + 1))) (.int .i64 (wr .i64 (x14 + 1)))), p6.2))
 | false => (
 some (.normal, (withylaw14_SweepBoth_c1_E (.int .u64 x2) x3 x8 x11 x12 (.int .i64 x13) (.int .i64 (wr .i64 (x14 + 1)))), p6.2)))))
 | .bool false => (
 (asB (match b8 with | true => (.bool true) | false => (.tup []) : V)).bind fun b13 =>
 match (!b13) with
 | true => (
 (indexAV 6 x12 (.int .i64 x14)).bind fun v14 =>
 (ptrAt v14 0).bind fun v15 =>
 (p6.2.ld1 v15).bind fun v16 =>
 (asI .i64 v16).bind fun n17 =>
 match (!decide (n17 = 0)) with
 | true => (
 (indexAV 6 x12 (.int .i64 x14)).bind fun v18 =>
 (ptrAt v18 0).bind fun v19 =>
 (p6.2.ld1 v19).bind fun v20 =>
 (asI .i64 v20).bind fun n21 =>
 match (!decide (n21 = 4)) with
 | true => (
 some (.ret, (withylaw14_SweepBoth_c1_O x3 (.bool false) x8 (.int .i64 x13)), p6.2))
 | false => (
 (indexAV 6 x12 (.int .i64 x14)).bind fun v22 =>
 (ptrAt v22 0).bind fun v23 =>
 (p6.2.ld1 v23).bind fun v24 =>
 (asI .i64 v24).bind fun n25 =>
 match (decide (n25 = 0)) with
 | true => (
 some (.normal, (withylaw14_SweepBoth_c1_E (.int .u64 x2) x3 x8 x11 x12 (.int .i64 (wr .i64 (x13 + 1))) (.int .i64 (wr .i64 (x14 + 1)))), p6.2))
 | false => (
 some (.normal, (withylaw14_SweepBoth_c1_E (.int .u64 x2) x3 x8 x11 x12 (.int .i64 x13) (.int .i64 (wr .i64 (x14 + 1)))), p6.2))))
 | false => (
 (indexAV 6 x12 (.int .i64 x14)).bind fun v18 =>
 (ptrAt v18 0).bind fun v19 =>
 (p6.2.ld1 v19).bind fun v20 =>
 (asI .i64 v20).bind fun n21 =>
 match (decide (n21 = 0)) with
 | true => (
 some (.normal, (withylaw14_SweepBoth_c1_E (.int .u64 x2) x3 x8 x11 x12 (.int .i64 (wr .i64 (x13 + 1))) (.int .i64 (wr .i64 (x14 + 1)))), p6.2))
 | false => (
 some (.normal, (withylaw14_SweepBoth_c1_E (.int .u64 x2) x3 x8 x11 x12 (.int .i64 x13) (.int .i64 (wr .i64 (x14 + 1)))), p6.2))))
 | false => (
 (indexAV 6 x12 (.int .i64 x14)).bind fun v14 =>
 (ptrAt v14 0).bind fun v15 =>
 (p6.2.ld1 v15).bind fun v16 =>
 (asI .i64 v16).bind fun n17 =>
 match (decide (n17 = 0)) with
 | true => (
 some (.normal, (withylaw14_SweepBoth_c1_E (.int .u64 x2) x3 x8 x11 x12 (.int .i64 (wr .i64 (x13 + 1))) (.int .i64 (wr .i64 (x14 + 1)))), p6.2))
 | false => (
 some (.normal, (withylaw14_SweepBoth_c1_E (.int .u64 x2) x3 x8 x11 x12 (.int .i64 x13) (.int .i64 (wr .i64 (x14 + 1)))), p6.2))))
 | .tup [] => (
 (asB (match b8 with | true => (.bool true) | false => (.tup []) : V)).bind fun b13 =>
 match (match b13 with | true => (.tup []) | false => (.bool false) : V) with
 | .bool true => (
 some (.ret, (withylaw14_SweepBoth_c1_O x3 (.bool false) x8 (.int .i64 x13)), p6.2))
 | .bool false => (
 (asB (match b8 with | true => (.bool true) | false => (.tup []) : V)).bind fun b14 =>
 match (!b14) with
 | true => (
 (indexAV 6 x12 (.int .i64 x14)).bind fun v15 =>
 (ptrAt v15 0).bind fun v16 =>
 (p6.2.ld1 v16).bind fun v17 =>
 (asI .i64 v17).bind fun n18 =>
 match (!decide (n18 = 0)) with
 | true => (
 (indexAV 6 x12 (.int .i64 x14)).bind fun v19 =>
 (ptrAt v19 0).bind fun v20 =>
 (p6.2.ld1 v20).bind fun v21 =>
 (asI .i64 v21).bind fun n22 =>
 match (!decide (n22 = 4)) with
 | true => (
 some (.ret, (withylaw14_SweepBoth_c1_O x3 (.bool false) x8 (.int .i64 x13)), p6.2))
 | false => (
 (indexAV 6 x12 (.int .i64 x14)).bind fun v23 =>
 (ptrAt v23 0).bind fun v24 =>
 (p6.2.ld1 v24).bind fun v25 =>
 (asI .i64 v25).bind fun n26 =>
 match (decide (n26 = 0)) with
 | true => (
 some (.normal, (withylaw14_SweepBoth_c1_E (.int .u64 x2) x3 x8 x11 x12 (.int .i64 (wr .i64 (x13 + 1))) (.int .i64 (wr .i64 (x14 + 1)))), p6.2))
 | false => (
 some (.normal, (withylaw14_SweepBoth_c1_E (.int .u64 x2) x3 x8 x11 x12 (.int .i64 x13) (.int .i64 (wr .i64 (x14 + 1)))), p6.2))))
 | false => (
 (indexAV 6 x12 (.int .i64 x14)).bind fun v19 =>
 (ptrAt v19 0).bind fun v20 =>
 (p6.2.ld1 v20).bind fun v21 =>
 (asI .i64 v21).bind fun n22 =>
 match (decide (n22 = 0)) with
 | true => (
 some (.normal, (withylaw14_SweepBoth_c1_E (.int .u64 x2) x3 x8 x11 x12 (.int .i64 (wr .i64 (x13 + 1))) (.int .i64 (wr .i64 (x14 + 1)))), p6.2))
 | false => (
 some (.normal, (withylaw14_SweepBoth_c1_E (.int .u64 x2) x3 x8 x11 x12 (.int .i64 x13) (.int .i64 (wr .i64 (x14 + 1)))), p6.2))))
 | false => (
 (indexAV 6 x12 (.int .i64 x14)).bind fun v15 =>
 (ptrAt v15 0).bind fun v16 =>
 (p6.2.ld1 v16).bind fun v17 =>
 (asI .i64 v17).bind fun n18 =>
 match (decide (n18 = 0)) with
 | true => (
 some (.normal, (withylaw14_SweepBoth_c1_E (.int .u64 x2) x3 x8 x11 x12 (.int .i64 (wr .i64 (x13 + 1))) (.int .i64 (wr .i64 (x14 + 1)))), p6.2))
 | false => (
 some (.normal, (withylaw14_SweepBoth_c1_E (.int .u64 x2) x3 x8 x11 x12 (.int .i64 x13) (.int .i64 (wr .i64 (x14 + 1)))), p6.2))))
 | .tup [] => (
 match (match b13 with | true => (.tup []) | false => (.bool false) : V) with
 | .bool true => (
 some (.ret, (withylaw14_SweepBoth_c1_O x3 (.bool false) x8 (.int .i64 x13)), p6.2))
 | .bool false => (
 none)
 | .tup [] => (
 match (match b13 with | true => (.tup []) | false => (.bool false) : V) with
 | .bool true => (
 some (.ret, (withylaw14_SweepBoth_c1_O x3 (.bool false) x8 (.int .i64 x13)), p6.2))
 | .bool false => (
 none)
 | .tup [] => (
 (asB (match b13 with | true => (.tup []) | false => (.bool false) : V)).bind fun b14 =>
 (asB (match b14 with | true => (.bool true) | false => (.tup []) : V)).bind fun b15 =>
 match b15 with
 | true => (
 some (.ret, (withylaw14_SweepBoth_c1_O x3 (.bool false) x8 (.int .i64 x13)), p6.2))
 | false => (
 (indexAV 6 x12 (.int .i64 x14)).bind fun v16 =>
 (ptrAt v16 0).bind fun v17 =>
 (p6.2.ld1 v17).bind fun v18 =>
 (asI .i64 v18).bind fun n19 =>
 match (decide (n19 = 0)) with
 | true => (
 some (.normal, (withylaw14_SweepBoth_c1_E (.int .u64 x2) x3 x8 x11 x12 (.int .i64 (wr .i64 (x13 + 1))) (.int .i64 (wr .i64 (x14 + 1)))), p6.2))
 | false => (
 some (.normal, (withylaw14_SweepBoth_c1_E (.int .u64 x2) x3 x8 x11 x12 (.int .i64 x13) (.int .i64 (wr .i64 (x14 + 1)))), p6.2))))
 | _ => none)
 | _ => none)
 | _ => none)
 | _ => none))
 | _ => none)
 | _ => none)
 | false => (
 some ((.exit 0), (withylaw14_SweepBoth_c1_O x3 .dead x8 (.int .i64 x13)), h))

def withylaw14_SweepBoth_c1_e0 (M : Env) (x3 : V) (x6 : V) (x8 : V) (x13 : Int) (h : H) : Option (V × H) :=
 (h.ldN 6 x3).bind fun v0 =>
 (M.call 94 [x8] h).bind fun p1 =>
 match ckB (p1.2.ldN 6 x3) v0 with
 | true => (
 (M.call 143 [v0, p1.1] p1.2).bind fun p2 =>
 (lenSl p2.1).bind fun n3 =>
 some ((.bool (decide (((n3 : Nat) : Int) = x13))), p2.2))
 | false => none

theorem withylaw14_SweepBoth_eq (M : Env) (a0_0 : Int) (a0_1 : Int) (a0_2 : Int) (a0_3 : Int) (a0_4 : Int) (a0_5 : Int) (a1 : V) (a2 : Int) (h : H) : evalF M F.withylaw14_SweepBoth [(.agg [(.int .i64 a0_0), (.int .i64 a0_1), (.int .i64 a0_2), (.int .i64 a0_3), (.int .i64 a0_4), (.int .i64 a0_5)]), a1, (.int .u64 a2)] h = withylaw14_SweepBoth M a0_0 a0_1 a0_2 a0_3 a0_4 a0_5 a1 a2 h := by kernel_rfl

theorem withylaw14_SweepBoth_c1_eq (M : Env) (x2 : Int) (x3 : V) (x8 : V) (x11 : V) (x12 : V) (x13 : Int) (x14 : Int) (h : H) : withylaw14_SweepBoth_c1_B M (withylaw14_SweepBoth_c1_E (.int .u64 x2) x3 x8 x11 x12 (.int .i64 x13) (.int .i64 x14)) h = withylaw14_SweepBoth_c1_S M x2 x3 x8 x11 x12 x13 x14 h := by kernel_rfl

theorem withylaw14_SweepBoth_c1_e0_eq (M : Env) (x3 : V) (x6 : V) (x8 : V) (x13 : Int) (h : H) : withylaw14_SweepBoth_K2 M (.exit 0) (withylaw14_SweepBoth_c1_O x3 x6 x8 (.int .i64 x13)) h = withylaw14_SweepBoth_c1_e0 M x3 x6 x8 x13 h := by kernel_rfl

end Wm.S
end

