/- PRINTED by my tool: what functions come to, stretch by stretch. -/
import Derived.KernelRfl
import Derived.Test.YthkimcdeejjmbaaWmShal
import Derived.Test.YthkimcdeejjmbaaWmFnsLinFrontsA
set_option linter.all false
section
open Wm
namespace Wm.S
def dd : Nat → List V → List V
  | 0, l => l
  | n + 1, l => .dead :: dd n l
end Wm.S

end
section
namespace Wm.S
open Wm
set_option maxRecDepth 100000
set_option linter.unusedVariables false


def plan_between (M : Env) (a0 : Int) (a1 : Int) (a2 : Int) (h : H) : Option (V × H) :=
 match (decide (a1 ≤ a0)) with
 | true => (
 some ((.bool (decide (a0 ≤ a2))), h))
 | false => (
 some ((.bool false), h))

theorem plan_between_eq (M : Env) (a0 : Int) (a1 : Int) (a2 : Int) (h : H) : evalF M F.plan_between [(.int .i64 a0), (.int .i64 a1), (.int .i64 a2)] h = plan_between M a0 a1 a2 h := by kernel_rfl

end Wm.S
end

section
namespace Wm.S
open Wm
set_option maxRecDepth 100000
set_option linter.unusedVariables false


def plan_Right (M : Env) (a0_0 : Int) (a0_1 : Int) (a0_2 : Int) (a0_3 : Int) (a0_4 : Int) (a0_5 : Int) (h : H) : Option (V × H) :=
 let h0 := h.new (.cells [(.int .i64 a0_0), (.int .i64 a0_1), (.int .i64 a0_2), (.int .i64 a0_3), (.int .i64 a0_4), (.int .i64 a0_5)] .rw)
 (h0.ld1 (.ptr h.next 0)).bind fun v1 =>
 (M.call 376 [v1, (.int .i64 1), (.int .i64 64)] h0).bind fun p2 =>
 match p2.1 with
 | .bool true => (
 (p2.2.ld1 (.ptr h.next 1)).bind fun v3 =>
 (M.call 376 [v3, (.int .i64 0), (.int .i64 8)] p2.2).bind fun p4 =>
 match p4.1 with
 | .bool true => (
 (p4.2.ld1 (.ptr h.next 2)).bind fun v5 =>
 (M.call 376 [v5, (.int .i64 1), (.int .i64 8)] p4.2).bind fun p6 =>
 match p6.1 with
 | .bool true => (
 (p6.2.ld1 (.ptr h.next 3)).bind fun v7 =>
 (M.call 376 [v7, (.int .i64 1), (.int .i64 16)] p6.2).bind fun p8 =>
 match p8.1 with
 | .bool true => (
 (p8.2.ld1 (.ptr h.next 4)).bind fun v9 =>
 (M.call 376 [v9, (.int .i64 1), (.int .i64 1048576)] p8.2).bind fun p10 =>
 match p10.1 with
 | .bool true => (
 (p10.2.ld1 (.ptr h.next 5)).bind fun v11 =>
 (M.call 376 [v11, (.int .i64 0), (.int .i64 64)] p10.2).bind fun p12 =>
 some (p12.1, p12.2))
 | .bool false => (
 some ((.bool false), p10.2))
 | .tup [] => (
 (asB p10.1).bind fun b11 =>
 some ((match b11 with | true => (.tup []) | false => (.bool false) : V), p10.2))
 | _ => none)
 | .bool false => (
 some ((.bool false), p8.2))
 | .tup [] => (
 (asB p8.1).bind fun b9 =>
 match (match b9 with | true => (.tup []) | false => (.bool false) : V) with
 | .bool true => (
 (p8.2.ld1 (.ptr h.next 5)).bind fun v10 =>
 (M.call 376 [v10, (.int .i64 0), (.int .i64 64)] p8.2).bind fun p11 =>
 some (p11.1, p11.2))
 | .bool false => (
 some ((.bool false), p8.2))
 | .tup [] => (
 (asB (match b9 with | true => (.tup []) | false => (.bool false) : V)).bind fun b10 =>
 some ((match b10 with | true => (.tup []) | false => (.bool false) : V), p8.2))
 | _ => none)
 | _ => none)
 | .bool false => (
 some ((.bool false), p6.2))
 | .tup [] => (
 (asB p6.1).bind fun b7 =>
 match (match b7 with | true => (.tup []) | false => (.bool false) : V) with
 | .bool true => (
 (p6.2.ld1 (.ptr h.next 4)).bind fun v8 =>
 (M.call 376 [v8, (.int .i64 1), (.int .i64 1048576)] p6.2).bind fun p9 =>
 match p9.1 with
 | .bool true => (
 (p9.2.ld1 (.ptr h.next 5)).bind fun v10 =>
 (M.call 376 [v10, (.int .i64 0), (.int .i64 64)] p9.2).bind fun p11 =>
 some (p11.1, p11.2))
 | .bool false => (
 some ((.bool false), p9.2))
 | .tup [] => (
 (asB p9.1).bind fun b10 =>
 some ((match b10 with | true => (.tup []) | false => (.bool false) : V), p9.2))
 | _ => none)
 | .bool false => (
 some ((.bool false), p6.2))
 | .tup [] => (
 (asB (match b7 with | true => (.tup []) | false => (.bool false) : V)).bind fun b8 =>
 match (match b8 with | true => (.tup []) | false => (.bool false) : V) with
 | .bool true => (
 (p6.2.ld1 (.ptr h.next 5)).bind fun v9 =>
 (M.call 376 [v9, (.int .i64 0), (.int .i64 64)] p6.2).bind fun p10 =>
 some (p10.1, p10.2))
 | .bool false => (
 some ((.bool false), p6.2))
 | .tup [] => (
 (asB (match b8 with | true => (.tup []) | false => (.bool false) : V)).bind fun b9 =>
 some ((match b9 with | true => (.tup []) | false => (.bool false) : V), p6.2))
 | _ => none)
 | _ => none)
 | _ => none)
 | .bool false => (
 some ((.bool false), p4.2))
 | .tup [] => (
 (asB p4.1).bind fun b5 =>
 match (match b5 with | true => (.tup []) | false => (.bool false) : V) with
 | .bool true => (
 (p4.2.ld1 (.ptr h.next 3)).bind fun v6 =>
 (M.call 376 [v6, (.int .i64 1), (.int .i64 16)] p4.2).bind fun p7 =>
 match p7.1 with
 | .bool true => (
 (p7.2.ld1 (.ptr h.next 4)).bind fun v8 =>
 (M.call 376 [v8, (.int .i64 1), (.int .i64 1048576)] p7.2).bind fun p9 =>
 match p9.1 with
 | .bool true => (
 (p9.2.ld1 (.ptr h.next 5)).bind fun v10 =>
 (M.call 376 [v10, (.int .i64 0), (.int .i64 64)] p9.2).bind fun p11 =>
 some (p11.1, p11.2))
 | .bool false => (
 some ((.bool false), p9.2))
 | .tup [] => (
 (asB p9.1).bind fun b10 =>
 some ((match b10 with | true => (.tup []) | false => (.bool false) : V), p9.2))
 | _ => none)
 | .bool false => (
 some ((.bool false), p7.2))
 | .tup [] => (
 (asB p7.1).bind fun b8 =>
 match (match b8 with | true => (.tup []) | false => (.bool false) : V) with
 | .bool true => (
 (p7.2.ld1 (.ptr h.next 5)).bind fun v9 =>
 (M.call 376 [v9, (.int .i64 0), (.int .i64 64)] p7.2).bind fun p10 =>
 some (p10.1, p10.2))
 | .bool false => (
 some ((.bool false), p7.2))
 | .tup [] => (
 (asB (match b8 with | true => (.tup []) | false => (.bool false) : V)).bind fun b9 =>
 some ((match b9 with | true => (.tup []) | false => (.bool false) : V), p7.2))
 | _ => none)
 | _ => none)
 | .bool false => (
 some ((.bool false), p4.2))
 | .tup [] => (
 (asB (match b5 with | true => (.tup []) | false => (.bool false) : V)).bind fun b6 =>
 match (match b6 with | true => (.tup []) | false => (.bool false) : V) with
 | .bool true => (
 (p4.2.ld1 (.ptr h.next 4)).bind fun v7 =>
 (M.call 376 [v7, (.int .i64 1), (.int .i64 1048576)] p4.2).bind fun p8 =>
 match p8.1 with
 | .bool true => (
 (p8.2.ld1 (.ptr h.next 5)).bind fun v9 =>
 (M.call 376 [v9, (.int .i64 0), (.int .i64 64)] p8.2).bind fun p10 =>
 some (p10.1, p10.2))
 | .bool false => (
 some ((.bool false), p8.2))
 | .tup [] => (
 (asB p8.1).bind fun b9 =>
 some ((match b9 with | true => (.tup []) | false => (.bool false) : V), p8.2))
 | _ => none)
 | .bool false => (
 some ((.bool false), p4.2))
 | .tup [] => (
 (asB (match b6 with | true => (.tup []) | false => (.bool false) : V)).bind fun b7 =>
 match (match b7 with | true => (.tup []) | false => (.bool false) : V) with
 | .bool true => (
 (p4.2.ld1 (.ptr h.next 5)).bind fun v8 =>
 (M.call 376 [v8, (.int .i64 0), (.int .i64 64)] p4.2).bind fun p9 =>
 some (p9.1, p9.2))
 | .bool false => (
 some ((.bool false), p4.2))
 | .tup [] => (
 (asB (match b7 with | true => (.tup []) | false => (.bool false) : V)).bind fun b8 =>
 some ((match b8 with | true => (.tup []) | false => (.bool false) : V), p4.2))
 | _ => none)
 | _ => none)
 | _ => none)
 | _ => none)
 | .bool false => (
 some ((.bool false), p2.2))
 | .tup [] => (
 (asB p2.1).bind fun b3 =>
 match (match b3 with | true => (.tup []) | false => (.bool false) : V) with
 | .bool true => (
 (p2.2.ld1 (.ptr h.next 2)).bind fun v4 =>
 (M.call 376 [v4, (.int .i64 1), (.int .i64 8)] p2.2).bind fun p5 =>
 match p5.1 with
 | .bool true => (
 (p5.2.ld1 (.ptr h.next 3)).bind fun v6 =>
 (M.call 376 [v6, (.int .i64 1), (.int .i64 16)] p5.2).bind fun p7 =>
 match p7.1 with
 | .bool true => (
 (p7.2.ld1 (.ptr h.next 4)).bind fun v8 =>
 (M.call 376 [v8, (.int .i64 1), (.int .i64 1048576)] p7.2).bind fun p9 =>
 match p9.1 with
 | .bool true => (
 (p9.2.ld1 (.ptr h.next 5)).bind fun v10 =>
 (M.call 376 [v10, (.int .i64 0), (.int .i64 64)] p9.2).bind fun p11 =>
 some (p11.1, p11.2))
 | .bool false => (
 some ((.bool false), p9.2))
 | .tup [] => (
 (asB p9.1).bind fun b10 =>
 some ((match b10 with | true => (.tup []) | false => (.bool false) : V), p9.2))
 | _ => none)
 | .bool false => (
 some ((.bool false), p7.2))
 | .tup [] => (
 (asB p7.1).bind fun b8 =>
 match (match b8 with | true => (.tup []) | false => (.bool false) : V) with
 | .bool true => (
 (p7.2.ld1 (.ptr h.next 5)).bind fun v9 =>
 (M.call 376 [v9, (.int .i64 0), (.int .i64 64)] p7.2).bind fun p10 =>
 some (p10.1, p10.2))
 | .bool false => (
 some ((.bool false), p7.2))
 | .tup [] => (
 (asB (match b8 with | true => (.tup []) | false => (.bool false) : V)).bind fun b9 =>
 some ((match b9 with | true => (.tup []) | false => (.bool false) : V), p7.2))
 | _ => none)
 | _ => none)
 | .bool false => (
 some ((.bool false), p5.2))
 | .tup [] => (
 (asB p5.1).bind fun b6 =>
 match (match b6 with | true => (.tup []) | false => (.bool false) : V) with
 | .bool true => (
 (p5.2.ld1 (.ptr h.next 4)).bind fun v7 =>
 (M.call 376 [v7, (.int .i64 1), (.int .i64 1048576)] p5.2).bind fun p8 =>
 match p8.1 with
 | .bool true => (
 (p8.2.ld1 (.ptr h.next 5)).bind fun v9 =>
 (M.call 376 [v9, (.int .i64 0), (.int .i64 64)] p8.2).bind fun p10 =>
 some (p10.1, p10.2))
 | .bool false => (
 some ((.bool false), p8.2))
 | .tup [] => (
 (asB p8.1).bind fun b9 =>
 some ((match b9 with | true => (.tup []) | false => (.bool false) : V), p8.2))
 | _ => none)
 | .bool false => (
 some ((.bool false), p5.2))
 | .tup [] => (
 (asB (match b6 with | true => (.tup []) | false => (.bool false) : V)).bind fun b7 =>
 match (match b7 with | true => (.tup []) | false => (.bool false) : V) with
 | .bool true => (
 (p5.2.ld1 (.ptr h.next 5)).bind fun v8 =>
 (M.call 376 [v8, (.int .i64 0), (.int .i64 64)] p5.2).bind fun p9 =>
 some (p9.1, p9.2))
 | .bool false => (
 some ((.bool false), p5.2))
 | .tup [] => (
 (asB (match b7 with | true => (.tup []) | false => (.bool false) : V)).bind fun b8 =>
 some ((match b8 with | true => (.tup []) | false => (.bool false) : V), p5.2))
 | _ => none)
 | _ => none)
 | _ => none)
 | .bool false => (
 some ((.bool false), p2.2))
 | .tup [] => (
 (asB (match b3 with | true => (.tup []) | false => (.bool false) : V)).bind fun b4 =>
 match (match b4 with | true => (.tup []) | false => (.bool false) : V) with
 | .bool true => (
 (p2.2.ld1 (.ptr h.next 3)).bind fun v5 =>
 (M.call 376 [v5, (.int .i64 1), (.int .i64 16)] p2.2).bind fun p6 =>
 match p6.1 with
 | .bool true => (
 (p6.2.ld1 (.ptr h.next 4)).bind fun v7 =>
 (M.call 376 [v7, (.int .i64 1), (.int .i64 1048576)] p6.2).bind fun p8 =>
 match p8.1 with
 | .bool true => (
 (p8.2.ld1 (.ptr h.next 5)).bind fun v9 =>
 (M.call 376 [v9, (.int .i64 0), (.int .i64 64)] p8.2).bind fun p10 =>
 some (p10.1, p10.2))
 | .bool false => (
 some ((.bool false), p8.2))
 | .tup [] => (
 (asB p8.1).bind fun b9 =>
 some ((match b9 with | true => (.tup []) | false => (.bool false) : V), p8.2))
 | _ => none)
 | .bool false => (
 some ((.bool false), p6.2))
 | .tup [] => (
 (asB p6.1).bind fun b7 =>
 match (match b7 with | true => (.tup []) | false => (.bool false) : V) with
 | .bool true => (
 (p6.2.ld1 (.ptr h.next 5)).bind fun v8 =>
 (M.call 376 [v8, (.int .i64 0), (.int .i64 64)] p6.2).bind fun p9 =>
 some (p9.1, p9.2))
 | .bool false => (
 some ((.bool false), p6.2))
 | .tup [] => (
 (asB (match b7 with | true => (.tup []) | false => (.bool false) : V)).bind fun b8 =>
 some ((match b8 with | true => (.tup []) | false => (.bool false) : V), p6.2))
 | _ => none)
 | _ => none)
 | .bool false => (
 some ((.bool false), p2.2))
 | .tup [] => (
 (asB (match b4 with | true => (.tup []) | false => (.bool false) : V)).bind fun b5 =>
 match (match b5 with | true => (.tup []) | false => (.bool false) : V) with
 | .bool true => (
 (p2.2.ld1 (.ptr h.next 4)).bind fun v6 =>
 (M.call 376 [v6, (.int .i64 1), (.int .i64 1048576)] p2.2).bind fun p7 =>
 match p7.1 with
 | .bool true => (
 (p7.2.ld1 (.ptr h.next 5)).bind fun v8 =>
 (M.call 376 [v8, (.int .i64 0), (.int .i64 64)] p7.2).bind fun p9 =>
 some (p9.1, p9.2))
 | .bool false => (
 some ((.bool false), p7.2))
 | .tup [] => (
 (asB p7.1).bind fun b8 =>
 some ((match b8 with | true => (.tup []) | false => (.bool false) : V), p7.2))
 | _ => none)
 | .bool false => (
 some ((.bool false), p2.2))
 | .tup [] => (
 (asB (match b5 with | true => (.tup []) | false => (.bool false) : V)).bind fun b6 =>
 match (match b6 with | true => (.tup []) | false => (.bool false) : V) with
 | .bool true => (
 (p2.2.ld1 (.ptr h.next 5)).bind fun v7 =>
 (M.call 376 [v7, (.int .i64 0), (.int .i64 64)] p2.2).bind fun p8 =>
 some (p8.1, p8.2))
 | .bool false => (
 some ((.bool false), p2.2))
 | .tup [] => (
 (asB (match b6 with | true => (.tup []) | false => (.bool false) : V)).bind fun b7 =>
 some ((match b7 with | true => (.tup []) | false => (.bool false) : V), p2.2))
 | _ => none)
 | _ => none)
 | _ => none)
 | _ => none)
 | _ => none

theorem plan_Right_eq (M : Env) (a0_0 : Int) (a0_1 : Int) (a0_2 : Int) (a0_3 : Int) (a0_4 : Int) (a0_5 : Int) (h : H) : evalF M F.plan_Right [(.agg [(.int .i64 a0_0), (.int .i64 a0_1), (.int .i64 a0_2), (.int .i64 a0_3), (.int .i64 a0_4), (.int .i64 a0_5)])] h = plan_Right M a0_0 a0_1 a0_2 a0_3 a0_4 a0_5 h := by kernel_rfl

end Wm.S
end

section
namespace Wm.S
open Wm
set_option maxRecDepth 100000
set_option linter.unusedVariables false


def model_Model_client (M : Env) (a0 : V) (a1 : Int) (h : H) : Option (V × H) :=
 (eqV .ptr a0 .nilp).bind fun b0 =>
 match (!b0) with
 | true => (
 match (decide (0 ≤ a1)) with
 | true => (
 (nilc a0).bind fun v1 =>
 (ptrAt v1 0).bind fun v2 =>
 (ptrAt v2 2).bind fun v3 =>
 (h.ld1 v3).bind fun v4 =>
 (asI .i64 v4).bind fun n5 =>
 some ((.bool (decide (a1 < n5))), h))
 | false => (
 some ((.bool false), h)))
 | false => (
 some ((.bool false), h))

theorem model_Model_client_eq (M : Env) (a0 : V) (a1 : Int) (h : H) : evalF M F.model_Model_client [a0, (.int .i64 a1)] h = model_Model_client M a0 a1 h := by kernel_rfl

end Wm.S
end

section
namespace Wm.S
open Wm
set_option maxRecDepth 100000
set_option linter.unusedVariables false


def model_Model_Held (M : Env) (a0 : V) (a1 : Int) (h : H) : Option (V × H) :=
 (M.call 279 [a0, (.int .i64 a1)] h).bind fun p0 =>
 (asB p0.1).bind fun b1 =>
 match (!b1) with
 | true => (
 some ((.int .i64 0), p0.2))
 | false => (
 (nilc a0).bind fun v2 =>
 (ptrAt v2 7).bind fun v3 =>
 (p0.2.ld1 v3).bind fun v4 =>
 (indexAV 1 v4 (.int .i64 a1)).bind fun v5 =>
 (p0.2.ld1 v5).bind fun v6 =>
 (p0.2.entries v6).bind fun es7 =>
 some ((.int .i64 ((es7.length : Nat) : Int)), p0.2))

theorem model_Model_Held_eq (M : Env) (a0 : V) (a1 : Int) (h : H) : evalF M F.model_Model_Held [a0, (.int .i64 a1)] h = model_Model_Held M a0 a1 h := by kernel_rfl

end Wm.S
end

section
namespace Wm.S
open Wm
set_option maxRecDepth 100000
set_option linter.unusedVariables false


def model_Model_Node (M : Env) (a0 : V) (a1 : Int) (a2 : Int) (h : H) : Option (V × H) :=
 (M.call 279 [a0, (.int .i64 a1)] h).bind fun p0 =>
 (asB p0.1).bind fun b1 =>
 match b1 with
 | true => (
 (nilc a0).bind fun v2 =>
 (ptrAt v2 7).bind fun v3 =>
 (p0.2.ld1 v3).bind fun v4 =>
 (indexAV 1 v4 (.int .i64 a1)).bind fun v5 =>
 (p0.2.ld1 v5).bind fun v6 =>
 (p0.2.look .int (.int .i64 0) true v6 (.int .u64 a2)).bind fun v7 =>
 match v7 with
 | .tup vs8 => ((vs8[0]?).bind fun v9 =>
 match v7 with
 | .tup vs10 => ((vs10[1]?).bind fun v11 =>
 (asB v11).bind fun b12 =>
 match b12 with
 | true => (
 some (v9, p0.2))
 | false => (
 some ((.int .i64 (-1)), p0.2)))
 | _ => none)
 | _ => none)
 | false => (
 some ((.int .i64 (-1)), p0.2))

theorem model_Model_Node_eq (M : Env) (a0 : V) (a1 : Int) (a2 : Int) (h : H) : evalF M F.model_Model_Node [a0, (.int .i64 a1), (.int .u64 a2)] h = model_Model_Node M a0 a1 a2 h := by kernel_rfl

end Wm.S
end

section
namespace Wm.S
open Wm
set_option maxRecDepth 100000
set_option linter.unusedVariables false


def model_Model_Field (M : Env) (a0 : V) (a1 : Int) (a2 : Int) (h : H) : Option (V × H) :=
 (eqV .ptr a0 .nilp).bind fun b0 =>
 match b0 with
 | true => (
 some ((.int .i64 (-1)), h))
 | false => (
 match (decide (a1 < 0)) with
 | true => (
 some ((.int .i64 (-1)), h))
 | false => (
 (nilc a0).bind fun v1 =>
 (ptrAt v1 6).bind fun v2 =>
 (h.ld1 v2).bind fun v3 =>
 (lenSl v3).bind fun n4 =>
 match (decide (((n4 : Nat) : Int) ≤ a1)) with
 | true => (
 some ((.int .i64 (-1)), h))
 | false => (
 match (decide (a2 < 0)) with
 | true => (
 some ((.int .i64 (-1)), h))
 | false => (
 (nilc a0).bind fun v5 =>
 (ptrAt v5 6).bind fun v6 =>
 (h.ld1 v6).bind fun v7 =>
 (indexAV 1 v7 (.int .i64 a1)).bind fun v8 =>
 (h.ld1 v8).bind fun v9 =>
 (lenSl v9).bind fun n10 =>
 match (decide (((n10 : Nat) : Int) ≤ a2)) with
 | true => (
 some ((.int .i64 (-1)), h))
 | false => (
 (nilc a0).bind fun v11 =>
 (ptrAt v11 6).bind fun v12 =>
 (h.ld1 v12).bind fun v13 =>
 (indexAV 1 v13 (.int .i64 a1)).bind fun v14 =>
 (h.ld1 v14).bind fun v15 =>
 (indexAV 1 v15 (.int .i64 a2)).bind fun v16 =>
 (h.ld1 v16).bind fun v17 =>
 some (v17, h))))))

theorem model_Model_Field_eq (M : Env) (a0 : V) (a1 : Int) (a2 : Int) (h : H) : evalF M F.model_Model_Field [a0, (.int .i64 a1), (.int .i64 a2)] h = model_Model_Field M a0 a1 a2 h := by kernel_rfl

end Wm.S
end

section
namespace Wm.S
open Wm
set_option maxRecDepth 100000
set_option linter.unusedVariables false


def model_Model_fresh (M : Env) (a0 : V) (a1 : Int) (h : H) : Option (V × H) :=
 match (!decide (a1 = 0)) with
 | true => (
 (nilc a0).bind fun v0 =>
 (ptrAt v0 9).bind fun v1 =>
 (h.ld1 v1).bind fun v2 =>
 (h.look .int (.int .i64 0) false v2 (.int .u64 a1)).bind fun v3 =>
 (asI .i64 v3).bind fun n4 =>
 some ((.bool (decide (n4 = 0))), h))
 | false => (
 some ((.bool false), h))

theorem model_Model_fresh_eq (M : Env) (a0 : V) (a1 : Int) (h : H) : evalF M F.model_Model_fresh [a0, (.int .u64 a1)] h = model_Model_fresh M a0 a1 h := by kernel_rfl

end Wm.S
end

section
namespace Wm.S
open Wm
set_option maxRecDepth 100000
set_option linter.unusedVariables false

def slices_Repeat___int_int__c1_B (M : Env) : List V → H → Option (AX × List V × H) :=
 fun env h => evalC M F.slices_Repeat___int_int__c1 env h fun x env h => match x with
 | .normal => some (.normal, keepOf [7, 8] 0 env, h)
 | x => some (x, keepOf [7] 0 env, h)

def slices_Repeat___int_int__c1_E (x7 x8 : V) : List V := dd 7 (x7 :: x8 :: dd 39 [])
def slices_Repeat___int_int__c1_O (x7 : V) : List V := dd 7 (x7 :: dd 40 [])

def slices_Repeat___int_int__K0 (M : Env) : AX → List V → H → Option (V × H) :=
 fun x env h => fin F.slices_Repeat___int_int_ x env h

def slices_Repeat___int_int__K1 (M : Env) : AX → List V → H → Option (V × H) :=
 fun x env h => match x with | .normal => evalC M F.slices_Repeat___int_int__c0 env h (fun x env h => slices_Repeat___int_int__K0 M x env h) | x => slices_Repeat___int_int__K0 M x env h

def slices_Repeat___int_int__K2 (M : Env) : AX → List V → H → Option (V × H) :=
 fun x env h => match x with | .exit j => (match Nat.beq j 0 with | true => slices_Repeat___int_int__K1 M .normal env h | false => slices_Repeat___int_int__K1 M (.exit j) env h) | x => slices_Repeat___int_int__K1 M x env h

def slices_Repeat___int_int_ (M : Env) (a0 : V) (a1 : Int) (h : H) : Option (V × H) :=
 match (decide (a1 < 0)) with
 | true => (
 none)
 | false => (
 (lenSl a0).bind fun n0 =>
 (M.call 445 [(.int .u64 (wr .u64 ((n0 : Nat) : Int))), (.int .u64 (wr .u64 a1))] h).bind fun p1 =>
 match p1.1 with
 | .tup vs2 => ((vs2[0]?).bind fun v3 =>
 match p1.1 with
 | .tup vs4 => ((vs4[1]?).bind fun v5 =>
 (asI .u64 v3).bind fun n6 =>
 match (decide (0 < n6)) with
 | true => (
 none)
 | false => (
 (asI .u64 v5).bind fun n7 =>
 match (decide (9223372036854775807 < n7)) with
 | true => (
 none)
 | false => (
 (asIAny v5).bind fun n8 =>
 (p1.2.mkSl 1 8 [(.int .i64 0)] (wr .i64 n8) (wr .i64 n8)).bind fun p9 =>
 (p9.2.copy 1 p9.1 a0).bind fun p10 =>
 (M.loop (slices_Repeat___int_int__c1_B M) (slices_Repeat___int_int__c1_E p9.1 p10.1) p10.2).bind fun p11 => slices_Repeat___int_int__K2 M p11.1 p11.2.1 p11.2.2)))
 | _ => none)
 | _ => none)

def slices_Repeat___int_int__c1_S (M : Env) (x7 : V) (x8 : Int) (h : H) : Option (AX × List V × H) :=
 (lenSl x7).bind fun n0 =>
 match (decide (x8 < ((n0 : Nat) : Int))) with
 | true => (
 (sliceV 1 x7 (some (.int .i64 x8)) none none).bind fun v1 =>
 (sliceV 1 x7 none (some (.int .i64 x8)) none).bind fun v2 =>
 (h.copy 1 v1 v2).bind fun p3 =>
 (asI .i64 p3.1).bind fun n4 =>
 some (.normal, (slices_Repeat___int_int__c1_E x7 (.int .i64 (wr .i64 (x8 + n4)))), p3.2))
 | false => (
 some ((.exit 0), (slices_Repeat___int_int__c1_O x7), h))

def slices_Repeat___int_int__c1_e0 (M : Env) (x7 : V) (h : H) : Option (V × H) :=
 some (x7, h)

theorem slices_Repeat___int_int__eq (M : Env) (a0 : V) (a1 : Int) (h : H) : evalF M F.slices_Repeat___int_int_ [a0, (.int .i64 a1)] h = slices_Repeat___int_int_ M a0 a1 h := by kernel_rfl

theorem slices_Repeat___int_int__c1_eq (M : Env) (x7 : V) (x8 : Int) (h : H) : slices_Repeat___int_int__c1_B M (slices_Repeat___int_int__c1_E x7 (.int .i64 x8)) h = slices_Repeat___int_int__c1_S M x7 x8 h := by kernel_rfl

theorem slices_Repeat___int_int__c1_e0_eq (M : Env) (x7 : V) (h : H) : slices_Repeat___int_int__K2 M (.exit 0) (slices_Repeat___int_int__c1_O x7) h = slices_Repeat___int_int__c1_e0 M x7 h := by kernel_rfl

end Wm.S
end

section
namespace Wm.S
open Wm
set_option maxRecDepth 100000
set_option linter.unusedVariables false


def slices_Contains___int_int_ (M : Env) (a0 : V) (a1 : Int) (h : H) : Option (V × H) :=
 (M.call 404 [a0, (.int .i64 a1)] h).bind fun p0 =>
 (asI .i64 p0.1).bind fun n1 =>
 some ((.bool (decide (0 ≤ n1))), p0.2)

theorem slices_Contains___int_int__eq (M : Env) (a0 : V) (a1 : Int) (h : H) : evalF M F.slices_Contains___int_int_ [a0, (.int .i64 a1)] h = slices_Contains___int_int_ M a0 a1 h := by kernel_rfl

end Wm.S
end

section
namespace Wm.S
open Wm
set_option maxRecDepth 100000
set_option linter.unusedVariables false

def slices_Index___int_int__c1_B (M : Env) : List V → H → Option (AX × List V × H) :=
 fun env h => evalC M F.slices_Index___int_int__c1 env h fun x env h => match x with
 | .normal => some (.normal, keepOf [0, 1, 7, 8] 0 env, h)
 | x => some (x, keepOf [4] 0 env, h)

def slices_Index___int_int__c1_E (x0 x1 x7 x8 : V) : List V := x0 :: x1 :: dd 5 (x7 :: x8 :: dd 10 [])
def slices_Index___int_int__c1_O (x4 : V) : List V := dd 4 (x4 :: dd 14 [])

def slices_Index___int_int__K0 (M : Env) : AX → List V → H → Option (V × H) :=
 fun x env h => fin F.slices_Index___int_int_ x env h

def slices_Index___int_int__K1 (M : Env) : AX → List V → H → Option (V × H) :=
 fun x env h => match x with | .normal => evalC M F.slices_Index___int_int__c0 env h (fun x env h => slices_Index___int_int__K0 M x env h) | x => slices_Index___int_int__K0 M x env h

def slices_Index___int_int__K2 (M : Env) : AX → List V → H → Option (V × H) :=
 fun x env h => match x with | .exit j => (match Nat.beq j 0 with | true => slices_Index___int_int__K1 M .normal env h | false => slices_Index___int_int__K1 M (.exit j) env h) | x => slices_Index___int_int__K1 M x env h

def slices_Index___int_int_ (M : Env) (a0 : V) (a1 : Int) (h : H) : Option (V × H) :=
 (lenSl a0).bind fun n0 =>
 (M.loop (slices_Index___int_int__c1_B M) (slices_Index___int_int__c1_E a0 (.int .i64 a1) (.int .i64 ((n0 : Nat) : Int)) (.int .i64 0)) h).bind fun p1 => slices_Index___int_int__K2 M p1.1 p1.2.1 p1.2.2

def slices_Index___int_int__c1_S (M : Env) (x0 : V) (x1 : Int) (x7 : Int) (x8 : Int) (h : H) : Option (AX × List V × H) :=
 match (decide (x8 < x7)) with
 | true => (
 (indexAV 1 x0 (.int .i64 x8)).bind fun v0 =>
 (h.ld1 v0).bind fun v1 =>
 (asI .i64 v1).bind fun n2 =>
 match (decide (x1 = n2)) with
 | true => (
 some (.ret, (slices_Index___int_int__c1_O (.int .i64 x8)), h))
 | false => (
 some (.normal, (slices_Index___int_int__c1_E x0 (.int .i64 x1) (.int .i64 x7) (.int .i64 (wr .i64 (x8 + 1)))), h)))
 | false => (
 some ((.exit 0), (slices_Index___int_int__c1_O .dead), h))

def slices_Index___int_int__c1_e0 (M : Env) (x4 : V) (h : H) : Option (V × H) :=
 some ((.int .i64 (-1)), h)

def slices_Index___int_int__c1_r (M : Env) (x4 : Int) (h : H) : Option (V × H) :=
 some ((.int .i64 x4), h)

theorem slices_Index___int_int__eq (M : Env) (a0 : V) (a1 : Int) (h : H) : evalF M F.slices_Index___int_int_ [a0, (.int .i64 a1)] h = slices_Index___int_int_ M a0 a1 h := by kernel_rfl

theorem slices_Index___int_int__c1_eq (M : Env) (x0 : V) (x1 : Int) (x7 : Int) (x8 : Int) (h : H) : slices_Index___int_int__c1_B M (slices_Index___int_int__c1_E x0 (.int .i64 x1) (.int .i64 x7) (.int .i64 x8)) h = slices_Index___int_int__c1_S M x0 x1 x7 x8 h := by kernel_rfl

theorem slices_Index___int_int__c1_e0_eq (M : Env) (x4 : V) (h : H) : slices_Index___int_int__K2 M (.exit 0) (slices_Index___int_int__c1_O x4) h = slices_Index___int_int__c1_e0 M x4 h := by kernel_rfl

theorem slices_Index___int_int__c1_r_eq (M : Env) (x4 : Int) (h : H) : slices_Index___int_int__K2 M .ret (slices_Index___int_int__c1_O (.int .i64 x4)) h = slices_Index___int_int__c1_r M x4 h := by kernel_rfl

end Wm.S
end

section
namespace Wm.S
open Wm
set_option maxRecDepth 100000
set_option linter.unusedVariables false

def model_Model_reached_c1_B (M : Env) : List V → H → Option (AX × List V × H) :=
 fun env h => evalC M F.model_Model_reached_c1 env h fun x env h => match x with
 | .normal => some (.normal, keepOf [0, 5, 6] 0 env, h)
 | x => some (x, keepOf [5] 0 env, h)

def model_Model_reached_c1_E (x0 x5 x6 : V) : List V := x0 :: dd 4 (x5 :: x6 :: dd 39 [])
def model_Model_reached_c1_O (x5 : V) : List V := dd 5 (x5 :: dd 40 [])

def model_Model_reached_c3_B (M : Env) : List V → H → Option (AX × List V × H) :=
 fun env h => evalC M F.model_Model_reached_c3 env h fun x env h => match x with
 | .normal => some (.normal, keepOf [0, 5, 6, 26, 27, 28] 0 env, h)
 | x => some (x, keepOf [0, 5, 6] 0 env, h)

def model_Model_reached_c3_E (x0 x5 x6 x26 x27 x28 : V) : List V := x0 :: dd 4 (x5 :: x6 :: dd 19 (x26 :: x27 :: x28 :: dd 17 []))
def model_Model_reached_c3_O (x0 x5 x6 : V) : List V := x0 :: dd 4 (x5 :: x6 :: dd 39 [])

def model_Model_reached_K0 (M : Env) : AX → List V → H → Option (V × H) :=
 fun x env h => fin F.model_Model_reached x env h

def model_Model_reached_K1 (M : Env) : AX → List V → H → Option (V × H) :=
 fun x env h => match x with | .normal => evalC M F.model_Model_reached_c0 env h (fun x env h => model_Model_reached_K0 M x env h) | x => model_Model_reached_K0 M x env h

def model_Model_reached_K2 (M : Env) : AX → List V → H → Option (V × H) :=
 fun x env h => match x with | .exit j => (match Nat.beq j 0 with | true => model_Model_reached_K1 M .normal env h | false => model_Model_reached_K1 M (.exit j) env h) | x => model_Model_reached_K1 M x env h

def model_Model_reached_K3 (M : Env) : AX → List V → H → Option (AX × List V × H) :=
 fun x env h => match x with | .normal => some (.normal, keepOf [0, 5, 6] 0 env, h) | x => some (x, keepOf [5] 0 env, h)

def model_Model_reached_K4 (M : Env) : AX → List V → H → Option (AX × List V × H) :=
 fun x env h => match x with | .normal => evalC M F.model_Model_reached_c2 env h (fun x env h => model_Model_reached_K3 M x env h) | x => model_Model_reached_K3 M x env h

def model_Model_reached_K5 (M : Env) : AX → List V → H → Option (AX × List V × H) :=
 fun x env h => match x with | .exit j => (match Nat.beq j 1 with | true => model_Model_reached_K4 M .normal env h | false => model_Model_reached_K4 M (.exit j) env h) | x => model_Model_reached_K4 M x env h

def model_Model_reached_K6 (M : Env) : AX → List V → H → Option (AX × List V × H) :=
 fun x env h => match x with | .exit j => (match Nat.beq j 2 with | true => model_Model_reached_K5 M .normal env h | false => model_Model_reached_K5 M (.exit j) env h) | x => model_Model_reached_K5 M x env h

def model_Model_reached (M : Env) (a0 : V) (a1 : Int) (h : H) : Option (V × H) :=
 let h0 := h.new (.cells [(.int .i64 a1)] .rw)
 (M.loop (model_Model_reached_c1_B M) (model_Model_reached_c1_E a0 (.sl h.next 0 1 (.ex 1)) (.int .i64 0)) h0).bind fun p1 => model_Model_reached_K2 M p1.1 p1.2.1 p1.2.2

def model_Model_reached_c1_S (M : Env) (x0 : V) (x5 : V) (x6 : Int) (h : H) : Option (AX × List V × H) :=
 (lenSl x5).bind fun n0 =>
 match (decide (x6 < ((n0 : Nat) : Int))) with
 | true => (
 (nilc x0).bind fun v1 =>
 (ptrAt v1 6).bind fun v2 =>
 (h.ld1 v2).bind fun v3 =>
 (indexAV 1 x5 (.int .i64 x6)).bind fun v4 =>
 (h.ld1 v4).bind fun v5 =>
 (indexAV 1 v3 v5).bind fun v6 =>
 (h.ld1 v6).bind fun v7 =>
 (lenSl v7).bind fun n8 =>
 (M.loop (model_Model_reached_c3_B M) (model_Model_reached_c3_E x0 x5 (.int .i64 x6) v7 (.int .i64 ((n8 : Nat) : Int)) (.int .i64 0)) h).bind fun p9 => model_Model_reached_K6 M p9.1 p9.2.1 p9.2.2)
 | false => (
 some ((.exit 0), (model_Model_reached_c1_O x5), h))

def model_Model_reached_c1_e0 (M : Env) (x5 : V) (h : H) : Option (V × H) :=
 some (x5, h)

def model_Model_reached_c3_S (M : Env) (x0 : V) (x5 : V) (x6 : Int) (x26 : V) (x27 : Int) (x28 : Int) (h : H) : Option (AX × List V × H) :=
 match (decide (x28 < x27)) with
 | true => (
 (indexAV 1 x26 (.int .i64 x28)).bind fun v0 =>
 (h.ld1 v0).bind fun v1 =>
 (asI .i64 v1).bind fun n2 =>
 match (decide (0 ≤ n2)) with
 | true => (
 (M.call 331 [x5, v1] h).bind fun p3 =>
 (asB p3.1).bind fun b4 =>
 match (!b4) with
 | true => (
 (fill (repl [(.int .i64 0)] 1) [] [(0, 1, .c v1)]).bind fun cs5 =>
 let h6 := p3.2.new (.cells cs5 .rw)
 (h6.append 1 8 x5 (.sl p3.2.next 0 1 (.ex 1))).bind fun p7 =>
 some (.normal, (model_Model_reached_c3_E x0 p7.1 (.int .i64 x6) x26 (.int .i64 x27) (.int .i64 (wr .i64 (x28 + 1)))), p7.2))
 | false => (
 some (.normal, (model_Model_reached_c3_E x0 x5 (.int .i64 x6) x26 (.int .i64 x27) (.int .i64 (wr .i64 (x28 + 1)))), p3.2)))
 | false => (
 some (.normal, (model_Model_reached_c3_E x0 x5 (.int .i64 x6) x26 (.int .i64 x27) (.int .i64 (wr .i64 (x28 + 1)))), h)))
 | false => (
 some ((.exit 2), (model_Model_reached_c3_O x0 x5 (.int .i64 x6)), h))

def model_Model_reached_c3_e2 (M : Env) (x0 : V) (x5 : V) (x6 : Int) (h : H) : Option (AX × List V × H) :=
 some (.normal, (model_Model_reached_c1_E x0 x5 (.int .i64 (wr .i64 (x6 + 1)))), h)

theorem model_Model_reached_eq (M : Env) (a0 : V) (a1 : Int) (h : H) : evalF M F.model_Model_reached [a0, (.int .i64 a1)] h = model_Model_reached M a0 a1 h := by kernel_rfl

theorem model_Model_reached_c1_eq (M : Env) (x0 : V) (x5 : V) (x6 : Int) (h : H) : model_Model_reached_c1_B M (model_Model_reached_c1_E x0 x5 (.int .i64 x6)) h = model_Model_reached_c1_S M x0 x5 x6 h := by kernel_rfl

theorem model_Model_reached_c1_e0_eq (M : Env) (x5 : V) (h : H) : model_Model_reached_K2 M (.exit 0) (model_Model_reached_c1_O x5) h = model_Model_reached_c1_e0 M x5 h := by kernel_rfl

theorem model_Model_reached_c3_eq (M : Env) (x0 : V) (x5 : V) (x6 : Int) (x26 : V) (x27 : Int) (x28 : Int) (h : H) : model_Model_reached_c3_B M (model_Model_reached_c3_E x0 x5 (.int .i64 x6) x26 (.int .i64 x27) (.int .i64 x28)) h = model_Model_reached_c3_S M x0 x5 x6 x26 x27 x28 h := by kernel_rfl

theorem model_Model_reached_c3_e2_eq (M : Env) (x0 : V) (x5 : V) (x6 : Int) (h : H) : model_Model_reached_K6 M (.exit 2) (model_Model_reached_c3_O x0 x5 (.int .i64 x6)) h = model_Model_reached_c3_e2 M x0 x5 x6 h := by kernel_rfl

end Wm.S
end

section
namespace Wm.S
open Wm
set_option maxRecDepth 100000
set_option linter.unusedVariables false


def model_Model_hold (M : Env) (a0 : V) (a1 : Int) (a2 : Int) (a3 : Int) (h : H) : Option (V × H) :=
 (nilc a0).bind fun v0 =>
 (ptrAt v0 9).bind fun v1 =>
 (h.ld1 v1).bind fun v2 =>
 (h.mapSet .int v2 (.int .u64 a2) (.int .i64 1)).bind fun h3 =>
 (nilc a0).bind fun v4 =>
 (ptrAt v4 7).bind fun v5 =>
 (h3.ld1 v5).bind fun v6 =>
 (indexAV 1 v6 (.int .i64 a1)).bind fun v7 =>
 (h3.ld1 v7).bind fun v8 =>
 (h3.mapSet .int v8 (.int .u64 a2) (.int .i64 a3)).bind fun h9 =>
 some ((.tup []), h9)

theorem model_Model_hold_eq (M : Env) (a0 : V) (a1 : Int) (a2 : Int) (a3 : Int) (h : H) : evalF M F.model_Model_hold [a0, (.int .i64 a1), (.int .u64 a2), (.int .i64 a3)] h = model_Model_hold M a0 a1 a2 a3 h := by kernel_rfl

end Wm.S
end

section
namespace Wm.S
open Wm
set_option maxRecDepth 100000
set_option linter.unusedVariables false

def model_Model_makes_c2_B (M : Env) : List V → H → Option (AX × List V × H) :=
 fun env h => evalC M F.model_Model_makes_c2 env h fun x env h => some (x, keepOf [0, 1, 7] 0 env, h)

def model_Model_makes_c2_E (x0 x1 x5 : V) : List V := x0 :: x1 :: dd 3 (x5 :: dd 25 [])
def model_Model_makes_c2_O (x0 x1 x7 : V) : List V := x0 :: x1 :: dd 5 (x7 :: dd 23 [])

def model_Model_makes_K0 (M : Env) : AX → List V → H → Option (V × H) :=
 fun x env h => fin F.model_Model_makes x env h

def model_Model_makes_K1 (M : Env) : AX → List V → H → Option (V × H) :=
 fun x env h => match x with | .normal => evalC M F.model_Model_makes_c0 env h (fun x env h => model_Model_makes_K0 M x env h) | x => model_Model_makes_K0 M x env h

def model_Model_makes_K2 (M : Env) : AX → List V → H → Option (V × H) :=
 fun x env h => match x with | .exit j => (match Nat.beq j 0 with | true => model_Model_makes_K1 M .normal env h | false => model_Model_makes_K1 M (.exit j) env h) | x => model_Model_makes_K1 M x env h

def model_Model_makes_K3 (M : Env) : AX → List V → H → Option (V × H) :=
 fun x env h => match x with | .normal => evalC M F.model_Model_makes_c1 env h (fun x env h => model_Model_makes_K2 M x env h) | x => model_Model_makes_K2 M x env h

def model_Model_makes (M : Env) (a0 : V) (a1 : Int) (a2_0 : Int) (a2_1 : Int) (a2_2 : Int) (a2_3 : Int) (a2_4 : Int) (h : H) : Option (V × H) :=
 let h0 := h.new (.cells [(.int .i64 a2_0), (.int .i64 a2_1), (.int .u64 a2_2), (.int .u64 a2_3), (.int .u64 a2_4)] .rw)
 (model_Model_makes_c2_B M (model_Model_makes_c2_E a0 (.int .i64 a1) (.ptr h.next 0)) h0).bind fun p1 => model_Model_makes_K3 M p1.1 p1.2.1 p1.2.2

def model_Model_makes_c2_S (M : Env) (x0 : V) (x1 : Int) (x5 : V) (h : H) : Option (AX × List V × H) :=
 (ptrAt x5 1).bind fun v0 =>
 (h.ld1 v0).bind fun v1 =>
 (asI .i64 v1).bind fun n2 =>
 match (decide (n2 < 0)) with
 | true => (
 some (.normal, (model_Model_makes_c2_O x0 (.int .i64 x1) (.bool true)), h))
 | false => (
 (ptrAt x5 1).bind fun v3 =>
 (h.ld1 v3).bind fun v4 =>
 (nilc x0).bind fun v5 =>
 (ptrAt v5 0).bind fun v6 =>
 (ptrAt v6 1).bind fun v7 =>
 (h.ld1 v7).bind fun v8 =>
 (asI .i64 v4).bind fun n9 =>
 (asI .i64 v8).bind fun n10 =>
 some (.normal, (model_Model_makes_c2_O x0 (.int .i64 x1) (.bool (decide (n10 < n9)))), h))

def model_Model_makes_c2_n (M : Env) (x0 : V) (x1 : Int) (x7 : Bool) (h : H) : Option (V × H) :=
 match x7 with
 | true => (
 some ((.int .i64 1), h))
 | false => (
 (nilc x0).bind fun v0 =>
 (ptrAt v0 0).bind fun v1 =>
 (ptrAt v1 3).bind fun v2 =>
 (h.ld1 v2).bind fun v3 =>
 (M.call 105 [x0, (.int .i64 x1)] h).bind fun p4 =>
 match ckB (p4.2.ld1 v2) v3 with
 | true => (
 (asI .i64 p4.1).bind fun n5 =>
 (asI .i64 v3).bind fun n6 =>
 match (decide (n6 ≤ n5)) with
 | true => (
 some ((.int .i64 5), p4.2))
 | false => (
 some ((.int .i64 0), p4.2)))
 | false => none)

theorem model_Model_makes_eq (M : Env) (a0 : V) (a1 : Int) (a2_0 : Int) (a2_1 : Int) (a2_2 : Int) (a2_3 : Int) (a2_4 : Int) (h : H) : evalF M F.model_Model_makes [a0, (.int .i64 a1), (.agg [(.int .i64 a2_0), (.int .i64 a2_1), (.int .u64 a2_2), (.int .u64 a2_3), (.int .u64 a2_4)])] h = model_Model_makes M a0 a1 a2_0 a2_1 a2_2 a2_3 a2_4 h := by kernel_rfl

theorem model_Model_makes_c2_eq (M : Env) (x0 : V) (x1 : Int) (x5 : V) (h : H) : model_Model_makes_c2_B M (model_Model_makes_c2_E x0 (.int .i64 x1) x5) h = model_Model_makes_c2_S M x0 x1 x5 h := by kernel_rfl

theorem model_Model_makes_c2_n_eq (M : Env) (x0 : V) (x1 : Int) (x7 : Bool) (h : H) : model_Model_makes_K3 M .normal (model_Model_makes_c2_O x0 (.int .i64 x1) (.bool x7)) h = model_Model_makes_c2_n M x0 x1 x7 h := by kernel_rfl

end Wm.S
end

section
namespace Wm.S
open Wm
set_option maxRecDepth 100000
set_option linter.unusedVariables false

def model_Model_goes_c2_B (M : Env) : List V → H → Option (AX × List V × H) :=
 fun env h => evalC M F.model_Model_goes_c2 env h fun x env h => some (x, keepOf [0, 1, 5, 7, 15] 0 env, h)

def model_Model_goes_c2_E (x0 x1 x5 x7 : V) : List V := x0 :: x1 :: dd 3 (x5 :: dd 1 (x7 :: dd 37 []))
def model_Model_goes_c2_O (x0 x1 x5 x7 x15 : V) : List V := x0 :: x1 :: dd 3 (x5 :: dd 1 (x7 :: dd 7 (x15 :: dd 29 [])))

def model_Model_goes_K0 (M : Env) : AX → List V → H → Option (V × H) :=
 fun x env h => fin F.model_Model_goes x env h

def model_Model_goes_K1 (M : Env) : AX → List V → H → Option (V × H) :=
 fun x env h => match x with | .normal => evalC M F.model_Model_goes_c0 env h (fun x env h => model_Model_goes_K0 M x env h) | x => model_Model_goes_K0 M x env h

def model_Model_goes_K2 (M : Env) : AX → List V → H → Option (V × H) :=
 fun x env h => match x with | .exit j => (match Nat.beq j 0 with | true => model_Model_goes_K1 M .normal env h | false => model_Model_goes_K1 M (.exit j) env h) | x => model_Model_goes_K1 M x env h

def model_Model_goes_K3 (M : Env) : AX → List V → H → Option (V × H) :=
 fun x env h => match x with | .normal => evalC M F.model_Model_goes_c1 env h (fun x env h => model_Model_goes_K2 M x env h) | x => model_Model_goes_K2 M x env h

def model_Model_goes (M : Env) (a0 : V) (a1 : Int) (a2_0 : Int) (a2_1 : Int) (a2_2 : Int) (a2_3 : Int) (a2_4 : Int) (h : H) : Option (V × H) :=
 let h0 := h.new (.cells [(.int .i64 a2_0), (.int .i64 a2_1), (.int .u64 a2_2), (.int .u64 a2_3), (.int .u64 a2_4)] .rw)
 (nilc a0).bind fun v1 =>
 (ptrAt v1 8).bind fun v2 =>
 (h0.ld1 v2).bind fun v3 =>
 (indexAV 2 v3 (.int .i64 a1)).bind fun v4 =>
 (h0.ldN 2 v4).bind fun v5 =>
 let h6 := h0.new (.cells [(.int .u64 0), .nilsl] .rw)
 (h6.st 2 (.ptr h0.next 0) v5).bind fun h7 =>
 (model_Model_goes_c2_B M (model_Model_goes_c2_E a0 (.int .i64 a1) (.ptr h.next 0) (.ptr h0.next 0)) h7).bind fun p8 => model_Model_goes_K3 M p8.1 p8.2.1 p8.2.2

def model_Model_goes_c2_S (M : Env) (x0 : V) (x1 : Int) (x5 : V) (x7 : V) (h : H) : Option (AX × List V × H) :=
 (ptrAt x5 2).bind fun v0 =>
 (h.ld1 v0).bind fun v1 =>
 (asI .u64 v1).bind fun n2 =>
 match (decide (n2 = 0)) with
 | true => (
 some (.normal, (model_Model_goes_c2_O x0 (.int .i64 x1) x5 x7 (.bool true)), h))
 | false => (
 (ptrAt x7 0).bind fun v3 =>
 (h.ld1 v3).bind fun v4 =>
 (ptrAt x5 2).bind fun v5 =>
 (h.ld1 v5).bind fun v6 =>
 (asI .u64 v4).bind fun n7 =>
 (asI .u64 v6).bind fun n8 =>
 some (.normal, (model_Model_goes_c2_O x0 (.int .i64 x1) x5 x7 (.bool (!decide (n7 = n8)))), h))

def model_Model_goes_c2_n (M : Env) (x0 : V) (x1 : Int) (x5 : V) (x7 : V) (x15 : Bool) (h : H) : Option (V × H) :=
 match x15 with
 | true => (
 some ((.int .i64 6), h))
 | false => (
 (ptrAt x5 0).bind fun v0 =>
 (h.ld1 v0).bind fun v1 =>
 (asI .i64 v1).bind fun n2 =>
 match (decide (n2 = 10)) with
 | true => (
 some ((.int .i64 0), h))
 | false => (
 (ptrAt x7 1).bind fun v3 =>
 (h.ld1 v3).bind fun v4 =>
 (lenSl v4).bind fun n5 =>
 match (decide (((n5 : Nat) : Int) = 0)) with
 | true => (
 some ((.int .i64 6), h))
 | false => (
 (nilc x0).bind fun v6 =>
 (ptrAt v6 0).bind fun v7 =>
 (ptrAt v7 3).bind fun v8 =>
 (h.ld1 v8).bind fun v9 =>
 (M.call 105 [x0, (.int .i64 x1)] h).bind fun p10 =>
 match ckB (p10.2.ld1 v8) v9 with
 | true => (
 (asI .i64 p10.1).bind fun n11 =>
 (asI .i64 v9).bind fun n12 =>
 match (decide (n12 ≤ n11)) with
 | true => (
 some ((.int .i64 5), p10.2))
 | false => (
 some ((.int .i64 0), p10.2)))
 | false => none)))

theorem model_Model_goes_eq (M : Env) (a0 : V) (a1 : Int) (a2_0 : Int) (a2_1 : Int) (a2_2 : Int) (a2_3 : Int) (a2_4 : Int) (h : H) : evalF M F.model_Model_goes [a0, (.int .i64 a1), (.agg [(.int .i64 a2_0), (.int .i64 a2_1), (.int .u64 a2_2), (.int .u64 a2_3), (.int .u64 a2_4)])] h = model_Model_goes M a0 a1 a2_0 a2_1 a2_2 a2_3 a2_4 h := by kernel_rfl

theorem model_Model_goes_c2_eq (M : Env) (x0 : V) (x1 : Int) (x5 : V) (x7 : V) (h : H) : model_Model_goes_c2_B M (model_Model_goes_c2_E x0 (.int .i64 x1) x5 x7) h = model_Model_goes_c2_S M x0 x1 x5 x7 h := by kernel_rfl

theorem model_Model_goes_c2_n_eq (M : Env) (x0 : V) (x1 : Int) (x5 : V) (x7 : V) (x15 : Bool) (h : H) : model_Model_goes_K3 M .normal (model_Model_goes_c2_O x0 (.int .i64 x1) x5 x7 (.bool x15)) h = model_Model_goes_c2_n M x0 x1 x5 x7 x15 h := by kernel_rfl

end Wm.S
end

section
namespace Wm.S
open Wm
set_option maxRecDepth 100000
set_option linter.unusedVariables false

def model_Model_asks_c1_B (M : Env) : List V → H → Option (AX × List V × H) :=
 fun env h => evalC M F.model_Model_asks_c1 env h fun x env h => some (x, keepOf [0, 1, 5, 7, 8] 0 env, h)

def model_Model_asks_c1_E (x0 x1 x5 x7 x8 : V) : List V := x0 :: x1 :: dd 3 (x5 :: dd 1 (x7 :: x8 :: dd 124 []))
def model_Model_asks_c1_O (x0 x1 x5 x7 x8 : V) : List V := x0 :: x1 :: dd 3 (x5 :: dd 1 (x7 :: x8 :: dd 124 []))

def model_Model_asks_c3_B (M : Env) : List V → H → Option (AX × List V × H) :=
 fun env h => evalC M F.model_Model_asks_c3 env h fun x env h => some (x, keepOf [0, 1, 5, 7, 8, 17, 18] 0 env, h)

def model_Model_asks_c3_E (x0 x1 x5 x7 x8 x17 : V) : List V := x0 :: x1 :: dd 3 (x5 :: dd 1 (x7 :: x8 :: dd 8 (x17 :: dd 115 [])))
def model_Model_asks_c3_O (x0 x1 x5 x7 x8 x17 x18 : V) : List V := x0 :: x1 :: dd 3 (x5 :: dd 1 (x7 :: x8 :: dd 8 (x17 :: x18 :: dd 114 [])))

def model_Model_asks_c6_B (M : Env) : List V → H → Option (AX × List V × H) :=
 fun env h => evalC M F.model_Model_asks_c6 env h fun x env h => some (x, keepOf [0, 1, 5, 7, 62] 0 env, h)

def model_Model_asks_c6_E (x0 x1 x5 x7 : V) : List V := x0 :: x1 :: dd 3 (x5 :: dd 1 (x7 :: dd 125 []))
def model_Model_asks_c6_O (x0 x1 x5 x7 x62 : V) : List V := x0 :: x1 :: dd 3 (x5 :: dd 1 (x7 :: dd 54 (x62 :: dd 70 [])))

def model_Model_asks_c8_B (M : Env) : List V → H → Option (AX × List V × H) :=
 fun env h => evalC M F.model_Model_asks_c8 env h fun x env h => some (x, keepOf [0, 1, 5, 89] 0 env, h)

def model_Model_asks_c8_E (x0 x1 x5 x7 : V) : List V := x0 :: x1 :: dd 3 (x5 :: dd 1 (x7 :: dd 125 []))
def model_Model_asks_c8_O (x0 x1 x5 x89 : V) : List V := x0 :: x1 :: dd 3 (x5 :: dd 83 (x89 :: dd 43 []))

def model_Model_asks_K0 (M : Env) : AX → List V → H → Option (V × H) :=
 fun x env h => fin F.model_Model_asks x env h

def model_Model_asks_K1 (M : Env) : AX → List V → H → Option (V × H) :=
 fun x env h => match x with | .normal => evalC M F.model_Model_asks_c0 env h (fun x env h => model_Model_asks_K0 M x env h) | x => model_Model_asks_K0 M x env h

def model_Model_asks_K2 (M : Env) : AX → List V → H → Option (AX × List V × H) :=
 fun x env h => some (x, keepOf [0, 1, 5, 7, 8] 0 env, h)

def model_Model_asks_K3 (M : Env) : AX → List V → H → Option (AX × List V × H) :=
 fun x env h => match x with | .exit j => (match Nat.beq j 0 with | true => model_Model_asks_K2 M .normal env h | false => model_Model_asks_K2 M (.exit j) env h) | x => model_Model_asks_K2 M x env h

def model_Model_asks_K4 (M : Env) : AX → List V → H → Option (AX × List V × H) :=
 fun x env h => match x with | .normal => evalC M F.model_Model_asks_c2 env h (fun x env h => model_Model_asks_K3 M x env h) | x => model_Model_asks_K3 M x env h

def model_Model_asks_K5 (M : Env) : AX → List V → H → Option (V × H) :=
 fun x env h => match x with | .normal => evalC M F.model_Model_asks_c4 env h (fun x env h => model_Model_asks_K0 M x env h) | x => model_Model_asks_K0 M x env h

def model_Model_asks_K6 (M : Env) : AX → List V → H → Option (V × H) :=
 fun x env h => match x with | .exit j => (match Nat.beq j 1 with | true => model_Model_asks_K5 M .normal env h | false => model_Model_asks_K5 M (.exit j) env h) | x => model_Model_asks_K5 M x env h

def model_Model_asks_K7 (M : Env) : AX → List V → H → Option (V × H) :=
 fun x env h => match x with | .normal => evalC M F.model_Model_asks_c5 env h (fun x env h => model_Model_asks_K6 M x env h) | x => model_Model_asks_K6 M x env h

def model_Model_asks_K8 (M : Env) : AX → List V → H → Option (V × H) :=
 fun x env h => match x with | .normal => evalC M F.model_Model_asks_c7 env h (fun x env h => model_Model_asks_K6 M x env h) | x => model_Model_asks_K6 M x env h

def model_Model_asks (M : Env) (a0 : V) (a1 : Int) (a2_0 : Int) (a2_1 : Int) (a2_2 : Int) (a2_3 : Int) (a2_4 : Int) (h : H) : Option (V × H) :=
 let h0 := h.new (.cells [(.int .i64 a2_0), (.int .i64 a2_1), (.int .u64 a2_2), (.int .u64 a2_3), (.int .u64 a2_4)] .rw)
 (h0.ld1 (.ptr h.next 2)).bind fun v1 =>
 (M.call 106 [a0, (.int .i64 a1), v1] h0).bind fun p2 =>
 (asI .i64 p2.1).bind fun n3 =>
 (model_Model_asks_c1_B M (model_Model_asks_c1_E a0 (.int .i64 a1) (.ptr h.next 0) p2.1 (.bool (decide (0 ≤ n3)))) p2.2).bind fun p4 => model_Model_asks_K1 M p4.1 p4.2.1 p4.2.2

def model_Model_asks_c1_S (M : Env) (x0 : V) (x1 : Int) (x5 : V) (x7 : Int) (x8 : Bool) (h : H) : Option (AX × List V × H) :=
 (ptrAt x5 0).bind fun v0 =>
 (h.ld1 v0).bind fun v1 =>
 (model_Model_asks_c3_B M (model_Model_asks_c3_E x0 (.int .i64 x1) x5 (.int .i64 x7) (.bool x8) v1) h).bind fun p2 => model_Model_asks_K4 M p2.1 p2.2.1 p2.2.2

def model_Model_asks_c1_n (M : Env) (x0 : V) (x1 : Int) (x5 : V) (x7 : Int) (x8 : Bool) (h : H) : Option (V × H) :=
 match (!x8) with
 | true => (
 some ((.int .i64 2), h))
 | false => (
 (model_Model_asks_c6_B M (model_Model_asks_c6_E x0 (.int .i64 x1) x5 (.int .i64 x7)) h).bind fun p0 => model_Model_asks_K7 M p0.1 p0.2.1 p0.2.2)

def model_Model_asks_c3_S (M : Env) (x0 : V) (x1 : Int) (x5 : V) (x7 : Int) (x8 : Bool) (x17 : Int) (h : H) : Option (AX × List V × H) :=
 match (decide (x17 = 3)) with
 | true => (
 some (.normal, (model_Model_asks_c3_O x0 (.int .i64 x1) x5 (.int .i64 x7) (.bool x8) (.int .i64 x17) (.bool (decide (x17 = 3)))), h))
 | false => (
 some (.normal, (model_Model_asks_c3_O x0 (.int .i64 x1) x5 (.int .i64 x7) (.bool x8) (.int .i64 x17) (.bool (decide (x17 = 7)))), h))

def model_Model_asks_c3_n (M : Env) (x0 : V) (x1 : Int) (x5 : V) (x7 : Int) (x8 : Bool) (x17 : Int) (x18 : Bool) (h : H) : Option (AX × List V × H) :=
 match x18 with
 | true => (
 match x8 with
 | true => (
 (ptrAt x5 3).bind fun v0 =>
 (h.ld1 v0).bind fun v1 =>
 (M.call 106 [x0, (.int .i64 x1), v1] h).bind fun p2 =>
 (asI .i64 p2.1).bind fun n3 =>
 some (.normal, (model_Model_asks_c1_O x0 (.int .i64 x1) x5 (.int .i64 x7) (.bool (decide (0 ≤ n3)))), p2.2))
 | false => (
 some (.normal, (model_Model_asks_c1_O x0 (.int .i64 x1) x5 (.int .i64 x7) (.bool false)), h)))
 | false => (
 match (decide (x17 = 5)) with
 | true => (
 match x8 with
 | true => (
 (ptrAt x5 3).bind fun v0 =>
 (h.ld1 v0).bind fun v1 =>
 (asI .u64 v1).bind fun n2 =>
 match (decide (n2 = 0)) with
 | true => (
 (ptrAt x5 4).bind fun v3 =>
 (h.ld1 v3).bind fun v4 =>
 (asI .u64 v4).bind fun n5 =>
 match (decide (n5 = 0)) with
 | true => (
 some (.normal, (model_Model_asks_c1_O x0 (.int .i64 x1) x5 (.int .i64 x7) (.bool true)), h))
 | false => (
 (ptrAt x5 4).bind fun v6 =>
 (h.ld1 v6).bind fun v7 =>
 (M.call 106 [x0, (.int .i64 x1), v7] h).bind fun p8 =>
 (asI .i64 p8.1).bind fun n9 =>
 some (.normal, (model_Model_asks_c1_O x0 (.int .i64 x1) x5 (.int .i64 x7) (.bool (decide (0 ≤ n9)))), p8.2)))
 | false => (
 (ptrAt x5 3).bind fun v3 =>
 (h.ld1 v3).bind fun v4 =>
 (M.call 106 [x0, (.int .i64 x1), v4] h).bind fun p5 =>
 (asI .i64 p5.1).bind fun n6 =>
 match (decide (0 ≤ n6)) with
 | true => (
 (ptrAt x5 4).bind fun v7 =>
 (p5.2.ld1 v7).bind fun v8 =>
 (asI .u64 v8).bind fun n9 =>
 match (decide (n9 = 0)) with
 | true => (
 some (.normal, (model_Model_asks_c1_O x0 (.int .i64 x1) x5 (.int .i64 x7) (.bool true)), p5.2))
 | false => (
 (ptrAt x5 4).bind fun v10 =>
 (p5.2.ld1 v10).bind fun v11 =>
 (M.call 106 [x0, (.int .i64 x1), v11] p5.2).bind fun p12 =>
 (asI .i64 p12.1).bind fun n13 =>
 some (.normal, (model_Model_asks_c1_O x0 (.int .i64 x1) x5 (.int .i64 x7) (.bool (decide (0 ≤ n13)))), p12.2)))
 | false => (
 some (.normal, (model_Model_asks_c1_O x0 (.int .i64 x1) x5 (.int .i64 x7) (.bool false)), p5.2))))
 | false => (
 some (.normal, (model_Model_asks_c1_O x0 (.int .i64 x1) x5 (.int .i64 x7) (.bool false)), h)))
 | false => (
 some (.normal, (model_Model_asks_c1_O x0 (.int .i64 x1) x5 (.int .i64 x7) (.bool x8)), h)))

def model_Model_asks_c6_S (M : Env) (x0 : V) (x1 : Int) (x5 : V) (x7 : Int) (h : H) : Option (AX × List V × H) :=
 (ptrAt x5 0).bind fun v0 =>
 (h.ld1 v0).bind fun v1 =>
 (asI .i64 v1).bind fun n2 =>
 match (decide (n2 = 2)) with
 | true => (
 (ptrAt x5 1).bind fun v3 =>
 (h.ld1 v3).bind fun v4 =>
 (asI .i64 v4).bind fun n5 =>
 match (decide (n5 < 0)) with
 | true => (
 some (.normal, (model_Model_asks_c6_O x0 (.int .i64 x1) x5 (.int .i64 x7) (.bool true)), h))
 | false => (
 (ptrAt x5 1).bind fun v6 =>
 (h.ld1 v6).bind fun v7 =>
 (nilc x0).bind fun v8 =>
 (ptrAt v8 6).bind fun v9 =>
 (h.ld1 v9).bind fun v10 =>
 (indexAV 1 v10 (.int .i64 x7)).bind fun v11 =>
 (h.ld1 v11).bind fun v12 =>
 (lenSl v12).bind fun n13 =>
 (asI .i64 v7).bind fun n14 =>
 some (.normal, (model_Model_asks_c6_O x0 (.int .i64 x1) x5 (.int .i64 x7) (.bool (decide (((n13 : Nat) : Int) ≤ n14)))), h)))
 | false => (
 (ptrAt x5 0).bind fun v3 =>
 (h.ld1 v3).bind fun v4 =>
 (M.call 83 [v4] h).bind fun p5 =>
 match p5.1 with
 | .bool true => (
 (ptrAt x5 1).bind fun v6 =>
 (p5.2.ld1 v6).bind fun v7 =>
 (asI .i64 v7).bind fun n8 =>
 match (decide (n8 < 0)) with
 | true => (
 some (.normal, (model_Model_asks_c6_O x0 (.int .i64 x1) x5 (.int .i64 x7) (.bool true)), p5.2))
 | false => (
 (ptrAt x5 1).bind fun v9 =>
 (p5.2.ld1 v9).bind fun v10 =>
 (nilc x0).bind fun v11 =>
 (ptrAt v11 6).bind fun v12 =>
 (p5.2.ld1 v12).bind fun v13 =>
 (indexAV 1 v13 (.int .i64 x7)).bind fun v14 =>
 (p5.2.ld1 v14).bind fun v15 =>
 (lenSl v15).bind fun n16 =>
 (asI .i64 v10).bind fun n17 =>
 some (.normal, (model_Model_asks_c6_O x0 (.int .i64 x1) x5 (.int .i64 x7) (.bool (decide (((n16 : Nat) : Int) ≤ n17)))), p5.2)))
 | .bool false => (
 some (.normal, (model_Model_asks_c6_O x0 (.int .i64 x1) x5 (.int .i64 x7) (.bool false)), p5.2))
 | .tup [] => (
 match p5.1 with
 | .bool true => (
 none)
 | .bool false => (
 some (.normal, (model_Model_asks_c6_O x0 (.int .i64 x1) x5 (.int .i64 x7) (.bool false)), p5.2))
 | .tup [] => (
 (asB p5.1).bind fun b6 =>
 some (.normal, (model_Model_asks_c6_O x0 (.int .i64 x1) x5 (.int .i64 x7) (match b6 with | true => (.tup []) | false => (.bool false) : V)), p5.2))
 | _ => none)
 | _ => none)

def model_Model_asks_c6_n (M : Env) (x0 : V) (x1 : Int) (x5 : V) (x7 : Int) (x62 : Bool) (h : H) : Option (V × H) :=
 match x62 with
 | true => (
 some ((.int .i64 3), h))
 | false => (
 (model_Model_asks_c8_B M (model_Model_asks_c8_E x0 (.int .i64 x1) x5 (.int .i64 x7)) h).bind fun p0 => model_Model_asks_K8 M p0.1 p0.2.1 p0.2.2)

def model_Model_asks_c8_S (M : Env) (x0 : V) (x1 : Int) (x5 : V) (x7 : Int) (h : H) : Option (AX × List V × H) :=
 (ptrAt x5 0).bind fun v0 =>
 (h.ld1 v0).bind fun v1 =>
 (asI .i64 v1).bind fun n2 =>
 match (decide (n2 = 2)) with
 | true => (
 (nilc x0).bind fun v3 =>
 (ptrAt v3 6).bind fun v4 =>
 (h.ld1 v4).bind fun v5 =>
 (indexAV 1 v5 (.int .i64 x7)).bind fun v6 =>
 (h.ld1 v6).bind fun v7 =>
 (ptrAt x5 1).bind fun v8 =>
 (h.ld1 v8).bind fun v9 =>
 (indexAV 1 v7 v9).bind fun v10 =>
 (h.ld1 v10).bind fun v11 =>
 (asI .i64 v11).bind fun n12 =>
 match (decide (0 ≤ n12)) with
 | true => (
 (nilc x0).bind fun v13 =>
 (ptrAt v13 0).bind fun v14 =>
 (ptrAt v14 3).bind fun v15 =>
 (h.ld1 v15).bind fun v16 =>
 (M.call 105 [x0, (.int .i64 x1)] h).bind fun p17 =>
 match ckB (p17.2.ld1 v15) v16 with
 | true => (
 (asI .i64 p17.1).bind fun n18 =>
 (asI .i64 v16).bind fun n19 =>
 some (.normal, (model_Model_asks_c8_O x0 (.int .i64 x1) x5 (.bool (decide (n19 ≤ n18)))), p17.2))
 | false => none)
 | false => (
 some (.normal, (model_Model_asks_c8_O x0 (.int .i64 x1) x5 (.bool false)), h)))
 | false => (
 some (.normal, (model_Model_asks_c8_O x0 (.int .i64 x1) x5 (.bool false)), h))

def model_Model_asks_c8_n (M : Env) (x0 : V) (x1 : Int) (x5 : V) (x89 : Bool) (h : H) : Option (V × H) :=
 match x89 with
 | true => (
 some ((.int .i64 5), h))
 | false => (
 (ptrAt x5 0).bind fun v0 =>
 (h.ld1 v0).bind fun v1 =>
 (asI .i64 v1).bind fun n2 =>
 match (decide (n2 = 8)) with
 | true => (
 (nilc x0).bind fun v3 =>
 (ptrAt v3 8).bind fun v4 =>
 (h.ld1 v4).bind fun v5 =>
 (indexAV 2 v5 (.int .i64 x1)).bind fun v6 =>
 (ptrAt v6 0).bind fun v7 =>
 (h.ld1 v7).bind fun v8 =>
 (asI .u64 v8).bind fun n9 =>
 match (!decide (n9 = 0)) with
 | true => (
 some ((.int .i64 7), h))
 | false => (
 some ((.int .i64 0), h)))
 | false => (
 some ((.int .i64 0), h)))

theorem model_Model_asks_eq (M : Env) (a0 : V) (a1 : Int) (a2_0 : Int) (a2_1 : Int) (a2_2 : Int) (a2_3 : Int) (a2_4 : Int) (h : H) : evalF M F.model_Model_asks [a0, (.int .i64 a1), (.agg [(.int .i64 a2_0), (.int .i64 a2_1), (.int .u64 a2_2), (.int .u64 a2_3), (.int .u64 a2_4)])] h = model_Model_asks M a0 a1 a2_0 a2_1 a2_2 a2_3 a2_4 h := by kernel_rfl

theorem model_Model_asks_c1_eq (M : Env) (x0 : V) (x1 : Int) (x5 : V) (x7 : Int) (x8 : Bool) (h : H) : model_Model_asks_c1_B M (model_Model_asks_c1_E x0 (.int .i64 x1) x5 (.int .i64 x7) (.bool x8)) h = model_Model_asks_c1_S M x0 x1 x5 x7 x8 h := by kernel_rfl

theorem model_Model_asks_c1_n_eq (M : Env) (x0 : V) (x1 : Int) (x5 : V) (x7 : Int) (x8 : Bool) (h : H) : model_Model_asks_K1 M .normal (model_Model_asks_c1_O x0 (.int .i64 x1) x5 (.int .i64 x7) (.bool x8)) h = model_Model_asks_c1_n M x0 x1 x5 x7 x8 h := by kernel_rfl

theorem model_Model_asks_c3_eq (M : Env) (x0 : V) (x1 : Int) (x5 : V) (x7 : Int) (x8 : Bool) (x17 : Int) (h : H) : model_Model_asks_c3_B M (model_Model_asks_c3_E x0 (.int .i64 x1) x5 (.int .i64 x7) (.bool x8) (.int .i64 x17)) h = model_Model_asks_c3_S M x0 x1 x5 x7 x8 x17 h := by kernel_rfl

theorem model_Model_asks_c3_n_eq (M : Env) (x0 : V) (x1 : Int) (x5 : V) (x7 : Int) (x8 : Bool) (x17 : Int) (x18 : Bool) (h : H) : model_Model_asks_K4 M .normal (model_Model_asks_c3_O x0 (.int .i64 x1) x5 (.int .i64 x7) (.bool x8) (.int .i64 x17) (.bool x18)) h = model_Model_asks_c3_n M x0 x1 x5 x7 x8 x17 x18 h := by kernel_rfl

theorem model_Model_asks_c6_eq (M : Env) (x0 : V) (x1 : Int) (x5 : V) (x7 : Int) (h : H) : model_Model_asks_c6_B M (model_Model_asks_c6_E x0 (.int .i64 x1) x5 (.int .i64 x7)) h = model_Model_asks_c6_S M x0 x1 x5 x7 h := by kernel_rfl

theorem model_Model_asks_c6_n_eq (M : Env) (x0 : V) (x1 : Int) (x5 : V) (x7 : Int) (x62 : Bool) (h : H) : model_Model_asks_K7 M .normal (model_Model_asks_c6_O x0 (.int .i64 x1) x5 (.int .i64 x7) (.bool x62)) h = model_Model_asks_c6_n M x0 x1 x5 x7 x62 h := by kernel_rfl

theorem model_Model_asks_c8_eq (M : Env) (x0 : V) (x1 : Int) (x5 : V) (x7 : Int) (h : H) : model_Model_asks_c8_B M (model_Model_asks_c8_E x0 (.int .i64 x1) x5 (.int .i64 x7)) h = model_Model_asks_c8_S M x0 x1 x5 x7 h := by kernel_rfl

theorem model_Model_asks_c8_n_eq (M : Env) (x0 : V) (x1 : Int) (x5 : V) (x89 : Bool) (h : H) : model_Model_asks_K8 M .normal (model_Model_asks_c8_O x0 (.int .i64 x1) x5 (.bool x89)) h = model_Model_asks_c8_n M x0 x1 x5 x89 h := by kernel_rfl

end Wm.S
end

section
namespace Wm.S
open Wm
set_option maxRecDepth 100000
set_option linter.unusedVariables false


def model_Model_matches (M : Env) (a0 : V) (a1 : Int) (a2_0 : Int) (a2_1 : Int) (a2_2 : Int) (a2_3 : Int) (a2_4 : Int) (h : H) : Option (V × H) :=
 let h0 := h.new (.cells [(.int .i64 a2_0), (.int .i64 a2_1), (.int .u64 a2_2), (.int .u64 a2_3), (.int .u64 a2_4)] .rw)
 (h0.ld1 (.ptr h.next 2)).bind fun v1 =>
 (h0.ld1 (.ptr h.next 1)).bind fun v2 =>
 (h0.ld1 (.ptr h.next 4)).bind fun v3 =>
 (M.call 106 [a0, (.int .i64 a1), v1] h0).bind fun p4 =>
 match ckB (p4.2.ld1 (.ptr h.next 4)) v3 with
 | true => (
 match ckB (p4.2.ld1 (.ptr h.next 1)) v2 with
 | true => (
 (M.call 116 [a0, p4.1, v2] p4.2).bind fun p5 =>
 match ckB (p5.2.ld1 (.ptr h.next 4)) v3 with
 | true => (
 (M.call 106 [a0, (.int .i64 a1), v3] p5.2).bind fun p6 =>
 (asI .i64 p5.1).bind fun n7 =>
 (asI .i64 p6.1).bind fun n8 =>
 some ((.bool (decide (n7 = n8))), p6.2))
 | false => none)
 | false => none)
 | false => none

theorem model_Model_matches_eq (M : Env) (a0 : V) (a1 : Int) (a2_0 : Int) (a2_1 : Int) (a2_2 : Int) (a2_3 : Int) (a2_4 : Int) (h : H) : evalF M F.model_Model_matches [a0, (.int .i64 a1), (.agg [(.int .i64 a2_0), (.int .i64 a2_1), (.int .u64 a2_2), (.int .u64 a2_3), (.int .u64 a2_4)])] h = model_Model_matches M a0 a1 a2_0 a2_1 a2_2 a2_3 a2_4 h := by kernel_rfl

end Wm.S
end

section
namespace Wm.S
open Wm
set_option maxRecDepth 100000
set_option linter.unusedVariables false


def op_Walk (M : Env) (a0 : Int) (h : H) : Option (V × H) :=
 match (decide (a0 = 9)) with
 | true => (
 some ((.bool true), h))
 | false => (
 some ((.bool (decide (a0 = 10))), h))

theorem op_Walk_eq (M : Env) (a0 : Int) (h : H) : evalF M F.op_Walk [(.int .i64 a0)] h = op_Walk M a0 h := by kernel_rfl

end Wm.S
end

section
namespace Wm.S
open Wm
set_option maxRecDepth 100000
set_option linter.unusedVariables false


def op_Writes (M : Env) (a0 : Int) (h : H) : Option (V × H) :=
 match (decide (3 ≤ a0)) with
 | true => (
 some ((.bool (decide (a0 ≤ 5))), h))
 | false => (
 some ((.bool false), h))

theorem op_Writes_eq (M : Env) (a0 : Int) (h : H) : evalF M F.op_Writes [(.int .i64 a0)] h = op_Writes M a0 h := by kernel_rfl

end Wm.S
end

section
namespace Wm.S
open Wm
set_option maxRecDepth 100000
set_option linter.unusedVariables false

def model_Model_done_c1_B (M : Env) : List V → H → Option (AX × List V × H) :=
 fun env h => evalC M F.model_Model_done_c1 env h fun x env h => some (x, keepOf [0, 1, 6, 7, 9, 10, 11] 0 env, h)

def model_Model_done_c1_E (x0 x1 x6 x7 x9 x10 x11 : V) : List V := x0 :: x1 :: dd 4 (x6 :: x7 :: dd 1 (x9 :: x10 :: x11 :: dd 230 []))
def model_Model_done_c1_O (x0 x1 x6 x7 x9 x10 x11 : V) : List V := x0 :: x1 :: dd 4 (x6 :: x7 :: dd 1 (x9 :: x10 :: x11 :: dd 230 []))

def model_Model_done_c3_B (M : Env) : List V → H → Option (AX × List V × H) :=
 fun env h => evalC M F.model_Model_done_c3 env h fun x env h => some (x, keepOf [0, 1, 6, 7, 9, 10, 11, 18, 19] 0 env, h)

def model_Model_done_c3_E (x0 x1 x6 x7 x9 x10 x11 x18 : V) : List V := x0 :: x1 :: dd 4 (x6 :: x7 :: dd 1 (x9 :: x10 :: x11 :: dd 6 (x18 :: dd 223 [])))
def model_Model_done_c3_O (x0 x1 x6 x7 x9 x10 x11 x18 x19 : V) : List V := x0 :: x1 :: dd 4 (x6 :: x7 :: dd 1 (x9 :: x10 :: x11 :: dd 6 (x18 :: x19 :: dd 222 [])))

def model_Model_done_c6_B (M : Env) : List V → H → Option (AX × List V × H) :=
 fun env h => evalC M F.model_Model_done_c6 env h fun x env h => some (x, keepOf [0, 1, 6, 7, 9, 10, 11, 74] 0 env, h)

def model_Model_done_c6_E (x0 x1 x6 x7 x9 x10 x11 : V) : List V := x0 :: x1 :: dd 4 (x6 :: x7 :: dd 1 (x9 :: x10 :: x11 :: dd 230 []))
def model_Model_done_c6_O (x0 x1 x6 x7 x9 x10 x11 x74 : V) : List V := x0 :: x1 :: dd 4 (x6 :: x7 :: dd 1 (x9 :: x10 :: x11 :: dd 62 (x74 :: dd 167 [])))

def model_Model_done_c8_B (M : Env) : List V → H → Option (AX × List V × H) :=
 fun env h => evalC M F.model_Model_done_c8 env h fun x env h => some (x, keepOf [] 0 env, h)

def model_Model_done_c8_E (x0 x1 x6 x7 x9 x10 x11 : V) : List V := x0 :: x1 :: dd 4 (x6 :: x7 :: dd 1 (x9 :: x10 :: x11 :: dd 230 []))
def model_Model_done_c8_O : List V := dd 242 []

def model_Model_done_K0 (M : Env) : AX → List V → H → Option (V × H) :=
 fun x env h => fin F.model_Model_done x env h

def model_Model_done_K1 (M : Env) : AX → List V → H → Option (V × H) :=
 fun x env h => match x with | .normal => evalC M F.model_Model_done_c0 env h (fun x env h => model_Model_done_K0 M x env h) | x => model_Model_done_K0 M x env h

def model_Model_done_K2 (M : Env) : AX → List V → H → Option (AX × List V × H) :=
 fun x env h => some (x, keepOf [0, 1, 6, 7, 9, 10, 11] 0 env, h)

def model_Model_done_K3 (M : Env) : AX → List V → H → Option (AX × List V × H) :=
 fun x env h => match x with | .exit j => (match Nat.beq j 0 with | true => model_Model_done_K2 M .normal env h | false => model_Model_done_K2 M (.exit j) env h) | x => model_Model_done_K2 M x env h

def model_Model_done_K4 (M : Env) : AX → List V → H → Option (AX × List V × H) :=
 fun x env h => match x with | .normal => evalC M F.model_Model_done_c2 env h (fun x env h => model_Model_done_K3 M x env h) | x => model_Model_done_K3 M x env h

def model_Model_done_K5 (M : Env) : AX → List V → H → Option (V × H) :=
 fun x env h => match x with | .normal => evalC M F.model_Model_done_c4 env h (fun x env h => model_Model_done_K0 M x env h) | x => model_Model_done_K0 M x env h

def model_Model_done_K6 (M : Env) : AX → List V → H → Option (V × H) :=
 fun x env h => match x with | .normal => evalC M F.model_Model_done_c5 env h (fun x env h => model_Model_done_K5 M x env h) | x => model_Model_done_K5 M x env h

def model_Model_done_K7 (M : Env) : AX → List V → H → Option (V × H) :=
 fun x env h => match x with | .normal => evalC M F.model_Model_done_c7 env h (fun x env h => model_Model_done_K0 M x env h) | x => model_Model_done_K0 M x env h

def model_Model_done (M : Env) (a0 : V) (a1 : Int) (a2_0 : Int) (a2_1 : Int) (a2_2 : Int) (a2_3 : Int) (a2_4 : Int) (a3_0 : Int) (a3_1 : Int) (a3_2 : Bool) (h : H) : Option (V × H) :=
 let h0 := h.new (.cells [(.int .i64 a2_0), (.int .i64 a2_1), (.int .u64 a2_2), (.int .u64 a2_3), (.int .u64 a2_4)] .rw)
 let h1 := h0.new (.cells [(.int .i64 a3_0), (.int .u64 a3_1), (.bool a3_2)] .rw)
 (h1.ld1 (.ptr h.next 2)).bind fun v2 =>
 (M.call 106 [a0, (.int .i64 a1), v2] h1).bind fun p3 =>
 (model_Model_done_c1_B M (model_Model_done_c1_E a0 (.int .i64 a1) (.ptr h.next 0) (.ptr h0.next 0) p3.1 (.bool false) (.bool false)) p3.2).bind fun p4 => model_Model_done_K1 M p4.1 p4.2.1 p4.2.2

def model_Model_done_c1_S (M : Env) (x0 : V) (x1 : Int) (x6 : V) (x7 : V) (x9 : Int) (x10 : Bool) (x11 : Bool) (h : H) : Option (AX × List V × H) :=
 (ptrAt x6 0).bind fun v0 =>
 (h.ld1 v0).bind fun v1 =>
 (model_Model_done_c3_B M (model_Model_done_c3_E x0 (.int .i64 x1) x6 x7 (.int .i64 x9) (.bool x10) (.bool x11) v1) h).bind fun p2 => model_Model_done_K4 M p2.1 p2.2.1 p2.2.2

def model_Model_done_c1_n (M : Env) (x0 : V) (x1 : Int) (x6 : V) (x7 : V) (x9 : Int) (x10 : Bool) (x11 : Bool) (h : H) : Option (V × H) :=
 (model_Model_done_c6_B M (model_Model_done_c6_E x0 (.int .i64 x1) x6 x7 (.int .i64 x9) (.bool x10) (.bool x11)) h).bind fun p0 => model_Model_done_K6 M p0.1 p0.2.1 p0.2.2

def model_Model_done_c3_S (M : Env) (x0 : V) (x1 : Int) (x6 : V) (x7 : V) (x9 : Int) (x10 : Bool) (x11 : Bool) (x18 : Int) (h : H) : Option (AX × List V × H) :=
 match (decide (x18 = 1)) with
 | true => (
 some (.normal, (model_Model_done_c3_O x0 (.int .i64 x1) x6 x7 (.int .i64 x9) (.bool x10) (.bool x11) (.int .i64 x18) (.bool (decide (x18 = 1)))), h))
 | false => (
 match (decide (x18 = 8)) with
 | true => (
 some (.normal, (model_Model_done_c3_O x0 (.int .i64 x1) x6 x7 (.int .i64 x9) (.bool x10) (.bool x11) (.int .i64 x18) (.bool (decide (x18 = 8)))), h))
 | false => (
 some (.normal, (model_Model_done_c3_O x0 (.int .i64 x1) x6 x7 (.int .i64 x9) (.bool x10) (.bool x11) (.int .i64 x18) (.bool (decide (x18 = 9)))), h)))

def model_Model_done_c3_n (M : Env) (x0 : V) (x1 : Int) (x6 : V) (x7 : V) (x9 : Int) (x10 : Bool) (x11 : Bool) (x18 : Int) (x19 : Bool) (h : H) : Option (AX × List V × H) :=
 match x19 with
 | true => (
 some (.normal, (model_Model_done_c1_O x0 (.int .i64 x1) x6 x7 (.int .i64 x9) (.bool true) (.bool x11)), h))
 | false => (
 match (decide (x18 = 2)) with
 | true => (
 (nilc x0).bind fun v0 =>
 (ptrAt v0 6).bind fun v1 =>
 (h.ld1 v1).bind fun v2 =>
 (indexAV 1 v2 (.int .i64 x9)).bind fun v3 =>
 (h.ld1 v3).bind fun v4 =>
 (ptrAt x6 1).bind fun v5 =>
 (h.ld1 v5).bind fun v6 =>
 (indexAV 1 v4 v6).bind fun v7 =>
 (h.ld1 v7).bind fun v8 =>
 (asI .i64 v8).bind fun n9 =>
 some (.normal, (model_Model_done_c1_O x0 (.int .i64 x1) x6 x7 (.int .i64 x9) (.bool (decide (0 ≤ n9))) (.bool x11)), h))
 | false => (
 match (decide (x18 = 5)) with
 | true => (
 (h.ldN 5 x6).bind fun v0 =>
 (M.call 283 [x0, (.int .i64 x1), v0] h).bind fun p1 =>
 some (.normal, (model_Model_done_c1_O x0 (.int .i64 x1) x6 x7 (.int .i64 x9) (.bool x10) p1.1), p1.2))
 | false => (
 match (decide (x18 = 7)) with
 | true => (
 (ptrAt x6 3).bind fun v0 =>
 (h.ld1 v0).bind fun v1 =>
 (M.call 106 [x0, (.int .i64 x1), v1] h).bind fun p2 =>
 (asI .i64 p2.1).bind fun n3 =>
 some (.normal, (model_Model_done_c1_O x0 (.int .i64 x1) x6 x7 (.int .i64 x9) (.bool x10) (.bool (decide (x9 = n3)))), p2.2))
 | false => (
 some (.normal, (model_Model_done_c1_O x0 (.int .i64 x1) x6 x7 (.int .i64 x9) (.bool x10) (.bool x11)), h)))))

def model_Model_done_c6_S (M : Env) (x0 : V) (x1 : Int) (x6 : V) (x7 : V) (x9 : Int) (x10 : Bool) (x11 : Bool) (h : H) : Option (AX × List V × H) :=
 (ptrAt x7 2).bind fun v0 =>
 (h.ld1 v0).bind fun v1 =>
 (eqV .bool v1 (.bool x11)).bind fun b2 =>
 match (!b2) with
 | true => (
 some (.normal, (model_Model_done_c6_O x0 (.int .i64 x1) x6 x7 (.int .i64 x9) (.bool x10) (.bool x11) (.bool true)), h))
 | false => (
 match x10 with
 | true => (
 (ptrAt x7 1).bind fun v3 =>
 (h.ld1 v3).bind fun v4 =>
 (M.call 383 [x0, v4] h).bind fun p5 =>
 (asB p5.1).bind fun b6 =>
 match (!b6) with
 | true => (
 some (.normal, (model_Model_done_c6_O x0 (.int .i64 x1) x6 x7 (.int .i64 x9) (.bool x10) (.bool x11) (.bool true)), p5.2))
 | false => (
 match (!x10) with
 | true => (
 (ptrAt x7 1).bind fun v7 =>
 (p5.2.ld1 v7).bind fun v8 =>
 (asI .u64 v8).bind fun n9 =>
 some (.normal, (model_Model_done_c6_O x0 (.int .i64 x1) x6 x7 (.int .i64 x9) (.bool x10) (.bool x11) (.bool (!decide (n9 = 0)))), p5.2))
 | false => (
 some (.normal, (model_Model_done_c6_O x0 (.int .i64 x1) x6 x7 (.int .i64 x9) (.bool x10) (.bool x11) (.bool false)), p5.2))))
 | false => (
 match (!x10) with
 | true => (
 (ptrAt x7 1).bind fun v3 =>
 (h.ld1 v3).bind fun v4 =>
 (asI .u64 v4).bind fun n5 =>
 some (.normal, (model_Model_done_c6_O x0 (.int .i64 x1) x6 x7 (.int .i64 x9) (.bool x10) (.bool x11) (.bool (!decide (n5 = 0)))), h))
 | false => (
 some (.normal, (model_Model_done_c6_O x0 (.int .i64 x1) x6 x7 (.int .i64 x9) (.bool x10) (.bool x11) (.bool false)), h))))

def model_Model_done_c6_n (M : Env) (x0 : V) (x1 : Int) (x6 : V) (x7 : V) (x9 : Int) (x10 : Bool) (x11 : Bool) (x74 : Bool) (h : H) : Option (V × H) :=
 match x74 with
 | true => (
 some ((.bool false), h))
 | false => (
 (model_Model_done_c8_B M (model_Model_done_c8_E x0 (.int .i64 x1) x6 x7 (.int .i64 x9) (.bool x10) (.bool x11)) h).bind fun p0 => model_Model_done_K7 M p0.1 p0.2.1 p0.2.2)

def model_Model_done_c8_S (M : Env) (x0 : V) (x1 : Int) (x6 : V) (x7 : V) (x9 : Int) (x10 : Bool) (x11 : Bool) (h : H) : Option (AX × List V × H) :=
 (ptrAt x6 0).bind fun v0 =>
 (h.ld1 v0).bind fun v1 =>
 (asI .i64 v1).bind fun n2 =>
 match (decide (n2 = 1)) with
 | true => (
 (nilc x0).bind fun v3 =>
 (ptrAt v3 6).bind fun v4 =>
 (h.ld1 v4).bind fun v5 =>
 (ptrAt x6 1).bind fun v6 =>
 (h.ld1 v6).bind fun v7 =>
 let h8 := h.new (.cells [(.int .i64 (-1))] .rw)
 (M.call 384 [(.sl h.next 0 1 (.ex 1)), v7] h8).bind fun p9 =>
 match ckB (p9.2.ld1 v4) v5 with
 | true => (
 (fill (repl [.nilsl] 1) [] [(0, 1, .c p9.1)]).bind fun cs10 =>
 let h11 := p9.2.new (.cells cs10 .rw)
 (h11.append 1 24 v5 (.sl p9.2.next 0 1 (.ex 1))).bind fun p12 =>
 (nilc x0).bind fun v13 =>
 (ptrAt v13 6).bind fun v14 =>
 (p12.2.st 1 v14 p12.1).bind fun h15 =>
 (ptrAt x7 1).bind fun v16 =>
 (h15.ld1 v16).bind fun v17 =>
 (nilc x0).bind fun v18 =>
 (ptrAt v18 6).bind fun v19 =>
 (h15.ld1 v19).bind fun v20 =>
 (lenSl v20).bind fun n21 =>
 (M.call 385 [x0, (.int .i64 x1), v17, (.int .i64 (wr .i64 (((n21 : Nat) : Int) - 1)))] h15).bind fun p22 =>
 some (.normal, model_Model_done_c8_O, p22.2))
 | false => none)
 | false => (
 (asI .i64 v1).bind fun n3 =>
 match (decide (n3 = 2)) with
 | true => (
 match x10 with
 | true => (
 (ptrAt x7 1).bind fun v4 =>
 (h.ld1 v4).bind fun v5 =>
 (nilc x0).bind fun v6 =>
 (ptrAt v6 6).bind fun v7 =>
 (h.ld1 v7).bind fun v8 =>
 (indexAV 1 v8 (.int .i64 x9)).bind fun v9 =>
 (h.ld1 v9).bind fun v10 =>
 (ptrAt x6 1).bind fun v11 =>
 (h.ld1 v11).bind fun v12 =>
 (indexAV 1 v10 v12).bind fun v13 =>
 (h.ld1 v13).bind fun v14 =>
 (M.call 385 [x0, (.int .i64 x1), v5, v14] h).bind fun p15 =>
 some (.normal, model_Model_done_c8_O, p15.2))
 | false => (
 some (.normal, model_Model_done_c8_O, h)))
 | false => (
 (asI .i64 v1).bind fun n4 =>
 match (decide (n4 = 3)) with
 | true => (
 (nilc x0).bind fun v5 =>
 (ptrAt v5 6).bind fun v6 =>
 (h.ld1 v6).bind fun v7 =>
 (indexAV 1 v7 (.int .i64 x9)).bind fun v8 =>
 (h.ld1 v8).bind fun v9 =>
 (ptrAt x6 1).bind fun v10 =>
 (h.ld1 v10).bind fun v11 =>
 (ptrAt x6 3).bind fun v12 =>
 (h.ld1 v12).bind fun v13 =>
 (M.call 106 [x0, (.int .i64 x1), v13] h).bind fun p14 =>
 match ckB (p14.2.ld1 v10) v11 with
 | true => (
 match ckB (p14.2.ld1 v8) v9 with
 | true => (
 match ckB (p14.2.ld1 v6) v7 with
 | true => (
 (indexAV 1 v9 v11).bind fun v15 =>
 (p14.2.st 1 v15 p14.1).bind fun h16 =>
 some (.normal, model_Model_done_c8_O, h16))
 | false => none)
 | false => none)
 | false => none)
 | false => (
 (asI .i64 v1).bind fun n5 =>
 match (decide (n5 = 4)) with
 | true => (
 (nilc x0).bind fun v6 =>
 (ptrAt v6 6).bind fun v7 =>
 (h.ld1 v7).bind fun v8 =>
 (indexAV 1 v8 (.int .i64 x9)).bind fun v9 =>
 (h.ld1 v9).bind fun v10 =>
 (ptrAt x6 1).bind fun v11 =>
 (h.ld1 v11).bind fun v12 =>
 (indexAV 1 v10 v12).bind fun v13 =>
 (h.st 1 v13 (.int .i64 (-1))).bind fun h14 =>
 some (.normal, model_Model_done_c8_O, h14))
 | false => (
 (asI .i64 v1).bind fun n6 =>
 match (decide (n6 = 5)) with
 | true => (
 match x11 with
 | true => (
 (nilc x0).bind fun v7 =>
 (ptrAt v7 6).bind fun v8 =>
 (h.ld1 v8).bind fun v9 =>
 (indexAV 1 v9 (.int .i64 x9)).bind fun v10 =>
 (h.ld1 v10).bind fun v11 =>
 (ptrAt x6 1).bind fun v12 =>
 (h.ld1 v12).bind fun v13 =>
 (ptrAt x6 3).bind fun v14 =>
 (h.ld1 v14).bind fun v15 =>
 (M.call 106 [x0, (.int .i64 x1), v15] h).bind fun p16 =>
 match ckB (p16.2.ld1 v12) v13 with
 | true => (
 match ckB (p16.2.ld1 v10) v11 with
 | true => (
 match ckB (p16.2.ld1 v8) v9 with
 | true => (
 (indexAV 1 v11 v13).bind fun v17 =>
 (p16.2.st 1 v17 p16.1).bind fun h18 =>
 some (.normal, model_Model_done_c8_O, h18))
 | false => none)
 | false => none)
 | false => none)
 | false => (
 some (.normal, model_Model_done_c8_O, h)))
 | false => (
 (asI .i64 v1).bind fun n7 =>
 match (decide (n7 = 6)) with
 | true => (
 (nilc x0).bind fun v8 =>
 (ptrAt v8 7).bind fun v9 =>
 (h.ld1 v9).bind fun v10 =>
 (indexAV 1 v10 (.int .i64 x1)).bind fun v11 =>
 (h.ld1 v11).bind fun v12 =>
 (ptrAt x6 2).bind fun v13 =>
 (h.ld1 v13).bind fun v14 =>
 (h.mapDel .int v12 v14).bind fun h15 =>
 some (.normal, model_Model_done_c8_O, h15))
 | false => (
 (asI .i64 v1).bind fun n8 =>
 match (decide (n8 = 8)) with
 | true => (
 (nilc x0).bind fun v9 =>
 (ptrAt v9 9).bind fun v10 =>
 (h.ld1 v10).bind fun v11 =>
 (ptrAt x7 1).bind fun v12 =>
 (h.ld1 v12).bind fun v13 =>
 (h.mapSet .int v11 v13 (.int .i64 1)).bind fun h14 =>
 (nilc x0).bind fun v15 =>
 (ptrAt v15 8).bind fun v16 =>
 (h14.ld1 v16).bind fun v17 =>
 (ptrAt x7 1).bind fun v18 =>
 (h14.ld1 v18).bind fun v19 =>
 (M.call 386 [x0, (.int .i64 x9)] h14).bind fun p20 =>
 match ckB (p20.2.ld1 v18) v19 with
 | true => (
 match ckB (p20.2.ld1 v16) v17 with
 | true => (
 (fill [(.int .u64 0), .nilsl] [] [(0, 1, .c v19), (1, 1, .c p20.1)]).bind fun cs21 =>
 (indexAV 2 v17 (.int .i64 x1)).bind fun v22 =>
 (p20.2.st 2 v22 (.agg cs21)).bind fun h23 =>
 some (.normal, model_Model_done_c8_O, h23))
 | false => none)
 | false => none)
 | false => (
 (asI .i64 v1).bind fun n9 =>
 match (decide (n9 = 9)) with
 | true => (
 (ptrAt x7 1).bind fun v10 =>
 (h.ld1 v10).bind fun v11 =>
 (nilc x0).bind fun v12 =>
 (ptrAt v12 8).bind fun v13 =>
 (h.ld1 v13).bind fun v14 =>
 (indexAV 2 v14 (.int .i64 x1)).bind fun v15 =>
 (ptrAt v15 1).bind fun v16 =>
 (h.ld1 v16).bind fun v17 =>
 (indexAV 1 v17 (.int .i64 0)).bind fun v18 =>
 (h.ld1 v18).bind fun v19 =>
 (M.call 385 [x0, (.int .i64 x1), v11, v19] h).bind fun p20 =>
 (nilc x0).bind fun v21 =>
 (ptrAt v21 8).bind fun v22 =>
 (p20.2.ld1 v22).bind fun v23 =>
 (nilc x0).bind fun v24 =>
 (ptrAt v24 8).bind fun v25 =>
 (p20.2.ld1 v25).bind fun v26 =>
 (indexAV 2 v26 (.int .i64 x1)).bind fun v27 =>
 (ptrAt v27 1).bind fun v28 =>
 (p20.2.ld1 v28).bind fun v29 =>
 (sliceV 1 v29 (some (.int .i64 1)) none none).bind fun v30 =>
 (indexAV 2 v23 (.int .i64 x1)).bind fun v31 =>
 (ptrAt v31 1).bind fun v32 =>
 (p20.2.st 1 v32 v30).bind fun h33 =>
 some (.normal, model_Model_done_c8_O, h33))
 | false => (
 (asI .i64 v1).bind fun n10 =>
 match (decide (n10 = 10)) with
 | true => (
 (nilc x0).bind fun v11 =>
 (ptrAt v11 8).bind fun v12 =>
 (h.ld1 v12).bind fun v13 =>
 (indexAV 2 v13 (.int .i64 x1)).bind fun v14 =>
 (h.st 2 v14 (.agg [(.int .u64 0), .nilsl])).bind fun h15 =>
 some (.normal, model_Model_done_c8_O, h15))
 | false => (
 some (.normal, model_Model_done_c8_O, h))))))))))

def model_Model_done_c8_n (M : Env) (h : H) : Option (V × H) :=
 some ((.bool true), h)

theorem model_Model_done_eq (M : Env) (a0 : V) (a1 : Int) (a2_0 : Int) (a2_1 : Int) (a2_2 : Int) (a2_3 : Int) (a2_4 : Int) (a3_0 : Int) (a3_1 : Int) (a3_2 : Bool) (h : H) : evalF M F.model_Model_done [a0, (.int .i64 a1), (.agg [(.int .i64 a2_0), (.int .i64 a2_1), (.int .u64 a2_2), (.int .u64 a2_3), (.int .u64 a2_4)]), (.agg [(.int .i64 a3_0), (.int .u64 a3_1), (.bool a3_2)])] h = model_Model_done M a0 a1 a2_0 a2_1 a2_2 a2_3 a2_4 a3_0 a3_1 a3_2 h := by kernel_rfl

theorem model_Model_done_c1_eq (M : Env) (x0 : V) (x1 : Int) (x6 : V) (x7 : V) (x9 : Int) (x10 : Bool) (x11 : Bool) (h : H) : model_Model_done_c1_B M (model_Model_done_c1_E x0 (.int .i64 x1) x6 x7 (.int .i64 x9) (.bool x10) (.bool x11)) h = model_Model_done_c1_S M x0 x1 x6 x7 x9 x10 x11 h := by kernel_rfl

theorem model_Model_done_c1_n_eq (M : Env) (x0 : V) (x1 : Int) (x6 : V) (x7 : V) (x9 : Int) (x10 : Bool) (x11 : Bool) (h : H) : model_Model_done_K1 M .normal (model_Model_done_c1_O x0 (.int .i64 x1) x6 x7 (.int .i64 x9) (.bool x10) (.bool x11)) h = model_Model_done_c1_n M x0 x1 x6 x7 x9 x10 x11 h := by kernel_rfl

theorem model_Model_done_c3_eq (M : Env) (x0 : V) (x1 : Int) (x6 : V) (x7 : V) (x9 : Int) (x10 : Bool) (x11 : Bool) (x18 : Int) (h : H) : model_Model_done_c3_B M (model_Model_done_c3_E x0 (.int .i64 x1) x6 x7 (.int .i64 x9) (.bool x10) (.bool x11) (.int .i64 x18)) h = model_Model_done_c3_S M x0 x1 x6 x7 x9 x10 x11 x18 h := by kernel_rfl

theorem model_Model_done_c3_n_eq (M : Env) (x0 : V) (x1 : Int) (x6 : V) (x7 : V) (x9 : Int) (x10 : Bool) (x11 : Bool) (x18 : Int) (x19 : Bool) (h : H) : model_Model_done_K4 M .normal (model_Model_done_c3_O x0 (.int .i64 x1) x6 x7 (.int .i64 x9) (.bool x10) (.bool x11) (.int .i64 x18) (.bool x19)) h = model_Model_done_c3_n M x0 x1 x6 x7 x9 x10 x11 x18 x19 h := by kernel_rfl

theorem model_Model_done_c6_eq (M : Env) (x0 : V) (x1 : Int) (x6 : V) (x7 : V) (x9 : Int) (x10 : Bool) (x11 : Bool) (h : H) : model_Model_done_c6_B M (model_Model_done_c6_E x0 (.int .i64 x1) x6 x7 (.int .i64 x9) (.bool x10) (.bool x11)) h = model_Model_done_c6_S M x0 x1 x6 x7 x9 x10 x11 h := by kernel_rfl

theorem model_Model_done_c6_n_eq (M : Env) (x0 : V) (x1 : Int) (x6 : V) (x7 : V) (x9 : Int) (x10 : Bool) (x11 : Bool) (x74 : Bool) (h : H) : model_Model_done_K6 M .normal (model_Model_done_c6_O x0 (.int .i64 x1) x6 x7 (.int .i64 x9) (.bool x10) (.bool x11) (.bool x74)) h = model_Model_done_c6_n M x0 x1 x6 x7 x9 x10 x11 x74 h := by kernel_rfl

theorem model_Model_done_c8_eq (M : Env) (x0 : V) (x1 : Int) (x6 : V) (x7 : V) (x9 : Int) (x10 : Bool) (x11 : Bool) (h : H) : model_Model_done_c8_B M (model_Model_done_c8_E x0 (.int .i64 x1) x6 x7 (.int .i64 x9) (.bool x10) (.bool x11)) h = model_Model_done_c8_S M x0 x1 x6 x7 x9 x10 x11 h := by kernel_rfl

theorem model_Model_done_c8_n_eq (M : Env) (h : H) : model_Model_done_K7 M .normal model_Model_done_c8_O h = model_Model_done_c8_n M h := by kernel_rfl

end Wm.S
end

section
namespace Wm.S
open Wm
set_option maxRecDepth 100000
set_option linter.unusedVariables false

def model_Model_Does_c1_B (M : Env) : List V → H → Option (AX × List V × H) :=
 fun env h => evalC M F.model_Model_Does_c1 env h fun x env h => some (x, keepOf [0, 1, 6, 7, 9, 10] 0 env, h)

def model_Model_Does_c1_E (x0 x1 x6 x7 x10 : V) : List V := x0 :: x1 :: dd 4 (x6 :: x7 :: dd 2 (x10 :: dd 74 []))
def model_Model_Does_c1_O (x0 x1 x6 x7 x9 x10 : V) : List V := x0 :: x1 :: dd 4 (x6 :: x7 :: dd 1 (x9 :: x10 :: dd 74 []))

def model_Model_Does_c3_B (M : Env) : List V → H → Option (AX × List V × H) :=
 fun env h => evalC M F.model_Model_Does_c3 env h fun x env h => some (x, keepOf [0, 1, 6, 7, 10, 22] 0 env, h)

def model_Model_Does_c3_E (x0 x1 x6 x7 x10 : V) : List V := x0 :: x1 :: dd 4 (x6 :: x7 :: dd 2 (x10 :: dd 74 []))
def model_Model_Does_c3_O (x0 x1 x6 x7 x10 x22 : V) : List V := x0 :: x1 :: dd 4 (x6 :: x7 :: dd 2 (x10 :: dd 11 (x22 :: dd 62 [])))

def model_Model_Does_K0 (M : Env) : AX → List V → H → Option (V × H) :=
 fun x env h => fin F.model_Model_Does x env h

def model_Model_Does_K1 (M : Env) : AX → List V → H → Option (V × H) :=
 fun x env h => match x with | .normal => evalC M F.model_Model_Does_c0 env h (fun x env h => model_Model_Does_K0 M x env h) | x => model_Model_Does_K0 M x env h

def model_Model_Does_K2 (M : Env) : AX → List V → H → Option (AX × List V × H) :=
 fun x env h => some (x, keepOf [0, 1, 6, 7, 9, 10] 0 env, h)

def model_Model_Does_K3 (M : Env) : AX → List V → H → Option (AX × List V × H) :=
 fun x env h => match x with | .exit j => (match Nat.beq j 0 with | true => model_Model_Does_K2 M .normal env h | false => model_Model_Does_K2 M (.exit j) env h) | x => model_Model_Does_K2 M x env h

def model_Model_Does_K4 (M : Env) : AX → List V → H → Option (AX × List V × H) :=
 fun x env h => match x with | .normal => evalC M F.model_Model_Does_c2 env h (fun x env h => model_Model_Does_K3 M x env h) | x => model_Model_Does_K3 M x env h

def model_Model_Does (M : Env) (a0 : V) (a1 : Int) (a2_0 : Int) (a2_1 : Int) (a2_2 : Int) (a2_3 : Int) (a2_4 : Int) (a3_0 : Int) (a3_1 : Int) (a3_2 : Bool) (h : H) : Option (V × H) :=
 let h0 := h.new (.cells [(.int .i64 a2_0), (.int .i64 a2_1), (.int .u64 a2_2), (.int .u64 a2_3), (.int .u64 a2_4)] .rw)
 let h1 := h0.new (.cells [(.int .i64 a3_0), (.int .u64 a3_1), (.bool a3_2)] .rw)
 (M.call 279 [a0, (.int .i64 a1)] h1).bind fun p2 =>
 (asB p2.1).bind fun b3 =>
 match (!b3) with
 | true => (
 some ((.bool false), p2.2))
 | false => (
 (model_Model_Does_c1_B M (model_Model_Does_c1_E a0 (.int .i64 a1) (.ptr h.next 0) (.ptr h0.next 0) (.bool false)) p2.2).bind fun p4 => model_Model_Does_K1 M p4.1 p4.2.1 p4.2.2)

def model_Model_Does_c1_S (M : Env) (x0 : V) (x1 : Int) (x6 : V) (x7 : V) (x10 : Bool) (h : H) : Option (AX × List V × H) :=
 (model_Model_Does_c3_B M (model_Model_Does_c3_E x0 (.int .i64 x1) x6 x7 (.bool x10)) h).bind fun p0 => model_Model_Does_K4 M p0.1 p0.2.1 p0.2.2

def model_Model_Does_c1_n (M : Env) (x0 : V) (x1 : Int) (x6 : V) (x7 : V) (x9 : Int) (x10 : Bool) (h : H) : Option (V × H) :=
 match (!decide (x9 = 0)) with
 | true => (
 (h.ldN 3 x7).bind fun v0 =>
 (eqV (.agg [(0, .int), (1, .int), (2, .bool)]) v0 (.agg [(.int .i64 x9), (.int .u64 0), (.bool false)])).bind fun b1 =>
 some ((.bool b1), h))
 | false => (
 (ptrAt x7 0).bind fun v0 =>
 (h.ld1 v0).bind fun v1 =>
 (asI .i64 v1).bind fun n2 =>
 match (decide (n2 = 4)) with
 | true => (
 match x10 with
 | true => (
 (h.ldN 3 x7).bind fun v3 =>
 (eqV (.agg [(0, .int), (1, .int), (2, .bool)]) v3 (.agg [(.int .i64 4), (.int .u64 0), (.bool false)])).bind fun b4 =>
 match b4 with
 | true => (
 (ptrAt x6 0).bind fun v5 =>
 (h.ld1 v5).bind fun v6 =>
 (asI .i64 v6).bind fun n7 =>
 match (decide (n7 = 5)) with
 | true => (
 (h.ldN 5 x6).bind fun v8 =>
 (M.call 283 [x0, (.int .i64 x1), v8] h).bind fun p9 =>
 (asB p9.1).bind fun b10 =>
 some ((.bool (!(!b10))), p9.2))
 | false => (
 some ((.bool true), h)))
 | false => (
 some ((.bool false), h)))
 | false => (
 some ((.bool false), h)))
 | false => (
 (ptrAt x7 0).bind fun v3 =>
 (h.ld1 v3).bind fun v4 =>
 (asI .i64 v4).bind fun n5 =>
 match (decide (n5 = 0)) with
 | true => (
 (h.ldN 5 x6).bind fun v6 =>
 (h.ldN 3 x7).bind fun v7 =>
 (M.call 284 [x0, (.int .i64 x1), v6, v7] h).bind fun p8 =>
 some (p8.1, p8.2))
 | false => (
 some ((.bool false), h))))

def model_Model_Does_c3_S (M : Env) (x0 : V) (x1 : Int) (x6 : V) (x7 : V) (x10 : Bool) (h : H) : Option (AX × List V × H) :=
 (ptrAt x6 0).bind fun v0 =>
 (h.ld1 v0).bind fun v1 =>
 (asI .i64 v1).bind fun n2 =>
 match (decide (n2 < 1)) with
 | true => (
 some (.normal, (model_Model_Does_c3_O x0 (.int .i64 x1) x6 x7 (.bool x10) (.bool true)), h))
 | false => (
 (ptrAt x6 0).bind fun v3 =>
 (h.ld1 v3).bind fun v4 =>
 (asI .i64 v4).bind fun n5 =>
 some (.normal, (model_Model_Does_c3_O x0 (.int .i64 x1) x6 x7 (.bool x10) (.bool (decide (10 < n5)))), h))

def model_Model_Does_c3_n (M : Env) (x0 : V) (x1 : Int) (x6 : V) (x7 : V) (x10 : Bool) (x22 : Bool) (h : H) : Option (AX × List V × H) :=
 match x22 with
 | true => (
 some (.normal, (model_Model_Does_c1_O x0 (.int .i64 x1) x6 x7 (.int .i64 8) (.bool x10)), h))
 | false => (
 (ptrAt x6 0).bind fun v0 =>
 (h.ld1 v0).bind fun v1 =>
 (asI .i64 v1).bind fun n2 =>
 match (decide (n2 = 1)) with
 | true => (
 (h.ldN 5 x6).bind fun v3 =>
 (M.call 280 [x0, (.int .i64 x1), v3] h).bind fun p4 =>
 some (.normal, (model_Model_Does_c1_O x0 (.int .i64 x1) x6 x7 p4.1 (.bool true)), p4.2))
 | false => (
 (ptrAt x6 0).bind fun v3 =>
 (h.ld1 v3).bind fun v4 =>
 (M.call 82 [v4] h).bind fun p5 =>
 (asB p5.1).bind fun b6 =>
 match b6 with
 | true => (
 (p5.2.ldN 5 x6).bind fun v7 =>
 (M.call 281 [x0, (.int .i64 x1), v7] p5.2).bind fun p8 =>
 some (.normal, (model_Model_Does_c1_O x0 (.int .i64 x1) x6 x7 p8.1 (.bool x10)), p8.2))
 | false => (
 (p5.2.ldN 5 x6).bind fun v7 =>
 (ptrAt x6 0).bind fun v8 =>
 (p5.2.ld1 v8).bind fun v9 =>
 (M.call 282 [x0, (.int .i64 x1), v7] p5.2).bind fun p10 =>
 match ckB (p10.2.ld1 v8) v9 with
 | true => (
 (M.call 83 [v9] p10.2).bind fun p11 =>
 some (.normal, (model_Model_Does_c1_O x0 (.int .i64 x1) x6 x7 p10.1 p11.1), p11.2))
 | false => none)))

theorem model_Model_Does_eq (M : Env) (a0 : V) (a1 : Int) (a2_0 : Int) (a2_1 : Int) (a2_2 : Int) (a2_3 : Int) (a2_4 : Int) (a3_0 : Int) (a3_1 : Int) (a3_2 : Bool) (h : H) : evalF M F.model_Model_Does [a0, (.int .i64 a1), (.agg [(.int .i64 a2_0), (.int .i64 a2_1), (.int .u64 a2_2), (.int .u64 a2_3), (.int .u64 a2_4)]), (.agg [(.int .i64 a3_0), (.int .u64 a3_1), (.bool a3_2)])] h = model_Model_Does M a0 a1 a2_0 a2_1 a2_2 a2_3 a2_4 a3_0 a3_1 a3_2 h := by kernel_rfl

theorem model_Model_Does_c1_eq (M : Env) (x0 : V) (x1 : Int) (x6 : V) (x7 : V) (x10 : Bool) (h : H) : model_Model_Does_c1_B M (model_Model_Does_c1_E x0 (.int .i64 x1) x6 x7 (.bool x10)) h = model_Model_Does_c1_S M x0 x1 x6 x7 x10 h := by kernel_rfl

theorem model_Model_Does_c1_n_eq (M : Env) (x0 : V) (x1 : Int) (x6 : V) (x7 : V) (x9 : Int) (x10 : Bool) (h : H) : model_Model_Does_K1 M .normal (model_Model_Does_c1_O x0 (.int .i64 x1) x6 x7 (.int .i64 x9) (.bool x10)) h = model_Model_Does_c1_n M x0 x1 x6 x7 x9 x10 h := by kernel_rfl

theorem model_Model_Does_c3_eq (M : Env) (x0 : V) (x1 : Int) (x6 : V) (x7 : V) (x10 : Bool) (h : H) : model_Model_Does_c3_B M (model_Model_Does_c3_E x0 (.int .i64 x1) x6 x7 (.bool x10)) h = model_Model_Does_c3_S M x0 x1 x6 x7 x10 h := by kernel_rfl

theorem model_Model_Does_c3_n_eq (M : Env) (x0 : V) (x1 : Int) (x6 : V) (x7 : V) (x10 : Bool) (x22 : Bool) (h : H) : model_Model_Does_K4 M .normal (model_Model_Does_c3_O x0 (.int .i64 x1) x6 x7 (.bool x10) (.bool x22)) h = model_Model_Does_c3_n M x0 x1 x6 x7 x10 x22 h := by kernel_rfl

end Wm.S
end

section
namespace Wm.S
open Wm
set_option maxRecDepth 100000
set_option linter.unusedVariables false

def model_New_c1_B (M : Env) : List V → H → Option (AX × List V × H) :=
 fun env h => evalC M F.model_New_c1 env h fun x env h => match x with
 | .normal => some (.normal, keepOf [3, 15, 16] 0 env, h)
 | x => some (x, keepOf [3] 0 env, h)

def model_New_c1_E (x3 x15 x16 : V) : List V := dd 3 (x3 :: dd 11 (x15 :: x16 :: dd 13 []))
def model_New_c1_O (x3 : V) : List V := dd 3 (x3 :: dd 26 [])

def model_New_K0 (M : Env) : AX → List V → H → Option (V × H) :=
 fun x env h => fin F.model_New x env h

def model_New_K1 (M : Env) : AX → List V → H → Option (V × H) :=
 fun x env h => match x with | .normal => evalC M F.model_New_c0 env h (fun x env h => model_New_K0 M x env h) | x => model_New_K0 M x env h

def model_New_K2 (M : Env) : AX → List V → H → Option (V × H) :=
 fun x env h => match x with | .exit j => (match Nat.beq j 0 with | true => model_New_K1 M .normal env h | false => model_New_K1 M (.exit j) env h) | x => model_New_K1 M x env h

def model_New (M : Env) (a0_0 : Int) (a0_1 : Int) (a0_2 : Int) (a0_3 : Int) (a0_4 : Int) (a0_5 : Int) (h : H) : Option (V × H) :=
 let h0 := h.new (.cells [(.int .i64 a0_0), (.int .i64 a0_1), (.int .i64 a0_2), (.int .i64 a0_3), (.int .i64 a0_4), (.int .i64 a0_5)] .rw)
 (h0.ldN 6 (.ptr h.next 0)).bind fun v1 =>
 (M.call 263 [v1] h0).bind fun p2 =>
 (asB p2.1).bind fun b3 =>
 match (!b3) with
 | true => (
 some (.nilp, p2.2))
 | false => (
 (p2.2.ldN 6 (.ptr h.next 0)).bind fun v4 =>
 (p2.2.ld1 (.ptr h.next 2)).bind fun v5 =>
 (asI .i64 v5).bind fun n6 =>
 (asI .i64 v5).bind fun n7 =>
 (p2.2.mkSl 2 32 [(.int .u64 0), .nilsl] n6 n7).bind fun p8 =>
 let h9 := p8.2.new (.map [])
 (fill [(.int .i64 0), (.int .i64 0), (.int .i64 0), (.int .i64 0), (.int .i64 0), (.int .i64 0), .nilsl, .nilsl, .nilsl, .nilmap] [] [(0, 6, .c v4), (8, 1, .c p8.1), (9, 1, .c (.map p8.2.next))]).bind fun cs10 =>
 (boxc (.agg cs10)).bind fun cs11 =>
 let h12 := h9.new (.cells cs11 .rw)
 (h12.ld1 (.ptr h.next 2)).bind fun v13 =>
 (M.loop (model_New_c1_B M) (model_New_c1_E (.ptr h9.next 0) v13 (.int .i64 0)) h12).bind fun p14 => model_New_K2 M p14.1 p14.2.1 p14.2.2)

def model_New_c1_S (M : Env) (x3 : V) (x15 : Int) (x16 : Int) (h : H) : Option (AX × List V × H) :=
 match (decide (x16 < x15)) with
 | true => (
 (nilc x3).bind fun v0 =>
 (ptrAt v0 7).bind fun v1 =>
 (h.ld1 v1).bind fun v2 =>
 let h3 := h.new (.map [])
 let h4 := h3.new (.cells [(.map h.next)] .rw)
 (h4.append 1 8 v2 (.sl h3.next 0 1 (.ex 1))).bind fun p5 =>
 (nilc x3).bind fun v6 =>
 (ptrAt v6 7).bind fun v7 =>
 (p5.2.st 1 v7 p5.1).bind fun h8 =>
 some (.normal, (model_New_c1_E x3 (.int .i64 x15) (.int .i64 (wr .i64 (x16 + 1)))), h8))
 | false => (
 some ((.exit 0), (model_New_c1_O x3), h))

def model_New_c1_e0 (M : Env) (x3 : V) (h : H) : Option (V × H) :=
 some (x3, h)

theorem model_New_eq (M : Env) (a0_0 : Int) (a0_1 : Int) (a0_2 : Int) (a0_3 : Int) (a0_4 : Int) (a0_5 : Int) (h : H) : evalF M F.model_New [(.agg [(.int .i64 a0_0), (.int .i64 a0_1), (.int .i64 a0_2), (.int .i64 a0_3), (.int .i64 a0_4), (.int .i64 a0_5)])] h = model_New M a0_0 a0_1 a0_2 a0_3 a0_4 a0_5 h := by kernel_rfl

theorem model_New_c1_eq (M : Env) (x3 : V) (x15 : Int) (x16 : Int) (h : H) : model_New_c1_B M (model_New_c1_E x3 (.int .i64 x15) (.int .i64 x16)) h = model_New_c1_S M x3 x15 x16 h := by kernel_rfl

theorem model_New_c1_e0_eq (M : Env) (x3 : V) (h : H) : model_New_K2 M (.exit 0) (model_New_c1_O x3) h = model_New_c1_e0 M x3 h := by kernel_rfl

end Wm.S
end

section
namespace Wm.S
open Wm
set_option maxRecDepth 100000
set_option linter.unusedVariables false

def lin_Replay_c1_B (M : Env) : List V → H → Option (AX × List V × H) :=
 fun env h => evalC M F.lin_Replay_c1 env h fun x env h => match x with
 | .normal => some (.normal, keepOf [1, 2, 7, 12, 13, 14] 0 env, h)
 | x => some (x, keepOf [2, 6, 7] 0 env, h)

def lin_Replay_c1_E (x1 x2 x7 x12 x13 x14 : V) : List V := dd 1 (x1 :: x2 :: dd 4 (x7 :: dd 4 (x12 :: x13 :: x14 :: dd 38 [])))
def lin_Replay_c1_O (x2 x6 x7 : V) : List V := dd 2 (x2 :: dd 3 (x6 :: x7 :: dd 45 []))

def lin_Replay_K0 (M : Env) : AX → List V → H → Option (V × H) :=
 fun x env h => fin F.lin_Replay x env h

def lin_Replay_K1 (M : Env) : AX → List V → H → Option (V × H) :=
 fun x env h => match x with | .normal => evalC M F.lin_Replay_c0 env h (fun x env h => lin_Replay_K0 M x env h) | x => lin_Replay_K0 M x env h

def lin_Replay_K2 (M : Env) : AX → List V → H → Option (V × H) :=
 fun x env h => match x with | .exit j => (match Nat.beq j 0 with | true => lin_Replay_K1 M .normal env h | false => lin_Replay_K1 M (.exit j) env h) | x => lin_Replay_K1 M x env h

def lin_Replay (M : Env) (a0_0 : Int) (a0_1 : Int) (a0_2 : Int) (a0_3 : Int) (a0_4 : Int) (a0_5 : Int) (a1 : V) (a2 : V) (h : H) : Option (V × H) :=
 let h0 := h.new (.cells [(.int .i64 a0_0), (.int .i64 a0_1), (.int .i64 a0_2), (.int .i64 a0_3), (.int .i64 a0_4), (.int .i64 a0_5)] .rw)
 (h0.ldN 6 (.ptr h.next 0)).bind fun v1 =>
 (M.call 96 [v1] h0).bind fun p2 =>
 (lenSl a2).bind fun n3 =>
 (M.loop (lin_Replay_c1_B M) (lin_Replay_c1_E a1 a2 p2.1 a2 (.int .i64 ((n3 : Nat) : Int)) (.int .i64 0)) p2.2).bind fun p4 => lin_Replay_K2 M p4.1 p4.2.1 p4.2.2

def lin_Replay_c1_S (M : Env) (x1 : V) (x2 : V) (x7 : V) (x12 : V) (x13 : Int) (x14 : Int) (h : H) : Option (AX × List V × H) :=
 match (decide (x14 < x13)) with
 | true => (
 (indexAV 1 x12 (.int .i64 x14)).bind fun v0 =>
 (h.ld1 v0).bind fun v1 =>
 (asI .i64 v1).bind fun n2 =>
 match (decide (n2 < 0)) with
 | true => (
 some (.ret, (lin_Replay_c1_O x2 (.int .i64 x14) x7), h))
 | false => (
 (lenSl x1).bind fun n3 =>
 (asI .i64 v1).bind fun n4 =>
 match (decide (((n3 : Nat) : Int) ≤ n4)) with
 | true => (
 some (.ret, (lin_Replay_c1_O x2 (.int .i64 x14) x7), h))
 | false => (
 (indexAV 14 x1 v1).bind fun v5 =>
 (ptrAt v5 0).bind fun v6 =>
 (h.ld1 v6).bind fun v7 =>
 (indexAV 14 x1 v1).bind fun v8 =>
 (ptrAt v8 6).bind fun v9 =>
 (h.ldN 5 v9).bind fun v10 =>
 (indexAV 14 x1 v1).bind fun v11 =>
 (ptrAt v11 11).bind fun v12 =>
 (h.ldN 3 v12).bind fun v13 =>
 (M.call 103 [x7, v7, v10, v13] h).bind fun p14 =>
 (asB p14.1).bind fun b15 =>
 match (!b15) with
 | true => (
 some (.ret, (lin_Replay_c1_O x2 (.int .i64 x14) x7), p14.2))
 | false => (
 some (.normal, (lin_Replay_c1_E x1 x2 x7 x12 (.int .i64 x13) (.int .i64 (wr .i64 (x14 + 1)))), p14.2)))))
 | false => (
 some ((.exit 0), (lin_Replay_c1_O x2 .dead x7), h))

def lin_Replay_c1_e0 (M : Env) (x2 : V) (x6 : V) (x7 : V) (h : H) : Option (V × H) :=
 (eqV .ptr x7 .nilp).bind fun b0 =>
 match b0 with
 | true => (
 some ((.int .i64 0), h))
 | false => (
 (lenSl x2).bind fun n1 =>
 some ((.int .i64 ((n1 : Nat) : Int)), h))

def lin_Replay_c1_r (M : Env) (x2 : V) (x6 : Int) (x7 : V) (h : H) : Option (V × H) :=
 some ((.int .i64 x6), h)

theorem lin_Replay_eq (M : Env) (a0_0 : Int) (a0_1 : Int) (a0_2 : Int) (a0_3 : Int) (a0_4 : Int) (a0_5 : Int) (a1 : V) (a2 : V) (h : H) : evalF M F.lin_Replay [(.agg [(.int .i64 a0_0), (.int .i64 a0_1), (.int .i64 a0_2), (.int .i64 a0_3), (.int .i64 a0_4), (.int .i64 a0_5)]), a1, a2] h = lin_Replay M a0_0 a0_1 a0_2 a0_3 a0_4 a0_5 a1 a2 h := by kernel_rfl

theorem lin_Replay_c1_eq (M : Env) (x1 : V) (x2 : V) (x7 : V) (x12 : V) (x13 : Int) (x14 : Int) (h : H) : lin_Replay_c1_B M (lin_Replay_c1_E x1 x2 x7 x12 (.int .i64 x13) (.int .i64 x14)) h = lin_Replay_c1_S M x1 x2 x7 x12 x13 x14 h := by kernel_rfl

theorem lin_Replay_c1_e0_eq (M : Env) (x2 : V) (x6 : V) (x7 : V) (h : H) : lin_Replay_K2 M (.exit 0) (lin_Replay_c1_O x2 x6 x7) h = lin_Replay_c1_e0 M x2 x6 x7 h := by kernel_rfl

theorem lin_Replay_c1_r_eq (M : Env) (x2 : V) (x6 : Int) (x7 : V) (h : H) : lin_Replay_K2 M .ret (lin_Replay_c1_O x2 (.int .i64 x6) x7) h = lin_Replay_c1_r M x2 x6 x7 h := by kernel_rfl

end Wm.S
end

section
namespace Wm.S
open Wm
set_option maxRecDepth 100000
set_option linter.unusedVariables false

def withylaw19_LinFronts_c1_B (M : Env) : List V → H → Option (AX × List V × H) :=
 fun env h => evalC M F.withylaw19_LinFronts_c1 env h fun x env h => some (x, keepOf [1, 2, 3, 4, 8] 0 env, h)

def withylaw19_LinFronts_c1_E (x1 x2 x3 x4 : V) : List V := dd 1 (x1 :: x2 :: x3 :: x4 :: dd 38 [])
def withylaw19_LinFronts_c1_O (x1 x2 x3 x4 x8 : V) : List V := dd 1 (x1 :: x2 :: x3 :: x4 :: dd 3 (x8 :: dd 34 []))

def withylaw19_LinFronts_c3_B (M : Env) : List V → H → Option (AX × List V × H) :=
 fun env h => evalC M F.withylaw19_LinFronts_c3 env h fun x env h => some (x, keepOf [1, 2, 4, 9] 0 env, h)

def withylaw19_LinFronts_c3_E (x1 x2 x3 x4 : V) : List V := dd 1 (x1 :: x2 :: x3 :: x4 :: dd 38 [])
def withylaw19_LinFronts_c3_O (x1 x2 x4 x9 : V) : List V := dd 1 (x1 :: x2 :: dd 1 (x4 :: dd 4 (x9 :: dd 33 [])))

def withylaw19_LinFronts_K0 (M : Env) : AX → List V → H → Option (V × H) :=
 fun x env h => fin F.withylaw19_LinFronts x env h

def withylaw19_LinFronts_K1 (M : Env) : AX → List V → H → Option (V × H) :=
 fun x env h => match x with | .normal => evalC M F.withylaw19_LinFronts_c0 env h (fun x env h => withylaw19_LinFronts_K0 M x env h) | x => withylaw19_LinFronts_K0 M x env h

def withylaw19_LinFronts_K2 (M : Env) : AX → List V → H → Option (V × H) :=
 fun x env h => match x with | .normal => evalC M F.withylaw19_LinFronts_c2 env h (fun x env h => withylaw19_LinFronts_K0 M x env h) | x => withylaw19_LinFronts_K0 M x env h

def withylaw19_LinFronts (M : Env) (a0_0 : Int) (a0_1 : Int) (a0_2 : Int) (a0_3 : Int) (a0_4 : Int) (a0_5 : Int) (a1 : V) (a2 : V) (a3 : Int) (h : H) : Option (V × H) :=
 let h0 := h.new (.cells [(.int .i64 a0_0), (.int .i64 a0_1), (.int .i64 a0_2), (.int .i64 a0_3), (.int .i64 a0_4), (.int .i64 a0_5)] .rw)
 (withylaw19_LinFronts_c1_B M (withylaw19_LinFronts_c1_E a1 a2 (.int .i64 a3) (.ptr h.next 0)) h0).bind fun p1 => withylaw19_LinFronts_K1 M p1.1 p1.2.1 p1.2.2

def withylaw19_LinFronts_c1_S (M : Env) (x1 : V) (x2 : V) (x3 : Int) (x4 : V) (h : H) : Option (AX × List V × H) :=
 (lenSl x1).bind fun n0 =>
 match (decide (40 < ((n0 : Nat) : Int))) with
 | true => (
 (M.call 204 [] h).bind fun p1 =>
 some (.ret, (withylaw19_LinFronts_c1_O x1 x2 (.int .i64 x3) x4 p1.1), p1.2))
 | false => (
 (lenSl x2).bind fun n1 =>
 match (decide (40 < ((n1 : Nat) : Int))) with
 | true => (
 (M.call 204 [] h).bind fun p2 =>
 some (.ret, (withylaw19_LinFronts_c1_O x1 x2 (.int .i64 x3) x4 p2.1), p2.2))
 | false => (
 some (.normal, (withylaw19_LinFronts_c1_O x1 x2 (.int .i64 x3) x4 .dead), h)))

def withylaw19_LinFronts_c1_n (M : Env) (x1 : V) (x2 : V) (x3 : Int) (x4 : V) (x8 : V) (h : H) : Option (V × H) :=
 (withylaw19_LinFronts_c3_B M (withylaw19_LinFronts_c3_E x1 x2 (.int .i64 x3) x4) h).bind fun p0 => withylaw19_LinFronts_K2 M p0.1 p0.2.1 p0.2.2

def withylaw19_LinFronts_c1_r (M : Env) (x1 : V) (x2 : V) (x3 : V) (x4 : V) (x8 : Bool) (h : H) : Option (V × H) :=
 some ((.bool x8), h)

def withylaw19_LinFronts_c3_S (M : Env) (x1 : V) (x2 : V) (x3 : Int) (x4 : V) (h : H) : Option (AX × List V × H) :=
 (lenSl x2).bind fun n0 =>
 (arith .rem .u64 (wr .u64 x3) (wr .u64 (wr .i64 (((n0 : Nat) : Int) + 1)))).bind fun n1 =>
 some (.normal, (withylaw19_LinFronts_c3_O x1 x2 x4 (.int .i64 (wr .i64 n1))), h)

def withylaw19_LinFronts_c3_n (M : Env) (x1 : V) (x2 : V) (x4 : V) (x9 : Int) (h : H) : Option (V × H) :=
 (h.ldN 6 x4).bind fun v0 =>
 (sliceV 1 x2 none (some (.int .i64 x9)) none).bind fun v1 =>
 (h.ldN 6 x4).bind fun v2 =>
 (M.call 205 [v0, x1, v1] h).bind fun p3 =>
 match ckB (p3.2.ldN 6 x4) v2 with
 | true => (
 (M.call 205 [v2, x1, x2] p3.2).bind fun p4 =>
 (asI .i64 p4.1).bind fun n5 =>
 (asI .i64 p3.1).bind fun n6 =>
 match (decide (n6 = (min x9 n5))) with
 | true => (
 (M.call 204 [] p4.2).bind fun p7 =>
 some (p7.1, p7.2))
 | false => (
 some ((.bool false), p4.2)))
 | false => none

theorem withylaw19_LinFronts_eq (M : Env) (a0_0 : Int) (a0_1 : Int) (a0_2 : Int) (a0_3 : Int) (a0_4 : Int) (a0_5 : Int) (a1 : V) (a2 : V) (a3 : Int) (h : H) : evalF M F.withylaw19_LinFronts [(.agg [(.int .i64 a0_0), (.int .i64 a0_1), (.int .i64 a0_2), (.int .i64 a0_3), (.int .i64 a0_4), (.int .i64 a0_5)]), a1, a2, (.int .i64 a3)] h = withylaw19_LinFronts M a0_0 a0_1 a0_2 a0_3 a0_4 a0_5 a1 a2 a3 h := by kernel_rfl

theorem withylaw19_LinFronts_c1_eq (M : Env) (x1 : V) (x2 : V) (x3 : Int) (x4 : V) (h : H) : withylaw19_LinFronts_c1_B M (withylaw19_LinFronts_c1_E x1 x2 (.int .i64 x3) x4) h = withylaw19_LinFronts_c1_S M x1 x2 x3 x4 h := by kernel_rfl

theorem withylaw19_LinFronts_c1_n_eq (M : Env) (x1 : V) (x2 : V) (x3 : Int) (x4 : V) (x8 : V) (h : H) : withylaw19_LinFronts_K1 M .normal (withylaw19_LinFronts_c1_O x1 x2 (.int .i64 x3) x4 x8) h = withylaw19_LinFronts_c1_n M x1 x2 x3 x4 x8 h := by kernel_rfl

theorem withylaw19_LinFronts_c1_r_eq (M : Env) (x1 : V) (x2 : V) (x3 : V) (x4 : V) (x8 : Bool) (h : H) : withylaw19_LinFronts_K1 M .ret (withylaw19_LinFronts_c1_O x1 x2 x3 x4 (.bool x8)) h = withylaw19_LinFronts_c1_r M x1 x2 x3 x4 x8 h := by kernel_rfl


theorem withylaw19_LinFronts_c3_n_eq (M : Env) (x1 : V) (x2 : V) (x4 : V) (x9 : Int) (h : H) : withylaw19_LinFronts_K2 M .normal (withylaw19_LinFronts_c3_O x1 x2 x4 (.int .i64 x9)) h = withylaw19_LinFronts_c3_n M x1 x2 x4 x9 h := by kernel_rfl

end Wm.S
end

