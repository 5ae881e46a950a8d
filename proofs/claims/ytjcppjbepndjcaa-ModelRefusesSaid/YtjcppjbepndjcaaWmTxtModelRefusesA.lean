/- PRINTED by my tool: what functions come to, stretch by stretch. -/
import Derived.KernelRfl
import Derived.Test.YtjcppjbepndjcaaWmShal
import Derived.Test.YtjcppjbepndjcaaWmFnsModelRefusesA
set_option linter.all false
section
open Wm
namespace Wm.S
def dd : Nat → List V → List V
  | 0, l => l
  | n + 1, l => .dead :: dd n l
end Wm.S

end
section
namespace Wm.S
open Wm
set_option maxRecDepth 100000
set_option linter.unusedVariables false


def plan_between (M : Env) (a0 : Int) (a1 : Int) (a2 : Int) (h : H) : Option (V × H) :=
 match (decide (a1 ≤ a0)) with
 | true => (
 some ((.bool (decide (a0 ≤ a2))), h))
 | false => (
 some ((.bool false), h))

theorem plan_between_eq (M : Env) (a0 : Int) (a1 : Int) (a2 : Int) (h : H) : evalF M F.plan_between [(.int .i64 a0), (.int .i64 a1), (.int .i64 a2)] h = plan_between M a0 a1 a2 h := by kernel_rfl

end Wm.S
end

section
namespace Wm.S
open Wm
set_option maxRecDepth 100000
set_option linter.unusedVariables false


def plan_Right (M : Env) (a0_0 : Int) (a0_1 : Int) (a0_2 : Int) (a0_3 : Int) (a0_4 : Int) (a0_5 : Int) (h : H) : Option (V × H) :=
 let h0 := h.new (.cells [(.int .i64 a0_0), (.int .i64 a0_1), (.int .i64 a0_2), (.int .i64 a0_3), (.int .i64 a0_4), (.int .i64 a0_5)] .rw)
 (h0.ld1 (.ptr h.next 0)).bind fun v1 =>
 (M.call 376 [v1, (.int .i64 1), (.int .i64 64)] h0).bind fun p2 =>
 match p2.1 with
 | .bool true => (
 (p2.2.ld1 (.ptr h.next 1)).bind fun v3 =>
 (M.call 376 [v3, (.int .i64 0), (.int .i64 8)] p2.2).bind fun p4 =>
 match p4.1 with
 | .bool true => (
 (p4.2.ld1 (.ptr h.next 2)).bind fun v5 =>
 (M.call 376 [v5, (.int .i64 1), (.int .i64 8)] p4.2).bind fun p6 =>
 match p6.1 with
 | .bool true => (
 (p6.2.ld1 (.ptr h.next 3)).bind fun v7 =>
 (M.call 376 [v7, (.int .i64 1), (.int .i64 16)] p6.2).bind fun p8 =>
 match p8.1 with
 | .bool true => (
 (p8.2.ld1 (.ptr h.next 4)).bind fun v9 =>
 (M.call 376 [v9, (.int .i64 1), (.int .i64 1048576)] p8.2).bind fun p10 =>
 match p10.1 with
 | .bool true => (
 (p10.2.ld1 (.ptr h.next 5)).bind fun v11 =>
 (M.call 376 [v11, (.int .i64 0), (.int .i64 64)] p10.2).bind fun p12 =>
 some (p12.1, p12.2))
 | .bool false => (
 some ((.bool false), p10.2))
 | .tup [] => (
 (asB p10.1).bind fun b11 =>
 some ((match b11 with | true => (.tup []) | false => (.bool false) : V), p10.2))
 | _ => none)
 | .bool false => (
 some ((.bool false), p8.2))
 | .tup [] => (
 (asB p8.1).bind fun b9 =>
 match (match b9 with | true => (.tup []) | false => (.bool false) : V) with
 | .bool true => (
 (p8.2.ld1 (.ptr h.next 5)).bind fun v10 =>
 (M.call 376 [v10, (.int .i64 0), (.int .i64 64)] p8.2).bind fun p11 =>
 some (p11.1, p11.2))
 | .bool false => (
 some ((.bool false), p8.2))
 | .tup [] => (
 (asB (match b9 with | true => (.tup []) | false => (.bool false) : V)).bind fun b10 =>
 some ((match b10 with | true => (.tup []) | false => (.bool false) : V), p8.2))
 | _ => none)
 | _ => none)
 | .bool false => (
 some ((.bool false), p6.2))
 | .tup [] => (
 (asB p6.1).bind fun b7 =>
 match (match b7 with | true => (.tup []) | false => (.bool false) : V) with
 | .bool true => (
 (p6.2.ld1 (.ptr h.next 4)).bind fun v8 =>
 (M.call 376 [v8, (.int .i64 1), (.int .i64 1048576)] p6.2).bind fun p9 =>
 match p9.1 with
 | .bool true => (
 (p9.2.ld1 (.ptr h.next 5)).bind fun v10 =>
 (M.call 376 [v10, (.int .i64 0), (.int .i64 64)] p9.2).bind fun p11 =>
 some (p11.1, p11.2))
 | .bool false => (
 some ((.bool false), p9.2))
 | .tup [] => (
 (asB p9.1).bind fun b10 =>
 some ((match b10 with | true => (.tup []) | false => (.bool false) : V), p9.2))
 | _ => none)
 | .bool false => (
 some ((.bool false), p6.2))
 | .tup [] => (
 (asB (match b7 with | true => (.tup []) | false => (.bool false) : V)).bind fun b8 =>
 match (match b8 with | true => (.tup []) | false => (.bool false) : V) with
 | .bool true => (
 (p6.2.ld1 (.ptr h.next 5)).bind fun v9 =>
 (M.call 376 [v9, (.int .i64 0), (.int .i64 64)] p6.2).bind fun p10 =>
 some (p10.1, p10.2))
 | .bool false => (
 some ((.bool false), p6.2))
 | .tup [] => (
 (asB (match b8 with | true => (.tup []) | false => (.bool false) : V)).bind fun b9 =>
 some ((match b9 with | true => (.tup []) | false => (.bool false) : V), p6.2))
 | _ => none)
 | _ => none)
 | _ => none)
 | .bool false => (
 some ((.bool false), p4.2))
 | .tup [] => (
 (asB p4.1).bind fun b5 =>
 match (match b5 with | true => (.tup []) | false => (.bool false) : V) with
 | .bool true => (
 (p4.2.ld1 (.ptr h.next 3)).bind fun v6 =>
 (M.call 376 [v6, (.int .i64 1), (.int .i64 16)] p4.2).bind fun p7 =>
 match p7.1 with
 | .bool true => (
 (p7.2.ld1 (.ptr h.next 4)).bind fun v8 =>
 (M.call 376 [v8, (.int .i64 1), (.int .i64 1048576)] p7.2).bind fun p9 =>
 match p9.1 with
 | .bool true => (
 (p9.2.ld1 (.ptr h.next 5)).bind fun v10 =>
 (M.call 376 [v10, (.int .i64 0), (.int .i64 64)] p9.2).bind fun p11 =>
 some (p11.1, p11.2))
 | .bool false => (
 some ((.bool false), p9.2))
 | .tup [] => (
 (asB p9.1).bind fun b10 =>
 some ((match b10 with | true => (.tup []) | false => (.bool false) : V), p9.2))
 | _ => none)
 | .bool false => (
 some ((.bool false), p7.2))
 | .tup [] => (
 (asB p7.1).bind fun b8 =>
 match (match b8 with | true => (.tup []) | false => (.bool false) : V) with
 | .bool true => (
 (p7.2.ld1 (.ptr h.next 5)).bind fun v9 =>
 (M.call 376 [v9, (.int .i64 0), (.int .i64 64)] p7.2).bind fun p10 =>
 some (p10.1, p10.2))
 | .bool false => (
 some ((.bool false), p7.2))
 | .tup [] => (
 (asB (match b8 with | true => (.tup []) | false => (.bool false) : V)).bind fun b9 =>
 some ((match b9 with | true => (.tup []) | false => (.bool false) : V), p7.2))
 | _ => none)
 | _ => none)
 | .bool false => (
 some ((.bool false), p4.2))
 | .tup [] => (
 (asB (match b5 with | true => (.tup []) | false => (.bool false) : V)).bind fun b6 =>
 match (match b6 with | true => (.tup []) | false => (.bool false) : V) with
 | .bool true => (
 (p4.2.ld1 (.ptr h.next 4)).bind fun v7 =>
 (M.call 376 [v7, (.int .i64 1), (.int .i64 1048576)] p4.2).bind fun p8 =>
 match p8.1 with
 | .bool true => (
 (p8.2.ld1 (.ptr h.next 5)).bind fun v9 =>
 (M.call 376 [v9, (.int .i64 0), (.int .i64 64)] p8.2).bind fun p10 =>
 some (p10.1, p10.2))
 | .bool false => (
 some ((.bool false), p8.2))
 | .tup [] => (
 (asB p8.1).bind fun b9 =>
 some ((match b9 with | true => (.tup []) | false => (.bool false) : V), p8.2))
 | _ => none)
 | .bool false => (
 some ((.bool false), p4.2))
 | .tup [] => (
 (asB (match b6 with | true => (.tup []) | false => (.bool false) : V)).bind fun b7 =>
 match (match b7 with | true => (.tup []) | false => (.bool false) : V) with
 | .bool true => (
 (p4.2.ld1 (.ptr h.next 5)).bind fun v8 =>
 (M.call 376 [v8, (.int .i64 0), (.int .i64 64)] p4.2).bind fun p9 =>
 some (p9.1, p9.2))
 | .bool false => (
 some ((.bool false), p4.2))
 | .tup [] => (
 (asB (match b7 with | true => (.tup []) | false => (.bool false) : V)).bind fun b8 =>
 some ((match b8 with | true => (.tup []) | false => (.bool false) : V), p4.2))
 | _ => none)
 | _ => none)
 | _ => none)
 | _ => none)
 | .bool false => (
 some ((.bool false), p2.2))
 | .tup [] => (
 (asB p2.1).bind fun b3 =>
 match (match b3 with | true => (.tup []) | false => (.bool false) : V) with
 | .bool true => (
 (p2.2.ld1 (.ptr h.next 2)).bind fun v4 =>
 (M.call 376 [v4, (.int .i64 1), (.int .i64 8)] p2.2).bind fun p5 =>
 match p5.1 with
 | .bool true => (
 (p5.2.ld1 (.ptr h.next 3)).bind fun v6 =>
 (M.call 376 [v6, (.int .i64 1), (.int .i64 16)] p5.2).bind fun p7 =>
 match p7.1 with
 | .bool true => (
 (p7.2.ld1 (.ptr h.next 4)).bind fun v8 =>
 (M.call 376 [v8, (.int .i64 1), (.int .i64 1048576)] p7.2).bind fun p9 =>
 match p9.1 with
 | .bool true => (
 (p9.2.ld1 (.ptr h.next 5)).bind fun v10 =>
 (M.call 376 [v10, (.int .i64 0), (.int .i64 64)] p9.2).bind fun p11 =>
 some (p11.1, p11.2))
 | .bool false => (
 some ((.bool false), p9.2))
 | .tup [] => (
 (asB p9.1).bind fun b10 =>
 some ((match b10 with | true => (.tup []) | false => (.bool false) : V), p9.2))
 | _ => none)
 | .bool false => (
 some ((.bool false), p7.2))
 | .tup [] => (
 (asB p7.1).bind fun b8 =>
 match (match b8 with | true => (.tup []) | false => (.bool false) : V) with
 | .bool true => (
 (p7.2.ld1 (.ptr h.next 5)).bind fun v9 =>
 (M.call 376 [v9, (.int .i64 0), (.int .i64 64)] p7.2).bind fun p10 =>
 some (p10.1, p10.2))
 | .bool false => (
 some ((.bool false), p7.2))
 | .tup [] => (
 (asB (match b8 with | true => (.tup []) | false => (.bool false) : V)).bind fun b9 =>
 some ((match b9 with | true => (.tup []) | false => (.bool false) : V), p7.2))
 | _ => none)
 | _ => none)
 | .bool false => (
 some ((.bool false), p5.2))
 | .tup [] => (
 (asB p5.1).bind fun b6 =>
 match (match b6 with | true => (.tup []) | false => (.bool false) : V) with
 | .bool true => (
 (p5.2.ld1 (.ptr h.next 4)).bind fun v7 =>
 (M.call 376 [v7, (.int .i64 1), (.int .i64 1048576)] p5.2).bind fun p8 =>
 match p8.1 with
 | .bool true => (
 (p8.2.ld1 (.ptr h.next 5)).bind fun v9 =>
 (M.call 376 [v9, (.int .i64 0), (.int .i64 64)] p8.2).bind fun p10 =>
 some (p10.1, p10.2))
 | .bool false => (
 some ((.bool false), p8.2))
 | .tup [] => (
 (asB p8.1).bind fun b9 =>
 some ((match b9 with | true => (.tup []) | false => (.bool false) : V), p8.2))
 | _ => none)
 | .bool false => (
 some ((.bool false), p5.2))
 | .tup [] => (
 (asB (match b6 with | true => (.tup []) | false => (.bool false) : V)).bind fun b7 =>
 match (match b7 with | true => (.tup []) | false => (.bool false) : V) with
 | .bool true => (
 (p5.2.ld1 (.ptr h.next 5)).bind fun v8 =>
 (M.call 376 [v8, (.int .i64 0), (.int .i64 64)] p5.2).bind fun p9 =>
 some (p9.1, p9.2))
 | .bool false => (
 some ((.bool false), p5.2))
 | .tup [] => (
 (asB (match b7 with | true => (.tup []) | false => (.bool false) : V)).bind fun b8 =>
 some ((match b8 with | true => (.tup []) | false => (.bool false) : V), p5.2))
 | _ => none)
 | _ => none)
 | _ => none)
 | .bool false => (
 some ((.bool false), p2.2))
 | .tup [] => (
 (asB (match b3 with | true => (.tup []) | false => (.bool false) : V)).bind fun b4 =>
 match (match b4 with | true => (.tup []) | false => (.bool false) : V) with
 | .bool true => (
 (p2.2.ld1 (.ptr h.next 3)).bind fun v5 =>
 (M.call 376 [v5, (.int .i64 1), (.int .i64 16)] p2.2).bind fun p6 =>
 match p6.1 with
 | .bool true => (
 (p6.2.ld1 (.ptr h.next 4)).bind fun v7 =>
 (M.call 376 [v7, (.int .i64 1), (.int .i64 1048576)] p6.2).bind fun p8 =>
 match p8.1 with
 | .bool true => (
 (p8.2.ld1 (.ptr h.next 5)).bind fun v9 =>
 (M.call 376 [v9, (.int .i64 0), (.int .i64 64)] p8.2).bind fun p10 =>
 some (p10.1, p10.2))
 | .bool false => (
 some ((.bool false), p8.2))
 | .tup [] => (
 (asB p8.1).bind fun b9 =>
 some ((match b9 with | true => (.tup []) | false => (.bool false) : V), p8.2))
 | _ => none)
 | .bool false => (
 some ((.bool false), p6.2))
 | .tup [] => (
 (asB p6.1).bind fun b7 =>
 match (match b7 with | true => (.tup []) | false => (.bool false) : V) with
 | .bool true => (
 (p6.2.ld1 (.ptr h.next 5)).bind fun v8 =>
 (M.call 376 [v8, (.int .i64 0), (.int .i64 64)] p6.2).bind fun p9 =>
 some (p9.1, p9.2))
 | .bool false => (
 some ((.bool false), p6.2))
 | .tup [] => (
 (asB (match b7 with | true => (.tup []) | false => (.bool false) : V)).bind fun b8 =>
 some ((match b8 with | true => (.tup []) | false => (.bool false) : V), p6.2))
 | _ => none)
 | _ => none)
 | .bool false => (
 some ((.bool false), p2.2))
 | .tup [] => (
 (asB (match b4 with | true => (.tup []) | false => (.bool false) : V)).bind fun b5 =>
 match (match b5 with | true => (.tup []) | false => (.bool false) : V) with
 | .bool true => (
 (p2.2.ld1 (.ptr h.next 4)).bind fun v6 =>
 (M.call 376 [v6, (.int .i64 1), (.int .i64 1048576)] p2.2).bind fun p7 =>
 match p7.1 with
 | .bool true => (
 (p7.2.ld1 (.ptr h.next 5)).bind fun v8 =>
 (M.call 376 [v8, (.int .i64 0), (.int .i64 64)] p7.2).bind fun p9 =>
 some (p9.1, p9.2))
 | .bool false => (
 some ((.bool false), p7.2))
 | .tup [] => (
 (asB p7.1).bind fun b8 =>
 some ((match b8 with | true => (.tup []) | false => (.bool false) : V), p7.2))
 | _ => none)
 | .bool false => (
 some ((.bool false), p2.2))
 | .tup [] => (
 (asB (match b5 with | true => (.tup []) | false => (.bool false) : V)).bind fun b6 =>
 match (match b6 with | true => (.tup []) | false => (.bool false) : V) with
 | .bool true => (
 (p2.2.ld1 (.ptr h.next 5)).bind fun v7 =>
 (M.call 376 [v7, (.int .i64 0), (.int .i64 64)] p2.2).bind fun p8 =>
 some (p8.1, p8.2))
 | .bool false => (
 some ((.bool false), p2.2))
 | .tup [] => (
 (asB (match b6 with | true => (.tup []) | false => (.bool false) : V)).bind fun b7 =>
 some ((match b7 with | true => (.tup []) | false => (.bool false) : V), p2.2))
 | _ => none)
 | _ => none)
 | _ => none)
 | _ => none)
 | _ => none

theorem plan_Right_eq (M : Env) (a0_0 : Int) (a0_1 : Int) (a0_2 : Int) (a0_3 : Int) (a0_4 : Int) (a0_5 : Int) (h : H) : evalF M F.plan_Right [(.agg [(.int .i64 a0_0), (.int .i64 a0_1), (.int .i64 a0_2), (.int .i64 a0_3), (.int .i64 a0_4), (.int .i64 a0_5)])] h = plan_Right M a0_0 a0_1 a0_2 a0_3 a0_4 a0_5 h := by kernel_rfl

end Wm.S
end

section
namespace Wm.S
open Wm
set_option maxRecDepth 100000
set_option linter.unusedVariables false

def withyref17_State_Node_c1_B (M : Env) : List V → H → Option (AX × List V × H) :=
 fun env h => evalC M F.withyref17_State_Node_c1 env h fun x env h => match x with
 | .normal => some (.normal, keepOf [1, 2, 3, 7] 0 env, h)
 | x => some (x, keepOf [6] 0 env, h)

def withyref17_State_Node_c1_E (x1 x2 x3 x7 : V) : List V := dd 1 (x1 :: x2 :: x3 :: dd 3 (x7 :: dd 31 []))
def withyref17_State_Node_c1_O (x6 : V) : List V := dd 6 (x6 :: dd 32 [])

def withyref17_State_Node_K0 (M : Env) : AX → List V → H → Option (V × H) :=
 fun x env h => fin F.withyref17_State_Node x env h

def withyref17_State_Node_K1 (M : Env) : AX → List V → H → Option (V × H) :=
 fun x env h => match x with | .normal => evalC M F.withyref17_State_Node_c0 env h (fun x env h => withyref17_State_Node_K0 M x env h) | x => withyref17_State_Node_K0 M x env h

def withyref17_State_Node_K2 (M : Env) : AX → List V → H → Option (V × H) :=
 fun x env h => match x with | .exit j => (match Nat.beq j 0 with | true => withyref17_State_Node_K1 M .normal env h | false => withyref17_State_Node_K1 M (.exit j) env h) | x => withyref17_State_Node_K1 M x env h

def withyref17_State_Node (M : Env) (a0_0 : Int) (a0_1 : Int) (a0_2 : Int) (a0_3 : Int) (a0_4 : Int) (a0_5 : Int) (a0_6 : V) (a0_7 : V) (a0_8 : V) (a0_9 : V) (a0_10 : V) (a1 : Int) (a2 : Int) (h : H) : Option (V × H) :=
 let h0 := h.new (.cells [(.int .i64 a0_0), (.int .i64 a0_1), (.int .i64 a0_2), (.int .i64 a0_3), (.int .i64 a0_4), (.int .i64 a0_5), a0_6, a0_7, a0_8, a0_9, a0_10] .rw)
 (M.loop (withyref17_State_Node_c1_B M) (withyref17_State_Node_c1_E (.int .i64 a1) (.int .u64 a2) (.ptr h.next 0) (.int .i64 0)) h0).bind fun p1 => withyref17_State_Node_K2 M p1.1 p1.2.1 p1.2.2

def withyref17_State_Node_c1_S (M : Env) (x1 : Int) (x2 : Int) (x3 : V) (x7 : Int) (h : H) : Option (AX × List V × H) :=
 (ptrAt x3 7).bind fun v0 =>
 (h.ld1 v0).bind fun v1 =>
 (lenSl v1).bind fun n2 =>
 match (decide (x7 < ((n2 : Nat) : Int))) with
 | true => (
 (ptrAt x3 7).bind fun v3 =>
 (h.ld1 v3).bind fun v4 =>
 (indexAV 3 v4 (.int .i64 x7)).bind fun v5 =>
 (ptrAt v5 0).bind fun v6 =>
 (h.ld1 v6).bind fun v7 =>
 (asI .i64 v7).bind fun n8 =>
 match (decide (n8 = x1)) with
 | true => (
 (ptrAt x3 7).bind fun v9 =>
 (h.ld1 v9).bind fun v10 =>
 (indexAV 3 v10 (.int .i64 x7)).bind fun v11 =>
 (ptrAt v11 1).bind fun v12 =>
 (h.ld1 v12).bind fun v13 =>
 (asI .u64 v13).bind fun n14 =>
 match (decide (n14 = x2)) with
 | true => (
 (ptrAt x3 7).bind fun v15 =>
 (h.ld1 v15).bind fun v16 =>
 (indexAV 3 v16 (.int .i64 x7)).bind fun v17 =>
 (ptrAt v17 2).bind fun v18 =>
 (h.ld1 v18).bind fun v19 =>
 some (.ret, (withyref17_State_Node_c1_O v19), h))
 | false => (
 some (.normal, (withyref17_State_Node_c1_E (.int .i64 x1) (.int .u64 x2) x3 (.int .i64 (wr .i64 (x7 + 1)))), h)))
 | false => (
 some (.normal, (withyref17_State_Node_c1_E (.int .i64 x1) (.int .u64 x2) x3 (.int .i64 (wr .i64 (x7 + 1)))), h)))
 | false => (
 some ((.exit 0), (withyref17_State_Node_c1_O .dead), h))

def withyref17_State_Node_c1_e0 (M : Env) (x6 : V) (h : H) : Option (V × H) :=
 some ((.int .i64 (-1)), h)

def withyref17_State_Node_c1_r (M : Env) (x6 : Int) (h : H) : Option (V × H) :=
 some ((.int .i64 x6), h)

theorem withyref17_State_Node_eq (M : Env) (a0_0 : Int) (a0_1 : Int) (a0_2 : Int) (a0_3 : Int) (a0_4 : Int) (a0_5 : Int) (a0_6 : V) (a0_7 : V) (a0_8 : V) (a0_9 : V) (a0_10 : V) (a1 : Int) (a2 : Int) (h : H) : evalF M F.withyref17_State_Node [(.agg [(.int .i64 a0_0), (.int .i64 a0_1), (.int .i64 a0_2), (.int .i64 a0_3), (.int .i64 a0_4), (.int .i64 a0_5), a0_6, a0_7, a0_8, a0_9, a0_10]), (.int .i64 a1), (.int .u64 a2)] h = withyref17_State_Node M a0_0 a0_1 a0_2 a0_3 a0_4 a0_5 a0_6 a0_7 a0_8 a0_9 a0_10 a1 a2 h := by kernel_rfl

theorem withyref17_State_Node_c1_eq (M : Env) (x1 : Int) (x2 : Int) (x3 : V) (x7 : Int) (h : H) : withyref17_State_Node_c1_B M (withyref17_State_Node_c1_E (.int .i64 x1) (.int .u64 x2) x3 (.int .i64 x7)) h = withyref17_State_Node_c1_S M x1 x2 x3 x7 h := by kernel_rfl

theorem withyref17_State_Node_c1_e0_eq (M : Env) (x6 : V) (h : H) : withyref17_State_Node_K2 M (.exit 0) (withyref17_State_Node_c1_O x6) h = withyref17_State_Node_c1_e0 M x6 h := by kernel_rfl

theorem withyref17_State_Node_c1_r_eq (M : Env) (x6 : Int) (h : H) : withyref17_State_Node_K2 M .ret (withyref17_State_Node_c1_O (.int .i64 x6)) h = withyref17_State_Node_c1_r M x6 h := by kernel_rfl

end Wm.S
end

section
namespace Wm.S
open Wm
set_option maxRecDepth 100000
set_option linter.unusedVariables false

def withyref17_State_Held_c1_B (M : Env) : List V → H → Option (AX × List V × H) :=
 fun env h => evalC M F.withyref17_State_Held_c1 env h fun x env h => match x with
 | .normal => some (.normal, keepOf [1, 2, 5, 6] 0 env, h)
 | x => some (x, keepOf [5] 0 env, h)

def withyref17_State_Held_c1_E (x1 x2 x5 x6 : V) : List V := dd 1 (x1 :: x2 :: dd 2 (x5 :: x6 :: dd 18 []))
def withyref17_State_Held_c1_O (x5 : V) : List V := dd 5 (x5 :: dd 19 [])

def withyref17_State_Held_K0 (M : Env) : AX → List V → H → Option (V × H) :=
 fun x env h => fin F.withyref17_State_Held x env h

def withyref17_State_Held_K1 (M : Env) : AX → List V → H → Option (V × H) :=
 fun x env h => match x with | .normal => evalC M F.withyref17_State_Held_c0 env h (fun x env h => withyref17_State_Held_K0 M x env h) | x => withyref17_State_Held_K0 M x env h

def withyref17_State_Held_K2 (M : Env) : AX → List V → H → Option (V × H) :=
 fun x env h => match x with | .exit j => (match Nat.beq j 0 with | true => withyref17_State_Held_K1 M .normal env h | false => withyref17_State_Held_K1 M (.exit j) env h) | x => withyref17_State_Held_K1 M x env h

def withyref17_State_Held (M : Env) (a0_0 : Int) (a0_1 : Int) (a0_2 : Int) (a0_3 : Int) (a0_4 : Int) (a0_5 : Int) (a0_6 : V) (a0_7 : V) (a0_8 : V) (a0_9 : V) (a0_10 : V) (a1 : Int) (h : H) : Option (V × H) :=
 let h0 := h.new (.cells [(.int .i64 a0_0), (.int .i64 a0_1), (.int .i64 a0_2), (.int .i64 a0_3), (.int .i64 a0_4), (.int .i64 a0_5), a0_6, a0_7, a0_8, a0_9, a0_10] .rw)
 (M.loop (withyref17_State_Held_c1_B M) (withyref17_State_Held_c1_E (.int .i64 a1) (.ptr h.next 0) (.int .i64 0) (.int .i64 0)) h0).bind fun p1 => withyref17_State_Held_K2 M p1.1 p1.2.1 p1.2.2

def withyref17_State_Held_c1_S (M : Env) (x1 : Int) (x2 : V) (x5 : Int) (x6 : Int) (h : H) : Option (AX × List V × H) :=
 (ptrAt x2 7).bind fun v0 =>
 (h.ld1 v0).bind fun v1 =>
 (lenSl v1).bind fun n2 =>
 match (decide (x6 < ((n2 : Nat) : Int))) with
 | true => (
 (ptrAt x2 7).bind fun v3 =>
 (h.ld1 v3).bind fun v4 =>
 (indexAV 3 v4 (.int .i64 x6)).bind fun v5 =>
 (ptrAt v5 0).bind fun v6 =>
 (h.ld1 v6).bind fun v7 =>
 (asI .i64 v7).bind fun n8 =>
 match (decide (n8 = x1)) with
 | true => (
 some (.normal, (withyref17_State_Held_c1_E (.int .i64 x1) x2 (.int .i64 (wr .i64 (x5 + 1))) (.int .i64 (wr .i64 (x6 + 1)))), h))
 | false => (
 some (.normal, (withyref17_State_Held_c1_E (.int .i64 x1) x2 (.int .i64 x5) (.int .i64 (wr .i64 (x6 + 1)))), h)))
 | false => (
 some ((.exit 0), (withyref17_State_Held_c1_O (.int .i64 x5)), h))

def withyref17_State_Held_c1_e0 (M : Env) (x5 : Int) (h : H) : Option (V × H) :=
 some ((.int .i64 x5), h)

theorem withyref17_State_Held_eq (M : Env) (a0_0 : Int) (a0_1 : Int) (a0_2 : Int) (a0_3 : Int) (a0_4 : Int) (a0_5 : Int) (a0_6 : V) (a0_7 : V) (a0_8 : V) (a0_9 : V) (a0_10 : V) (a1 : Int) (h : H) : evalF M F.withyref17_State_Held [(.agg [(.int .i64 a0_0), (.int .i64 a0_1), (.int .i64 a0_2), (.int .i64 a0_3), (.int .i64 a0_4), (.int .i64 a0_5), a0_6, a0_7, a0_8, a0_9, a0_10]), (.int .i64 a1)] h = withyref17_State_Held M a0_0 a0_1 a0_2 a0_3 a0_4 a0_5 a0_6 a0_7 a0_8 a0_9 a0_10 a1 h := by kernel_rfl

theorem withyref17_State_Held_c1_eq (M : Env) (x1 : Int) (x2 : V) (x5 : Int) (x6 : Int) (h : H) : withyref17_State_Held_c1_B M (withyref17_State_Held_c1_E (.int .i64 x1) x2 (.int .i64 x5) (.int .i64 x6)) h = withyref17_State_Held_c1_S M x1 x2 x5 x6 h := by kernel_rfl

theorem withyref17_State_Held_c1_e0_eq (M : Env) (x5 : Int) (h : H) : withyref17_State_Held_K2 M (.exit 0) (withyref17_State_Held_c1_O (.int .i64 x5)) h = withyref17_State_Held_c1_e0 M x5 h := by kernel_rfl

end Wm.S
end

section
namespace Wm.S
open Wm
set_option maxRecDepth 100000
set_option linter.unusedVariables false

def withyref17_State_Fresh_c1_B (M : Env) : List V → H → Option (AX × List V × H) :=
 fun env h => evalC M F.withyref17_State_Fresh_c1 env h fun x env h => match x with
 | .normal => some (.normal, keepOf [1, 2, 5] 0 env, h)
 | x => some (x, keepOf [1, 4] 0 env, h)

def withyref17_State_Fresh_c1_E (x1 x2 x5 : V) : List V := dd 1 (x1 :: x2 :: dd 2 (x5 :: dd 16 []))
def withyref17_State_Fresh_c1_O (x1 x4 : V) : List V := dd 1 (x1 :: dd 2 (x4 :: dd 17 []))

def withyref17_State_Fresh_K0 (M : Env) : AX → List V → H → Option (V × H) :=
 fun x env h => fin F.withyref17_State_Fresh x env h

def withyref17_State_Fresh_K1 (M : Env) : AX → List V → H → Option (V × H) :=
 fun x env h => match x with | .normal => evalC M F.withyref17_State_Fresh_c0 env h (fun x env h => withyref17_State_Fresh_K0 M x env h) | x => withyref17_State_Fresh_K0 M x env h

def withyref17_State_Fresh_K2 (M : Env) : AX → List V → H → Option (V × H) :=
 fun x env h => match x with | .exit j => (match Nat.beq j 0 with | true => withyref17_State_Fresh_K1 M .normal env h | false => withyref17_State_Fresh_K1 M (.exit j) env h) | x => withyref17_State_Fresh_K1 M x env h

def withyref17_State_Fresh (M : Env) (a0_0 : Int) (a0_1 : Int) (a0_2 : Int) (a0_3 : Int) (a0_4 : Int) (a0_5 : Int) (a0_6 : V) (a0_7 : V) (a0_8 : V) (a0_9 : V) (a0_10 : V) (a1 : Int) (h : H) : Option (V × H) :=
 let h0 := h.new (.cells [(.int .i64 a0_0), (.int .i64 a0_1), (.int .i64 a0_2), (.int .i64 a0_3), (.int .i64 a0_4), (.int .i64 a0_5), a0_6, a0_7, a0_8, a0_9, a0_10] .rw)
 (M.loop (withyref17_State_Fresh_c1_B M) (withyref17_State_Fresh_c1_E (.int .u64 a1) (.ptr h.next 0) (.int .i64 0)) h0).bind fun p1 => withyref17_State_Fresh_K2 M p1.1 p1.2.1 p1.2.2

def withyref17_State_Fresh_c1_S (M : Env) (x1 : Int) (x2 : V) (x5 : Int) (h : H) : Option (AX × List V × H) :=
 (ptrAt x2 10).bind fun v0 =>
 (h.ld1 v0).bind fun v1 =>
 (lenSl v1).bind fun n2 =>
 match (decide (x5 < ((n2 : Nat) : Int))) with
 | true => (
 (ptrAt x2 10).bind fun v3 =>
 (h.ld1 v3).bind fun v4 =>
 (indexAV 1 v4 (.int .i64 x5)).bind fun v5 =>
 (h.ld1 v5).bind fun v6 =>
 (asI .u64 v6).bind fun n7 =>
 match (decide (n7 = x1)) with
 | true => (
 some (.ret, (withyref17_State_Fresh_c1_O (.int .u64 x1) (.bool false)), h))
 | false => (
 some (.normal, (withyref17_State_Fresh_c1_E (.int .u64 x1) x2 (.int .i64 (wr .i64 (x5 + 1)))), h)))
 | false => (
 some ((.exit 0), (withyref17_State_Fresh_c1_O (.int .u64 x1) .dead), h))

def withyref17_State_Fresh_c1_e0 (M : Env) (x1 : Int) (x4 : V) (h : H) : Option (V × H) :=
 some ((.bool (!decide (x1 = 0))), h)

def withyref17_State_Fresh_c1_r (M : Env) (x1 : V) (x4 : Bool) (h : H) : Option (V × H) :=
 some ((.bool x4), h)

theorem withyref17_State_Fresh_eq (M : Env) (a0_0 : Int) (a0_1 : Int) (a0_2 : Int) (a0_3 : Int) (a0_4 : Int) (a0_5 : Int) (a0_6 : V) (a0_7 : V) (a0_8 : V) (a0_9 : V) (a0_10 : V) (a1 : Int) (h : H) : evalF M F.withyref17_State_Fresh [(.agg [(.int .i64 a0_0), (.int .i64 a0_1), (.int .i64 a0_2), (.int .i64 a0_3), (.int .i64 a0_4), (.int .i64 a0_5), a0_6, a0_7, a0_8, a0_9, a0_10]), (.int .u64 a1)] h = withyref17_State_Fresh M a0_0 a0_1 a0_2 a0_3 a0_4 a0_5 a0_6 a0_7 a0_8 a0_9 a0_10 a1 h := by kernel_rfl

theorem withyref17_State_Fresh_c1_eq (M : Env) (x1 : Int) (x2 : V) (x5 : Int) (h : H) : withyref17_State_Fresh_c1_B M (withyref17_State_Fresh_c1_E (.int .u64 x1) x2 (.int .i64 x5)) h = withyref17_State_Fresh_c1_S M x1 x2 x5 h := by kernel_rfl

theorem withyref17_State_Fresh_c1_e0_eq (M : Env) (x1 : Int) (x4 : V) (h : H) : withyref17_State_Fresh_K2 M (.exit 0) (withyref17_State_Fresh_c1_O (.int .u64 x1) x4) h = withyref17_State_Fresh_c1_e0 M x1 x4 h := by kernel_rfl

theorem withyref17_State_Fresh_c1_r_eq (M : Env) (x1 : V) (x4 : Bool) (h : H) : withyref17_State_Fresh_K2 M .ret (withyref17_State_Fresh_c1_O x1 (.bool x4)) h = withyref17_State_Fresh_c1_r M x1 x4 h := by kernel_rfl

end Wm.S
end

section
namespace Wm.S
open Wm
set_option maxRecDepth 100000
set_option linter.unusedVariables false

def withyref17_State_Error_c1_B (M : Env) : List V → H → Option (AX × List V × H) :=
 fun env h => evalC M F.withyref17_State_Error_c1 env h fun x env h => some (x, keepOf [1, 3, 5, 6, 7, 8] 0 env, h)

def withyref17_State_Error_c1_E (x1 x3 x5 x7 x8 : V) : List V := dd 1 (x1 :: dd 1 (x3 :: dd 1 (x5 :: dd 1 (x7 :: x8 :: dd 188 []))))
def withyref17_State_Error_c1_O (x1 x3 x5 x6 x7 x8 : V) : List V := dd 1 (x1 :: dd 1 (x3 :: dd 1 (x5 :: x6 :: x7 :: x8 :: dd 188 [])))

def withyref17_State_Error_c4_B (M : Env) : List V → H → Option (AX × List V × H) :=
 fun env h => evalC M F.withyref17_State_Error_c4 env h fun x env h => some (x, keepOf [1, 3, 5, 7, 8, 54] 0 env, h)

def withyref17_State_Error_c4_E (x1 x3 x5 x7 x8 : V) : List V := dd 1 (x1 :: dd 1 (x3 :: dd 1 (x5 :: dd 1 (x7 :: x8 :: dd 188 []))))
def withyref17_State_Error_c4_O (x1 x3 x5 x7 x8 x54 : V) : List V := dd 1 (x1 :: dd 1 (x3 :: dd 1 (x5 :: dd 1 (x7 :: x8 :: dd 45 (x54 :: dd 142 [])))))

def withyref17_State_Error_c6_B (M : Env) : List V → H → Option (AX × List V × H) :=
 fun env h => evalC M F.withyref17_State_Error_c6 env h fun x env h => some (x, keepOf [5, 6, 8] 0 env, h)

def withyref17_State_Error_c6_E (x1 x3 x5 x8 : V) : List V := dd 1 (x1 :: dd 1 (x3 :: dd 1 (x5 :: dd 2 (x8 :: dd 188 []))))
def withyref17_State_Error_c6_O (x5 x6 x8 : V) : List V := dd 5 (x5 :: x6 :: dd 1 (x8 :: dd 188 []))

def withyref17_State_Error_c9_B (M : Env) : List V → H → Option (AX × List V × H) :=
 fun env h => evalC M F.withyref17_State_Error_c9 env h fun x env h => some (x, keepOf [1, 3, 5, 7, 8, 142] 0 env, h)

def withyref17_State_Error_c9_E (x1 x3 x5 x7 x8 x9 x10 : V) : List V := dd 1 (x1 :: dd 1 (x3 :: dd 1 (x5 :: dd 1 (x7 :: x8 :: x9 :: x10 :: dd 186 []))))
def withyref17_State_Error_c9_O (x1 x3 x5 x7 x8 x142 : V) : List V := dd 1 (x1 :: dd 1 (x3 :: dd 1 (x5 :: dd 1 (x7 :: x8 :: dd 133 (x142 :: dd 54 [])))))

def withyref17_State_Error_c11_B (M : Env) : List V → H → Option (AX × List V × H) :=
 fun env h => evalC M F.withyref17_State_Error_c11 env h fun x env h => some (x, keepOf [1, 3, 5, 6, 7, 8] 0 env, h)

def withyref17_State_Error_c11_E (x1 x3 x5 x7 x8 : V) : List V := dd 1 (x1 :: dd 1 (x3 :: dd 1 (x5 :: dd 1 (x7 :: x8 :: dd 188 []))))
def withyref17_State_Error_c11_O (x1 x3 x5 x6 x7 x8 : V) : List V := dd 1 (x1 :: dd 1 (x3 :: dd 1 (x5 :: x6 :: x7 :: x8 :: dd 188 [])))

def withyref17_State_Error_c13_B (M : Env) : List V → H → Option (AX × List V × H) :=
 fun env h => evalC M F.withyref17_State_Error_c13 env h fun x env h => some (x, keepOf [1, 3, 5, 6] 0 env, h)

def withyref17_State_Error_c13_E (x1 x3 x5 x7 x8 : V) : List V := dd 1 (x1 :: dd 1 (x3 :: dd 1 (x5 :: dd 1 (x7 :: x8 :: dd 188 []))))
def withyref17_State_Error_c13_O (x1 x3 x5 x6 : V) : List V := dd 1 (x1 :: dd 1 (x3 :: dd 1 (x5 :: x6 :: dd 190 [])))

def withyref17_State_Error_K0 (M : Env) : AX → List V → H → Option (V × H) :=
 fun x env h => fin F.withyref17_State_Error x env h

def withyref17_State_Error_K1 (M : Env) : AX → List V → H → Option (V × H) :=
 fun x env h => match x with | .normal => evalC M F.withyref17_State_Error_c0 env h (fun x env h => withyref17_State_Error_K0 M x env h) | x => withyref17_State_Error_K0 M x env h

def withyref17_State_Error_K2 (M : Env) : AX → List V → H → Option (V × H) :=
 fun x env h => match x with | .normal => evalC M F.withyref17_State_Error_c2 env h (fun x env h => withyref17_State_Error_K0 M x env h) | x => withyref17_State_Error_K0 M x env h

def withyref17_State_Error_K3 (M : Env) : AX → List V → H → Option (V × H) :=
 fun x env h => match x with | .normal => evalC M F.withyref17_State_Error_c3 env h (fun x env h => withyref17_State_Error_K2 M x env h) | x => withyref17_State_Error_K2 M x env h

def withyref17_State_Error_K4 (M : Env) : AX → List V → H → Option (V × H) :=
 fun x env h => match x with | .normal => evalC M F.withyref17_State_Error_c5 env h (fun x env h => withyref17_State_Error_K2 M x env h) | x => withyref17_State_Error_K2 M x env h

def withyref17_State_Error_K5 (M : Env) : AX → List V → H → Option (V × H) :=
 fun x env h => match x with | .normal => evalC M F.withyref17_State_Error_c7 env h (fun x env h => withyref17_State_Error_K0 M x env h) | x => withyref17_State_Error_K0 M x env h

def withyref17_State_Error_K6 (M : Env) : AX → List V → H → Option (V × H) :=
 fun x env h => match x with | .normal => evalC M F.withyref17_State_Error_c8 env h (fun x env h => withyref17_State_Error_K5 M x env h) | x => withyref17_State_Error_K5 M x env h

def withyref17_State_Error_K7 (M : Env) : AX → List V → H → Option (V × H) :=
 fun x env h => match x with | .normal => evalC M F.withyref17_State_Error_c10 env h (fun x env h => withyref17_State_Error_K0 M x env h) | x => withyref17_State_Error_K0 M x env h

def withyref17_State_Error_K8 (M : Env) : AX → List V → H → Option (V × H) :=
 fun x env h => match x with | .normal => evalC M F.withyref17_State_Error_c12 env h (fun x env h => withyref17_State_Error_K0 M x env h) | x => withyref17_State_Error_K0 M x env h

def withyref17_State_Error (M : Env) (a0_0 : Int) (a0_1 : Int) (a0_2 : Int) (a0_3 : Int) (a0_4 : Int) (a0_5 : Int) (a0_6 : V) (a0_7 : V) (a0_8 : V) (a0_9 : V) (a0_10 : V) (a1 : Int) (a2_0 : Int) (a2_1 : Int) (a2_2 : Int) (a2_3 : Int) (a2_4 : Int) (h : H) : Option (V × H) :=
 let h0 := h.new (.cells [(.int .i64 a0_0), (.int .i64 a0_1), (.int .i64 a0_2), (.int .i64 a0_3), (.int .i64 a0_4), (.int .i64 a0_5), a0_6, a0_7, a0_8, a0_9, a0_10] .rw)
 let h1 := h0.new (.cells [(.int .i64 a2_0), (.int .i64 a2_1), (.int .u64 a2_2), (.int .u64 a2_3), (.int .u64 a2_4)] .rw)
 (h1.ldN 11 (.ptr h.next 0)).bind fun v2 =>
 (h1.ld1 (.ptr h0.next 2)).bind fun v3 =>
 (M.call 229 [v2, (.int .i64 a1), v3] h1).bind fun p4 =>
 (p4.2.ldN 11 (.ptr h.next 0)).bind fun v5 =>
 (p4.2.ld1 (.ptr h.next 3)).bind fun v6 =>
 (M.call 231 [v5, (.int .i64 a1)] p4.2).bind fun p7 =>
 match ckB (p7.2.ld1 (.ptr h.next 3)) v6 with
 | true => (
 (asI .i64 p7.1).bind fun n8 =>
 (asI .i64 v6).bind fun n9 =>
 (withyref17_State_Error_c1_B M (withyref17_State_Error_c1_E (.int .i64 a1) (.ptr h.next 0) (.ptr h0.next 0) p4.1 (.bool (decide (n8 < n9)))) p7.2).bind fun p10 => withyref17_State_Error_K1 M p10.1 p10.2.1 p10.2.2)
 | false => none

def withyref17_State_Error_c1_S (M : Env) (x1 : Int) (x3 : V) (x5 : V) (x7 : Int) (x8 : Bool) (h : H) : Option (AX × List V × H) :=
 (ptrAt x5 0).bind fun v0 =>
 (h.ld1 v0).bind fun v1 =>
 (asI .i64 v1).bind fun n2 =>
 match (decide (n2 < 1)) with
 | true => (
 some (.ret, (withyref17_State_Error_c1_O (.int .i64 x1) x3 x5 (.int .i64 8) (.int .i64 x7) (.bool x8)), h))
 | false => (
 (ptrAt x5 0).bind fun v3 =>
 (h.ld1 v3).bind fun v4 =>
 (asI .i64 v4).bind fun n5 =>
 match (decide (10 < n5)) with
 | true => (
 some (.ret, (withyref17_State_Error_c1_O (.int .i64 x1) x3 x5 (.int .i64 8) (.int .i64 x7) (.bool x8)), h))
 | false => (
 some (.normal, (withyref17_State_Error_c1_O (.int .i64 x1) x3 x5 .dead (.int .i64 x7) (.bool x8)), h)))

def withyref17_State_Error_c1_n (M : Env) (x1 : Int) (x3 : V) (x5 : V) (x6 : V) (x7 : Int) (x8 : Bool) (h : H) : Option (V × H) :=
 (ptrAt x5 0).bind fun v0 =>
 (h.ld1 v0).bind fun v1 =>
 (asI .i64 v1).bind fun n2 =>
 match (decide (n2 = 1)) with
 | true => (
 (ptrAt x5 1).bind fun v3 =>
 (h.ld1 v3).bind fun v4 =>
 (asI .i64 v4).bind fun n5 =>
 match (decide (n5 < 0)) with
 | true => (
 some ((.int .i64 1), h))
 | false => (
 (ptrAt x5 1).bind fun v6 =>
 (h.ld1 v6).bind fun v7 =>
 (ptrAt x3 0).bind fun v8 =>
 (ptrAt v8 1).bind fun v9 =>
 (h.ld1 v9).bind fun v10 =>
 (asI .i64 v7).bind fun n11 =>
 (asI .i64 v10).bind fun n12 =>
 match (decide (n12 < n11)) with
 | true => (
 some ((.int .i64 1), h))
 | false => (
 match (!x8) with
 | true => (
 some ((.int .i64 5), h))
 | false => (
 some ((.int .i64 0), h)))))
 | false => (
 (withyref17_State_Error_c4_B M (withyref17_State_Error_c4_E (.int .i64 x1) x3 x5 (.int .i64 x7) (.bool x8)) h).bind fun p3 => withyref17_State_Error_K3 M p3.1 p3.2.1 p3.2.2)

def withyref17_State_Error_c1_r (M : Env) (x1 : V) (x3 : V) (x5 : V) (x6 : Int) (x7 : V) (x8 : V) (h : H) : Option (V × H) :=
 some ((.int .i64 x6), h)

def withyref17_State_Error_c4_S (M : Env) (x1 : Int) (x3 : V) (x5 : V) (x7 : Int) (x8 : Bool) (h : H) : Option (AX × List V × H) :=
 (ptrAt x5 0).bind fun v0 =>
 (h.ld1 v0).bind fun v1 =>
 (asI .i64 v1).bind fun n2 =>
 match (decide (n2 = 9)) with
 | true => (
 some (.normal, (withyref17_State_Error_c4_O (.int .i64 x1) x3 x5 (.int .i64 x7) (.bool x8) (.bool true)), h))
 | false => (
 (ptrAt x5 0).bind fun v3 =>
 (h.ld1 v3).bind fun v4 =>
 (asI .i64 v4).bind fun n5 =>
 some (.normal, (withyref17_State_Error_c4_O (.int .i64 x1) x3 x5 (.int .i64 x7) (.bool x8) (.bool (decide (n5 = 10)))), h))

def withyref17_State_Error_c4_n (M : Env) (x1 : Int) (x3 : V) (x5 : V) (x7 : Int) (x8 : Bool) (x54 : Bool) (h : H) : Option (V × H) :=
 match x54 with
 | true => (
 (withyref17_State_Error_c6_B M (withyref17_State_Error_c6_E (.int .i64 x1) x3 x5 (.bool x8)) h).bind fun p0 => withyref17_State_Error_K4 M p0.1 p0.2.1 p0.2.2)
 | false => (
 (h.ldN 11 x3).bind fun v0 =>
 (ptrAt x5 3).bind fun v1 =>
 (h.ld1 v1).bind fun v2 =>
 (M.call 229 [v0, (.int .i64 x1), v2] h).bind fun p3 =>
 (asI .i64 p3.1).bind fun n4 =>
 (p3.2.ldN 11 x3).bind fun v5 =>
 (ptrAt x5 4).bind fun v6 =>
 (p3.2.ld1 v6).bind fun v7 =>
 (M.call 229 [v5, (.int .i64 x1), v7] p3.2).bind fun p8 =>
 (asI .i64 p8.1).bind fun n9 =>
 (withyref17_State_Error_c9_B M (withyref17_State_Error_c9_E (.int .i64 x1) x3 x5 (.int .i64 x7) (.bool x8) (.bool (decide (0 ≤ n4))) (.bool (decide (0 ≤ n9)))) p8.2).bind fun p10 => withyref17_State_Error_K6 M p10.1 p10.2.1 p10.2.2)

def withyref17_State_Error_c6_S (M : Env) (x1 : Int) (x3 : V) (x5 : V) (x8 : Bool) (h : H) : Option (AX × List V × H) :=
 (ptrAt x3 8).bind fun v0 =>
 (h.ld1 v0).bind fun v1 =>
 (indexAV 1 v1 (.int .i64 x1)).bind fun v2 =>
 (h.ld1 v2).bind fun v3 =>
 (asI .u64 v3).bind fun n4 =>
 match (decide (n4 = 0)) with
 | true => (
 some (.ret, (withyref17_State_Error_c6_O x5 (.int .i64 6) (.bool x8)), h))
 | false => (
 (ptrAt x3 8).bind fun v5 =>
 (h.ld1 v5).bind fun v6 =>
 (indexAV 1 v6 (.int .i64 x1)).bind fun v7 =>
 (h.ld1 v7).bind fun v8 =>
 (ptrAt x5 2).bind fun v9 =>
 (h.ld1 v9).bind fun v10 =>
 (asI .u64 v8).bind fun n11 =>
 (asI .u64 v10).bind fun n12 =>
 match (!decide (n11 = n12)) with
 | true => (
 some (.ret, (withyref17_State_Error_c6_O x5 (.int .i64 6) (.bool x8)), h))
 | false => (
 (ptrAt x5 0).bind fun v13 =>
 (h.ld1 v13).bind fun v14 =>
 (asI .i64 v14).bind fun n15 =>
 match (decide (n15 = 9)) with
 | true => (
 (ptrAt x3 9).bind fun v16 =>
 (h.ld1 v16).bind fun v17 =>
 (indexAV 1 v17 (.int .i64 x1)).bind fun v18 =>
 (h.ld1 v18).bind fun v19 =>
 (lenSl v19).bind fun n20 =>
 match (decide (((n20 : Nat) : Int) = 0)) with
 | true => (
 some (.ret, (withyref17_State_Error_c6_O x5 (.int .i64 6) (.bool x8)), h))
 | false => (
 some (.normal, (withyref17_State_Error_c6_O x5 .dead (.bool x8)), h)))
 | false => (
 some (.normal, (withyref17_State_Error_c6_O x5 .dead (.bool x8)), h))))

def withyref17_State_Error_c6_n (M : Env) (x5 : V) (x6 : V) (x8 : Bool) (h : H) : Option (V × H) :=
 (ptrAt x5 0).bind fun v0 =>
 (h.ld1 v0).bind fun v1 =>
 (asI .i64 v1).bind fun n2 =>
 match (decide (n2 = 9)) with
 | true => (
 match (!x8) with
 | true => (
 some ((.int .i64 5), h))
 | false => (
 some ((.int .i64 0), h)))
 | false => (
 some ((.int .i64 0), h))

def withyref17_State_Error_c6_r (M : Env) (x5 : V) (x6 : Int) (x8 : V) (h : H) : Option (V × H) :=
 some ((.int .i64 x6), h)

def withyref17_State_Error_c9_S (M : Env) (x1 : Int) (x3 : V) (x5 : V) (x7 : Int) (x8 : Bool) (x9 : Bool) (x10 : Bool) (h : H) : Option (AX × List V × H) :=
 match (decide (x7 < 0)) with
 | true => (
 some (.normal, (withyref17_State_Error_c9_O (.int .i64 x1) x3 x5 (.int .i64 x7) (.bool x8) (.bool true)), h))
 | false => (
 (ptrAt x5 0).bind fun v0 =>
 (h.ld1 v0).bind fun v1 =>
 (asI .i64 v1).bind fun n2 =>
 match (decide (n2 = 3)) with
 | true => (
 match (!x9) with
 | true => (
 some (.normal, (withyref17_State_Error_c9_O (.int .i64 x1) x3 x5 (.int .i64 x7) (.bool x8) (.bool true)), h))
 | false => (
 (ptrAt x5 0).bind fun v3 =>
 (h.ld1 v3).bind fun v4 =>
 (asI .i64 v4).bind fun n5 =>
 match (decide (n5 = 5)) with
 | true => (
 (ptrAt x5 3).bind fun v6 =>
 (h.ld1 v6).bind fun v7 =>
 (asI .u64 v7).bind fun n8 =>
 match (!decide (n8 = 0)) with
 | true => (
 match (!x9) with
 | true => (
 some (.normal, (withyref17_State_Error_c9_O (.int .i64 x1) x3 x5 (.int .i64 x7) (.bool x8) (.bool true)), h))
 | false => (
 (ptrAt x5 4).bind fun v9 =>
 (h.ld1 v9).bind fun v10 =>
 (asI .u64 v10).bind fun n11 =>
 match (!decide (n11 = 0)) with
 | true => (
 some (.normal, (withyref17_State_Error_c9_O (.int .i64 x1) x3 x5 (.int .i64 x7) (.bool x8) (.bool (!x10))), h))
 | false => (
 some (.normal, (withyref17_State_Error_c9_O (.int .i64 x1) x3 x5 (.int .i64 x7) (.bool x8) (.bool false)), h))))
 | false => (
 (ptrAt x5 4).bind fun v9 =>
 (h.ld1 v9).bind fun v10 =>
 (asI .u64 v10).bind fun n11 =>
 match (!decide (n11 = 0)) with
 | true => (
 some (.normal, (withyref17_State_Error_c9_O (.int .i64 x1) x3 x5 (.int .i64 x7) (.bool x8) (.bool (!x10))), h))
 | false => (
 some (.normal, (withyref17_State_Error_c9_O (.int .i64 x1) x3 x5 (.int .i64 x7) (.bool x8) (.bool false)), h))))
 | false => (
 some (.normal, (withyref17_State_Error_c9_O (.int .i64 x1) x3 x5 (.int .i64 x7) (.bool x8) (.bool false)), h))))
 | false => (
 (ptrAt x5 0).bind fun v3 =>
 (h.ld1 v3).bind fun v4 =>
 (asI .i64 v4).bind fun n5 =>
 match (decide (n5 = 7)) with
 | true => (
 match (!x9) with
 | true => (
 some (.normal, (withyref17_State_Error_c9_O (.int .i64 x1) x3 x5 (.int .i64 x7) (.bool x8) (.bool true)), h))
 | false => (
 (ptrAt x5 0).bind fun v6 =>
 (h.ld1 v6).bind fun v7 =>
 (asI .i64 v7).bind fun n8 =>
 match (decide (n8 = 5)) with
 | true => (
 (ptrAt x5 3).bind fun v9 =>
 (h.ld1 v9).bind fun v10 =>
 (asI .u64 v10).bind fun n11 =>
 match (!decide (n11 = 0)) with
 | true => (
 match (!x9) with
 | true => (
 some (.normal, (withyref17_State_Error_c9_O (.int .i64 x1) x3 x5 (.int .i64 x7) (.bool x8) (.bool true)), h))
 | false => (
 (ptrAt x5 4).bind fun v12 =>
 (h.ld1 v12).bind fun v13 =>
 (asI .u64 v13).bind fun n14 =>
 match (!decide (n14 = 0)) with
 | true => (
 some (.normal, (withyref17_State_Error_c9_O (.int .i64 x1) x3 x5 (.int .i64 x7) (.bool x8) (.bool (!x10))), h))
 | false => (
 some (.normal, (withyref17_State_Error_c9_O (.int .i64 x1) x3 x5 (.int .i64 x7) (.bool x8) (.bool false)), h))))
 | false => (
 (ptrAt x5 4).bind fun v12 =>
 (h.ld1 v12).bind fun v13 =>
 (asI .u64 v13).bind fun n14 =>
 match (!decide (n14 = 0)) with
 | true => (
 some (.normal, (withyref17_State_Error_c9_O (.int .i64 x1) x3 x5 (.int .i64 x7) (.bool x8) (.bool (!x10))), h))
 | false => (
 some (.normal, (withyref17_State_Error_c9_O (.int .i64 x1) x3 x5 (.int .i64 x7) (.bool x8) (.bool false)), h))))
 | false => (
 some (.normal, (withyref17_State_Error_c9_O (.int .i64 x1) x3 x5 (.int .i64 x7) (.bool x8) (.bool false)), h))))
 | false => (
 (ptrAt x5 0).bind fun v6 =>
 (h.ld1 v6).bind fun v7 =>
 (asI .i64 v7).bind fun n8 =>
 match (decide (n8 = 5)) with
 | true => (
 (ptrAt x5 3).bind fun v9 =>
 (h.ld1 v9).bind fun v10 =>
 (asI .u64 v10).bind fun n11 =>
 match (!decide (n11 = 0)) with
 | true => (
 match (!x9) with
 | true => (
 some (.normal, (withyref17_State_Error_c9_O (.int .i64 x1) x3 x5 (.int .i64 x7) (.bool x8) (.bool true)), h))
 | false => (
 (ptrAt x5 4).bind fun v12 =>
 (h.ld1 v12).bind fun v13 =>
 (asI .u64 v13).bind fun n14 =>
 match (!decide (n14 = 0)) with
 | true => (
 some (.normal, (withyref17_State_Error_c9_O (.int .i64 x1) x3 x5 (.int .i64 x7) (.bool x8) (.bool (!x10))), h))
 | false => (
 some (.normal, (withyref17_State_Error_c9_O (.int .i64 x1) x3 x5 (.int .i64 x7) (.bool x8) (.bool false)), h))))
 | false => (
 (ptrAt x5 4).bind fun v12 =>
 (h.ld1 v12).bind fun v13 =>
 (asI .u64 v13).bind fun n14 =>
 match (!decide (n14 = 0)) with
 | true => (
 some (.normal, (withyref17_State_Error_c9_O (.int .i64 x1) x3 x5 (.int .i64 x7) (.bool x8) (.bool (!x10))), h))
 | false => (
 some (.normal, (withyref17_State_Error_c9_O (.int .i64 x1) x3 x5 (.int .i64 x7) (.bool x8) (.bool false)), h))))
 | false => (
 some (.normal, (withyref17_State_Error_c9_O (.int .i64 x1) x3 x5 (.int .i64 x7) (.bool x8) (.bool false)), h)))))

def withyref17_State_Error_c9_n (M : Env) (x1 : Int) (x3 : V) (x5 : V) (x7 : Int) (x8 : Bool) (x142 : Bool) (h : H) : Option (V × H) :=
 match x142 with
 | true => (
 some ((.int .i64 2), h))
 | false => (
 (withyref17_State_Error_c11_B M (withyref17_State_Error_c11_E (.int .i64 x1) x3 x5 (.int .i64 x7) (.bool x8)) h).bind fun p0 => withyref17_State_Error_K7 M p0.1 p0.2.1 p0.2.2)

def withyref17_State_Error_c11_S (M : Env) (x1 : Int) (x3 : V) (x5 : V) (x7 : Int) (x8 : Bool) (h : H) : Option (AX × List V × H) :=
 (ptrAt x5 0).bind fun v0 =>
 (h.ld1 v0).bind fun v1 =>
 (asI .i64 v1).bind fun n2 =>
 match (decide (2 ≤ n2)) with
 | true => (
 (ptrAt x5 0).bind fun v3 =>
 (h.ld1 v3).bind fun v4 =>
 (asI .i64 v4).bind fun n5 =>
 match (decide (n5 ≤ 5)) with
 | true => (
 (ptrAt x5 1).bind fun v6 =>
 (h.ld1 v6).bind fun v7 =>
 (asI .i64 v7).bind fun n8 =>
 match (decide (n8 < 0)) with
 | true => (
 some (.ret, (withyref17_State_Error_c11_O (.int .i64 x1) x3 x5 (.int .i64 3) (.int .i64 x7) (.bool x8)), h))
 | false => (
 (ptrAt x5 1).bind fun v9 =>
 (h.ld1 v9).bind fun v10 =>
 (ptrAt x3 6).bind fun v11 =>
 (h.ld1 v11).bind fun v12 =>
 (indexAV 1 v12 (.int .i64 x7)).bind fun v13 =>
 (h.ld1 v13).bind fun v14 =>
 (lenSl v14).bind fun n15 =>
 (asI .i64 v10).bind fun n16 =>
 match (decide (((n15 : Nat) : Int) ≤ n16)) with
 | true => (
 some (.ret, (withyref17_State_Error_c11_O (.int .i64 x1) x3 x5 (.int .i64 3) (.int .i64 x7) (.bool x8)), h))
 | false => (
 some (.normal, (withyref17_State_Error_c11_O (.int .i64 x1) x3 x5 .dead (.int .i64 x7) (.bool x8)), h))))
 | false => (
 some (.normal, (withyref17_State_Error_c11_O (.int .i64 x1) x3 x5 .dead (.int .i64 x7) (.bool x8)), h)))
 | false => (
 some (.normal, (withyref17_State_Error_c11_O (.int .i64 x1) x3 x5 .dead (.int .i64 x7) (.bool x8)), h))

def withyref17_State_Error_c11_n (M : Env) (x1 : Int) (x3 : V) (x5 : V) (x6 : V) (x7 : Int) (x8 : Bool) (h : H) : Option (V × H) :=
 (withyref17_State_Error_c13_B M (withyref17_State_Error_c13_E (.int .i64 x1) x3 x5 (.int .i64 x7) (.bool x8)) h).bind fun p0 => withyref17_State_Error_K8 M p0.1 p0.2.1 p0.2.2

def withyref17_State_Error_c11_r (M : Env) (x1 : V) (x3 : V) (x5 : V) (x6 : Int) (x7 : V) (x8 : V) (h : H) : Option (V × H) :=
 some ((.int .i64 x6), h)

def withyref17_State_Error_c13_S (M : Env) (x1 : Int) (x3 : V) (x5 : V) (x7 : Int) (x8 : Bool) (h : H) : Option (AX × List V × H) :=
 (ptrAt x5 0).bind fun v0 =>
 (h.ld1 v0).bind fun v1 =>
 (asI .i64 v1).bind fun n2 =>
 match (decide (n2 = 2)) with
 | true => (
 (ptrAt x3 6).bind fun v3 =>
 (h.ld1 v3).bind fun v4 =>
 (indexAV 1 v4 (.int .i64 x7)).bind fun v5 =>
 (h.ld1 v5).bind fun v6 =>
 (ptrAt x5 1).bind fun v7 =>
 (h.ld1 v7).bind fun v8 =>
 (indexAV 1 v6 v8).bind fun v9 =>
 (h.ld1 v9).bind fun v10 =>
 (asI .i64 v10).bind fun n11 =>
 match (decide (0 ≤ n11)) with
 | true => (
 match (!x8) with
 | true => (
 some (.ret, (withyref17_State_Error_c13_O (.int .i64 x1) x3 x5 (.int .i64 5)), h))
 | false => (
 some (.normal, (withyref17_State_Error_c13_O (.int .i64 x1) x3 x5 .dead), h)))
 | false => (
 some (.normal, (withyref17_State_Error_c13_O (.int .i64 x1) x3 x5 .dead), h)))
 | false => (
 some (.normal, (withyref17_State_Error_c13_O (.int .i64 x1) x3 x5 .dead), h))

def withyref17_State_Error_c13_n (M : Env) (x1 : Int) (x3 : V) (x5 : V) (x6 : V) (h : H) : Option (V × H) :=
 (ptrAt x5 0).bind fun v0 =>
 (h.ld1 v0).bind fun v1 =>
 (asI .i64 v1).bind fun n2 =>
 match (decide (n2 = 8)) with
 | true => (
 (ptrAt x3 8).bind fun v3 =>
 (h.ld1 v3).bind fun v4 =>
 (indexAV 1 v4 (.int .i64 x1)).bind fun v5 =>
 (h.ld1 v5).bind fun v6 =>
 (asI .u64 v6).bind fun n7 =>
 match (!decide (n7 = 0)) with
 | true => (
 some ((.int .i64 7), h))
 | false => (
 some ((.int .i64 0), h)))
 | false => (
 some ((.int .i64 0), h))

def withyref17_State_Error_c13_r (M : Env) (x1 : V) (x3 : V) (x5 : V) (x6 : Int) (h : H) : Option (V × H) :=
 some ((.int .i64 x6), h)

theorem withyref17_State_Error_eq (M : Env) (a0_0 : Int) (a0_1 : Int) (a0_2 : Int) (a0_3 : Int) (a0_4 : Int) (a0_5 : Int) (a0_6 : V) (a0_7 : V) (a0_8 : V) (a0_9 : V) (a0_10 : V) (a1 : Int) (a2_0 : Int) (a2_1 : Int) (a2_2 : Int) (a2_3 : Int) (a2_4 : Int) (h : H) : evalF M F.withyref17_State_Error [(.agg [(.int .i64 a0_0), (.int .i64 a0_1), (.int .i64 a0_2), (.int .i64 a0_3), (.int .i64 a0_4), (.int .i64 a0_5), a0_6, a0_7, a0_8, a0_9, a0_10]), (.int .i64 a1), (.agg [(.int .i64 a2_0), (.int .i64 a2_1), (.int .u64 a2_2), (.int .u64 a2_3), (.int .u64 a2_4)])] h = withyref17_State_Error M a0_0 a0_1 a0_2 a0_3 a0_4 a0_5 a0_6 a0_7 a0_8 a0_9 a0_10 a1 a2_0 a2_1 a2_2 a2_3 a2_4 h := by kernel_rfl

theorem withyref17_State_Error_c1_eq (M : Env) (x1 : Int) (x3 : V) (x5 : V) (x7 : Int) (x8 : Bool) (h : H) : withyref17_State_Error_c1_B M (withyref17_State_Error_c1_E (.int .i64 x1) x3 x5 (.int .i64 x7) (.bool x8)) h = withyref17_State_Error_c1_S M x1 x3 x5 x7 x8 h := by kernel_rfl

theorem withyref17_State_Error_c1_n_eq (M : Env) (x1 : Int) (x3 : V) (x5 : V) (x6 : V) (x7 : Int) (x8 : Bool) (h : H) : withyref17_State_Error_K1 M .normal (withyref17_State_Error_c1_O (.int .i64 x1) x3 x5 x6 (.int .i64 x7) (.bool x8)) h = withyref17_State_Error_c1_n M x1 x3 x5 x6 x7 x8 h := by kernel_rfl

theorem withyref17_State_Error_c1_r_eq (M : Env) (x1 : V) (x3 : V) (x5 : V) (x6 : Int) (x7 : V) (x8 : V) (h : H) : withyref17_State_Error_K1 M .ret (withyref17_State_Error_c1_O x1 x3 x5 (.int .i64 x6) x7 x8) h = withyref17_State_Error_c1_r M x1 x3 x5 x6 x7 x8 h := by kernel_rfl

theorem withyref17_State_Error_c4_eq (M : Env) (x1 : Int) (x3 : V) (x5 : V) (x7 : Int) (x8 : Bool) (h : H) : withyref17_State_Error_c4_B M (withyref17_State_Error_c4_E (.int .i64 x1) x3 x5 (.int .i64 x7) (.bool x8)) h = withyref17_State_Error_c4_S M x1 x3 x5 x7 x8 h := by kernel_rfl

theorem withyref17_State_Error_c4_n_eq (M : Env) (x1 : Int) (x3 : V) (x5 : V) (x7 : Int) (x8 : Bool) (x54 : Bool) (h : H) : withyref17_State_Error_K3 M .normal (withyref17_State_Error_c4_O (.int .i64 x1) x3 x5 (.int .i64 x7) (.bool x8) (.bool x54)) h = withyref17_State_Error_c4_n M x1 x3 x5 x7 x8 x54 h := by kernel_rfl

theorem withyref17_State_Error_c6_eq (M : Env) (x1 : Int) (x3 : V) (x5 : V) (x8 : Bool) (h : H) : withyref17_State_Error_c6_B M (withyref17_State_Error_c6_E (.int .i64 x1) x3 x5 (.bool x8)) h = withyref17_State_Error_c6_S M x1 x3 x5 x8 h := by kernel_rfl

theorem withyref17_State_Error_c6_n_eq (M : Env) (x5 : V) (x6 : V) (x8 : Bool) (h : H) : withyref17_State_Error_K4 M .normal (withyref17_State_Error_c6_O x5 x6 (.bool x8)) h = withyref17_State_Error_c6_n M x5 x6 x8 h := by kernel_rfl

theorem withyref17_State_Error_c6_r_eq (M : Env) (x5 : V) (x6 : Int) (x8 : V) (h : H) : withyref17_State_Error_K4 M .ret (withyref17_State_Error_c6_O x5 (.int .i64 x6) x8) h = withyref17_State_Error_c6_r M x5 x6 x8 h := by kernel_rfl

theorem withyref17_State_Error_c9_eq (M : Env) (x1 : Int) (x3 : V) (x5 : V) (x7 : Int) (x8 : Bool) (x9 : Bool) (x10 : Bool) (h : H) : withyref17_State_Error_c9_B M (withyref17_State_Error_c9_E (.int .i64 x1) x3 x5 (.int .i64 x7) (.bool x8) (.bool x9) (.bool x10)) h = withyref17_State_Error_c9_S M x1 x3 x5 x7 x8 x9 x10 h := by kernel_rfl

theorem withyref17_State_Error_c9_n_eq (M : Env) (x1 : Int) (x3 : V) (x5 : V) (x7 : Int) (x8 : Bool) (x142 : Bool) (h : H) : withyref17_State_Error_K6 M .normal (withyref17_State_Error_c9_O (.int .i64 x1) x3 x5 (.int .i64 x7) (.bool x8) (.bool x142)) h = withyref17_State_Error_c9_n M x1 x3 x5 x7 x8 x142 h := by kernel_rfl

theorem withyref17_State_Error_c11_eq (M : Env) (x1 : Int) (x3 : V) (x5 : V) (x7 : Int) (x8 : Bool) (h : H) : withyref17_State_Error_c11_B M (withyref17_State_Error_c11_E (.int .i64 x1) x3 x5 (.int .i64 x7) (.bool x8)) h = withyref17_State_Error_c11_S M x1 x3 x5 x7 x8 h := by kernel_rfl

theorem withyref17_State_Error_c11_n_eq (M : Env) (x1 : Int) (x3 : V) (x5 : V) (x6 : V) (x7 : Int) (x8 : Bool) (h : H) : withyref17_State_Error_K7 M .normal (withyref17_State_Error_c11_O (.int .i64 x1) x3 x5 x6 (.int .i64 x7) (.bool x8)) h = withyref17_State_Error_c11_n M x1 x3 x5 x6 x7 x8 h := by kernel_rfl

theorem withyref17_State_Error_c11_r_eq (M : Env) (x1 : V) (x3 : V) (x5 : V) (x6 : Int) (x7 : V) (x8 : V) (h : H) : withyref17_State_Error_K7 M .ret (withyref17_State_Error_c11_O x1 x3 x5 (.int .i64 x6) x7 x8) h = withyref17_State_Error_c11_r M x1 x3 x5 x6 x7 x8 h := by kernel_rfl

theorem withyref17_State_Error_c13_eq (M : Env) (x1 : Int) (x3 : V) (x5 : V) (x7 : Int) (x8 : Bool) (h : H) : withyref17_State_Error_c13_B M (withyref17_State_Error_c13_E (.int .i64 x1) x3 x5 (.int .i64 x7) (.bool x8)) h = withyref17_State_Error_c13_S M x1 x3 x5 x7 x8 h := by kernel_rfl

theorem withyref17_State_Error_c13_n_eq (M : Env) (x1 : Int) (x3 : V) (x5 : V) (x6 : V) (h : H) : withyref17_State_Error_K8 M .normal (withyref17_State_Error_c13_O (.int .i64 x1) x3 x5 x6) h = withyref17_State_Error_c13_n M x1 x3 x5 x6 h := by kernel_rfl

theorem withyref17_State_Error_c13_r_eq (M : Env) (x1 : V) (x3 : V) (x5 : V) (x6 : Int) (h : H) : withyref17_State_Error_K8 M .ret (withyref17_State_Error_c13_O x1 x3 x5 (.int .i64 x6)) h = withyref17_State_Error_c13_r M x1 x3 x5 x6 h := by kernel_rfl

end Wm.S
end

section
namespace Wm.S
open Wm
set_option maxRecDepth 100000
set_option linter.unusedVariables false

def withyref17_State_Reached_c1_B (M : Env) : List V → H → Option (AX × List V × H) :=
 fun env h => evalC M F.withyref17_State_Reached_c1 env h fun x env h => match x with
 | .normal => some (.normal, keepOf [2, 5, 6, 7] 0 env, h)
 | x => some (x, keepOf [5] 0 env, h)

def withyref17_State_Reached_c1_E (x2 x5 x6 x7 : V) : List V := dd 2 (x2 :: dd 2 (x5 :: x6 :: x7 :: dd 60 []))
def withyref17_State_Reached_c1_O (x5 : V) : List V := dd 5 (x5 :: dd 62 [])

def withyref17_State_Reached_c3_B (M : Env) : List V → H → Option (AX × List V × H) :=
 fun env h => evalC M F.withyref17_State_Reached_c3 env h fun x env h => match x with
 | .normal => some (.normal, keepOf [2, 5, 6, 7, 8, 9] 0 env, h)
 | x => some (x, keepOf [2, 5, 6, 7] 0 env, h)

def withyref17_State_Reached_c3_E (x2 x5 x6 x7 x8 x9 : V) : List V := dd 2 (x2 :: dd 2 (x5 :: x6 :: x7 :: x8 :: x9 :: dd 58 []))
def withyref17_State_Reached_c3_O (x2 x5 x6 x7 : V) : List V := dd 2 (x2 :: dd 2 (x5 :: x6 :: x7 :: dd 60 []))

def withyref17_State_Reached_c6_B (M : Env) : List V → H → Option (AX × List V × H) :=
 fun env h => evalC M F.withyref17_State_Reached_c6 env h fun x env h => some (x, keepOf [2, 5, 6, 7, 8, 9, 53] 0 env, h)

def withyref17_State_Reached_c6_E (x2 x5 x6 x7 x8 x9 : V) : List V := dd 2 (x2 :: dd 2 (x5 :: x6 :: x7 :: x8 :: x9 :: dd 58 []))
def withyref17_State_Reached_c6_O (x2 x5 x6 x7 x8 x9 x53 : V) : List V := dd 2 (x2 :: dd 2 (x5 :: x6 :: x7 :: x8 :: x9 :: dd 43 (x53 :: dd 14 [])))

def withyref17_State_Reached_K0 (M : Env) : AX → List V → H → Option (V × H) :=
 fun x env h => fin F.withyref17_State_Reached x env h

def withyref17_State_Reached_K1 (M : Env) : AX → List V → H → Option (V × H) :=
 fun x env h => match x with | .normal => evalC M F.withyref17_State_Reached_c0 env h (fun x env h => withyref17_State_Reached_K0 M x env h) | x => withyref17_State_Reached_K0 M x env h

def withyref17_State_Reached_K2 (M : Env) : AX → List V → H → Option (V × H) :=
 fun x env h => match x with | .exit j => (match Nat.beq j 0 with | true => withyref17_State_Reached_K1 M .normal env h | false => withyref17_State_Reached_K1 M (.exit j) env h) | x => withyref17_State_Reached_K1 M x env h

def withyref17_State_Reached_K3 (M : Env) : AX → List V → H → Option (AX × List V × H) :=
 fun x env h => match x with | .normal => some (.normal, keepOf [2, 5, 6, 7] 0 env, h) | x => some (x, keepOf [5] 0 env, h)

def withyref17_State_Reached_K4 (M : Env) : AX → List V → H → Option (AX × List V × H) :=
 fun x env h => match x with | .normal => evalC M F.withyref17_State_Reached_c2 env h (fun x env h => withyref17_State_Reached_K3 M x env h) | x => withyref17_State_Reached_K3 M x env h

def withyref17_State_Reached_K5 (M : Env) : AX → List V → H → Option (AX × List V × H) :=
 fun x env h => match x with | .exit j => (match Nat.beq j 1 with | true => withyref17_State_Reached_K4 M .normal env h | false => withyref17_State_Reached_K4 M (.exit j) env h) | x => withyref17_State_Reached_K4 M x env h

def withyref17_State_Reached_K6 (M : Env) : AX → List V → H → Option (AX × List V × H) :=
 fun x env h => match x with | .exit j => (match Nat.beq j 2 with | true => withyref17_State_Reached_K5 M .normal env h | false => withyref17_State_Reached_K5 M (.exit j) env h) | x => withyref17_State_Reached_K5 M x env h

def withyref17_State_Reached_K7 (M : Env) : AX → List V → H → Option (AX × List V × H) :=
 fun x env h => match x with | .normal => some (.normal, keepOf [2, 5, 6, 7, 8, 9] 0 env, h) | x => some (x, keepOf [2, 5, 6, 7] 0 env, h)

def withyref17_State_Reached_K8 (M : Env) : AX → List V → H → Option (AX × List V × H) :=
 fun x env h => match x with | .normal => evalC M F.withyref17_State_Reached_c4 env h (fun x env h => withyref17_State_Reached_K7 M x env h) | x => withyref17_State_Reached_K7 M x env h

def withyref17_State_Reached_K9 (M : Env) : AX → List V → H → Option (AX × List V × H) :=
 fun x env h => match x with | .exit j => (match Nat.beq j 3 with | true => withyref17_State_Reached_K8 M .normal env h | false => withyref17_State_Reached_K8 M (.exit j) env h) | x => withyref17_State_Reached_K8 M x env h

def withyref17_State_Reached_K10 (M : Env) : AX → List V → H → Option (AX × List V × H) :=
 fun x env h => match x with | .normal => evalC M F.withyref17_State_Reached_c5 env h (fun x env h => withyref17_State_Reached_K9 M x env h) | x => withyref17_State_Reached_K9 M x env h

def withyref17_State_Reached (M : Env) (a0_0 : Int) (a0_1 : Int) (a0_2 : Int) (a0_3 : Int) (a0_4 : Int) (a0_5 : Int) (a0_6 : V) (a0_7 : V) (a0_8 : V) (a0_9 : V) (a0_10 : V) (a1 : Int) (h : H) : Option (V × H) :=
 let h0 := h.new (.cells [(.int .i64 a0_0), (.int .i64 a0_1), (.int .i64 a0_2), (.int .i64 a0_3), (.int .i64 a0_4), (.int .i64 a0_5), a0_6, a0_7, a0_8, a0_9, a0_10] .rw)
 let h1 := h0.new (.cells [(.int .i64 a1)] .rw)
 (h1.ld1 (.ptr h.next 6)).bind fun v2 =>
 (lenSl v2).bind fun n3 =>
 (h1.mkSl 1 1 [(.bool false)] ((n3 : Nat) : Int) ((n3 : Nat) : Int)).bind fun p4 =>
 (indexAV 1 p4.1 (.int .i64 a1)).bind fun v5 =>
 (p4.2.st 1 v5 (.bool true)).bind fun h6 =>
 (M.loop (withyref17_State_Reached_c1_B M) (withyref17_State_Reached_c1_E (.ptr h.next 0) (.sl h0.next 0 1 (.ex 1)) p4.1 (.int .i64 0)) h6).bind fun p7 => withyref17_State_Reached_K2 M p7.1 p7.2.1 p7.2.2

def withyref17_State_Reached_c1_S (M : Env) (x2 : V) (x5 : V) (x6 : V) (x7 : Int) (h : H) : Option (AX × List V × H) :=
 (lenSl x5).bind fun n0 =>
 match (decide (x7 < ((n0 : Nat) : Int))) with
 | true => (
 (ptrAt x2 6).bind fun v1 =>
 (h.ld1 v1).bind fun v2 =>
 (indexAV 1 x5 (.int .i64 x7)).bind fun v3 =>
 (h.ld1 v3).bind fun v4 =>
 (indexAV 1 v2 v4).bind fun v5 =>
 (h.ld1 v5).bind fun v6 =>
 (M.loop (withyref17_State_Reached_c3_B M) (withyref17_State_Reached_c3_E x2 x5 x6 (.int .i64 x7) v6 (.int .i64 0)) h).bind fun p7 => withyref17_State_Reached_K6 M p7.1 p7.2.1 p7.2.2)
 | false => (
 some ((.exit 0), (withyref17_State_Reached_c1_O x5), h))

def withyref17_State_Reached_c1_e0 (M : Env) (x5 : V) (h : H) : Option (V × H) :=
 some (x5, h)

def withyref17_State_Reached_c3_S (M : Env) (x2 : V) (x5 : V) (x6 : V) (x7 : Int) (x8 : V) (x9 : Int) (h : H) : Option (AX × List V × H) :=
 (lenSl x8).bind fun n0 =>
 match (decide (x9 < ((n0 : Nat) : Int))) with
 | true => (
 (withyref17_State_Reached_c6_B M (withyref17_State_Reached_c6_E x2 x5 x6 (.int .i64 x7) x8 (.int .i64 x9)) h).bind fun p1 => withyref17_State_Reached_K10 M p1.1 p1.2.1 p1.2.2)
 | false => (
 some ((.exit 2), (withyref17_State_Reached_c3_O x2 x5 x6 (.int .i64 x7)), h))

def withyref17_State_Reached_c3_e2 (M : Env) (x2 : V) (x5 : V) (x6 : V) (x7 : Int) (h : H) : Option (AX × List V × H) :=
 some (.normal, (withyref17_State_Reached_c1_E x2 x5 x6 (.int .i64 (wr .i64 (x7 + 1)))), h)

def withyref17_State_Reached_c6_S (M : Env) (x2 : V) (x5 : V) (x6 : V) (x7 : Int) (x8 : V) (x9 : Int) (h : H) : Option (AX × List V × H) :=
 (indexAV 1 x8 (.int .i64 x9)).bind fun v0 =>
 (h.ld1 v0).bind fun v1 =>
 (asI .i64 v1).bind fun n2 =>
 match (decide (0 ≤ n2)) with
 | true => (
 (indexAV 1 x8 (.int .i64 x9)).bind fun v3 =>
 (h.ld1 v3).bind fun v4 =>
 (indexAV 1 x6 v4).bind fun v5 =>
 (h.ld1 v5).bind fun v6 =>
 (asB v6).bind fun b7 =>
 some (.normal, (withyref17_State_Reached_c6_O x2 x5 x6 (.int .i64 x7) x8 (.int .i64 x9) (.bool (!b7))), h))
 | false => (
 some (.normal, (withyref17_State_Reached_c6_O x2 x5 x6 (.int .i64 x7) x8 (.int .i64 x9) (.bool false)), h))

def withyref17_State_Reached_c6_n (M : Env) (x2 : V) (x5 : V) (x6 : V) (x7 : Int) (x8 : V) (x9 : Int) (x53 : Bool) (h : H) : Option (AX × List V × H) :=
 match x53 with
 | true => (
 (indexAV 1 x8 (.int .i64 x9)).bind fun v0 =>
 (h.ld1 v0).bind fun v1 =>
 (indexAV 1 x6 v1).bind fun v2 =>
 (h.st 1 v2 (.bool true)).bind fun h3 =>
 (indexAV 1 x8 (.int .i64 x9)).bind fun v4 =>
 (h3.ld1 v4).bind fun v5 =>
 (fill (repl [(.int .i64 0)] 1) [] [(0, 1, .c v5)]).bind fun cs6 =>
 let h7 := h3.new (.cells cs6 .rw)
 (h7.append 1 8 x5 (.sl h3.next 0 1 (.ex 1))).bind fun p8 =>
 some (.normal, (withyref17_State_Reached_c3_E x2 p8.1 x6 (.int .i64 x7) x8 (.int .i64 (wr .i64 (x9 + 1)))), p8.2))
 | false => (
 some (.normal, (withyref17_State_Reached_c3_E x2 x5 x6 (.int .i64 x7) x8 (.int .i64 (wr .i64 (x9 + 1)))), h))

theorem withyref17_State_Reached_eq (M : Env) (a0_0 : Int) (a0_1 : Int) (a0_2 : Int) (a0_3 : Int) (a0_4 : Int) (a0_5 : Int) (a0_6 : V) (a0_7 : V) (a0_8 : V) (a0_9 : V) (a0_10 : V) (a1 : Int) (h : H) : evalF M F.withyref17_State_Reached [(.agg [(.int .i64 a0_0), (.int .i64 a0_1), (.int .i64 a0_2), (.int .i64 a0_3), (.int .i64 a0_4), (.int .i64 a0_5), a0_6, a0_7, a0_8, a0_9, a0_10]), (.int .i64 a1)] h = withyref17_State_Reached M a0_0 a0_1 a0_2 a0_3 a0_4 a0_5 a0_6 a0_7 a0_8 a0_9 a0_10 a1 h := by kernel_rfl

theorem withyref17_State_Reached_c1_eq (M : Env) (x2 : V) (x5 : V) (x6 : V) (x7 : Int) (h : H) : withyref17_State_Reached_c1_B M (withyref17_State_Reached_c1_E x2 x5 x6 (.int .i64 x7)) h = withyref17_State_Reached_c1_S M x2 x5 x6 x7 h := by kernel_rfl

theorem withyref17_State_Reached_c1_e0_eq (M : Env) (x5 : V) (h : H) : withyref17_State_Reached_K2 M (.exit 0) (withyref17_State_Reached_c1_O x5) h = withyref17_State_Reached_c1_e0 M x5 h := by kernel_rfl

theorem withyref17_State_Reached_c3_eq (M : Env) (x2 : V) (x5 : V) (x6 : V) (x7 : Int) (x8 : V) (x9 : Int) (h : H) : withyref17_State_Reached_c3_B M (withyref17_State_Reached_c3_E x2 x5 x6 (.int .i64 x7) x8 (.int .i64 x9)) h = withyref17_State_Reached_c3_S M x2 x5 x6 x7 x8 x9 h := by kernel_rfl

theorem withyref17_State_Reached_c3_e2_eq (M : Env) (x2 : V) (x5 : V) (x6 : V) (x7 : Int) (h : H) : withyref17_State_Reached_K6 M (.exit 2) (withyref17_State_Reached_c3_O x2 x5 x6 (.int .i64 x7)) h = withyref17_State_Reached_c3_e2 M x2 x5 x6 x7 h := by kernel_rfl

theorem withyref17_State_Reached_c6_eq (M : Env) (x2 : V) (x5 : V) (x6 : V) (x7 : Int) (x8 : V) (x9 : Int) (h : H) : withyref17_State_Reached_c6_B M (withyref17_State_Reached_c6_E x2 x5 x6 (.int .i64 x7) x8 (.int .i64 x9)) h = withyref17_State_Reached_c6_S M x2 x5 x6 x7 x8 x9 h := by kernel_rfl

theorem withyref17_State_Reached_c6_n_eq (M : Env) (x2 : V) (x5 : V) (x6 : V) (x7 : Int) (x8 : V) (x9 : Int) (x53 : Bool) (h : H) : withyref17_State_Reached_K10 M .normal (withyref17_State_Reached_c6_O x2 x5 x6 (.int .i64 x7) x8 (.int .i64 x9) (.bool x53)) h = withyref17_State_Reached_c6_n M x2 x5 x6 x7 x8 x9 x53 h := by kernel_rfl

end Wm.S
end

section
namespace Wm.S
open Wm
set_option maxRecDepth 100000
set_option linter.unusedVariables false

def withyref17_State_copied_c1_B (M : Env) : List V → H → Option (AX × List V × H) :=
 fun env h => evalC M F.withyref17_State_copied_c1 env h fun x env h => match x with
 | .normal => some (.normal, keepOf [1, 2, 3, 4] 0 env, h)
 | x => some (x, keepOf [1, 2, 3] 0 env, h)

def withyref17_State_copied_c1_E (x1 x2 x3 x4 : V) : List V := dd 1 (x1 :: x2 :: x3 :: x4 :: dd 47 [])
def withyref17_State_copied_c1_O (x1 x2 x3 : V) : List V := dd 1 (x1 :: x2 :: x3 :: dd 48 [])

def withyref17_State_copied_K0 (M : Env) : AX → List V → H → Option (V × H) :=
 fun x env h => fin F.withyref17_State_copied x env h

def withyref17_State_copied_K1 (M : Env) : AX → List V → H → Option (V × H) :=
 fun x env h => match x with | .normal => evalC M F.withyref17_State_copied_c0 env h (fun x env h => withyref17_State_copied_K0 M x env h) | x => withyref17_State_copied_K0 M x env h

def withyref17_State_copied_K2 (M : Env) : AX → List V → H → Option (V × H) :=
 fun x env h => match x with | .exit j => (match Nat.beq j 0 with | true => withyref17_State_copied_K1 M .normal env h | false => withyref17_State_copied_K1 M (.exit j) env h) | x => withyref17_State_copied_K1 M x env h

def withyref17_State_copied (M : Env) (a0_0 : Int) (a0_1 : Int) (a0_2 : Int) (a0_3 : Int) (a0_4 : Int) (a0_5 : Int) (a0_6 : V) (a0_7 : V) (a0_8 : V) (a0_9 : V) (a0_10 : V) (h : H) : Option (V × H) :=
 let h0 := h.new (.cells [(.int .i64 a0_0), (.int .i64 a0_1), (.int .i64 a0_2), (.int .i64 a0_3), (.int .i64 a0_4), (.int .i64 a0_5), a0_6, a0_7, a0_8, a0_9, a0_10] .rw)
 let h1 := h0.new (.cells [(.int .i64 0), (.int .i64 0), (.int .i64 0), (.int .i64 0), (.int .i64 0), (.int .i64 0), .nilsl, .nilsl, .nilsl, .nilsl, .nilsl] .rw)
 (h1.ldN 6 (.ptr h.next 0)).bind fun v2 =>
 (fill [(.int .i64 0), (.int .i64 0), (.int .i64 0), (.int .i64 0), (.int .i64 0), (.int .i64 0), .nilsl, .nilsl, .nilsl, .nilsl, .nilsl] [] [(0, 6, .c v2)]).bind fun cs3 =>
 let h4 := h1.new (.cells [(.int .i64 0), (.int .i64 0), (.int .i64 0), (.int .i64 0), (.int .i64 0), (.int .i64 0), .nilsl, .nilsl, .nilsl, .nilsl, .nilsl] .rw)
 (h4.st 11 (.ptr h1.next 0) (.agg cs3)).bind fun h5 =>
 (M.loop (withyref17_State_copied_c1_B M) (withyref17_State_copied_c1_E (.ptr h.next 0) (.ptr h0.next 0) (.ptr h1.next 0) (.int .i64 0)) h5).bind fun p6 => withyref17_State_copied_K2 M p6.1 p6.2.1 p6.2.2

def withyref17_State_copied_c1_S (M : Env) (x1 : V) (x2 : V) (x3 : V) (x4 : Int) (h : H) : Option (AX × List V × H) :=
 (ptrAt x1 6).bind fun v0 =>
 (h.ld1 v0).bind fun v1 =>
 (lenSl v1).bind fun n2 =>
 match (decide (x4 < ((n2 : Nat) : Int))) with
 | true => (
 (ptrAt x3 6).bind fun v3 =>
 (h.ld1 v3).bind fun v4 =>
 (ptrAt x1 6).bind fun v5 =>
 (h.ld1 v5).bind fun v6 =>
 (indexAV 1 v6 (.int .i64 x4)).bind fun v7 =>
 (h.ld1 v7).bind fun v8 =>
 let h9 := h.new (.cells [] .rw)
 (h9.append 1 8 (.sl h.next 0 0 (.ex 0)) v8).bind fun p10 =>
 match ckB (p10.2.ld1 v3) v4 with
 | true => (
 (fill (repl [.nilsl] 1) [] [(0, 1, .c p10.1)]).bind fun cs11 =>
 let h12 := p10.2.new (.cells cs11 .rw)
 (h12.append 1 24 v4 (.sl p10.2.next 0 1 (.ex 1))).bind fun p13 =>
 (ptrAt x3 6).bind fun v14 =>
 (p13.2.st 1 v14 p13.1).bind fun h15 =>
 some (.normal, (withyref17_State_copied_c1_E x1 x2 x3 (.int .i64 (wr .i64 (x4 + 1)))), h15))
 | false => none)
 | false => (
 some ((.exit 0), (withyref17_State_copied_c1_O x1 x2 x3), h))

def withyref17_State_copied_c1_e0 (M : Env) (x1 : V) (x2 : V) (x3 : V) (h : H) : Option (V × H) :=
 (ptrAt x3 7).bind fun v0 =>
 (h.ld1 v0).bind fun v1 =>
 (ptrAt x1 7).bind fun v2 =>
 (h.ld1 v2).bind fun v3 =>
 (h.append 3 24 v1 v3).bind fun p4 =>
 (ptrAt x3 7).bind fun v5 =>
 (p4.2.st 1 v5 p4.1).bind fun h6 =>
 (ptrAt x3 8).bind fun v7 =>
 (h6.ld1 v7).bind fun v8 =>
 (ptrAt x1 8).bind fun v9 =>
 (h6.ld1 v9).bind fun v10 =>
 (h6.append 1 8 v8 v10).bind fun p11 =>
 (ptrAt x3 8).bind fun v12 =>
 (p11.2.st 1 v12 p11.1).bind fun h13 =>
 (ptrAt x3 9).bind fun v14 =>
 (h13.ld1 v14).bind fun v15 =>
 (ptrAt x1 9).bind fun v16 =>
 (h13.ld1 v16).bind fun v17 =>
 (h13.append 1 24 v15 v17).bind fun p18 =>
 (ptrAt x3 9).bind fun v19 =>
 (p18.2.st 1 v19 p18.1).bind fun h20 =>
 (ptrAt x3 10).bind fun v21 =>
 (h20.ld1 v21).bind fun v22 =>
 (ptrAt x1 10).bind fun v23 =>
 (h20.ld1 v23).bind fun v24 =>
 (h20.append 1 8 v22 v24).bind fun p25 =>
 (ptrAt x3 10).bind fun v26 =>
 (p25.2.st 1 v26 p25.1).bind fun h27 =>
 (h27.ldN 11 x3).bind fun v28 =>
 (h27.st 11 x2 v28).bind fun h29 =>
 finV h29 [.cell true 11 x2]

theorem withyref17_State_copied_eq (M : Env) (a0_0 : Int) (a0_1 : Int) (a0_2 : Int) (a0_3 : Int) (a0_4 : Int) (a0_5 : Int) (a0_6 : V) (a0_7 : V) (a0_8 : V) (a0_9 : V) (a0_10 : V) (h : H) : evalF M F.withyref17_State_copied [(.agg [(.int .i64 a0_0), (.int .i64 a0_1), (.int .i64 a0_2), (.int .i64 a0_3), (.int .i64 a0_4), (.int .i64 a0_5), a0_6, a0_7, a0_8, a0_9, a0_10])] h = withyref17_State_copied M a0_0 a0_1 a0_2 a0_3 a0_4 a0_5 a0_6 a0_7 a0_8 a0_9 a0_10 h := by kernel_rfl

theorem withyref17_State_copied_c1_eq (M : Env) (x1 : V) (x2 : V) (x3 : V) (x4 : Int) (h : H) : withyref17_State_copied_c1_B M (withyref17_State_copied_c1_E x1 x2 x3 (.int .i64 x4)) h = withyref17_State_copied_c1_S M x1 x2 x3 x4 h := by kernel_rfl

theorem withyref17_State_copied_c1_e0_eq (M : Env) (x1 : V) (x2 : V) (x3 : V) (h : H) : withyref17_State_copied_K2 M (.exit 0) (withyref17_State_copied_c1_O x1 x2 x3) h = withyref17_State_copied_c1_e0 M x1 x2 x3 h := by kernel_rfl

end Wm.S
end

section
namespace Wm.S
open Wm
set_option maxRecDepth 100000
set_option linter.unusedVariables false


def withyref17_State_gives (M : Env) (a0_0 : Int) (a0_1 : Int) (a0_2 : Int) (a0_3 : Int) (a0_4 : Int) (a0_5 : Int) (a0_6 : V) (a0_7 : V) (a0_8 : V) (a0_9 : V) (a0_10 : V) (a1 : Int) (a2 : Int) (a3 : Int) (h : H) : Option (V × H) :=
 let h0 := h.new (.cells [(.int .i64 a0_0), (.int .i64 a0_1), (.int .i64 a0_2), (.int .i64 a0_3), (.int .i64 a0_4), (.int .i64 a0_5), a0_6, a0_7, a0_8, a0_9, a0_10] .rw)
 let h1 := h0.new (.cells [(.int .i64 0), (.int .i64 0), (.int .i64 0), (.int .i64 0), (.int .i64 0), (.int .i64 0), .nilsl, .nilsl, .nilsl, .nilsl, .nilsl] .rw)
 (h1.ld1 (.ptr h.next 10)).bind fun v2 =>
 let h3 := h1.new (.cells [(.int .u64 a2)] .rw)
 (h3.append 1 8 v2 (.sl h1.next 0 1 (.ex 1))).bind fun p4 =>
 (p4.2.st 1 (.ptr h.next 10) p4.1).bind fun h5 =>
 (h5.ld1 (.ptr h.next 7)).bind fun v6 =>
 let h7 := h5.new (.cells [(.int .i64 a1), (.int .u64 a2), (.int .i64 a3)] .rw)
 (h7.append 3 24 v6 (.sl h5.next 0 1 (.ex 1))).bind fun p8 =>
 (p8.2.st 1 (.ptr h.next 7) p8.1).bind fun h9 =>
 (h9.ldN 11 (.ptr h.next 0)).bind fun v10 =>
 (h9.st 11 (.ptr h0.next 0) v10).bind fun h11 =>
 finV h11 [.cell true 11 (.ptr h0.next 0)]

theorem withyref17_State_gives_eq (M : Env) (a0_0 : Int) (a0_1 : Int) (a0_2 : Int) (a0_3 : Int) (a0_4 : Int) (a0_5 : Int) (a0_6 : V) (a0_7 : V) (a0_8 : V) (a0_9 : V) (a0_10 : V) (a1 : Int) (a2 : Int) (a3 : Int) (h : H) : evalF M F.withyref17_State_gives [(.agg [(.int .i64 a0_0), (.int .i64 a0_1), (.int .i64 a0_2), (.int .i64 a0_3), (.int .i64 a0_4), (.int .i64 a0_5), a0_6, a0_7, a0_8, a0_9, a0_10]), (.int .i64 a1), (.int .u64 a2), (.int .i64 a3)] h = withyref17_State_gives M a0_0 a0_1 a0_2 a0_3 a0_4 a0_5 a0_6 a0_7 a0_8 a0_9 a0_10 a1 a2 a3 h := by kernel_rfl

end Wm.S
end

section
namespace Wm.S
open Wm
set_option maxRecDepth 100000
set_option linter.unusedVariables false

def withyref17_State_Does_c1_B (M : Env) : List V → H → Option (AX × List V × H) :=
 fun env h => evalC M F.withyref17_State_Does_c1 env h fun x env h => some (x, keepOf [1, 4, 6, 7, 8, 9] 0 env, h)

def withyref17_State_Does_c1_E (x1 x4 x6 x7 x8 : V) : List V := dd 1 (x1 :: dd 2 (x4 :: dd 1 (x6 :: x7 :: x8 :: dd 350 [])))
def withyref17_State_Does_c1_O (x1 x4 x6 x7 x8 x9 : V) : List V := dd 1 (x1 :: dd 2 (x4 :: dd 1 (x6 :: x7 :: x8 :: x9 :: dd 349 [])))

def withyref17_State_Does_c3_B (M : Env) : List V → H → Option (AX × List V × H) :=
 fun env h => evalC M F.withyref17_State_Does_c3 env h fun x env h => some (x, keepOf [1, 4, 6, 7, 8, 11, 12] 0 env, h)

def withyref17_State_Does_c3_E (x1 x4 x6 x7 x8 x11 : V) : List V := dd 1 (x1 :: dd 2 (x4 :: dd 1 (x6 :: x7 :: x8 :: dd 2 (x11 :: dd 347 []))))
def withyref17_State_Does_c3_O (x1 x4 x6 x7 x8 x11 x12 : V) : List V := dd 1 (x1 :: dd 2 (x4 :: dd 1 (x6 :: x7 :: x8 :: dd 2 (x11 :: x12 :: dd 346 []))))

def withyref17_State_Does_c6_B (M : Env) : List V → H → Option (AX × List V × H) :=
 fun env h => evalC M F.withyref17_State_Does_c6 env h fun x env h => some (x, keepOf [4, 7, 8, 13] 0 env, h)

def withyref17_State_Does_c6_E (x4 x6 x7 x8 x12 : V) : List V := dd 4 (x4 :: dd 1 (x6 :: x7 :: x8 :: dd 3 (x12 :: dd 346 [])))
def withyref17_State_Does_c6_O (x4 x7 x8 x13 : V) : List V := dd 4 (x4 :: dd 2 (x7 :: x8 :: dd 4 (x13 :: dd 345 [])))

def withyref17_State_Does_c8_B (M : Env) : List V → H → Option (AX × List V × H) :=
 fun env h => evalC M F.withyref17_State_Does_c8 env h fun x env h => some (x, keepOf [1, 4, 6, 7, 8, 11, 12, 14] 0 env, h)

def withyref17_State_Does_c8_E (x1 x4 x6 x7 x8 x11 x12 : V) : List V := dd 1 (x1 :: dd 2 (x4 :: dd 1 (x6 :: x7 :: x8 :: dd 2 (x11 :: x12 :: dd 346 []))))
def withyref17_State_Does_c8_O (x1 x4 x6 x7 x8 x11 x12 x14 : V) : List V := dd 1 (x1 :: dd 2 (x4 :: dd 1 (x6 :: x7 :: x8 :: dd 2 (x11 :: x12 :: dd 1 (x14 :: dd 344 [])))))

def withyref17_State_Does_c10_B (M : Env) : List V → H → Option (AX × List V × H) :=
 fun env h => evalC M F.withyref17_State_Does_c10 env h fun x env h => some (x, keepOf [1, 4, 6, 7, 8, 11, 14, 15] 0 env, h)

def withyref17_State_Does_c10_E (x1 x4 x6 x7 x8 x11 x12 x14 : V) : List V := dd 1 (x1 :: dd 2 (x4 :: dd 1 (x6 :: x7 :: x8 :: dd 2 (x11 :: x12 :: dd 1 (x14 :: dd 344 [])))))
def withyref17_State_Does_c10_O (x1 x4 x6 x7 x8 x11 x14 x15 : V) : List V := dd 1 (x1 :: dd 2 (x4 :: dd 1 (x6 :: x7 :: x8 :: dd 2 (x11 :: dd 2 (x14 :: x15 :: dd 343 [])))))

def withyref17_State_Does_c13_B (M : Env) : List V → H → Option (AX × List V × H) :=
 fun env h => evalC M F.withyref17_State_Does_c13 env h fun x env h => some (x, keepOf [1, 4, 6, 7, 8, 11, 14, 15, 179] 0 env, h)

def withyref17_State_Does_c13_E (x1 x4 x6 x7 x8 x11 x14 x15 : V) : List V := dd 1 (x1 :: dd 2 (x4 :: dd 1 (x6 :: x7 :: x8 :: dd 2 (x11 :: dd 2 (x14 :: x15 :: dd 343 [])))))
def withyref17_State_Does_c13_O (x1 x4 x6 x7 x8 x11 x14 x15 x179 : V) : List V := dd 1 (x1 :: dd 2 (x4 :: dd 1 (x6 :: x7 :: x8 :: dd 2 (x11 :: dd 2 (x14 :: x15 :: dd 163 (x179 :: dd 179 []))))))

def withyref17_State_Does_c15_B (M : Env) : List V → H → Option (AX × List V × H) :=
 fun env h => evalC M F.withyref17_State_Does_c15 env h fun x env h => some (x, keepOf [8, 16] 0 env, h)

def withyref17_State_Does_c15_E (x1 x4 x6 x7 x8 x11 x14 x15 x16 : V) : List V := dd 1 (x1 :: dd 2 (x4 :: dd 1 (x6 :: x7 :: x8 :: dd 2 (x11 :: dd 2 (x14 :: x15 :: x16 :: dd 342 [])))))
def withyref17_State_Does_c15_O (x8 x16 : V) : List V := dd 8 (x8 :: dd 7 (x16 :: dd 342 []))

def withyref17_State_Does_c17_B (M : Env) : List V → H → Option (AX × List V × H) :=
 fun env h => evalC M F.withyref17_State_Does_c17 env h fun x env h => match x with
 | .normal => some (.normal, keepOf [1, 6, 7, 8, 16, 17, 18] 0 env, h)
 | x => some (x, keepOf [1, 7, 8, 16, 17] 0 env, h)

def withyref17_State_Does_c17_E (x1 x6 x7 x8 x16 x17 x18 : V) : List V := dd 1 (x1 :: dd 4 (x6 :: x7 :: x8 :: dd 7 (x16 :: x17 :: x18 :: dd 340 [])))
def withyref17_State_Does_c17_O (x1 x7 x8 x16 x17 : V) : List V := dd 1 (x1 :: dd 5 (x7 :: x8 :: dd 7 (x16 :: x17 :: dd 341 [])))

def withyref17_State_Does_c19_B (M : Env) : List V → H → Option (AX × List V × H) :=
 fun env h => evalC M F.withyref17_State_Does_c19 env h fun x env h => some (x, keepOf [1, 4, 6, 7, 8, 11, 15, 16, 184, 231] 0 env, h)

def withyref17_State_Does_c19_E (x1 x4 x6 x7 x8 x11 x15 x16 x184 : V) : List V := dd 1 (x1 :: dd 2 (x4 :: dd 1 (x6 :: x7 :: x8 :: dd 2 (x11 :: dd 3 (x15 :: x16 :: dd 167 (x184 :: dd 174 []))))))
def withyref17_State_Does_c19_O (x1 x4 x6 x7 x8 x11 x15 x16 x184 x231 : V) : List V := dd 1 (x1 :: dd 2 (x4 :: dd 1 (x6 :: x7 :: x8 :: dd 2 (x11 :: dd 3 (x15 :: x16 :: dd 167 (x184 :: dd 46 (x231 :: dd 127 [])))))))

def withyref17_State_Does_c21_B (M : Env) : List V → H → Option (AX × List V × H) :=
 fun env h => evalC M F.withyref17_State_Does_c21 env h fun x env h => some (x, keepOf [1, 4, 6, 8, 11, 16, 239] 0 env, h)

def withyref17_State_Does_c21_E (x1 x4 x6 x8 x11 x15 x16 : V) : List V := dd 1 (x1 :: dd 2 (x4 :: dd 1 (x6 :: dd 1 (x8 :: dd 2 (x11 :: dd 3 (x15 :: x16 :: dd 342 []))))))
def withyref17_State_Does_c21_O (x1 x4 x6 x8 x11 x16 x239 : V) : List V := dd 1 (x1 :: dd 2 (x4 :: dd 1 (x6 :: dd 1 (x8 :: dd 2 (x11 :: dd 4 (x16 :: dd 222 (x239 :: dd 119 [])))))))

def withyref17_State_Does_c22_B (M : Env) : List V → H → Option (AX × List V × H) :=
 fun env h => evalC M F.withyref17_State_Does_c22 env h fun x env h => match x with
 | .normal => some (.normal, keepOf [1, 4, 6, 8, 16, 19] 0 env, h)
 | x => some (x, keepOf [8, 16] 0 env, h)

def withyref17_State_Does_c22_E (x1 x4 x6 x8 x16 x19 : V) : List V := dd 1 (x1 :: dd 2 (x4 :: dd 1 (x6 :: dd 1 (x8 :: dd 7 (x16 :: dd 2 (x19 :: dd 339 []))))))
def withyref17_State_Does_c22_O (x8 x16 : V) : List V := dd 8 (x8 :: dd 7 (x16 :: dd 342 []))

def withyref17_State_Does_c25_B (M : Env) : List V → H → Option (AX × List V × H) :=
 fun env h => evalC M F.withyref17_State_Does_c25 env h fun x env h => some (x, keepOf [1, 4, 6, 8, 16, 19, 291] 0 env, h)

def withyref17_State_Does_c25_E (x1 x4 x6 x8 x16 x19 : V) : List V := dd 1 (x1 :: dd 2 (x4 :: dd 1 (x6 :: dd 1 (x8 :: dd 7 (x16 :: dd 2 (x19 :: dd 339 []))))))
def withyref17_State_Does_c25_O (x1 x4 x6 x8 x16 x19 x291 : V) : List V := dd 1 (x1 :: dd 2 (x4 :: dd 1 (x6 :: dd 1 (x8 :: dd 7 (x16 :: dd 2 (x19 :: dd 271 (x291 :: dd 67 [])))))))

def withyref17_State_Does_K0 (M : Env) : AX → List V → H → Option (V × H) :=
 fun x env h => fin F.withyref17_State_Does x env h

def withyref17_State_Does_K1 (M : Env) : AX → List V → H → Option (V × H) :=
 fun x env h => match x with | .normal => evalC M F.withyref17_State_Does_c0 env h (fun x env h => withyref17_State_Does_K0 M x env h) | x => withyref17_State_Does_K0 M x env h

def withyref17_State_Does_K2 (M : Env) : AX → List V → H → Option (V × H) :=
 fun x env h => match x with | .normal => evalC M F.withyref17_State_Does_c2 env h (fun x env h => withyref17_State_Does_K0 M x env h) | x => withyref17_State_Does_K0 M x env h

def withyref17_State_Does_K3 (M : Env) : AX → List V → H → Option (V × H) :=
 fun x env h => match x with | .normal => evalC M F.withyref17_State_Does_c4 env h (fun x env h => withyref17_State_Does_K0 M x env h) | x => withyref17_State_Does_K0 M x env h

def withyref17_State_Does_K4 (M : Env) : AX → List V → H → Option (V × H) :=
 fun x env h => match x with | .normal => evalC M F.withyref17_State_Does_c5 env h (fun x env h => withyref17_State_Does_K3 M x env h) | x => withyref17_State_Does_K3 M x env h

def withyref17_State_Does_K5 (M : Env) : AX → List V → H → Option (V × H) :=
 fun x env h => match x with | .normal => evalC M F.withyref17_State_Does_c7 env h (fun x env h => withyref17_State_Does_K0 M x env h) | x => withyref17_State_Does_K0 M x env h

def withyref17_State_Does_K6 (M : Env) : AX → List V → H → Option (V × H) :=
 fun x env h => match x with | .normal => evalC M F.withyref17_State_Does_c9 env h (fun x env h => withyref17_State_Does_K0 M x env h) | x => withyref17_State_Does_K0 M x env h

def withyref17_State_Does_K7 (M : Env) : AX → List V → H → Option (V × H) :=
 fun x env h => match x with | .normal => evalC M F.withyref17_State_Does_c11 env h (fun x env h => withyref17_State_Does_K0 M x env h) | x => withyref17_State_Does_K0 M x env h

def withyref17_State_Does_K8 (M : Env) : AX → List V → H → Option (V × H) :=
 fun x env h => match x with | .normal => evalC M F.withyref17_State_Does_c12 env h (fun x env h => withyref17_State_Does_K7 M x env h) | x => withyref17_State_Does_K7 M x env h

def withyref17_State_Does_K9 (M : Env) : AX → List V → H → Option (V × H) :=
 fun x env h => match x with | .normal => evalC M F.withyref17_State_Does_c14 env h (fun x env h => withyref17_State_Does_K0 M x env h) | x => withyref17_State_Does_K0 M x env h

def withyref17_State_Does_K10 (M : Env) : AX → List V → H → Option (AX × List V × H) :=
 fun x env h => some (x, keepOf [8, 16] 0 env, h)

def withyref17_State_Does_K11 (M : Env) : AX → List V → H → Option (AX × List V × H) :=
 fun x env h => match x with | .exit j => (match Nat.beq j 0 with | true => withyref17_State_Does_K10 M .normal env h | false => withyref17_State_Does_K10 M (.exit j) env h) | x => withyref17_State_Does_K10 M x env h

def withyref17_State_Does_K12 (M : Env) : AX → List V → H → Option (AX × List V × H) :=
 fun x env h => match x with | .normal => evalC M F.withyref17_State_Does_c16 env h (fun x env h => withyref17_State_Does_K11 M x env h) | x => withyref17_State_Does_K11 M x env h

def withyref17_State_Does_K13 (M : Env) : AX → List V → H → Option (AX × List V × H) :=
 fun x env h => match x with | .exit j => (match Nat.beq j 1 with | true => withyref17_State_Does_K12 M .normal env h | false => withyref17_State_Does_K12 M (.exit j) env h) | x => withyref17_State_Does_K12 M x env h

def withyref17_State_Does_K14 (M : Env) : AX → List V → H → Option (AX × List V × H) :=
 fun x env h => match x with | .normal => evalC M F.withyref17_State_Does_c18 env h (fun x env h => withyref17_State_Does_K11 M x env h) | x => withyref17_State_Does_K11 M x env h

def withyref17_State_Does_K15 (M : Env) : AX → List V → H → Option (AX × List V × H) :=
 fun x env h => match x with | .normal => evalC M F.withyref17_State_Does_c20 env h (fun x env h => withyref17_State_Does_K11 M x env h) | x => withyref17_State_Does_K11 M x env h

def withyref17_State_Does_K16 (M : Env) : AX → List V → H → Option (AX × List V × H) :=
 fun x env h => match x with | .exit j => (match Nat.beq j 3 with | true => withyref17_State_Does_K11 M .normal env h | false => withyref17_State_Does_K11 M (.exit j) env h) | x => withyref17_State_Does_K11 M x env h

def withyref17_State_Does_K17 (M : Env) : AX → List V → H → Option (AX × List V × H) :=
 fun x env h => match x with | .normal => some (.normal, keepOf [1, 4, 6, 8, 16, 19] 0 env, h) | x => some (x, keepOf [8, 16] 0 env, h)

def withyref17_State_Does_K18 (M : Env) : AX → List V → H → Option (AX × List V × H) :=
 fun x env h => match x with | .normal => evalC M F.withyref17_State_Does_c23 env h (fun x env h => withyref17_State_Does_K17 M x env h) | x => withyref17_State_Does_K17 M x env h

def withyref17_State_Does_K19 (M : Env) : AX → List V → H → Option (AX × List V × H) :=
 fun x env h => match x with | .exit j => (match Nat.beq j 4 with | true => withyref17_State_Does_K18 M .normal env h | false => withyref17_State_Does_K18 M (.exit j) env h) | x => withyref17_State_Does_K18 M x env h

def withyref17_State_Does_K20 (M : Env) : AX → List V → H → Option (AX × List V × H) :=
 fun x env h => match x with | .normal => evalC M F.withyref17_State_Does_c24 env h (fun x env h => withyref17_State_Does_K19 M x env h) | x => withyref17_State_Does_K19 M x env h

def withyref17_State_Does (M : Env) (a0_0 : Int) (a0_1 : Int) (a0_2 : Int) (a0_3 : Int) (a0_4 : Int) (a0_5 : Int) (a0_6 : V) (a0_7 : V) (a0_8 : V) (a0_9 : V) (a0_10 : V) (a1 : Int) (a2_0 : Int) (a2_1 : Int) (a2_2 : Int) (a2_3 : Int) (a2_4 : Int) (a3_0 : Int) (a3_1 : Int) (a3_2 : Bool) (h : H) : Option (V × H) :=
 let h0 := h.new (.cells [(.int .i64 a0_0), (.int .i64 a0_1), (.int .i64 a0_2), (.int .i64 a0_3), (.int .i64 a0_4), (.int .i64 a0_5), a0_6, a0_7, a0_8, a0_9, a0_10] .rw)
 let h1 := h0.new (.cells [(.int .i64 a2_0), (.int .i64 a2_1), (.int .u64 a2_2), (.int .u64 a2_3), (.int .u64 a2_4)] .rw)
 let h2 := h1.new (.cells [(.int .i64 a3_0), (.int .u64 a3_1), (.bool a3_2)] .rw)
 let h3 := h2.new (.cells [(.int .i64 0), (.int .i64 0), (.int .i64 0), (.int .i64 0), (.int .i64 0), (.int .i64 0), .nilsl, .nilsl, .nilsl, .nilsl, .nilsl] .rw)
 (withyref17_State_Does_c1_B M (withyref17_State_Does_c1_E (.int .i64 a1) (.ptr h.next 0) (.ptr h0.next 0) (.ptr h1.next 0) (.ptr h2.next 0)) h3).bind fun p4 => withyref17_State_Does_K1 M p4.1 p4.2.1 p4.2.2

def withyref17_State_Does_c1_S (M : Env) (x1 : Int) (x4 : V) (x6 : V) (x7 : V) (x8 : V) (h : H) : Option (AX × List V × H) :=
 match (decide (x1 < 0)) with
 | true => (
 (h.ldN 11 x4).bind fun v0 =>
 (h.st 11 x8 v0).bind fun h1 =>
 some (.ret, (withyref17_State_Does_c1_O (.int .i64 x1) x4 x6 x7 x8 (.bool false)), h1))
 | false => (
 (ptrAt x4 0).bind fun v0 =>
 (ptrAt v0 2).bind fun v1 =>
 (h.ld1 v1).bind fun v2 =>
 (asI .i64 v2).bind fun n3 =>
 match (decide (n3 ≤ x1)) with
 | true => (
 (h.ldN 11 x4).bind fun v4 =>
 (h.st 11 x8 v4).bind fun h5 =>
 some (.ret, (withyref17_State_Does_c1_O (.int .i64 x1) x4 x6 x7 x8 (.bool false)), h5))
 | false => (
 some (.normal, (withyref17_State_Does_c1_O (.int .i64 x1) x4 x6 x7 x8 .dead), h)))

def withyref17_State_Does_c1_n (M : Env) (x1 : Int) (x4 : V) (x6 : V) (x7 : V) (x8 : V) (x9 : V) (h : H) : Option (V × H) :=
 (h.ldN 11 x4).bind fun v0 =>
 (h.ldN 5 x6).bind fun v1 =>
 (M.call 274 [v0, (.int .i64 x1), v1] h).bind fun p2 =>
 (asI .i64 p2.1).bind fun n3 =>
 match (!decide (n3 = 0)) with
 | true => (
 (p2.2.ldN 11 x4).bind fun v4 =>
 (ptrAt x7 0).bind fun v5 =>
 (p2.2.ld1 v5).bind fun v6 =>
 (asI .i64 v6).bind fun n7 =>
 (asI .i64 p2.1).bind fun n8 =>
 match (decide (n7 = n8)) with
 | true => (
 (ptrAt x7 1).bind fun v9 =>
 (p2.2.ld1 v9).bind fun v10 =>
 (asI .u64 v10).bind fun n11 =>
 match (decide (n11 = 0)) with
 | true => (
 (ptrAt x7 2).bind fun v12 =>
 (p2.2.ld1 v12).bind fun v13 =>
 (asB v13).bind fun b14 =>
 (p2.2.st 11 x8 v4).bind fun h15 =>
 match ckB (h15.ld1 v12) v13 with
 | true => (
 finV h15 [.cell true 11 x8, .v (.bool (!b14))])
 | false => none)
 | false => (
 (p2.2.st 11 x8 v4).bind fun h12 =>
 finV h12 [.cell true 11 x8, .v (.bool false)]))
 | false => (
 (p2.2.st 11 x8 v4).bind fun h9 =>
 finV h9 [.cell true 11 x8, .v (.bool false)]))
 | false => (
 (p2.2.ldN 11 x4).bind fun v4 =>
 (ptrAt x6 2).bind fun v5 =>
 (p2.2.ld1 v5).bind fun v6 =>
 (M.call 229 [v4, (.int .i64 x1), v6] p2.2).bind fun p7 =>
 (withyref17_State_Does_c3_B M (withyref17_State_Does_c3_E (.int .i64 x1) x4 x6 x7 x8 p7.1) p7.2).bind fun p8 => withyref17_State_Does_K2 M p8.1 p8.2.1 p8.2.2)

def withyref17_State_Does_c1_r (M : Env) (x1 : V) (x4 : V) (x6 : V) (x7 : V) (x8 : V) (x9 : Bool) (h : H) : Option (V × H) :=
 finV h [.cell true 11 x8, .v (.bool x9)]

def withyref17_State_Does_c3_S (M : Env) (x1 : Int) (x4 : V) (x6 : V) (x7 : V) (x8 : V) (x11 : Int) (h : H) : Option (AX × List V × H) :=
 (ptrAt x6 0).bind fun v0 =>
 (h.ld1 v0).bind fun v1 =>
 (asI .i64 v1).bind fun n2 =>
 match (decide (n2 = 5)) with
 | true => (
 (ptrAt x4 6).bind fun v3 =>
 (h.ld1 v3).bind fun v4 =>
 (indexAV 1 v4 (.int .i64 x11)).bind fun v5 =>
 (h.ld1 v5).bind fun v6 =>
 (ptrAt x6 1).bind fun v7 =>
 (h.ld1 v7).bind fun v8 =>
 (indexAV 1 v6 v8).bind fun v9 =>
 (h.ld1 v9).bind fun v10 =>
 (h.ldN 11 x4).bind fun v11 =>
 (ptrAt x6 4).bind fun v12 =>
 (h.ld1 v12).bind fun v13 =>
 (M.call 229 [v11, (.int .i64 x1), v13] h).bind fun p14 =>
 match ckB (p14.2.ld1 v9) v10 with
 | true => (
 match ckB (p14.2.ld1 v7) v8 with
 | true => (
 match ckB (p14.2.ld1 v5) v6 with
 | true => (
 match ckB (p14.2.ld1 v3) v4 with
 | true => (
 (asI .i64 v10).bind fun n15 =>
 (asI .i64 p14.1).bind fun n16 =>
 some (.normal, (withyref17_State_Does_c3_O (.int .i64 x1) x4 x6 x7 x8 (.int .i64 x11) (.bool (decide (n15 = n16)))), p14.2))
 | false => none)
 | false => none)
 | false => none)
 | false => none)
 | false => (
 some (.normal, (withyref17_State_Does_c3_O (.int .i64 x1) x4 x6 x7 x8 (.int .i64 x11) (.bool false)), h))

def withyref17_State_Does_c3_n (M : Env) (x1 : Int) (x4 : V) (x6 : V) (x7 : V) (x8 : V) (x11 : Int) (x12 : Bool) (h : H) : Option (V × H) :=
 (ptrAt x7 0).bind fun v0 =>
 (h.ld1 v0).bind fun v1 =>
 (asI .i64 v1).bind fun n2 =>
 match (decide (n2 = 4)) with
 | true => (
 (withyref17_State_Does_c6_B M (withyref17_State_Does_c6_E x4 x6 x7 x8 (.bool x12)) h).bind fun p3 => withyref17_State_Does_K4 M p3.1 p3.2.1 p3.2.2)
 | false => (
 (withyref17_State_Does_c8_B M (withyref17_State_Does_c8_E (.int .i64 x1) x4 x6 x7 x8 (.int .i64 x11) (.bool x12)) h).bind fun p3 => withyref17_State_Does_K5 M p3.1 p3.2.1 p3.2.2)

def withyref17_State_Does_c6_S (M : Env) (x4 : V) (x6 : V) (x7 : V) (x8 : V) (x12 : Bool) (h : H) : Option (AX × List V × H) :=
 (ptrAt x6 0).bind fun v0 =>
 (h.ld1 v0).bind fun v1 =>
 (asI .i64 v1).bind fun n2 =>
 match (decide (n2 = 1)) with
 | true => (
 some (.normal, (withyref17_State_Does_c6_O x4 x7 x8 (.bool true)), h))
 | false => (
 (ptrAt x6 0).bind fun v3 =>
 (h.ld1 v3).bind fun v4 =>
 (asI .i64 v4).bind fun n5 =>
 match (decide (n5 = 3)) with
 | true => (
 some (.normal, (withyref17_State_Does_c6_O x4 x7 x8 (.bool true)), h))
 | false => (
 (ptrAt x6 0).bind fun v6 =>
 (h.ld1 v6).bind fun v7 =>
 (asI .i64 v7).bind fun n8 =>
 match (decide (n8 = 4)) with
 | true => (
 some (.normal, (withyref17_State_Does_c6_O x4 x7 x8 (.bool true)), h))
 | false => (
 some (.normal, (withyref17_State_Does_c6_O x4 x7 x8 (.bool x12)), h))))

def withyref17_State_Does_c6_n (M : Env) (x4 : V) (x7 : V) (x8 : V) (x13 : Bool) (h : H) : Option (V × H) :=
 (h.ldN 11 x4).bind fun v0 =>
 match x13 with
 | true => (
 (ptrAt x7 1).bind fun v1 =>
 (h.ld1 v1).bind fun v2 =>
 (asI .u64 v2).bind fun n3 =>
 match (decide (n3 = 0)) with
 | true => (
 (ptrAt x7 2).bind fun v4 =>
 (h.ld1 v4).bind fun v5 =>
 (asB v5).bind fun b6 =>
 (h.st 11 x8 v0).bind fun h7 =>
 match ckB (h7.ld1 v4) v5 with
 | true => (
 finV h7 [.cell true 11 x8, .v (.bool (!b6))])
 | false => none)
 | false => (
 (h.st 11 x8 v0).bind fun h4 =>
 finV h4 [.cell true 11 x8, .v (.bool false)]))
 | false => (
 (h.st 11 x8 v0).bind fun h1 =>
 finV h1 [.cell true 11 x8, .v (.bool false)])

def withyref17_State_Does_c8_S (M : Env) (x1 : Int) (x4 : V) (x6 : V) (x7 : V) (x8 : V) (x11 : Int) (x12 : Bool) (h : H) : Option (AX × List V × H) :=
 (ptrAt x6 0).bind fun v0 =>
 (h.ld1 v0).bind fun v1 =>
 (asI .i64 v1).bind fun n2 =>
 match (decide (n2 = 1)) with
 | true => (
 some (.normal, (withyref17_State_Does_c8_O (.int .i64 x1) x4 x6 x7 x8 (.int .i64 x11) (.bool x12) (.bool true)), h))
 | false => (
 (ptrAt x6 0).bind fun v3 =>
 (h.ld1 v3).bind fun v4 =>
 (asI .i64 v4).bind fun n5 =>
 match (decide (n5 = 8)) with
 | true => (
 some (.normal, (withyref17_State_Does_c8_O (.int .i64 x1) x4 x6 x7 x8 (.int .i64 x11) (.bool x12) (.bool true)), h))
 | false => (
 (ptrAt x6 0).bind fun v6 =>
 (h.ld1 v6).bind fun v7 =>
 (asI .i64 v7).bind fun n8 =>
 match (decide (n8 = 9)) with
 | true => (
 some (.normal, (withyref17_State_Does_c8_O (.int .i64 x1) x4 x6 x7 x8 (.int .i64 x11) (.bool x12) (.bool true)), h))
 | false => (
 (ptrAt x6 0).bind fun v9 =>
 (h.ld1 v9).bind fun v10 =>
 (asI .i64 v10).bind fun n11 =>
 match (decide (n11 = 2)) with
 | true => (
 (ptrAt x4 6).bind fun v12 =>
 (h.ld1 v12).bind fun v13 =>
 (indexAV 1 v13 (.int .i64 x11)).bind fun v14 =>
 (h.ld1 v14).bind fun v15 =>
 (ptrAt x6 1).bind fun v16 =>
 (h.ld1 v16).bind fun v17 =>
 (indexAV 1 v15 v17).bind fun v18 =>
 (h.ld1 v18).bind fun v19 =>
 (asI .i64 v19).bind fun n20 =>
 some (.normal, (withyref17_State_Does_c8_O (.int .i64 x1) x4 x6 x7 x8 (.int .i64 x11) (.bool x12) (.bool (decide (0 ≤ n20)))), h))
 | false => (
 some (.normal, (withyref17_State_Does_c8_O (.int .i64 x1) x4 x6 x7 x8 (.int .i64 x11) (.bool x12) (.bool false)), h)))))

def withyref17_State_Does_c8_n (M : Env) (x1 : Int) (x4 : V) (x6 : V) (x7 : V) (x8 : V) (x11 : Int) (x12 : Bool) (x14 : Bool) (h : H) : Option (V × H) :=
 (withyref17_State_Does_c10_B M (withyref17_State_Does_c10_E (.int .i64 x1) x4 x6 x7 x8 (.int .i64 x11) (.bool x12) (.bool x14)) h).bind fun p0 => withyref17_State_Does_K6 M p0.1 p0.2.1 p0.2.2

def withyref17_State_Does_c10_S (M : Env) (x1 : Int) (x4 : V) (x6 : V) (x7 : V) (x8 : V) (x11 : Int) (x12 : Bool) (x14 : Bool) (h : H) : Option (AX × List V × H) :=
 match x12 with
 | true => (
 some (.normal, (withyref17_State_Does_c10_O (.int .i64 x1) x4 x6 x7 x8 (.int .i64 x11) (.bool x14) (.bool true)), h))
 | false => (
 (ptrAt x6 0).bind fun v0 =>
 (h.ld1 v0).bind fun v1 =>
 (asI .i64 v1).bind fun n2 =>
 match (decide (n2 = 7)) with
 | true => (
 (h.ldN 11 x4).bind fun v3 =>
 (ptrAt x6 3).bind fun v4 =>
 (h.ld1 v4).bind fun v5 =>
 (M.call 229 [v3, (.int .i64 x1), v5] h).bind fun p6 =>
 (asI .i64 p6.1).bind fun n7 =>
 some (.normal, (withyref17_State_Does_c10_O (.int .i64 x1) x4 x6 x7 x8 (.int .i64 x11) (.bool x14) (.bool (decide (x11 = n7)))), p6.2))
 | false => (
 some (.normal, (withyref17_State_Does_c10_O (.int .i64 x1) x4 x6 x7 x8 (.int .i64 x11) (.bool x14) (.bool false)), h)))

def withyref17_State_Does_c10_n (M : Env) (x1 : Int) (x4 : V) (x6 : V) (x7 : V) (x8 : V) (x11 : Int) (x14 : Bool) (x15 : Bool) (h : H) : Option (V × H) :=
 (withyref17_State_Does_c13_B M (withyref17_State_Does_c13_E (.int .i64 x1) x4 x6 x7 x8 (.int .i64 x11) (.bool x14) (.bool x15)) h).bind fun p0 => withyref17_State_Does_K8 M p0.1 p0.2.1 p0.2.2

def withyref17_State_Does_c13_S (M : Env) (x1 : Int) (x4 : V) (x6 : V) (x7 : V) (x8 : V) (x11 : Int) (x14 : Bool) (x15 : Bool) (h : H) : Option (AX × List V × H) :=
 (ptrAt x7 0).bind fun v0 =>
 (h.ld1 v0).bind fun v1 =>
 (asI .i64 v1).bind fun n2 =>
 match (!decide (n2 = 0)) with
 | true => (
 some (.normal, (withyref17_State_Does_c13_O (.int .i64 x1) x4 x6 x7 x8 (.int .i64 x11) (.bool x14) (.bool x15) (.bool true)), h))
 | false => (
 (ptrAt x7 2).bind fun v3 =>
 (h.ld1 v3).bind fun v4 =>
 (eqV .bool v4 (.bool x15)).bind fun b5 =>
 match (!b5) with
 | true => (
 some (.normal, (withyref17_State_Does_c13_O (.int .i64 x1) x4 x6 x7 x8 (.int .i64 x11) (.bool x14) (.bool x15) (.bool true)), h))
 | false => (
 match x14 with
 | true => (
 (h.ldN 11 x4).bind fun v6 =>
 (ptrAt x7 1).bind fun v7 =>
 (h.ld1 v7).bind fun v8 =>
 (M.call 275 [v6, v8] h).bind fun p9 =>
 (asB p9.1).bind fun b10 =>
 match (!b10) with
 | true => (
 some (.normal, (withyref17_State_Does_c13_O (.int .i64 x1) x4 x6 x7 x8 (.int .i64 x11) (.bool x14) (.bool x15) (.bool true)), p9.2))
 | false => (
 match (!x14) with
 | true => (
 (ptrAt x7 1).bind fun v11 =>
 (p9.2.ld1 v11).bind fun v12 =>
 (asI .u64 v12).bind fun n13 =>
 some (.normal, (withyref17_State_Does_c13_O (.int .i64 x1) x4 x6 x7 x8 (.int .i64 x11) (.bool x14) (.bool x15) (.bool (!decide (n13 = 0)))), p9.2))
 | false => (
 some (.normal, (withyref17_State_Does_c13_O (.int .i64 x1) x4 x6 x7 x8 (.int .i64 x11) (.bool x14) (.bool x15) (.bool false)), p9.2))))
 | false => (
 match (!x14) with
 | true => (
 (ptrAt x7 1).bind fun v6 =>
 (h.ld1 v6).bind fun v7 =>
 (asI .u64 v7).bind fun n8 =>
 some (.normal, (withyref17_State_Does_c13_O (.int .i64 x1) x4 x6 x7 x8 (.int .i64 x11) (.bool x14) (.bool x15) (.bool (!decide (n8 = 0)))), h))
 | false => (
 some (.normal, (withyref17_State_Does_c13_O (.int .i64 x1) x4 x6 x7 x8 (.int .i64 x11) (.bool x14) (.bool x15) (.bool false)), h)))))

def withyref17_State_Does_c13_n (M : Env) (x1 : Int) (x4 : V) (x6 : V) (x7 : V) (x8 : V) (x11 : Int) (x14 : Bool) (x15 : Bool) (x179 : Bool) (h : H) : Option (V × H) :=
 match x179 with
 | true => (
 (h.ldN 11 x4).bind fun v0 =>
 (h.st 11 x8 v0).bind fun h1 =>
 finV h1 [.cell true 11 x8, .v (.bool false)])
 | false => (
 (h.ldN 11 x4).bind fun v0 =>
 (M.call 276 [v0] h).bind fun p1 =>
 let h2 := p1.2.new (.cells [(.int .i64 0), (.int .i64 0), (.int .i64 0), (.int .i64 0), (.int .i64 0), (.int .i64 0), .nilsl, .nilsl, .nilsl, .nilsl, .nilsl] .rw)
 (h2.st 11 (.ptr p1.2.next 0) p1.1).bind fun h3 =>
 (withyref17_State_Does_c15_B M (withyref17_State_Does_c15_E (.int .i64 x1) x4 x6 x7 x8 (.int .i64 x11) (.bool x14) (.bool x15) (.ptr p1.2.next 0)) h3).bind fun p4 => withyref17_State_Does_K9 M p4.1 p4.2.1 p4.2.2)

def withyref17_State_Does_c15_S (M : Env) (x1 : Int) (x4 : V) (x6 : V) (x7 : V) (x8 : V) (x11 : Int) (x14 : Bool) (x15 : Bool) (x16 : V) (h : H) : Option (AX × List V × H) :=
 (ptrAt x6 0).bind fun v0 =>
 (h.ld1 v0).bind fun v1 =>
 (asI .i64 v1).bind fun n2 =>
 match (decide (n2 = 1)) with
 | true => (
 (ptrAt x6 1).bind fun v3 =>
 (h.ld1 v3).bind fun v4 =>
 (asI .i64 v4).bind fun n5 =>
 (asI .i64 v4).bind fun n6 =>
 (h.mkSl 1 8 [(.int .i64 0)] n5 n6).bind fun p7 =>
 (M.loop (withyref17_State_Does_c17_B M) (withyref17_State_Does_c17_E (.int .i64 x1) x6 x7 x8 x16 p7.1 (.int .i64 0)) p7.2).bind fun p8 => withyref17_State_Does_K13 M p8.1 p8.2.1 p8.2.2)
 | false => (
 (asI .i64 v1).bind fun n3 =>
 match (decide (n3 = 2)) with
 | true => (
 match x14 with
 | true => (
 (h.ldN 11 x16).bind fun v4 =>
 (ptrAt x7 1).bind fun v5 =>
 (h.ld1 v5).bind fun v6 =>
 (ptrAt x4 6).bind fun v7 =>
 (h.ld1 v7).bind fun v8 =>
 (indexAV 1 v8 (.int .i64 x11)).bind fun v9 =>
 (h.ld1 v9).bind fun v10 =>
 (ptrAt x6 1).bind fun v11 =>
 (h.ld1 v11).bind fun v12 =>
 (indexAV 1 v10 v12).bind fun v13 =>
 (h.ld1 v13).bind fun v14 =>
 (M.call 277 [v4, (.int .i64 x1), v6, v14] h).bind fun p15 =>
 (p15.2.st 11 x16 p15.1).bind fun h16 =>
 some (.normal, (withyref17_State_Does_c15_O x8 x16), h16))
 | false => (
 some (.normal, (withyref17_State_Does_c15_O x8 x16), h)))
 | false => (
 (withyref17_State_Does_c19_B M (withyref17_State_Does_c19_E (.int .i64 x1) x4 x6 x7 x8 (.int .i64 x11) (.bool x15) x16 v1) h).bind fun p4 => withyref17_State_Does_K14 M p4.1 p4.2.1 p4.2.2))

def withyref17_State_Does_c15_n (M : Env) (x8 : V) (x16 : V) (h : H) : Option (V × H) :=
 (h.ldN 11 x16).bind fun v0 =>
 (h.st 11 x8 v0).bind fun h1 =>
 finV h1 [.cell true 11 x8, .v (.bool true)]

def withyref17_State_Does_c17_S (M : Env) (x1 : Int) (x6 : V) (x7 : V) (x8 : V) (x16 : V) (x17 : V) (x18 : Int) (h : H) : Option (AX × List V × H) :=
 (ptrAt x6 1).bind fun v0 =>
 (h.ld1 v0).bind fun v1 =>
 (asI .i64 v1).bind fun n2 =>
 match (decide (x18 < n2)) with
 | true => (
 (indexAV 1 x17 (.int .i64 x18)).bind fun v3 =>
 (h.st 1 v3 (.int .i64 (-1))).bind fun h4 =>
 some (.normal, (withyref17_State_Does_c17_E (.int .i64 x1) x6 x7 x8 x16 x17 (.int .i64 (wr .i64 (x18 + 1)))), h4))
 | false => (
 some ((.exit 1), (withyref17_State_Does_c17_O (.int .i64 x1) x7 x8 x16 x17), h))

def withyref17_State_Does_c17_e1 (M : Env) (x1 : Int) (x7 : V) (x8 : V) (x16 : V) (x17 : V) (h : H) : Option (AX × List V × H) :=
 (ptrAt x16 6).bind fun v0 =>
 (h.ld1 v0).bind fun v1 =>
 (fill (repl [.nilsl] 1) [] [(0, 1, .c x17)]).bind fun cs2 =>
 let h3 := h.new (.cells cs2 .rw)
 (h3.append 1 24 v1 (.sl h.next 0 1 (.ex 1))).bind fun p4 =>
 (ptrAt x16 6).bind fun v5 =>
 (p4.2.st 1 v5 p4.1).bind fun h6 =>
 (h6.ldN 11 x16).bind fun v7 =>
 (ptrAt x7 1).bind fun v8 =>
 (h6.ld1 v8).bind fun v9 =>
 (ptrAt x16 6).bind fun v10 =>
 (h6.ld1 v10).bind fun v11 =>
 (lenSl v11).bind fun n12 =>
 (M.call 277 [v7, (.int .i64 x1), v9, (.int .i64 (wr .i64 (((n12 : Nat) : Int) - 1)))] h6).bind fun p13 =>
 (p13.2.st 11 x16 p13.1).bind fun h14 =>
 some (.normal, (withyref17_State_Does_c15_O x8 x16), h14)

def withyref17_State_Does_c19_S (M : Env) (x1 : Int) (x4 : V) (x6 : V) (x7 : V) (x8 : V) (x11 : Int) (x15 : Bool) (x16 : V) (x184 : Int) (h : H) : Option (AX × List V × H) :=
 match (decide (x184 = 3)) with
 | true => (
 some (.normal, (withyref17_State_Does_c19_O (.int .i64 x1) x4 x6 x7 x8 (.int .i64 x11) (.bool x15) x16 (.int .i64 x184) (.bool (decide (x184 = 3)))), h))
 | false => (
 some (.normal, (withyref17_State_Does_c19_O (.int .i64 x1) x4 x6 x7 x8 (.int .i64 x11) (.bool x15) x16 (.int .i64 x184) (.bool (decide (x184 = 5)))), h))

def withyref17_State_Does_c19_n (M : Env) (x1 : Int) (x4 : V) (x6 : V) (x7 : V) (x8 : V) (x11 : Int) (x15 : Bool) (x16 : V) (x184 : Int) (x231 : Bool) (h : H) : Option (AX × List V × H) :=
 match x231 with
 | true => (
 (withyref17_State_Does_c21_B M (withyref17_State_Does_c21_E (.int .i64 x1) x4 x6 x8 (.int .i64 x11) (.bool x15) x16) h).bind fun p0 => withyref17_State_Does_K15 M p0.1 p0.2.1 p0.2.2)
 | false => (
 match (decide (x184 = 4)) with
 | true => (
 (ptrAt x16 6).bind fun v0 =>
 (h.ld1 v0).bind fun v1 =>
 (indexAV 1 v1 (.int .i64 x11)).bind fun v2 =>
 (h.ld1 v2).bind fun v3 =>
 (ptrAt x6 1).bind fun v4 =>
 (h.ld1 v4).bind fun v5 =>
 (indexAV 1 v3 v5).bind fun v6 =>
 (h.st 1 v6 (.int .i64 (-1))).bind fun h7 =>
 some (.normal, (withyref17_State_Does_c15_O x8 x16), h7))
 | false => (
 match (decide (x184 = 6)) with
 | true => (
 (ptrAt x16 7).bind fun v0 =>
 (h.st 1 v0 .nilsl).bind fun h1 =>
 (M.loop (withyref17_State_Does_c22_B M) (withyref17_State_Does_c22_E (.int .i64 x1) x4 x6 x8 x16 (.int .i64 0)) h1).bind fun p2 => withyref17_State_Does_K16 M p2.1 p2.2.1 p2.2.2)
 | false => (
 match (decide (x184 = 8)) with
 | true => (
 (ptrAt x16 10).bind fun v0 =>
 (h.ld1 v0).bind fun v1 =>
 (ptrAt x7 1).bind fun v2 =>
 (h.ld1 v2).bind fun v3 =>
 (fill (repl [(.int .u64 0)] 1) [] [(0, 1, .c v3)]).bind fun cs4 =>
 let h5 := h.new (.cells cs4 .rw)
 (h5.append 1 8 v1 (.sl h.next 0 1 (.ex 1))).bind fun p6 =>
 (ptrAt x16 10).bind fun v7 =>
 (p6.2.st 1 v7 p6.1).bind fun h8 =>
 (ptrAt x16 8).bind fun v9 =>
 (h8.ld1 v9).bind fun v10 =>
 (ptrAt x7 1).bind fun v11 =>
 (h8.ld1 v11).bind fun v12 =>
 (indexAV 1 v10 (.int .i64 x1)).bind fun v13 =>
 (h8.st 1 v13 v12).bind fun h14 =>
 (ptrAt x16 9).bind fun v15 =>
 (h14.ld1 v15).bind fun v16 =>
 (h14.ldN 11 x4).bind fun v17 =>
 (M.call 278 [v17, (.int .i64 x11)] h14).bind fun p18 =>
 match ckB (p18.2.ld1 v15) v16 with
 | true => (
 (indexAV 1 v16 (.int .i64 x1)).bind fun v19 =>
 (p18.2.st 1 v19 p18.1).bind fun h20 =>
 some (.normal, (withyref17_State_Does_c15_O x8 x16), h20))
 | false => none)
 | false => (
 match (decide (x184 = 9)) with
 | true => (
 (h.ldN 11 x16).bind fun v0 =>
 (ptrAt x7 1).bind fun v1 =>
 (h.ld1 v1).bind fun v2 =>
 (ptrAt x4 9).bind fun v3 =>
 (h.ld1 v3).bind fun v4 =>
 (indexAV 1 v4 (.int .i64 x1)).bind fun v5 =>
 (h.ld1 v5).bind fun v6 =>
 (indexAV 1 v6 (.int .i64 0)).bind fun v7 =>
 (h.ld1 v7).bind fun v8 =>
 (M.call 277 [v0, (.int .i64 x1), v2, v8] h).bind fun p9 =>
 (p9.2.st 11 x16 p9.1).bind fun h10 =>
 (ptrAt x16 9).bind fun v11 =>
 (h10.ld1 v11).bind fun v12 =>
 (ptrAt x4 9).bind fun v13 =>
 (h10.ld1 v13).bind fun v14 =>
 (indexAV 1 v14 (.int .i64 x1)).bind fun v15 =>
 (h10.ld1 v15).bind fun v16 =>
 (sliceV 1 v16 (some (.int .i64 1)) none none).bind fun v17 =>
 (indexAV 1 v12 (.int .i64 x1)).bind fun v18 =>
 (h10.st 1 v18 v17).bind fun h19 =>
 some (.normal, (withyref17_State_Does_c15_O x8 x16), h19))
 | false => (
 match (decide (x184 = 10)) with
 | true => (
 (ptrAt x16 8).bind fun v0 =>
 (h.ld1 v0).bind fun v1 =>
 (indexAV 1 v1 (.int .i64 x1)).bind fun v2 =>
 (h.st 1 v2 (.int .u64 0)).bind fun h3 =>
 (ptrAt x16 9).bind fun v4 =>
 (h3.ld1 v4).bind fun v5 =>
 (indexAV 1 v5 (.int .i64 x1)).bind fun v6 =>
 (h3.st 1 v6 .nilsl).bind fun h7 =>
 some (.normal, (withyref17_State_Does_c15_O x8 x16), h7))
 | false => (
 some (.normal, (withyref17_State_Does_c15_O x8 x16), h)))))))

def withyref17_State_Does_c21_S (M : Env) (x1 : Int) (x4 : V) (x6 : V) (x8 : V) (x11 : Int) (x15 : Bool) (x16 : V) (h : H) : Option (AX × List V × H) :=
 (ptrAt x6 0).bind fun v0 =>
 (h.ld1 v0).bind fun v1 =>
 (asI .i64 v1).bind fun n2 =>
 match (decide (n2 = 3)) with
 | true => (
 some (.normal, (withyref17_State_Does_c21_O (.int .i64 x1) x4 x6 x8 (.int .i64 x11) x16 (.bool true)), h))
 | false => (
 some (.normal, (withyref17_State_Does_c21_O (.int .i64 x1) x4 x6 x8 (.int .i64 x11) x16 (.bool x15)), h))

def withyref17_State_Does_c21_n (M : Env) (x1 : Int) (x4 : V) (x6 : V) (x8 : V) (x11 : Int) (x16 : V) (x239 : Bool) (h : H) : Option (AX × List V × H) :=
 match x239 with
 | true => (
 (ptrAt x16 6).bind fun v0 =>
 (h.ld1 v0).bind fun v1 =>
 (indexAV 1 v1 (.int .i64 x11)).bind fun v2 =>
 (h.ld1 v2).bind fun v3 =>
 (ptrAt x6 1).bind fun v4 =>
 (h.ld1 v4).bind fun v5 =>
 (h.ldN 11 x4).bind fun v6 =>
 (ptrAt x6 3).bind fun v7 =>
 (h.ld1 v7).bind fun v8 =>
 (M.call 229 [v6, (.int .i64 x1), v8] h).bind fun p9 =>
 match ckB (p9.2.ld1 v4) v5 with
 | true => (
 match ckB (p9.2.ld1 v2) v3 with
 | true => (
 match ckB (p9.2.ld1 v0) v1 with
 | true => (
 (indexAV 1 v3 v5).bind fun v10 =>
 (p9.2.st 1 v10 p9.1).bind fun h11 =>
 some (.normal, (withyref17_State_Does_c15_O x8 x16), h11))
 | false => none)
 | false => none)
 | false => none)
 | false => (
 some (.normal, (withyref17_State_Does_c15_O x8 x16), h))

def withyref17_State_Does_c22_S (M : Env) (x1 : Int) (x4 : V) (x6 : V) (x8 : V) (x16 : V) (x19 : Int) (h : H) : Option (AX × List V × H) :=
 (ptrAt x4 7).bind fun v0 =>
 (h.ld1 v0).bind fun v1 =>
 (lenSl v1).bind fun n2 =>
 match (decide (x19 < ((n2 : Nat) : Int))) with
 | true => (
 (withyref17_State_Does_c25_B M (withyref17_State_Does_c25_E (.int .i64 x1) x4 x6 x8 x16 (.int .i64 x19)) h).bind fun p3 => withyref17_State_Does_K20 M p3.1 p3.2.1 p3.2.2)
 | false => (
 some ((.exit 3), (withyref17_State_Does_c22_O x8 x16), h))

def withyref17_State_Does_c22_e3 (M : Env) (x8 : V) (x16 : V) (h : H) : Option (AX × List V × H) :=
 some (.normal, (withyref17_State_Does_c15_O x8 x16), h)

def withyref17_State_Does_c25_S (M : Env) (x1 : Int) (x4 : V) (x6 : V) (x8 : V) (x16 : V) (x19 : Int) (h : H) : Option (AX × List V × H) :=
 (ptrAt x4 7).bind fun v0 =>
 (h.ld1 v0).bind fun v1 =>
 (indexAV 3 v1 (.int .i64 x19)).bind fun v2 =>
 (ptrAt v2 0).bind fun v3 =>
 (h.ld1 v3).bind fun v4 =>
 (asI .i64 v4).bind fun n5 =>
 match (!decide (n5 = x1)) with
 | true => (
 some (.normal, (withyref17_State_Does_c25_O (.int .i64 x1) x4 x6 x8 x16 (.int .i64 x19) (.bool true)), h))
 | false => (
 (ptrAt x4 7).bind fun v6 =>
 (h.ld1 v6).bind fun v7 =>
 (indexAV 3 v7 (.int .i64 x19)).bind fun v8 =>
 (ptrAt v8 1).bind fun v9 =>
 (h.ld1 v9).bind fun v10 =>
 (ptrAt x6 2).bind fun v11 =>
 (h.ld1 v11).bind fun v12 =>
 (asI .u64 v10).bind fun n13 =>
 (asI .u64 v12).bind fun n14 =>
 some (.normal, (withyref17_State_Does_c25_O (.int .i64 x1) x4 x6 x8 x16 (.int .i64 x19) (.bool (!decide (n13 = n14)))), h))

def withyref17_State_Does_c25_n (M : Env) (x1 : Int) (x4 : V) (x6 : V) (x8 : V) (x16 : V) (x19 : Int) (x291 : Bool) (h : H) : Option (AX × List V × H) :=
 match x291 with
 | true => (
 (ptrAt x16 7).bind fun v0 =>
 (h.ld1 v0).bind fun v1 =>
 (ptrAt x4 7).bind fun v2 =>
 (h.ld1 v2).bind fun v3 =>
 (indexAV 3 v3 (.int .i64 x19)).bind fun v4 =>
 (h.ldN 3 v4).bind fun v5 =>
 (fill (repl [(.int .i64 0), (.int .u64 0), (.int .i64 0)] 1) [] [(0, 3, .c v5)]).bind fun cs6 =>
 let h7 := h.new (.cells cs6 .rw)
 (h7.append 3 24 v1 (.sl h.next 0 1 (.ex 1))).bind fun p8 =>
 (ptrAt x16 7).bind fun v9 =>
 (p8.2.st 1 v9 p8.1).bind fun h10 =>
 some (.normal, (withyref17_State_Does_c22_E (.int .i64 x1) x4 x6 x8 x16 (.int .i64 (wr .i64 (x19 + 1)))), h10))
 | false => (
 some (.normal, (withyref17_State_Does_c22_E (.int .i64 x1) x4 x6 x8 x16 (.int .i64 (wr .i64 (x19 + 1)))), h))

theorem withyref17_State_Does_eq (M : Env) (a0_0 : Int) (a0_1 : Int) (a0_2 : Int) (a0_3 : Int) (a0_4 : Int) (a0_5 : Int) (a0_6 : V) (a0_7 : V) (a0_8 : V) (a0_9 : V) (a0_10 : V) (a1 : Int) (a2_0 : Int) (a2_1 : Int) (a2_2 : Int) (a2_3 : Int) (a2_4 : Int) (a3_0 : Int) (a3_1 : Int) (a3_2 : Bool) (h : H) : evalF M F.withyref17_State_Does [(.agg [(.int .i64 a0_0), (.int .i64 a0_1), (.int .i64 a0_2), (.int .i64 a0_3), (.int .i64 a0_4), (.int .i64 a0_5), a0_6, a0_7, a0_8, a0_9, a0_10]), (.int .i64 a1), (.agg [(.int .i64 a2_0), (.int .i64 a2_1), (.int .u64 a2_2), (.int .u64 a2_3), (.int .u64 a2_4)]), (.agg [(.int .i64 a3_0), (.int .u64 a3_1), (.bool a3_2)])] h = withyref17_State_Does M a0_0 a0_1 a0_2 a0_3 a0_4 a0_5 a0_6 a0_7 a0_8 a0_9 a0_10 a1 a2_0 a2_1 a2_2 a2_3 a2_4 a3_0 a3_1 a3_2 h := by kernel_rfl

theorem withyref17_State_Does_c1_eq (M : Env) (x1 : Int) (x4 : V) (x6 : V) (x7 : V) (x8 : V) (h : H) : withyref17_State_Does_c1_B M (withyref17_State_Does_c1_E (.int .i64 x1) x4 x6 x7 x8) h = withyref17_State_Does_c1_S M x1 x4 x6 x7 x8 h := by kernel_rfl

theorem withyref17_State_Does_c1_n_eq (M : Env) (x1 : Int) (x4 : V) (x6 : V) (x7 : V) (x8 : V) (x9 : V) (h : H) : withyref17_State_Does_K1 M .normal (withyref17_State_Does_c1_O (.int .i64 x1) x4 x6 x7 x8 x9) h = withyref17_State_Does_c1_n M x1 x4 x6 x7 x8 x9 h := by kernel_rfl

theorem withyref17_State_Does_c1_r_eq (M : Env) (x1 : V) (x4 : V) (x6 : V) (x7 : V) (x8 : V) (x9 : Bool) (h : H) : withyref17_State_Does_K1 M .ret (withyref17_State_Does_c1_O x1 x4 x6 x7 x8 (.bool x9)) h = withyref17_State_Does_c1_r M x1 x4 x6 x7 x8 x9 h := by kernel_rfl

theorem withyref17_State_Does_c3_eq (M : Env) (x1 : Int) (x4 : V) (x6 : V) (x7 : V) (x8 : V) (x11 : Int) (h : H) : withyref17_State_Does_c3_B M (withyref17_State_Does_c3_E (.int .i64 x1) x4 x6 x7 x8 (.int .i64 x11)) h = withyref17_State_Does_c3_S M x1 x4 x6 x7 x8 x11 h := by kernel_rfl

theorem withyref17_State_Does_c3_n_eq (M : Env) (x1 : Int) (x4 : V) (x6 : V) (x7 : V) (x8 : V) (x11 : Int) (x12 : Bool) (h : H) : withyref17_State_Does_K2 M .normal (withyref17_State_Does_c3_O (.int .i64 x1) x4 x6 x7 x8 (.int .i64 x11) (.bool x12)) h = withyref17_State_Does_c3_n M x1 x4 x6 x7 x8 x11 x12 h := by kernel_rfl

theorem withyref17_State_Does_c6_eq (M : Env) (x4 : V) (x6 : V) (x7 : V) (x8 : V) (x12 : Bool) (h : H) : withyref17_State_Does_c6_B M (withyref17_State_Does_c6_E x4 x6 x7 x8 (.bool x12)) h = withyref17_State_Does_c6_S M x4 x6 x7 x8 x12 h := by kernel_rfl

theorem withyref17_State_Does_c6_n_eq (M : Env) (x4 : V) (x7 : V) (x8 : V) (x13 : Bool) (h : H) : withyref17_State_Does_K4 M .normal (withyref17_State_Does_c6_O x4 x7 x8 (.bool x13)) h = withyref17_State_Does_c6_n M x4 x7 x8 x13 h := by kernel_rfl

theorem withyref17_State_Does_c8_eq (M : Env) (x1 : Int) (x4 : V) (x6 : V) (x7 : V) (x8 : V) (x11 : Int) (x12 : Bool) (h : H) : withyref17_State_Does_c8_B M (withyref17_State_Does_c8_E (.int .i64 x1) x4 x6 x7 x8 (.int .i64 x11) (.bool x12)) h = withyref17_State_Does_c8_S M x1 x4 x6 x7 x8 x11 x12 h := by kernel_rfl

theorem withyref17_State_Does_c8_n_eq (M : Env) (x1 : Int) (x4 : V) (x6 : V) (x7 : V) (x8 : V) (x11 : Int) (x12 : Bool) (x14 : Bool) (h : H) : withyref17_State_Does_K5 M .normal (withyref17_State_Does_c8_O (.int .i64 x1) x4 x6 x7 x8 (.int .i64 x11) (.bool x12) (.bool x14)) h = withyref17_State_Does_c8_n M x1 x4 x6 x7 x8 x11 x12 x14 h := by kernel_rfl

theorem withyref17_State_Does_c10_eq (M : Env) (x1 : Int) (x4 : V) (x6 : V) (x7 : V) (x8 : V) (x11 : Int) (x12 : Bool) (x14 : Bool) (h : H) : withyref17_State_Does_c10_B M (withyref17_State_Does_c10_E (.int .i64 x1) x4 x6 x7 x8 (.int .i64 x11) (.bool x12) (.bool x14)) h = withyref17_State_Does_c10_S M x1 x4 x6 x7 x8 x11 x12 x14 h := by kernel_rfl

theorem withyref17_State_Does_c10_n_eq (M : Env) (x1 : Int) (x4 : V) (x6 : V) (x7 : V) (x8 : V) (x11 : Int) (x14 : Bool) (x15 : Bool) (h : H) : withyref17_State_Does_K6 M .normal (withyref17_State_Does_c10_O (.int .i64 x1) x4 x6 x7 x8 (.int .i64 x11) (.bool x14) (.bool x15)) h = withyref17_State_Does_c10_n M x1 x4 x6 x7 x8 x11 x14 x15 h := by kernel_rfl

theorem withyref17_State_Does_c13_eq (M : Env) (x1 : Int) (x4 : V) (x6 : V) (x7 : V) (x8 : V) (x11 : Int) (x14 : Bool) (x15 : Bool) (h : H) : withyref17_State_Does_c13_B M (withyref17_State_Does_c13_E (.int .i64 x1) x4 x6 x7 x8 (.int .i64 x11) (.bool x14) (.bool x15)) h = withyref17_State_Does_c13_S M x1 x4 x6 x7 x8 x11 x14 x15 h := by kernel_rfl

theorem withyref17_State_Does_c13_n_eq (M : Env) (x1 : Int) (x4 : V) (x6 : V) (x7 : V) (x8 : V) (x11 : Int) (x14 : Bool) (x15 : Bool) (x179 : Bool) (h : H) : withyref17_State_Does_K8 M .normal (withyref17_State_Does_c13_O (.int .i64 x1) x4 x6 x7 x8 (.int .i64 x11) (.bool x14) (.bool x15) (.bool x179)) h = withyref17_State_Does_c13_n M x1 x4 x6 x7 x8 x11 x14 x15 x179 h := by kernel_rfl

theorem withyref17_State_Does_c15_eq (M : Env) (x1 : Int) (x4 : V) (x6 : V) (x7 : V) (x8 : V) (x11 : Int) (x14 : Bool) (x15 : Bool) (x16 : V) (h : H) : withyref17_State_Does_c15_B M (withyref17_State_Does_c15_E (.int .i64 x1) x4 x6 x7 x8 (.int .i64 x11) (.bool x14) (.bool x15) x16) h = withyref17_State_Does_c15_S M x1 x4 x6 x7 x8 x11 x14 x15 x16 h := by kernel_rfl

theorem withyref17_State_Does_c15_n_eq (M : Env) (x8 : V) (x16 : V) (h : H) : withyref17_State_Does_K9 M .normal (withyref17_State_Does_c15_O x8 x16) h = withyref17_State_Does_c15_n M x8 x16 h := by kernel_rfl

theorem withyref17_State_Does_c17_eq (M : Env) (x1 : Int) (x6 : V) (x7 : V) (x8 : V) (x16 : V) (x17 : V) (x18 : Int) (h : H) : withyref17_State_Does_c17_B M (withyref17_State_Does_c17_E (.int .i64 x1) x6 x7 x8 x16 x17 (.int .i64 x18)) h = withyref17_State_Does_c17_S M x1 x6 x7 x8 x16 x17 x18 h := by kernel_rfl

theorem withyref17_State_Does_c17_e1_eq (M : Env) (x1 : Int) (x7 : V) (x8 : V) (x16 : V) (x17 : V) (h : H) : withyref17_State_Does_K13 M (.exit 1) (withyref17_State_Does_c17_O (.int .i64 x1) x7 x8 x16 x17) h = withyref17_State_Does_c17_e1 M x1 x7 x8 x16 x17 h := by kernel_rfl

theorem withyref17_State_Does_c19_eq (M : Env) (x1 : Int) (x4 : V) (x6 : V) (x7 : V) (x8 : V) (x11 : Int) (x15 : Bool) (x16 : V) (x184 : Int) (h : H) : withyref17_State_Does_c19_B M (withyref17_State_Does_c19_E (.int .i64 x1) x4 x6 x7 x8 (.int .i64 x11) (.bool x15) x16 (.int .i64 x184)) h = withyref17_State_Does_c19_S M x1 x4 x6 x7 x8 x11 x15 x16 x184 h := by kernel_rfl

theorem withyref17_State_Does_c19_n_eq (M : Env) (x1 : Int) (x4 : V) (x6 : V) (x7 : V) (x8 : V) (x11 : Int) (x15 : Bool) (x16 : V) (x184 : Int) (x231 : Bool) (h : H) : withyref17_State_Does_K14 M .normal (withyref17_State_Does_c19_O (.int .i64 x1) x4 x6 x7 x8 (.int .i64 x11) (.bool x15) x16 (.int .i64 x184) (.bool x231)) h = withyref17_State_Does_c19_n M x1 x4 x6 x7 x8 x11 x15 x16 x184 x231 h := by kernel_rfl

theorem withyref17_State_Does_c21_eq (M : Env) (x1 : Int) (x4 : V) (x6 : V) (x8 : V) (x11 : Int) (x15 : Bool) (x16 : V) (h : H) : withyref17_State_Does_c21_B M (withyref17_State_Does_c21_E (.int .i64 x1) x4 x6 x8 (.int .i64 x11) (.bool x15) x16) h = withyref17_State_Does_c21_S M x1 x4 x6 x8 x11 x15 x16 h := by kernel_rfl

theorem withyref17_State_Does_c21_n_eq (M : Env) (x1 : Int) (x4 : V) (x6 : V) (x8 : V) (x11 : Int) (x16 : V) (x239 : Bool) (h : H) : withyref17_State_Does_K15 M .normal (withyref17_State_Does_c21_O (.int .i64 x1) x4 x6 x8 (.int .i64 x11) x16 (.bool x239)) h = withyref17_State_Does_c21_n M x1 x4 x6 x8 x11 x16 x239 h := by kernel_rfl

theorem withyref17_State_Does_c22_eq (M : Env) (x1 : Int) (x4 : V) (x6 : V) (x8 : V) (x16 : V) (x19 : Int) (h : H) : withyref17_State_Does_c22_B M (withyref17_State_Does_c22_E (.int .i64 x1) x4 x6 x8 x16 (.int .i64 x19)) h = withyref17_State_Does_c22_S M x1 x4 x6 x8 x16 x19 h := by kernel_rfl

theorem withyref17_State_Does_c22_e3_eq (M : Env) (x8 : V) (x16 : V) (h : H) : withyref17_State_Does_K16 M (.exit 3) (withyref17_State_Does_c22_O x8 x16) h = withyref17_State_Does_c22_e3 M x8 x16 h := by kernel_rfl

theorem withyref17_State_Does_c25_eq (M : Env) (x1 : Int) (x4 : V) (x6 : V) (x8 : V) (x16 : V) (x19 : Int) (h : H) : withyref17_State_Does_c25_B M (withyref17_State_Does_c25_E (.int .i64 x1) x4 x6 x8 x16 (.int .i64 x19)) h = withyref17_State_Does_c25_S M x1 x4 x6 x8 x16 x19 h := by kernel_rfl

theorem withyref17_State_Does_c25_n_eq (M : Env) (x1 : Int) (x4 : V) (x6 : V) (x8 : V) (x16 : V) (x19 : Int) (x291 : Bool) (h : H) : withyref17_State_Does_K20 M .normal (withyref17_State_Does_c25_O (.int .i64 x1) x4 x6 x8 x16 (.int .i64 x19) (.bool x291)) h = withyref17_State_Does_c25_n M x1 x4 x6 x8 x16 x19 x291 h := by kernel_rfl

end Wm.S
end

section
namespace Wm.S
open Wm
set_option maxRecDepth 100000
set_option linter.unusedVariables false


def model_Model_client (M : Env) (a0 : V) (a1 : Int) (h : H) : Option (V × H) :=
 (eqV .ptr a0 .nilp).bind fun b0 =>
 match (!b0) with
 | true => (
 match (decide (0 ≤ a1)) with
 | true => (
 (nilc a0).bind fun v1 =>
 (ptrAt v1 0).bind fun v2 =>
 (ptrAt v2 2).bind fun v3 =>
 (h.ld1 v3).bind fun v4 =>
 (asI .i64 v4).bind fun n5 =>
 some ((.bool (decide (a1 < n5))), h))
 | false => (
 some ((.bool false), h)))
 | false => (
 some ((.bool false), h))

theorem model_Model_client_eq (M : Env) (a0 : V) (a1 : Int) (h : H) : evalF M F.model_Model_client [a0, (.int .i64 a1)] h = model_Model_client M a0 a1 h := by kernel_rfl

end Wm.S
end

section
namespace Wm.S
open Wm
set_option maxRecDepth 100000
set_option linter.unusedVariables false


def model_Model_Held (M : Env) (a0 : V) (a1 : Int) (h : H) : Option (V × H) :=
 (M.call 279 [a0, (.int .i64 a1)] h).bind fun p0 =>
 (asB p0.1).bind fun b1 =>
 match (!b1) with
 | true => (
 some ((.int .i64 0), p0.2))
 | false => (
 (nilc a0).bind fun v2 =>
 (ptrAt v2 7).bind fun v3 =>
 (p0.2.ld1 v3).bind fun v4 =>
 (indexAV 1 v4 (.int .i64 a1)).bind fun v5 =>
 (p0.2.ld1 v5).bind fun v6 =>
 (p0.2.entries v6).bind fun es7 =>
 some ((.int .i64 ((es7.length : Nat) : Int)), p0.2))

theorem model_Model_Held_eq (M : Env) (a0 : V) (a1 : Int) (h : H) : evalF M F.model_Model_Held [a0, (.int .i64 a1)] h = model_Model_Held M a0 a1 h := by kernel_rfl

end Wm.S
end

section
namespace Wm.S
open Wm
set_option maxRecDepth 100000
set_option linter.unusedVariables false


def model_Model_Node (M : Env) (a0 : V) (a1 : Int) (a2 : Int) (h : H) : Option (V × H) :=
 (M.call 279 [a0, (.int .i64 a1)] h).bind fun p0 =>
 (asB p0.1).bind fun b1 =>
 match b1 with
 | true => (
 (nilc a0).bind fun v2 =>
 (ptrAt v2 7).bind fun v3 =>
 (p0.2.ld1 v3).bind fun v4 =>
 (indexAV 1 v4 (.int .i64 a1)).bind fun v5 =>
 (p0.2.ld1 v5).bind fun v6 =>
 (p0.2.look .int (.int .i64 0) true v6 (.int .u64 a2)).bind fun v7 =>
 match v7 with
 | .tup vs8 => ((vs8[0]?).bind fun v9 =>
 match v7 with
 | .tup vs10 => ((vs10[1]?).bind fun v11 =>
 (asB v11).bind fun b12 =>
 match b12 with
 | true => (
 some (v9, p0.2))
 | false => (
 some ((.int .i64 (-1)), p0.2)))
 | _ => none)
 | _ => none)
 | false => (
 some ((.int .i64 (-1)), p0.2))

theorem model_Model_Node_eq (M : Env) (a0 : V) (a1 : Int) (a2 : Int) (h : H) : evalF M F.model_Model_Node [a0, (.int .i64 a1), (.int .u64 a2)] h = model_Model_Node M a0 a1 a2 h := by kernel_rfl

end Wm.S
end

section
namespace Wm.S
open Wm
set_option maxRecDepth 100000
set_option linter.unusedVariables false


def model_Model_Field (M : Env) (a0 : V) (a1 : Int) (a2 : Int) (h : H) : Option (V × H) :=
 (eqV .ptr a0 .nilp).bind fun b0 =>
 match b0 with
 | true => (
 some ((.int .i64 (-1)), h))
 | false => (
 match (decide (a1 < 0)) with
 | true => (
 some ((.int .i64 (-1)), h))
 | false => (
 (nilc a0).bind fun v1 =>
 (ptrAt v1 6).bind fun v2 =>
 (h.ld1 v2).bind fun v3 =>
 (lenSl v3).bind fun n4 =>
 match (decide (((n4 : Nat) : Int) ≤ a1)) with
 | true => (
 some ((.int .i64 (-1)), h))
 | false => (
 match (decide (a2 < 0)) with
 | true => (
 some ((.int .i64 (-1)), h))
 | false => (
 (nilc a0).bind fun v5 =>
 (ptrAt v5 6).bind fun v6 =>
 (h.ld1 v6).bind fun v7 =>
 (indexAV 1 v7 (.int .i64 a1)).bind fun v8 =>
 (h.ld1 v8).bind fun v9 =>
 (lenSl v9).bind fun n10 =>
 match (decide (((n10 : Nat) : Int) ≤ a2)) with
 | true => (
 some ((.int .i64 (-1)), h))
 | false => (
 (nilc a0).bind fun v11 =>
 (ptrAt v11 6).bind fun v12 =>
 (h.ld1 v12).bind fun v13 =>
 (indexAV 1 v13 (.int .i64 a1)).bind fun v14 =>
 (h.ld1 v14).bind fun v15 =>
 (indexAV 1 v15 (.int .i64 a2)).bind fun v16 =>
 (h.ld1 v16).bind fun v17 =>
 some (v17, h))))))

theorem model_Model_Field_eq (M : Env) (a0 : V) (a1 : Int) (a2 : Int) (h : H) : evalF M F.model_Model_Field [a0, (.int .i64 a1), (.int .i64 a2)] h = model_Model_Field M a0 a1 a2 h := by kernel_rfl

end Wm.S
end

section
namespace Wm.S
open Wm
set_option maxRecDepth 100000
set_option linter.unusedVariables false


def model_Model_fresh (M : Env) (a0 : V) (a1 : Int) (h : H) : Option (V × H) :=
 match (!decide (a1 = 0)) with
 | true => (
 (nilc a0).bind fun v0 =>
 (ptrAt v0 9).bind fun v1 =>
 (h.ld1 v1).bind fun v2 =>
 (h.look .int (.int .i64 0) false v2 (.int .u64 a1)).bind fun v3 =>
 (asI .i64 v3).bind fun n4 =>
 some ((.bool (decide (n4 = 0))), h))
 | false => (
 some ((.bool false), h))

theorem model_Model_fresh_eq (M : Env) (a0 : V) (a1 : Int) (h : H) : evalF M F.model_Model_fresh [a0, (.int .u64 a1)] h = model_Model_fresh M a0 a1 h := by kernel_rfl

end Wm.S
end

section
namespace Wm.S
open Wm
set_option maxRecDepth 100000
set_option linter.unusedVariables false

def slices_Repeat___int_int__c1_B (M : Env) : List V → H → Option (AX × List V × H) :=
 fun env h => evalC M F.slices_Repeat___int_int__c1 env h fun x env h => match x with
 | .normal => some (.normal, keepOf [7, 8] 0 env, h)
 | x => some (x, keepOf [7] 0 env, h)

def slices_Repeat___int_int__c1_E (x7 x8 : V) : List V := dd 7 (x7 :: x8 :: dd 39 [])
def slices_Repeat___int_int__c1_O (x7 : V) : List V := dd 7 (x7 :: dd 40 [])

def slices_Repeat___int_int__K0 (M : Env) : AX → List V → H → Option (V × H) :=
 fun x env h => fin F.slices_Repeat___int_int_ x env h

def slices_Repeat___int_int__K1 (M : Env) : AX → List V → H → Option (V × H) :=
 fun x env h => match x with | .normal => evalC M F.slices_Repeat___int_int__c0 env h (fun x env h => slices_Repeat___int_int__K0 M x env h) | x => slices_Repeat___int_int__K0 M x env h

def slices_Repeat___int_int__K2 (M : Env) : AX → List V → H → Option (V × H) :=
 fun x env h => match x with | .exit j => (match Nat.beq j 0 with | true => slices_Repeat___int_int__K1 M .normal env h | false => slices_Repeat___int_int__K1 M (.exit j) env h) | x => slices_Repeat___int_int__K1 M x env h

def slices_Repeat___int_int_ (M : Env) (a0 : V) (a1 : Int) (h : H) : Option (V × H) :=
 match (decide (a1 < 0)) with
 | true => (
 none)
 | false => (
 (lenSl a0).bind fun n0 =>
 (M.call 445 [(.int .u64 (wr .u64 ((n0 : Nat) : Int))), (.int .u64 (wr .u64 a1))] h).bind fun p1 =>
 match p1.1 with
 | .tup vs2 => ((vs2[0]?).bind fun v3 =>
 match p1.1 with
 | .tup vs4 => ((vs4[1]?).bind fun v5 =>
 (asI .u64 v3).bind fun n6 =>
 match (decide (0 < n6)) with
 | true => (
 none)
 | false => (
 (asI .u64 v5).bind fun n7 =>
 match (decide (9223372036854775807 < n7)) with
 | true => (
 none)
 | false => (
 (asIAny v5).bind fun n8 =>
 (p1.2.mkSl 1 8 [(.int .i64 0)] (wr .i64 n8) (wr .i64 n8)).bind fun p9 =>
 (p9.2.copy 1 p9.1 a0).bind fun p10 =>
 (M.loop (slices_Repeat___int_int__c1_B M) (slices_Repeat___int_int__c1_E p9.1 p10.1) p10.2).bind fun p11 => slices_Repeat___int_int__K2 M p11.1 p11.2.1 p11.2.2)))
 | _ => none)
 | _ => none)

def slices_Repeat___int_int__c1_S (M : Env) (x7 : V) (x8 : Int) (h : H) : Option (AX × List V × H) :=
 (lenSl x7).bind fun n0 =>
 match (decide (x8 < ((n0 : Nat) : Int))) with
 | true => (
 (sliceV 1 x7 (some (.int .i64 x8)) none none).bind fun v1 =>
 (sliceV 1 x7 none (some (.int .i64 x8)) none).bind fun v2 =>
 (h.copy 1 v1 v2).bind fun p3 =>
 (asI .i64 p3.1).bind fun n4 =>
 some (.normal, (slices_Repeat___int_int__c1_E x7 (.int .i64 (wr .i64 (x8 + n4)))), p3.2))
 | false => (
 some ((.exit 0), (slices_Repeat___int_int__c1_O x7), h))

def slices_Repeat___int_int__c1_e0 (M : Env) (x7 : V) (h : H) : Option (V × H) :=
 some (x7, h)

theorem slices_Repeat___int_int__eq (M : Env) (a0 : V) (a1 : Int) (h : H) : evalF M F.slices_Repeat___int_int_ [a0, (.int .i64 a1)] h = slices_Repeat___int_int_ M a0 a1 h := by kernel_rfl

theorem slices_Repeat___int_int__c1_eq (M : Env) (x7 : V) (x8 : Int) (h : H) : slices_Repeat___int_int__c1_B M (slices_Repeat___int_int__c1_E x7 (.int .i64 x8)) h = slices_Repeat___int_int__c1_S M x7 x8 h := by kernel_rfl

theorem slices_Repeat___int_int__c1_e0_eq (M : Env) (x7 : V) (h : H) : slices_Repeat___int_int__K2 M (.exit 0) (slices_Repeat___int_int__c1_O x7) h = slices_Repeat___int_int__c1_e0 M x7 h := by kernel_rfl

end Wm.S
end

section
namespace Wm.S
open Wm
set_option maxRecDepth 100000
set_option linter.unusedVariables false


def slices_Contains___int_int_ (M : Env) (a0 : V) (a1 : Int) (h : H) : Option (V × H) :=
 (M.call 404 [a0, (.int .i64 a1)] h).bind fun p0 =>
 (asI .i64 p0.1).bind fun n1 =>
 some ((.bool (decide (0 ≤ n1))), p0.2)

theorem slices_Contains___int_int__eq (M : Env) (a0 : V) (a1 : Int) (h : H) : evalF M F.slices_Contains___int_int_ [a0, (.int .i64 a1)] h = slices_Contains___int_int_ M a0 a1 h := by kernel_rfl

end Wm.S
end

section
namespace Wm.S
open Wm
set_option maxRecDepth 100000
set_option linter.unusedVariables false

def slices_Index___int_int__c1_B (M : Env) : List V → H → Option (AX × List V × H) :=
 fun env h => evalC M F.slices_Index___int_int__c1 env h fun x env h => match x with
 | .normal => some (.normal, keepOf [0, 1, 7, 8] 0 env, h)
 | x => some (x, keepOf [4] 0 env, h)

def slices_Index___int_int__c1_E (x0 x1 x7 x8 : V) : List V := x0 :: x1 :: dd 5 (x7 :: x8 :: dd 10 [])
def slices_Index___int_int__c1_O (x4 : V) : List V := dd 4 (x4 :: dd 14 [])

def slices_Index___int_int__K0 (M : Env) : AX → List V → H → Option (V × H) :=
 fun x env h => fin F.slices_Index___int_int_ x env h

def slices_Index___int_int__K1 (M : Env) : AX → List V → H → Option (V × H) :=
 fun x env h => match x with | .normal => evalC M F.slices_Index___int_int__c0 env h (fun x env h => slices_Index___int_int__K0 M x env h) | x => slices_Index___int_int__K0 M x env h

def slices_Index___int_int__K2 (M : Env) : AX → List V → H → Option (V × H) :=
 fun x env h => match x with | .exit j => (match Nat.beq j 0 with | true => slices_Index___int_int__K1 M .normal env h | false => slices_Index___int_int__K1 M (.exit j) env h) | x => slices_Index___int_int__K1 M x env h

def slices_Index___int_int_ (M : Env) (a0 : V) (a1 : Int) (h : H) : Option (V × H) :=
 (lenSl a0).bind fun n0 =>
 (M.loop (slices_Index___int_int__c1_B M) (slices_Index___int_int__c1_E a0 (.int .i64 a1) (.int .i64 ((n0 : Nat) : Int)) (.int .i64 0)) h).bind fun p1 => slices_Index___int_int__K2 M p1.1 p1.2.1 p1.2.2

def slices_Index___int_int__c1_S (M : Env) (x0 : V) (x1 : Int) (x7 : Int) (x8 : Int) (h : H) : Option (AX × List V × H) :=
 match (decide (x8 < x7)) with
 | true => (
 (indexAV 1 x0 (.int .i64 x8)).bind fun v0 =>
 (h.ld1 v0).bind fun v1 =>
 (asI .i64 v1).bind fun n2 =>
 match (decide (x1 = n2)) with
 | true => (
 some (.ret, (slices_Index___int_int__c1_O (.int .i64 x8)), h))
 | false => (
 some (.normal, (slices_Index___int_int__c1_E x0 (.int .i64 x1) (.int .i64 x7) (.int .i64 (wr .i64 (x8 + 1)))), h)))
 | false => (
 some ((.exit 0), (slices_Index___int_int__c1_O .dead), h))

def slices_Index___int_int__c1_e0 (M : Env) (x4 : V) (h : H) : Option (V × H) :=
 some ((.int .i64 (-1)), h)

def slices_Index___int_int__c1_r (M : Env) (x4 : Int) (h : H) : Option (V × H) :=
 some ((.int .i64 x4), h)

theorem slices_Index___int_int__eq (M : Env) (a0 : V) (a1 : Int) (h : H) : evalF M F.slices_Index___int_int_ [a0, (.int .i64 a1)] h = slices_Index___int_int_ M a0 a1 h := by kernel_rfl

theorem slices_Index___int_int__c1_eq (M : Env) (x0 : V) (x1 : Int) (x7 : Int) (x8 : Int) (h : H) : slices_Index___int_int__c1_B M (slices_Index___int_int__c1_E x0 (.int .i64 x1) (.int .i64 x7) (.int .i64 x8)) h = slices_Index___int_int__c1_S M x0 x1 x7 x8 h := by kernel_rfl

theorem slices_Index___int_int__c1_e0_eq (M : Env) (x4 : V) (h : H) : slices_Index___int_int__K2 M (.exit 0) (slices_Index___int_int__c1_O x4) h = slices_Index___int_int__c1_e0 M x4 h := by kernel_rfl

theorem slices_Index___int_int__c1_r_eq (M : Env) (x4 : Int) (h : H) : slices_Index___int_int__K2 M .ret (slices_Index___int_int__c1_O (.int .i64 x4)) h = slices_Index___int_int__c1_r M x4 h := by kernel_rfl

end Wm.S
end

section
namespace Wm.S
open Wm
set_option maxRecDepth 100000
set_option linter.unusedVariables false

def model_Model_reached_c1_B (M : Env) : List V → H → Option (AX × List V × H) :=
 fun env h => evalC M F.model_Model_reached_c1 env h fun x env h => match x with
 | .normal => some (.normal, keepOf [0, 5, 6] 0 env, h)
 | x => some (x, keepOf [5] 0 env, h)

def model_Model_reached_c1_E (x0 x5 x6 : V) : List V := x0 :: dd 4 (x5 :: x6 :: dd 39 [])
def model_Model_reached_c1_O (x5 : V) : List V := dd 5 (x5 :: dd 40 [])

def model_Model_reached_c3_B (M : Env) : List V → H → Option (AX × List V × H) :=
 fun env h => evalC M F.model_Model_reached_c3 env h fun x env h => match x with
 | .normal => some (.normal, keepOf [0, 5, 6, 26, 27, 28] 0 env, h)
 | x => some (x, keepOf [0, 5, 6] 0 env, h)

def model_Model_reached_c3_E (x0 x5 x6 x26 x27 x28 : V) : List V := x0 :: dd 4 (x5 :: x6 :: dd 19 (x26 :: x27 :: x28 :: dd 17 []))
def model_Model_reached_c3_O (x0 x5 x6 : V) : List V := x0 :: dd 4 (x5 :: x6 :: dd 39 [])

def model_Model_reached_K0 (M : Env) : AX → List V → H → Option (V × H) :=
 fun x env h => fin F.model_Model_reached x env h

def model_Model_reached_K1 (M : Env) : AX → List V → H → Option (V × H) :=
 fun x env h => match x with | .normal => evalC M F.model_Model_reached_c0 env h (fun x env h => model_Model_reached_K0 M x env h) | x => model_Model_reached_K0 M x env h

def model_Model_reached_K2 (M : Env) : AX → List V → H → Option (V × H) :=
 fun x env h => match x with | .exit j => (match Nat.beq j 0 with | true => model_Model_reached_K1 M .normal env h | false => model_Model_reached_K1 M (.exit j) env h) | x => model_Model_reached_K1 M x env h

def model_Model_reached_K3 (M : Env) : AX → List V → H → Option (AX × List V × H) :=
 fun x env h => match x with | .normal => some (.normal, keepOf [0, 5, 6] 0 env, h) | x => some (x, keepOf [5] 0 env, h)

def model_Model_reached_K4 (M : Env) : AX → List V → H → Option (AX × List V × H) :=
 fun x env h => match x with | .normal => evalC M F.model_Model_reached_c2 env h (fun x env h => model_Model_reached_K3 M x env h) | x => model_Model_reached_K3 M x env h

def model_Model_reached_K5 (M : Env) : AX → List V → H → Option (AX × List V × H) :=
 fun x env h => match x with | .exit j => (match Nat.beq j 1 with | true => model_Model_reached_K4 M .normal env h | false => model_Model_reached_K4 M (.exit j) env h) | x => model_Model_reached_K4 M x env h

def model_Model_reached_K6 (M : Env) : AX → List V → H → Option (AX × List V × H) :=
 fun x env h => match x with | .exit j => (match Nat.beq j 2 with | true => model_Model_reached_K5 M .normal env h | false => model_Model_reached_K5 M (.exit j) env h) | x => model_Model_reached_K5 M x env h

def model_Model_reached (M : Env) (a0 : V) (a1 : Int) (h : H) : Option (V × H) :=
 let h0 := h.new (.cells [(.int .i64 a1)] .rw)
 (M.loop (model_Model_reached_c1_B M) (model_Model_reached_c1_E a0 (.sl h.next 0 1 (.ex 1)) (.int .i64 0)) h0).bind fun p1 => model_Model_reached_K2 M p1.1 p1.2.1 p1.2.2

def model_Model_reached_c1_S (M : Env) (x0 : V) (x5 : V) (x6 : Int) (h : H) : Option (AX × List V × H) :=
 (lenSl x5).bind fun n0 =>
 match (decide (x6 < ((n0 : Nat) : Int))) with
 | true => (
 (nilc x0).bind fun v1 =>
 (ptrAt v1 6).bind fun v2 =>
 (h.ld1 v2).bind fun v3 =>
 (indexAV 1 x5 (.int .i64 x6)).bind fun v4 =>
 (h.ld1 v4).bind fun v5 =>
 (indexAV 1 v3 v5).bind fun v6 =>
 (h.ld1 v6).bind fun v7 =>
 (lenSl v7).bind fun n8 =>
 (M.loop (model_Model_reached_c3_B M) (model_Model_reached_c3_E x0 x5 (.int .i64 x6) v7 (.int .i64 ((n8 : Nat) : Int)) (.int .i64 0)) h).bind fun p9 => model_Model_reached_K6 M p9.1 p9.2.1 p9.2.2)
 | false => (
 some ((.exit 0), (model_Model_reached_c1_O x5), h))

def model_Model_reached_c1_e0 (M : Env) (x5 : V) (h : H) : Option (V × H) :=
 some (x5, h)

def model_Model_reached_c3_S (M : Env) (x0 : V) (x5 : V) (x6 : Int) (x26 : V) (x27 : Int) (x28 : Int) (h : H) : Option (AX × List V × H) :=
 match (decide (x28 < x27)) with
 | true => (
 (indexAV 1 x26 (.int .i64 x28)).bind fun v0 =>
 (h.ld1 v0).bind fun v1 =>
 (asI .i64 v1).bind fun n2 =>
 match (decide (0 ≤ n2)) with
 | true => (
 (M.call 331 [x5, v1] h).bind fun p3 =>
 (asB p3.1).bind fun b4 =>
 match (!b4) with
 | true => (
 (fill (repl [(.int .i64 0)] 1) [] [(0, 1, .c v1)]).bind fun cs5 =>
 let h6 := p3.2.new (.cells cs5 .rw)
 (h6.append 1 8 x5 (.sl p3.2.next 0 1 (.ex 1))).bind fun p7 =>
 some (.normal, (model_Model_reached_c3_E x0 p7.1 (.int .i64 x6) x26 (.int .i64 x27) (.int .i64 (wr .i64 (x28 + 1)))), p7.2))
 | false => (
 some (.normal, (model_Model_reached_c3_E x0 x5 (.int .i64 x6) x26 (.int .i64 x27) (.int .i64 (wr .i64 (x28 + 1)))), p3.2)))
 | false => (
 some (.normal, (model_Model_reached_c3_E x0 x5 (.int .i64 x6) x26 (.int .i64 x27) (.int .i64 (wr .i64 (x28 + 1)))), h)))
 | false => (
 some ((.exit 2), (model_Model_reached_c3_O x0 x5 (.int .i64 x6)), h))

def model_Model_reached_c3_e2 (M : Env) (x0 : V) (x5 : V) (x6 : Int) (h : H) : Option (AX × List V × H) :=
 some (.normal, (model_Model_reached_c1_E x0 x5 (.int .i64 (wr .i64 (x6 + 1)))), h)

theorem model_Model_reached_eq (M : Env) (a0 : V) (a1 : Int) (h : H) : evalF M F.model_Model_reached [a0, (.int .i64 a1)] h = model_Model_reached M a0 a1 h := by kernel_rfl

theorem model_Model_reached_c1_eq (M : Env) (x0 : V) (x5 : V) (x6 : Int) (h : H) : model_Model_reached_c1_B M (model_Model_reached_c1_E x0 x5 (.int .i64 x6)) h = model_Model_reached_c1_S M x0 x5 x6 h := by kernel_rfl

theorem model_Model_reached_c1_e0_eq (M : Env) (x5 : V) (h : H) : model_Model_reached_K2 M (.exit 0) (model_Model_reached_c1_O x5) h = model_Model_reached_c1_e0 M x5 h := by kernel_rfl

theorem model_Model_reached_c3_eq (M : Env) (x0 : V) (x5 : V) (x6 : Int) (x26 : V) (x27 : Int) (x28 : Int) (h : H) : model_Model_reached_c3_B M (model_Model_reached_c3_E x0 x5 (.int .i64 x6) x26 (.int .i64 x27) (.int .i64 x28)) h = model_Model_reached_c3_S M x0 x5 x6 x26 x27 x28 h := by kernel_rfl

theorem model_Model_reached_c3_e2_eq (M : Env) (x0 : V) (x5 : V) (x6 : Int) (h : H) : model_Model_reached_K6 M (.exit 2) (model_Model_reached_c3_O x0 x5 (.int .i64 x6)) h = model_Model_reached_c3_e2 M x0 x5 x6 h := by kernel_rfl

end Wm.S
end

section
namespace Wm.S
open Wm
set_option maxRecDepth 100000
set_option linter.unusedVariables false


def model_Model_hold (M : Env) (a0 : V) (a1 : Int) (a2 : Int) (a3 : Int) (h : H) : Option (V × H) :=
 (nilc a0).bind fun v0 =>
 (ptrAt v0 9).bind fun v1 =>
 (h.ld1 v1).bind fun v2 =>
 (h.mapSet .int v2 (.int .u64 a2) (.int .i64 1)).bind fun h3 =>
 (nilc a0).bind fun v4 =>
 (ptrAt v4 7).bind fun v5 =>
 (h3.ld1 v5).bind fun v6 =>
 (indexAV 1 v6 (.int .i64 a1)).bind fun v7 =>
 (h3.ld1 v7).bind fun v8 =>
 (h3.mapSet .int v8 (.int .u64 a2) (.int .i64 a3)).bind fun h9 =>
 some ((.tup []), h9)

theorem model_Model_hold_eq (M : Env) (a0 : V) (a1 : Int) (a2 : Int) (a3 : Int) (h : H) : evalF M F.model_Model_hold [a0, (.int .i64 a1), (.int .u64 a2), (.int .i64 a3)] h = model_Model_hold M a0 a1 a2 a3 h := by kernel_rfl

end Wm.S
end

section
namespace Wm.S
open Wm
set_option maxRecDepth 100000
set_option linter.unusedVariables false

def model_Model_makes_c2_B (M : Env) : List V → H → Option (AX × List V × H) :=
 fun env h => evalC M F.model_Model_makes_c2 env h fun x env h => some (x, keepOf [0, 1, 7] 0 env, h)

def model_Model_makes_c2_E (x0 x1 x5 : V) : List V := x0 :: x1 :: dd 3 (x5 :: dd 25 [])
def model_Model_makes_c2_O (x0 x1 x7 : V) : List V := x0 :: x1 :: dd 5 (x7 :: dd 23 [])

def model_Model_makes_K0 (M : Env) : AX → List V → H → Option (V × H) :=
 fun x env h => fin F.model_Model_makes x env h

def model_Model_makes_K1 (M : Env) : AX → List V → H → Option (V × H) :=
 fun x env h => match x with | .normal => evalC M F.model_Model_makes_c0 env h (fun x env h => model_Model_makes_K0 M x env h) | x => model_Model_makes_K0 M x env h

def model_Model_makes_K2 (M : Env) : AX → List V → H → Option (V × H) :=
 fun x env h => match x with | .exit j => (match Nat.beq j 0 with | true => model_Model_makes_K1 M .normal env h | false => model_Model_makes_K1 M (.exit j) env h) | x => model_Model_makes_K1 M x env h

def model_Model_makes_K3 (M : Env) : AX → List V → H → Option (V × H) :=
 fun x env h => match x with | .normal => evalC M F.model_Model_makes_c1 env h (fun x env h => model_Model_makes_K2 M x env h) | x => model_Model_makes_K2 M x env h

def model_Model_makes (M : Env) (a0 : V) (a1 : Int) (a2_0 : Int) (a2_1 : Int) (a2_2 : Int) (a2_3 : Int) (a2_4 : Int) (h : H) : Option (V × H) :=
 let h0 := h.new (.cells [(.int .i64 a2_0), (.int .i64 a2_1), (.int .u64 a2_2), (.int .u64 a2_3), (.int .u64 a2_4)] .rw)
 (model_Model_makes_c2_B M (model_Model_makes_c2_E a0 (.int .i64 a1) (.ptr h.next 0)) h0).bind fun p1 => model_Model_makes_K3 M p1.1 p1.2.1 p1.2.2

def model_Model_makes_c2_S (M : Env) (x0 : V) (x1 : Int) (x5 : V) (h : H) : Option (AX × List V × H) :=
 (ptrAt x5 1).bind fun v0 =>
 (h.ld1 v0).bind fun v1 =>
 (asI .i64 v1).bind fun n2 =>
 match (decide (n2 < 0)) with
 | true => (
 some (.normal, (model_Model_makes_c2_O x0 (.int .i64 x1) (.bool true)), h))
 | false => (
 (ptrAt x5 1).bind fun v3 =>
 (h.ld1 v3).bind fun v4 =>
 (nilc x0).bind fun v5 =>
 (ptrAt v5 0).bind fun v6 =>
 (ptrAt v6 1).bind fun v7 =>
 (h.ld1 v7).bind fun v8 =>
 (asI .i64 v4).bind fun n9 =>
 (asI .i64 v8).bind fun n10 =>
 some (.normal, (model_Model_makes_c2_O x0 (.int .i64 x1) (.bool (decide (n10 < n9)))), h))

def model_Model_makes_c2_n (M : Env) (x0 : V) (x1 : Int) (x7 : Bool) (h : H) : Option (V × H) :=
 match x7 with
 | true => (
 some ((.int .i64 1), h))
 | false => (
 (nilc x0).bind fun v0 =>
 (ptrAt v0 0).bind fun v1 =>
 (ptrAt v1 3).bind fun v2 =>
 (h.ld1 v2).bind fun v3 =>
 (M.call 105 [x0, (.int .i64 x1)] h).bind fun p4 =>
 match ckB (p4.2.ld1 v2) v3 with
 | true => (
 (asI .i64 p4.1).bind fun n5 =>
 (asI .i64 v3).bind fun n6 =>
 match (decide (n6 ≤ n5)) with
 | true => (
 some ((.int .i64 5), p4.2))
 | false => (
 some ((.int .i64 0), p4.2)))
 | false => none)

theorem model_Model_makes_eq (M : Env) (a0 : V) (a1 : Int) (a2_0 : Int) (a2_1 : Int) (a2_2 : Int) (a2_3 : Int) (a2_4 : Int) (h : H) : evalF M F.model_Model_makes [a0, (.int .i64 a1), (.agg [(.int .i64 a2_0), (.int .i64 a2_1), (.int .u64 a2_2), (.int .u64 a2_3), (.int .u64 a2_4)])] h = model_Model_makes M a0 a1 a2_0 a2_1 a2_2 a2_3 a2_4 h := by kernel_rfl

theorem model_Model_makes_c2_eq (M : Env) (x0 : V) (x1 : Int) (x5 : V) (h : H) : model_Model_makes_c2_B M (model_Model_makes_c2_E x0 (.int .i64 x1) x5) h = model_Model_makes_c2_S M x0 x1 x5 h := by kernel_rfl

theorem model_Model_makes_c2_n_eq (M : Env) (x0 : V) (x1 : Int) (x7 : Bool) (h : H) : model_Model_makes_K3 M .normal (model_Model_makes_c2_O x0 (.int .i64 x1) (.bool x7)) h = model_Model_makes_c2_n M x0 x1 x7 h := by kernel_rfl

end Wm.S
end

section
namespace Wm.S
open Wm
set_option maxRecDepth 100000
set_option linter.unusedVariables false

def model_Model_goes_c2_B (M : Env) : List V → H → Option (AX × List V × H) :=
 fun env h => evalC M F.model_Model_goes_c2 env h fun x env h => some (x, keepOf [0, 1, 5, 7, 15] 0 env, h)

def model_Model_goes_c2_E (x0 x1 x5 x7 : V) : List V := x0 :: x1 :: dd 3 (x5 :: dd 1 (x7 :: dd 37 []))
def model_Model_goes_c2_O (x0 x1 x5 x7 x15 : V) : List V := x0 :: x1 :: dd 3 (x5 :: dd 1 (x7 :: dd 7 (x15 :: dd 29 [])))

def model_Model_goes_K0 (M : Env) : AX → List V → H → Option (V × H) :=
 fun x env h => fin F.model_Model_goes x env h

def model_Model_goes_K1 (M : Env) : AX → List V → H → Option (V × H) :=
 fun x env h => match x with | .normal => evalC M F.model_Model_goes_c0 env h (fun x env h => model_Model_goes_K0 M x env h) | x => model_Model_goes_K0 M x env h

def model_Model_goes_K2 (M : Env) : AX → List V → H → Option (V × H) :=
 fun x env h => match x with | .exit j => (match Nat.beq j 0 with | true => model_Model_goes_K1 M .normal env h | false => model_Model_goes_K1 M (.exit j) env h) | x => model_Model_goes_K1 M x env h

def model_Model_goes_K3 (M : Env) : AX → List V → H → Option (V × H) :=
 fun x env h => match x with | .normal => evalC M F.model_Model_goes_c1 env h (fun x env h => model_Model_goes_K2 M x env h) | x => model_Model_goes_K2 M x env h

def model_Model_goes (M : Env) (a0 : V) (a1 : Int) (a2_0 : Int) (a2_1 : Int) (a2_2 : Int) (a2_3 : Int) (a2_4 : Int) (h : H) : Option (V × H) :=
 let h0 := h.new (.cells [(.int .i64 a2_0), (.int .i64 a2_1), (.int .u64 a2_2), (.int .u64 a2_3), (.int .u64 a2_4)] .rw)
 (nilc a0).bind fun v1 =>
 (ptrAt v1 8).bind fun v2 =>
 (h0.ld1 v2).bind fun v3 =>
 (indexAV 2 v3 (.int .i64 a1)).bind fun v4 =>
 (h0.ldN 2 v4).bind fun v5 =>
 let h6 := h0.new (.cells [(.int .u64 0), .nilsl] .rw)
 (h6.st 2 (.ptr h0.next 0) v5).bind fun h7 =>
 (model_Model_goes_c2_B M (model_Model_goes_c2_E a0 (.int .i64 a1) (.ptr h.next 0) (.ptr h0.next 0)) h7).bind fun p8 => model_Model_goes_K3 M p8.1 p8.2.1 p8.2.2

def model_Model_goes_c2_S (M : Env) (x0 : V) (x1 : Int) (x5 : V) (x7 : V) (h : H) : Option (AX × List V × H) :=
 (ptrAt x5 2).bind fun v0 =>
 (h.ld1 v0).bind fun v1 =>
 (asI .u64 v1).bind fun n2 =>
 match (decide (n2 = 0)) with
 | true => (
 some (.normal, (model_Model_goes_c2_O x0 (.int .i64 x1) x5 x7 (.bool true)), h))
 | false => (
 (ptrAt x7 0).bind fun v3 =>
 (h.ld1 v3).bind fun v4 =>
 (ptrAt x5 2).bind fun v5 =>
 (h.ld1 v5).bind fun v6 =>
 (asI .u64 v4).bind fun n7 =>
 (asI .u64 v6).bind fun n8 =>
 some (.normal, (model_Model_goes_c2_O x0 (.int .i64 x1) x5 x7 (.bool (!decide (n7 = n8)))), h))

def model_Model_goes_c2_n (M : Env) (x0 : V) (x1 : Int) (x5 : V) (x7 : V) (x15 : Bool) (h : H) : Option (V × H) :=
 match x15 with
 | true => (
 some ((.int .i64 6), h))
 | false => (
 (ptrAt x5 0).bind fun v0 =>
 (h.ld1 v0).bind fun v1 =>
 (asI .i64 v1).bind fun n2 =>
 match (decide (n2 = 10)) with
 | true => (
 some ((.int .i64 0), h))
 | false => (
 (ptrAt x7 1).bind fun v3 =>
 (h.ld1 v3).bind fun v4 =>
 (lenSl v4).bind fun n5 =>
 match (decide (((n5 : Nat) : Int) = 0)) with
 | true => (
 some ((.int .i64 6), h))
 | false => (
 (nilc x0).bind fun v6 =>
 (ptrAt v6 0).bind fun v7 =>
 (ptrAt v7 3).bind fun v8 =>
 (h.ld1 v8).bind fun v9 =>
 (M.call 105 [x0, (.int .i64 x1)] h).bind fun p10 =>
 match ckB (p10.2.ld1 v8) v9 with
 | true => (
 (asI .i64 p10.1).bind fun n11 =>
 (asI .i64 v9).bind fun n12 =>
 match (decide (n12 ≤ n11)) with
 | true => (
 some ((.int .i64 5), p10.2))
 | false => (
 some ((.int .i64 0), p10.2)))
 | false => none)))

theorem model_Model_goes_eq (M : Env) (a0 : V) (a1 : Int) (a2_0 : Int) (a2_1 : Int) (a2_2 : Int) (a2_3 : Int) (a2_4 : Int) (h : H) : evalF M F.model_Model_goes [a0, (.int .i64 a1), (.agg [(.int .i64 a2_0), (.int .i64 a2_1), (.int .u64 a2_2), (.int .u64 a2_3), (.int .u64 a2_4)])] h = model_Model_goes M a0 a1 a2_0 a2_1 a2_2 a2_3 a2_4 h := by kernel_rfl

theorem model_Model_goes_c2_eq (M : Env) (x0 : V) (x1 : Int) (x5 : V) (x7 : V) (h : H) : model_Model_goes_c2_B M (model_Model_goes_c2_E x0 (.int .i64 x1) x5 x7) h = model_Model_goes_c2_S M x0 x1 x5 x7 h := by kernel_rfl

theorem model_Model_goes_c2_n_eq (M : Env) (x0 : V) (x1 : Int) (x5 : V) (x7 : V) (x15 : Bool) (h : H) : model_Model_goes_K3 M .normal (model_Model_goes_c2_O x0 (.int .i64 x1) x5 x7 (.bool x15)) h = model_Model_goes_c2_n M x0 x1 x5 x7 x15 h := by kernel_rfl

end Wm.S
end

section
namespace Wm.S
open Wm
set_option maxRecDepth 100000
set_option linter.unusedVariables false

def model_Model_asks_c1_B (M : Env) : List V → H → Option (AX × List V × H) :=
 fun env h => evalC M F.model_Model_asks_c1 env h fun x env h => some (x, keepOf [0, 1, 5, 7, 8] 0 env, h)

def model_Model_asks_c1_E (x0 x1 x5 x7 x8 : V) : List V := x0 :: x1 :: dd 3 (x5 :: dd 1 (x7 :: x8 :: dd 124 []))
def model_Model_asks_c1_O (x0 x1 x5 x7 x8 : V) : List V := x0 :: x1 :: dd 3 (x5 :: dd 1 (x7 :: x8 :: dd 124 []))

def model_Model_asks_c3_B (M : Env) : List V → H → Option (AX × List V × H) :=
 fun env h => evalC M F.model_Model_asks_c3 env h fun x env h => some (x, keepOf [0, 1, 5, 7, 8, 17, 18] 0 env, h)

def model_Model_asks_c3_E (x0 x1 x5 x7 x8 x17 : V) : List V := x0 :: x1 :: dd 3 (x5 :: dd 1 (x7 :: x8 :: dd 8 (x17 :: dd 115 [])))
def model_Model_asks_c3_O (x0 x1 x5 x7 x8 x17 x18 : V) : List V := x0 :: x1 :: dd 3 (x5 :: dd 1 (x7 :: x8 :: dd 8 (x17 :: x18 :: dd 114 [])))

def model_Model_asks_c6_B (M : Env) : List V → H → Option (AX × List V × H) :=
 fun env h => evalC M F.model_Model_asks_c6 env h fun x env h => some (x, keepOf [0, 1, 5, 7, 62] 0 env, h)

def model_Model_asks_c6_E (x0 x1 x5 x7 : V) : List V := x0 :: x1 :: dd 3 (x5 :: dd 1 (x7 :: dd 125 []))
def model_Model_asks_c6_O (x0 x1 x5 x7 x62 : V) : List V := x0 :: x1 :: dd 3 (x5 :: dd 1 (x7 :: dd 54 (x62 :: dd 70 [])))

def model_Model_asks_c8_B (M : Env) : List V → H → Option (AX × List V × H) :=
 fun env h => evalC M F.model_Model_asks_c8 env h fun x env h => some (x, keepOf [0, 1, 5, 89] 0 env, h)

def model_Model_asks_c8_E (x0 x1 x5 x7 : V) : List V := x0 :: x1 :: dd 3 (x5 :: dd 1 (x7 :: dd 125 []))
def model_Model_asks_c8_O (x0 x1 x5 x89 : V) : List V := x0 :: x1 :: dd 3 (x5 :: dd 83 (x89 :: dd 43 []))

def model_Model_asks_K0 (M : Env) : AX → List V → H → Option (V × H) :=
 fun x env h => fin F.model_Model_asks x env h

def model_Model_asks_K1 (M : Env) : AX → List V → H → Option (V × H) :=
 fun x env h => match x with | .normal => evalC M F.model_Model_asks_c0 env h (fun x env h => model_Model_asks_K0 M x env h) | x => model_Model_asks_K0 M x env h

def model_Model_asks_K2 (M : Env) : AX → List V → H → Option (AX × List V × H) :=
 fun x env h => some (x, keepOf [0, 1, 5, 7, 8] 0 env, h)

def model_Model_asks_K3 (M : Env) : AX → List V → H → Option (AX × List V × H) :=
 fun x env h => match x with | .exit j => (match Nat.beq j 0 with | true => model_Model_asks_K2 M .normal env h | false => model_Model_asks_K2 M (.exit j) env h) | x => model_Model_asks_K2 M x env h

def model_Model_asks_K4 (M : Env) : AX → List V → H → Option (AX × List V × H) :=
 fun x env h => match x with | .normal => evalC M F.model_Model_asks_c2 env h (fun x env h => model_Model_asks_K3 M x env h) | x => model_Model_asks_K3 M x env h

def model_Model_asks_K5 (M : Env) : AX → List V → H → Option (V × H) :=
 fun x env h => match x with | .normal => evalC M F.model_Model_asks_c4 env h (fun x env h => model_Model_asks_K0 M x env h) | x => model_Model_asks_K0 M x env h

def model_Model_asks_K6 (M : Env) : AX → List V → H → Option (V × H) :=
 fun x env h => match x with | .exit j => (match Nat.beq j 1 with | true => model_Model_asks_K5 M .normal env h | false => model_Model_asks_K5 M (.exit j) env h) | x => model_Model_asks_K5 M x env h

def model_Model_asks_K7 (M : Env) : AX → List V → H → Option (V × H) :=
 fun x env h => match x with | .normal => evalC M F.model_Model_asks_c5 env h (fun x env h => model_Model_asks_K6 M x env h) | x => model_Model_asks_K6 M x env h

def model_Model_asks_K8 (M : Env) : AX → List V → H → Option (V × H) :=
 fun x env h => match x with | .normal => evalC M F.model_Model_asks_c7 env h (fun x env h => model_Model_asks_K6 M x env h) | x => model_Model_asks_K6 M x env h

def model_Model_asks (M : Env) (a0 : V) (a1 : Int) (a2_0 : Int) (a2_1 : Int) (a2_2 : Int) (a2_3 : Int) (a2_4 : Int) (h : H) : Option (V × H) :=
 let h0 := h.new (.cells [(.int .i64 a2_0), (.int .i64 a2_1), (.int .u64 a2_2), (.int .u64 a2_3), (.int .u64 a2_4)] .rw)
 (h0.ld1 (.ptr h.next 2)).bind fun v1 =>
 (M.call 106 [a0, (.int .i64 a1), v1] h0).bind fun p2 =>
 (asI .i64 p2.1).bind fun n3 =>
 (model_Model_asks_c1_B M (model_Model_asks_c1_E a0 (.int .i64 a1) (.ptr h.next 0) p2.1 (.bool (decide (0 ≤ n3)))) p2.2).bind fun p4 => model_Model_asks_K1 M p4.1 p4.2.1 p4.2.2

def model_Model_asks_c1_S (M : Env) (x0 : V) (x1 : Int) (x5 : V) (x7 : Int) (x8 : Bool) (h : H) : Option (AX × List V × H) :=
 (ptrAt x5 0).bind fun v0 =>
 (h.ld1 v0).bind fun v1 =>
 (model_Model_asks_c3_B M (model_Model_asks_c3_E x0 (.int .i64 x1) x5 (.int .i64 x7) (.bool x8) v1) h).bind fun p2 => model_Model_asks_K4 M p2.1 p2.2.1 p2.2.2

def model_Model_asks_c1_n (M : Env) (x0 : V) (x1 : Int) (x5 : V) (x7 : Int) (x8 : Bool) (h : H) : Option (V × H) :=
 match (!x8) with
 | true => (
 some ((.int .i64 2), h))
 | false => (
 (model_Model_asks_c6_B M (model_Model_asks_c6_E x0 (.int .i64 x1) x5 (.int .i64 x7)) h).bind fun p0 => model_Model_asks_K7 M p0.1 p0.2.1 p0.2.2)

def model_Model_asks_c3_S (M : Env) (x0 : V) (x1 : Int) (x5 : V) (x7 : Int) (x8 : Bool) (x17 : Int) (h : H) : Option (AX × List V × H) :=
 match (decide (x17 = 3)) with
 | true => (
 some (.normal, (model_Model_asks_c3_O x0 (.int .i64 x1) x5 (.int .i64 x7) (.bool x8) (.int .i64 x17) (.bool (decide (x17 = 3)))), h))
 | false => (
 some (.normal, (model_Model_asks_c3_O x0 (.int .i64 x1) x5 (.int .i64 x7) (.bool x8) (.int .i64 x17) (.bool (decide (x17 = 7)))), h))

def model_Model_asks_c3_n (M : Env) (x0 : V) (x1 : Int) (x5 : V) (x7 : Int) (x8 : Bool) (x17 : Int) (x18 : Bool) (h : H) : Option (AX × List V × H) :=
 match x18 with
 | true => (
 match x8 with
 | true => (
 (ptrAt x5 3).bind fun v0 =>
 (h.ld1 v0).bind fun v1 =>
 (M.call 106 [x0, (.int .i64 x1), v1] h).bind fun p2 =>
 (asI .i64 p2.1).bind fun n3 =>
 some (.normal, (model_Model_asks_c1_O x0 (.int .i64 x1) x5 (.int .i64 x7) (.bool (decide (0 ≤ n3)))), p2.2))
 | false => (
 some (.normal, (model_Model_asks_c1_O x0 (.int .i64 x1) x5 (.int .i64 x7) (.bool false)), h)))
 | false => (
 match (decide (x17 = 5)) with
 | true => (
 match x8 with
 | true => (
 (ptrAt x5 3).bind fun v0 =>
 (h.ld1 v0).bind fun v1 =>
 (asI .u64 v1).bind fun n2 =>
 match (decide (n2 = 0)) with
 | true => (
 (ptrAt x5 4).bind fun v3 =>
 (h.ld1 v3).bind fun v4 =>
 (asI .u64 v4).bind fun n5 =>
 match (decide (n5 = 0)) with
 | true => (
 some (.normal, (model_Model_asks_c1_O x0 (.int .i64 x1) x5 (.int .i64 x7) (.bool true)), h))
 | false => (
 (ptrAt x5 4).bind fun v6 =>
 (h.ld1 v6).bind fun v7 =>
 (M.call 106 [x0, (.int .i64 x1), v7] h).bind fun p8 =>
 (asI .i64 p8.1).bind fun n9 =>
 some (.normal, (model_Model_asks_c1_O x0 (.int .i64 x1) x5 (.int .i64 x7) (.bool (decide (0 ≤ n9)))), p8.2)))
 | false => (
 (ptrAt x5 3).bind fun v3 =>
 (h.ld1 v3).bind fun v4 =>
 (M.call 106 [x0, (.int .i64 x1), v4] h).bind fun p5 =>
 (asI .i64 p5.1).bind fun n6 =>
 match (decide (0 ≤ n6)) with
 | true => (
 (ptrAt x5 4).bind fun v7 =>
 (p5.2.ld1 v7).bind fun v8 =>
 (asI .u64 v8).bind fun n9 =>
 match (decide (n9 = 0)) with
 | true => (
 some (.normal, (model_Model_asks_c1_O x0 (.int .i64 x1) x5 (.int .i64 x7) (.bool true)), p5.2))
 | false => (
 (ptrAt x5 4).bind fun v10 =>
 (p5.2.ld1 v10).bind fun v11 =>
 (M.call 106 [x0, (.int .i64 x1), v11] p5.2).bind fun p12 =>
 (asI .i64 p12.1).bind fun n13 =>
 some (.normal, (model_Model_asks_c1_O x0 (.int .i64 x1) x5 (.int .i64 x7) (.bool (decide (0 ≤ n13)))), p12.2)))
 | false => (
 some (.normal, (model_Model_asks_c1_O x0 (.int .i64 x1) x5 (.int .i64 x7) (.bool false)), p5.2))))
 | false => (
 some (.normal, (model_Model_asks_c1_O x0 (.int .i64 x1) x5 (.int .i64 x7) (.bool false)), h)))
 | false => (
 some (.normal, (model_Model_asks_c1_O x0 (.int .i64 x1) x5 (.int .i64 x7) (.bool x8)), h)))

def model_Model_asks_c6_S (M : Env) (x0 : V) (x1 : Int) (x5 : V) (x7 : Int) (h : H) : Option (AX × List V × H) :=
 (ptrAt x5 0).bind fun v0 =>
 (h.ld1 v0).bind fun v1 =>
 (asI .i64 v1).bind fun n2 =>
 match (decide (n2 = 2)) with
 | true => (
 (ptrAt x5 1).bind fun v3 =>
 (h.ld1 v3).bind fun v4 =>
 (asI .i64 v4).bind fun n5 =>
 match (decide (n5 < 0)) with
 | true => (
 some (.normal, (model_Model_asks_c6_O x0 (.int .i64 x1) x5 (.int .i64 x7) (.bool true)), h))
 | false => (
 (ptrAt x5 1).bind fun v6 =>
 (h.ld1 v6).bind fun v7 =>
 (nilc x0).bind fun v8 =>
 (ptrAt v8 6).bind fun v9 =>
 (h.ld1 v9).bind fun v10 =>
 (indexAV 1 v10 (.int .i64 x7)).bind fun v11 =>
 (h.ld1 v11).bind fun v12 =>
 (lenSl v12).bind fun n13 =>
 (asI .i64 v7).bind fun n14 =>
 some (.normal, (model_Model_asks_c6_O x0 (.int .i64 x1) x5 (.int .i64 x7) (.bool (decide (((n13 : Nat) : Int) ≤ n14)))), h)))
 | false => (
 (ptrAt x5 0).bind fun v3 =>
 (h.ld1 v3).bind fun v4 =>
 (M.call 83 [v4] h).bind fun p5 =>
 match p5.1 with
 | .bool true => (
 (ptrAt x5 1).bind fun v6 =>
 (p5.2.ld1 v6).bind fun v7 =>
 (asI .i64 v7).bind fun n8 =>
 match (decide (n8 < 0)) with
 | true => (
 some (.normal, (model_Model_asks_c6_O x0 (.int .i64 x1) x5 (.int .i64 x7) (.bool true)), p5.2))
 | false => (
 (ptrAt x5 1).bind fun v9 =>
 (p5.2.ld1 v9).bind fun v10 =>
 (nilc x0).bind fun v11 =>
 (ptrAt v11 6).bind fun v12 =>
 (p5.2.ld1 v12).bind fun v13 =>
 (indexAV 1 v13 (.int .i64 x7)).bind fun v14 =>
 (p5.2.ld1 v14).bind fun v15 =>
 (lenSl v15).bind fun n16 =>
 (asI .i64 v10).bind fun n17 =>
 some (.normal, (model_Model_asks_c6_O x0 (.int .i64 x1) x5 (.int .i64 x7) (.bool (decide (((n16 : Nat) : Int) ≤ n17)))), p5.2)))
 | .bool false => (
 some (.normal, (model_Model_asks_c6_O x0 (.int .i64 x1) x5 (.int .i64 x7) (.bool false)), p5.2))
 | .tup [] => (
 match p5.1 with
 | .bool true => (
 none)
 | .bool false => (
 some (.normal, (model_Model_asks_c6_O x0 (.int .i64 x1) x5 (.int .i64 x7) (.bool false)), p5.2))
 | .tup [] => (
 (asB p5.1).bind fun b6 =>
 some (.normal, (model_Model_asks_c6_O x0 (.int .i64 x1) x5 (.int .i64 x7) (match b6 with | true => (.tup []) | false => (.bool false) : V)), p5.2))
 | _ => none)
 | _ => none)

def model_Model_asks_c6_n (M : Env) (x0 : V) (x1 : Int) (x5 : V) (x7 : Int) (x62 : Bool) (h : H) : Option (V × H) :=
 match x62 with
 | true => (
 some ((.int .i64 3), h))
 | false => (
 (model_Model_asks_c8_B M (model_Model_asks_c8_E x0 (.int .i64 x1) x5 (.int .i64 x7)) h).bind fun p0 => model_Model_asks_K8 M p0.1 p0.2.1 p0.2.2)

def model_Model_asks_c8_S (M : Env) (x0 : V) (x1 : Int) (x5 : V) (x7 : Int) (h : H) : Option (AX × List V × H) :=
 (ptrAt x5 0).bind fun v0 =>
 (h.ld1 v0).bind fun v1 =>
 (asI .i64 v1).bind fun n2 =>
 match (decide (n2 = 2)) with
 | true => (
 (nilc x0).bind fun v3 =>
 (ptrAt v3 6).bind fun v4 =>
 (h.ld1 v4).bind fun v5 =>
 (indexAV 1 v5 (.int .i64 x7)).bind fun v6 =>
 (h.ld1 v6).bind fun v7 =>
 (ptrAt x5 1).bind fun v8 =>
 (h.ld1 v8).bind fun v9 =>
 (indexAV 1 v7 v9).bind fun v10 =>
 (h.ld1 v10).bind fun v11 =>
 (asI .i64 v11).bind fun n12 =>
 match (decide (0 ≤ n12)) with
 | true => (
 (nilc x0).bind fun v13 =>
 (ptrAt v13 0).bind fun v14 =>
 (ptrAt v14 3).bind fun v15 =>
 (h.ld1 v15).bind fun v16 =>
 (M.call 105 [x0, (.int .i64 x1)] h).bind fun p17 =>
 match ckB (p17.2.ld1 v15) v16 with
 | true => (
 (asI .i64 p17.1).bind fun n18 =>
 (asI .i64 v16).bind fun n19 =>
 some (.normal, (model_Model_asks_c8_O x0 (.int .i64 x1) x5 (.bool (decide (n19 ≤ n18)))), p17.2))
 | false => none)
 | false => (
 some (.normal, (model_Model_asks_c8_O x0 (.int .i64 x1) x5 (.bool false)), h)))
 | false => (
 some (.normal, (model_Model_asks_c8_O x0 (.int .i64 x1) x5 (.bool false)), h))

def model_Model_asks_c8_n (M : Env) (x0 : V) (x1 : Int) (x5 : V) (x89 : Bool) (h : H) : Option (V × H) :=
 match x89 with
 | true => (
 some ((.int .i64 5), h))
 | false => (
 (ptrAt x5 0).bind fun v0 =>
 (h.ld1 v0).bind fun v1 =>
 (asI .i64 v1).bind fun n2 =>
 match (decide (n2 = 8)) with
 | true => (
 (nilc x0).bind fun v3 =>
 (ptrAt v3 8).bind fun v4 =>
 (h.ld1 v4).bind fun v5 =>
 (indexAV 2 v5 (.int .i64 x1)).bind fun v6 =>
 (ptrAt v6 0).bind fun v7 =>
 (h.ld1 v7).bind fun v8 =>
 (asI .u64 v8).bind fun n9 =>
 match (!decide (n9 = 0)) with
 | true => (
 some ((.int .i64 7), h))
 | false => (
 some ((.int .i64 0), h)))
 | false => (
 some ((.int .i64 0), h)))

theorem model_Model_asks_eq (M : Env) (a0 : V) (a1 : Int) (a2_0 : Int) (a2_1 : Int) (a2_2 : Int) (a2_3 : Int) (a2_4 : Int) (h : H) : evalF M F.model_Model_asks [a0, (.int .i64 a1), (.agg [(.int .i64 a2_0), (.int .i64 a2_1), (.int .u64 a2_2), (.int .u64 a2_3), (.int .u64 a2_4)])] h = model_Model_asks M a0 a1 a2_0 a2_1 a2_2 a2_3 a2_4 h := by kernel_rfl

theorem model_Model_asks_c1_eq (M : Env) (x0 : V) (x1 : Int) (x5 : V) (x7 : Int) (x8 : Bool) (h : H) : model_Model_asks_c1_B M (model_Model_asks_c1_E x0 (.int .i64 x1) x5 (.int .i64 x7) (.bool x8)) h = model_Model_asks_c1_S M x0 x1 x5 x7 x8 h := by kernel_rfl

theorem model_Model_asks_c1_n_eq (M : Env) (x0 : V) (x1 : Int) (x5 : V) (x7 : Int) (x8 : Bool) (h : H) : model_Model_asks_K1 M .normal (model_Model_asks_c1_O x0 (.int .i64 x1) x5 (.int .i64 x7) (.bool x8)) h = model_Model_asks_c1_n M x0 x1 x5 x7 x8 h := by kernel_rfl

theorem model_Model_asks_c3_eq (M : Env) (x0 : V) (x1 : Int) (x5 : V) (x7 : Int) (x8 : Bool) (x17 : Int) (h : H) : model_Model_asks_c3_B M (model_Model_asks_c3_E x0 (.int .i64 x1) x5 (.int .i64 x7) (.bool x8) (.int .i64 x17)) h = model_Model_asks_c3_S M x0 x1 x5 x7 x8 x17 h := by kernel_rfl

theorem model_Model_asks_c3_n_eq (M : Env) (x0 : V) (x1 : Int) (x5 : V) (x7 : Int) (x8 : Bool) (x17 : Int) (x18 : Bool) (h : H) : model_Model_asks_K4 M .normal (model_Model_asks_c3_O x0 (.int .i64 x1) x5 (.int .i64 x7) (.bool x8) (.int .i64 x17) (.bool x18)) h = model_Model_asks_c3_n M x0 x1 x5 x7 x8 x17 x18 h := by kernel_rfl

theorem model_Model_asks_c6_eq (M : Env) (x0 : V) (x1 : Int) (x5 : V) (x7 : Int) (h : H) : model_Model_asks_c6_B M (model_Model_asks_c6_E x0 (.int .i64 x1) x5 (.int .i64 x7)) h = model_Model_asks_c6_S M x0 x1 x5 x7 h := by kernel_rfl

theorem model_Model_asks_c6_n_eq (M : Env) (x0 : V) (x1 : Int) (x5 : V) (x7 : Int) (x62 : Bool) (h : H) : model_Model_asks_K7 M .normal (model_Model_asks_c6_O x0 (.int .i64 x1) x5 (.int .i64 x7) (.bool x62)) h = model_Model_asks_c6_n M x0 x1 x5 x7 x62 h := by kernel_rfl

theorem model_Model_asks_c8_eq (M : Env) (x0 : V) (x1 : Int) (x5 : V) (x7 : Int) (h : H) : model_Model_asks_c8_B M (model_Model_asks_c8_E x0 (.int .i64 x1) x5 (.int .i64 x7)) h = model_Model_asks_c8_S M x0 x1 x5 x7 h := by kernel_rfl

theorem model_Model_asks_c8_n_eq (M : Env) (x0 : V) (x1 : Int) (x5 : V) (x89 : Bool) (h : H) : model_Model_asks_K8 M .normal (model_Model_asks_c8_O x0 (.int .i64 x1) x5 (.bool x89)) h = model_Model_asks_c8_n M x0 x1 x5 x89 h := by kernel_rfl

end Wm.S
end

section
namespace Wm.S
open Wm
set_option maxRecDepth 100000
set_option linter.unusedVariables false


def model_Model_matches (M : Env) (a0 : V) (a1 : Int) (a2_0 : Int) (a2_1 : Int) (a2_2 : Int) (a2_3 : Int) (a2_4 : Int) (h : H) : Option (V × H) :=
 let h0 := h.new (.cells [(.int .i64 a2_0), (.int .i64 a2_1), (.int .u64 a2_2), (.int .u64 a2_3), (.int .u64 a2_4)] .rw)
 (h0.ld1 (.ptr h.next 2)).bind fun v1 =>
 (h0.ld1 (.ptr h.next 1)).bind fun v2 =>
 (h0.ld1 (.ptr h.next 4)).bind fun v3 =>
 (M.call 106 [a0, (.int .i64 a1), v1] h0).bind fun p4 =>
 match ckB (p4.2.ld1 (.ptr h.next 4)) v3 with
 | true => (
 match ckB (p4.2.ld1 (.ptr h.next 1)) v2 with
 | true => (
 (M.call 116 [a0, p4.1, v2] p4.2).bind fun p5 =>
 match ckB (p5.2.ld1 (.ptr h.next 4)) v3 with
 | true => (
 (M.call 106 [a0, (.int .i64 a1), v3] p5.2).bind fun p6 =>
 (asI .i64 p5.1).bind fun n7 =>
 (asI .i64 p6.1).bind fun n8 =>
 some ((.bool (decide (n7 = n8))), p6.2))
 | false => none)
 | false => none)
 | false => none

theorem model_Model_matches_eq (M : Env) (a0 : V) (a1 : Int) (a2_0 : Int) (a2_1 : Int) (a2_2 : Int) (a2_3 : Int) (a2_4 : Int) (h : H) : evalF M F.model_Model_matches [a0, (.int .i64 a1), (.agg [(.int .i64 a2_0), (.int .i64 a2_1), (.int .u64 a2_2), (.int .u64 a2_3), (.int .u64 a2_4)])] h = model_Model_matches M a0 a1 a2_0 a2_1 a2_2 a2_3 a2_4 h := by kernel_rfl

end Wm.S
end

section
namespace Wm.S
open Wm
set_option maxRecDepth 100000
set_option linter.unusedVariables false


def op_Walk (M : Env) (a0 : Int) (h : H) : Option (V × H) :=
 match (decide (a0 = 9)) with
 | true => (
 some ((.bool true), h))
 | false => (
 some ((.bool (decide (a0 = 10))), h))

theorem op_Walk_eq (M : Env) (a0 : Int) (h : H) : evalF M F.op_Walk [(.int .i64 a0)] h = op_Walk M a0 h := by kernel_rfl

end Wm.S
end

section
namespace Wm.S
open Wm
set_option maxRecDepth 100000
set_option linter.unusedVariables false


def op_Writes (M : Env) (a0 : Int) (h : H) : Option (V × H) :=
 match (decide (3 ≤ a0)) with
 | true => (
 some ((.bool (decide (a0 ≤ 5))), h))
 | false => (
 some ((.bool false), h))

theorem op_Writes_eq (M : Env) (a0 : Int) (h : H) : evalF M F.op_Writes [(.int .i64 a0)] h = op_Writes M a0 h := by kernel_rfl

end Wm.S
end

section
namespace Wm.S
open Wm
set_option maxRecDepth 100000
set_option linter.unusedVariables false

def model_Model_done_c1_B (M : Env) : List V → H → Option (AX × List V × H) :=
 fun env h => evalC M F.model_Model_done_c1 env h fun x env h => some (x, keepOf [0, 1, 6, 7, 9, 10, 11] 0 env, h)

def model_Model_done_c1_E (x0 x1 x6 x7 x9 x10 x11 : V) : List V := x0 :: x1 :: dd 4 (x6 :: x7 :: dd 1 (x9 :: x10 :: x11 :: dd 230 []))
def model_Model_done_c1_O (x0 x1 x6 x7 x9 x10 x11 : V) : List V := x0 :: x1 :: dd 4 (x6 :: x7 :: dd 1 (x9 :: x10 :: x11 :: dd 230 []))

def model_Model_done_c3_B (M : Env) : List V → H → Option (AX × List V × H) :=
 fun env h => evalC M F.model_Model_done_c3 env h fun x env h => some (x, keepOf [0, 1, 6, 7, 9, 10, 11, 18, 19] 0 env, h)

def model_Model_done_c3_E (x0 x1 x6 x7 x9 x10 x11 x18 : V) : List V := x0 :: x1 :: dd 4 (x6 :: x7 :: dd 1 (x9 :: x10 :: x11 :: dd 6 (x18 :: dd 223 [])))
def model_Model_done_c3_O (x0 x1 x6 x7 x9 x10 x11 x18 x19 : V) : List V := x0 :: x1 :: dd 4 (x6 :: x7 :: dd 1 (x9 :: x10 :: x11 :: dd 6 (x18 :: x19 :: dd 222 [])))

def model_Model_done_c6_B (M : Env) : List V → H → Option (AX × List V × H) :=
 fun env h => evalC M F.model_Model_done_c6 env h fun x env h => some (x, keepOf [0, 1, 6, 7, 9, 10, 11, 74] 0 env, h)

def model_Model_done_c6_E (x0 x1 x6 x7 x9 x10 x11 : V) : List V := x0 :: x1 :: dd 4 (x6 :: x7 :: dd 1 (x9 :: x10 :: x11 :: dd 230 []))
def model_Model_done_c6_O (x0 x1 x6 x7 x9 x10 x11 x74 : V) : List V := x0 :: x1 :: dd 4 (x6 :: x7 :: dd 1 (x9 :: x10 :: x11 :: dd 62 (x74 :: dd 167 [])))

def model_Model_done_c8_B (M : Env) : List V → H → Option (AX × List V × H) :=
 fun env h => evalC M F.model_Model_done_c8 env h fun x env h => some (x, keepOf [] 0 env, h)

def model_Model_done_c8_E (x0 x1 x6 x7 x9 x10 x11 : V) : List V := x0 :: x1 :: dd 4 (x6 :: x7 :: dd 1 (x9 :: x10 :: x11 :: dd 230 []))
def model_Model_done_c8_O : List V := dd 242 []

def model_Model_done_K0 (M : Env) : AX → List V → H → Option (V × H) :=
 fun x env h => fin F.model_Model_done x env h

def model_Model_done_K1 (M : Env) : AX → List V → H → Option (V × H) :=
 fun x env h => match x with | .normal => evalC M F.model_Model_done_c0 env h (fun x env h => model_Model_done_K0 M x env h) | x => model_Model_done_K0 M x env h

def model_Model_done_K2 (M : Env) : AX → List V → H → Option (AX × List V × H) :=
 fun x env h => some (x, keepOf [0, 1, 6, 7, 9, 10, 11] 0 env, h)

def model_Model_done_K3 (M : Env) : AX → List V → H → Option (AX × List V × H) :=
 fun x env h => match x with | .exit j => (match Nat.beq j 0 with | true => model_Model_done_K2 M .normal env h | false => model_Model_done_K2 M (.exit j) env h) | x => model_Model_done_K2 M x env h

def model_Model_done_K4 (M : Env) : AX → List V → H → Option (AX × List V × H) :=
 fun x env h => match x with | .normal => evalC M F.model_Model_done_c2 env h (fun x env h => model_Model_done_K3 M x env h) | x => model_Model_done_K3 M x env h

def model_Model_done_K5 (M : Env) : AX → List V → H → Option (V × H) :=
 fun x env h => match x with | .normal => evalC M F.model_Model_done_c4 env h (fun x env h => model_Model_done_K0 M x env h) | x => model_Model_done_K0 M x env h

def model_Model_done_K6 (M : Env) : AX → List V → H → Option (V × H) :=
 fun x env h => match x with | .normal => evalC M F.model_Model_done_c5 env h (fun x env h => model_Model_done_K5 M x env h) | x => model_Model_done_K5 M x env h

def model_Model_done_K7 (M : Env) : AX → List V → H → Option (V × H) :=
 fun x env h => match x with | .normal => evalC M F.model_Model_done_c7 env h (fun x env h => model_Model_done_K0 M x env h) | x => model_Model_done_K0 M x env h

def model_Model_done (M : Env) (a0 : V) (a1 : Int) (a2_0 : Int) (a2_1 : Int) (a2_2 : Int) (a2_3 : Int) (a2_4 : Int) (a3_0 : Int) (a3_1 : Int) (a3_2 : Bool) (h : H) : Option (V × H) :=
 let h0 := h.new (.cells [(.int .i64 a2_0), (.int .i64 a2_1), (.int .u64 a2_2), (.int .u64 a2_3), (.int .u64 a2_4)] .rw)
 let h1 := h0.new (.cells [(.int .i64 a3_0), (.int .u64 a3_1), (.bool a3_2)] .rw)
 (h1.ld1 (.ptr h.next 2)).bind fun v2 =>
 (M.call 106 [a0, (.int .i64 a1), v2] h1).bind fun p3 =>
 (model_Model_done_c1_B M (model_Model_done_c1_E a0 (.int .i64 a1) (.ptr h.next 0) (.ptr h0.next 0) p3.1 (.bool false) (.bool false)) p3.2).bind fun p4 => model_Model_done_K1 M p4.1 p4.2.1 p4.2.2

def model_Model_done_c1_S (M : Env) (x0 : V) (x1 : Int) (x6 : V) (x7 : V) (x9 : Int) (x10 : Bool) (x11 : Bool) (h : H) : Option (AX × List V × H) :=
 (ptrAt x6 0).bind fun v0 =>
 (h.ld1 v0).bind fun v1 =>
 (model_Model_done_c3_B M (model_Model_done_c3_E x0 (.int .i64 x1) x6 x7 (.int .i64 x9) (.bool x10) (.bool x11) v1) h).bind fun p2 => model_Model_done_K4 M p2.1 p2.2.1 p2.2.2

def model_Model_done_c1_n (M : Env) (x0 : V) (x1 : Int) (x6 : V) (x7 : V) (x9 : Int) (x10 : Bool) (x11 : Bool) (h : H) : Option (V × H) :=
 (model_Model_done_c6_B M (model_Model_done_c6_E x0 (.int .i64 x1) x6 x7 (.int .i64 x9) (.bool x10) (.bool x11)) h).bind fun p0 => model_Model_done_K6 M p0.1 p0.2.1 p0.2.2

def model_Model_done_c3_S (M : Env) (x0 : V) (x1 : Int) (x6 : V) (x7 : V) (x9 : Int) (x10 : Bool) (x11 : Bool) (x18 : Int) (h : H) : Option (AX × List V × H) :=
 match (decide (x18 = 1)) with
 | true => (
 some (.normal, (model_Model_done_c3_O x0 (.int .i64 x1) x6 x7 (.int .i64 x9) (.bool x10) (.bool x11) (.int .i64 x18) (.bool (decide (x18 = 1)))), h))
 | false => (
 match (decide (x18 = 8)) with
 | true => (
 some (.normal, (model_Model_done_c3_O x0 (.int .i64 x1) x6 x7 (.int .i64 x9) (.bool x10) (.bool x11) (.int .i64 x18) (.bool (decide (x18 = 8)))), h))
 | false => (
 some (.normal, (model_Model_done_c3_O x0 (.int .i64 x1) x6 x7 (.int .i64 x9) (.bool x10) (.bool x11) (.int .i64 x18) (.bool (decide (x18 = 9)))), h)))

def model_Model_done_c3_n (M : Env) (x0 : V) (x1 : Int) (x6 : V) (x7 : V) (x9 : Int) (x10 : Bool) (x11 : Bool) (x18 : Int) (x19 : Bool) (h : H) : Option (AX × List V × H) :=
 match x19 with
 | true => (
 some (.normal, (model_Model_done_c1_O x0 (.int .i64 x1) x6 x7 (.int .i64 x9) (.bool true) (.bool x11)), h))
 | false => (
 match (decide (x18 = 2)) with
 | true => (
 (nilc x0).bind fun v0 =>
 (ptrAt v0 6).bind fun v1 =>
 (h.ld1 v1).bind fun v2 =>
 (indexAV 1 v2 (.int .i64 x9)).bind fun v3 =>
 (h.ld1 v3).bind fun v4 =>
 (ptrAt x6 1).bind fun v5 =>
 (h.ld1 v5).bind fun v6 =>
 (indexAV 1 v4 v6).bind fun v7 =>
 (h.ld1 v7).bind fun v8 =>
 (asI .i64 v8).bind fun n9 =>
 some (.normal, (model_Model_done_c1_O x0 (.int .i64 x1) x6 x7 (.int .i64 x9) (.bool (decide (0 ≤ n9))) (.bool x11)), h))
 | false => (
 match (decide (x18 = 5)) with
 | true => (
 (h.ldN 5 x6).bind fun v0 =>
 (M.call 283 [x0, (.int .i64 x1), v0] h).bind fun p1 =>
 some (.normal, (model_Model_done_c1_O x0 (.int .i64 x1) x6 x7 (.int .i64 x9) (.bool x10) p1.1), p1.2))
 | false => (
 match (decide (x18 = 7)) with
 | true => (
 (ptrAt x6 3).bind fun v0 =>
 (h.ld1 v0).bind fun v1 =>
 (M.call 106 [x0, (.int .i64 x1), v1] h).bind fun p2 =>
 (asI .i64 p2.1).bind fun n3 =>
 some (.normal, (model_Model_done_c1_O x0 (.int .i64 x1) x6 x7 (.int .i64 x9) (.bool x10) (.bool (decide (x9 = n3)))), p2.2))
 | false => (
 some (.normal, (model_Model_done_c1_O x0 (.int .i64 x1) x6 x7 (.int .i64 x9) (.bool x10) (.bool x11)), h)))))

def model_Model_done_c6_S (M : Env) (x0 : V) (x1 : Int) (x6 : V) (x7 : V) (x9 : Int) (x10 : Bool) (x11 : Bool) (h : H) : Option (AX × List V × H) :=
 (ptrAt x7 2).bind fun v0 =>
 (h.ld1 v0).bind fun v1 =>
 (eqV .bool v1 (.bool x11)).bind fun b2 =>
 match (!b2) with
 | true => (
 some (.normal, (model_Model_done_c6_O x0 (.int .i64 x1) x6 x7 (.int .i64 x9) (.bool x10) (.bool x11) (.bool true)), h))
 | false => (
 match x10 with
 | true => (
 (ptrAt x7 1).bind fun v3 =>
 (h.ld1 v3).bind fun v4 =>
 (M.call 383 [x0, v4] h).bind fun p5 =>
 (asB p5.1).bind fun b6 =>
 match (!b6) with
 | true => (
 some (.normal, (model_Model_done_c6_O x0 (.int .i64 x1) x6 x7 (.int .i64 x9) (.bool x10) (.bool x11) (.bool true)), p5.2))
 | false => (
 match (!x10) with
 | true => (
 (ptrAt x7 1).bind fun v7 =>
 (p5.2.ld1 v7).bind fun v8 =>
 (asI .u64 v8).bind fun n9 =>
 some (.normal, (model_Model_done_c6_O x0 (.int .i64 x1) x6 x7 (.int .i64 x9) (.bool x10) (.bool x11) (.bool (!decide (n9 = 0)))), p5.2))
 | false => (
 some (.normal, (model_Model_done_c6_O x0 (.int .i64 x1) x6 x7 (.int .i64 x9) (.bool x10) (.bool x11) (.bool false)), p5.2))))
 | false => (
 match (!x10) with
 | true => (
 (ptrAt x7 1).bind fun v3 =>
 (h.ld1 v3).bind fun v4 =>
 (asI .u64 v4).bind fun n5 =>
 some (.normal, (model_Model_done_c6_O x0 (.int .i64 x1) x6 x7 (.int .i64 x9) (.bool x10) (.bool x11) (.bool (!decide (n5 = 0)))), h))
 | false => (
 some (.normal, (model_Model_done_c6_O x0 (.int .i64 x1) x6 x7 (.int .i64 x9) (.bool x10) (.bool x11) (.bool false)), h))))

def model_Model_done_c6_n (M : Env) (x0 : V) (x1 : Int) (x6 : V) (x7 : V) (x9 : Int) (x10 : Bool) (x11 : Bool) (x74 : Bool) (h : H) : Option (V × H) :=
 match x74 with
 | true => (
 some ((.bool false), h))
 | false => (
 (model_Model_done_c8_B M (model_Model_done_c8_E x0 (.int .i64 x1) x6 x7 (.int .i64 x9) (.bool x10) (.bool x11)) h).bind fun p0 => model_Model_done_K7 M p0.1 p0.2.1 p0.2.2)

def model_Model_done_c8_S (M : Env) (x0 : V) (x1 : Int) (x6 : V) (x7 : V) (x9 : Int) (x10 : Bool) (x11 : Bool) (h : H) : Option (AX × List V × H) :=
 (ptrAt x6 0).bind fun v0 =>
 (h.ld1 v0).bind fun v1 =>
 (asI .i64 v1).bind fun n2 =>
 match (decide (n2 = 1)) with
 | true => (
 (nilc x0).bind fun v3 =>
 (ptrAt v3 6).bind fun v4 =>
 (h.ld1 v4).bind fun v5 =>
 (ptrAt x6 1).bind fun v6 =>
 (h.ld1 v6).bind fun v7 =>
 let h8 := h.new (.cells [(.int .i64 (-1))] .rw)
 (M.call 384 [(.sl h.next 0 1 (.ex 1)), v7] h8).bind fun p9 =>
 match ckB (p9.2.ld1 v4) v5 with
 | true => (
 (fill (repl [.nilsl] 1) [] [(0, 1, .c p9.1)]).bind fun cs10 =>
 let h11 := p9.2.new (.cells cs10 .rw)
 (h11.append 1 24 v5 (.sl p9.2.next 0 1 (.ex 1))).bind fun p12 =>
 (nilc x0).bind fun v13 =>
 (ptrAt v13 6).bind fun v14 =>
 (p12.2.st 1 v14 p12.1).bind fun h15 =>
 (ptrAt x7 1).bind fun v16 =>
 (h15.ld1 v16).bind fun v17 =>
 (nilc x0).bind fun v18 =>
 (ptrAt v18 6).bind fun v19 =>
 (h15.ld1 v19).bind fun v20 =>
 (lenSl v20).bind fun n21 =>
 (M.call 385 [x0, (.int .i64 x1), v17, (.int .i64 (wr .i64 (((n21 : Nat) : Int) - 1)))] h15).bind fun p22 =>
 some (.normal, model_Model_done_c8_O, p22.2))
 | false => none)
 | false => (
 (asI .i64 v1).bind fun n3 =>
 match (decide (n3 = 2)) with
 | true => (
 match x10 with
 | true => (
 (ptrAt x7 1).bind fun v4 =>
 (h.ld1 v4).bind fun v5 =>
 (nilc x0).bind fun v6 =>
 (ptrAt v6 6).bind fun v7 =>
 (h.ld1 v7).bind fun v8 =>
 (indexAV 1 v8 (.int .i64 x9)).bind fun v9 =>
 (h.ld1 v9).bind fun v10 =>
 (ptrAt x6 1).bind fun v11 =>
 (h.ld1 v11).bind fun v12 =>
 (indexAV 1 v10 v12).bind fun v13 =>
 (h.ld1 v13).bind fun v14 =>
 (M.call 385 [x0, (.int .i64 x1), v5, v14] h).bind fun p15 =>
 some (.normal, model_Model_done_c8_O, p15.2))
 | false => (
 some (.normal, model_Model_done_c8_O, h)))
 | false => (
 (asI .i64 v1).bind fun n4 =>
 match (decide (n4 = 3)) with
 | true => (
 (nilc x0).bind fun v5 =>
 (ptrAt v5 6).bind fun v6 =>
 (h.ld1 v6).bind fun v7 =>
 (indexAV 1 v7 (.int .i64 x9)).bind fun v8 =>
 (h.ld1 v8).bind fun v9 =>
 (ptrAt x6 1).bind fun v10 =>
 (h.ld1 v10).bind fun v11 =>
 (ptrAt x6 3).bind fun v12 =>
 (h.ld1 v12).bind fun v13 =>
 (M.call 106 [x0, (.int .i64 x1), v13] h).bind fun p14 =>
 match ckB (p14.2.ld1 v10) v11 with
 | true => (
 match ckB (p14.2.ld1 v8) v9 with
 | true => (
 match ckB (p14.2.ld1 v6) v7 with
 | true => (
 (indexAV 1 v9 v11).bind fun v15 =>
 (p14.2.st 1 v15 p14.1).bind fun h16 =>
 some (.normal, model_Model_done_c8_O, h16))
 | false => none)
 | false => none)
 | false => none)
 | false => (
 (asI .i64 v1).bind fun n5 =>
 match (decide (n5 = 4)) with
 | true => (
 (nilc x0).bind fun v6 =>
 (ptrAt v6 6).bind fun v7 =>
 (h.ld1 v7).bind fun v8 =>
 (indexAV 1 v8 (.int .i64 x9)).bind fun v9 =>
 (h.ld1 v9).bind fun v10 =>
 (ptrAt x6 1).bind fun v11 =>
 (h.ld1 v11).bind fun v12 =>
 (indexAV 1 v10 v12).bind fun v13 =>
 (h.st 1 v13 (.int .i64 (-1))).bind fun h14 =>
 some (.normal, model_Model_done_c8_O, h14))
 | false => (
 (asI .i64 v1).bind fun n6 =>
 match (decide (n6 = 5)) with
 | true => (
 match x11 with
 | true => (
 (nilc x0).bind fun v7 =>
 (ptrAt v7 6).bind fun v8 =>
 (h.ld1 v8).bind fun v9 =>
 (indexAV 1 v9 (.int .i64 x9)).bind fun v10 =>
 (h.ld1 v10).bind fun v11 =>
 (ptrAt x6 1).bind fun v12 =>
 (h.ld1 v12).bind fun v13 =>
 (ptrAt x6 3).bind fun v14 =>
 (h.ld1 v14).bind fun v15 =>
 (M.call 106 [x0, (.int .i64 x1), v15] h).bind fun p16 =>
 match ckB (p16.2.ld1 v12) v13 with
 | true => (
 match ckB (p16.2.ld1 v10) v11 with
 | true => (
 match ckB (p16.2.ld1 v8) v9 with
 | true => (
 (indexAV 1 v11 v13).bind fun v17 =>
 (p16.2.st 1 v17 p16.1).bind fun h18 =>
 some (.normal, model_Model_done_c8_O, h18))
 | false => none)
 | false => none)
 | false => none)
 | false => (
 some (.normal, model_Model_done_c8_O, h)))
 | false => (
 (asI .i64 v1).bind fun n7 =>
 match (decide (n7 = 6)) with
 | true => (
 (nilc x0).bind fun v8 =>
 (ptrAt v8 7).bind fun v9 =>
 (h.ld1 v9).bind fun v10 =>
 (indexAV 1 v10 (.int .i64 x1)).bind fun v11 =>
 (h.ld1 v11).bind fun v12 =>
 (ptrAt x6 2).bind fun v13 =>
 (h.ld1 v13).bind fun v14 =>
 (h.mapDel .int v12 v14).bind fun h15 =>
 some (.normal, model_Model_done_c8_O, h15))
 | false => (
 (asI .i64 v1).bind fun n8 =>
 match (decide (n8 = 8)) with
 | true => (
 (nilc x0).bind fun v9 =>
 (ptrAt v9 9).bind fun v10 =>
 (h.ld1 v10).bind fun v11 =>
 (ptrAt x7 1).bind fun v12 =>
 (h.ld1 v12).bind fun v13 =>
 (h.mapSet .int v11 v13 (.int .i64 1)).bind fun h14 =>
 (nilc x0).bind fun v15 =>
 (ptrAt v15 8).bind fun v16 =>
 (h14.ld1 v16).bind fun v17 =>
 (ptrAt x7 1).bind fun v18 =>
 (h14.ld1 v18).bind fun v19 =>
 (M.call 386 [x0, (.int .i64 x9)] h14).bind fun p20 =>
 match ckB (p20.2.ld1 v18) v19 with
 | true => (
 match ckB (p20.2.ld1 v16) v17 with
 | true => (
 (fill [(.int .u64 0), .nilsl] [] [(0, 1, .c v19), (1, 1, .c p20.1)]).bind fun cs21 =>
 (indexAV 2 v17 (.int .i64 x1)).bind fun v22 =>
 (p20.2.st 2 v22 (.agg cs21)).bind fun h23 =>
 some (.normal, model_Model_done_c8_O, h23))
 | false => none)
 | false => none)
 | false => (
 (asI .i64 v1).bind fun n9 =>
 match (decide (n9 = 9)) with
 | true => (
 (ptrAt x7 1).bind fun v10 =>
 (h.ld1 v10).bind fun v11 =>
 (nilc x0).bind fun v12 =>
 (ptrAt v12 8).bind fun v13 =>
 (h.ld1 v13).bind fun v14 =>
 (indexAV 2 v14 (.int .i64 x1)).bind fun v15 =>
 (ptrAt v15 1).bind fun v16 =>
 (h.ld1 v16).bind fun v17 =>
 (indexAV 1 v17 (.int .i64 0)).bind fun v18 =>
 (h.ld1 v18).bind fun v19 =>
 (M.call 385 [x0, (.int .i64 x1), v11, v19] h).bind fun p20 =>
 (nilc x0).bind fun v21 =>
 (ptrAt v21 8).bind fun v22 =>
 (p20.2.ld1 v22).bind fun v23 =>
 (nilc x0).bind fun v24 =>
 (ptrAt v24 8).bind fun v25 =>
 (p20.2.ld1 v25).bind fun v26 =>
 (indexAV 2 v26 (.int .i64 x1)).bind fun v27 =>
 (ptrAt v27 1).bind fun v28 =>
 (p20.2.ld1 v28).bind fun v29 =>
 (sliceV 1 v29 (some (.int .i64 1)) none none).bind fun v30 =>
 (indexAV 2 v23 (.int .i64 x1)).bind fun v31 =>
 (ptrAt v31 1).bind fun v32 =>
 (p20.2.st 1 v32 v30).bind fun h33 =>
 some (.normal, model_Model_done_c8_O, h33))
 | false => (
 (asI .i64 v1).bind fun n10 =>
 match (decide (n10 = 10)) with
 | true => (
 (nilc x0).bind fun v11 =>
 (ptrAt v11 8).bind fun v12 =>
 (h.ld1 v12).bind fun v13 =>
 (indexAV 2 v13 (.int .i64 x1)).bind fun v14 =>
 (h.st 2 v14 (.agg [(.int .u64 0), .nilsl])).bind fun h15 =>
 some (.normal, model_Model_done_c8_O, h15))
 | false => (
 some (.normal, model_Model_done_c8_O, h))))))))))

def model_Model_done_c8_n (M : Env) (h : H) : Option (V × H) :=
 some ((.bool true), h)

theorem model_Model_done_eq (M : Env) (a0 : V) (a1 : Int) (a2_0 : Int) (a2_1 : Int) (a2_2 : Int) (a2_3 : Int) (a2_4 : Int) (a3_0 : Int) (a3_1 : Int) (a3_2 : Bool) (h : H) : evalF M F.model_Model_done [a0, (.int .i64 a1), (.agg [(.int .i64 a2_0), (.int .i64 a2_1), (.int .u64 a2_2), (.int .u64 a2_3), (.int .u64 a2_4)]), (.agg [(.int .i64 a3_0), (.int .u64 a3_1), (.bool a3_2)])] h = model_Model_done M a0 a1 a2_0 a2_1 a2_2 a2_3 a2_4 a3_0 a3_1 a3_2 h := by kernel_rfl

theorem model_Model_done_c1_eq (M : Env) (x0 : V) (x1 : Int) (x6 : V) (x7 : V) (x9 : Int) (x10 : Bool) (x11 : Bool) (h : H) : model_Model_done_c1_B M (model_Model_done_c1_E x0 (.int .i64 x1) x6 x7 (.int .i64 x9) (.bool x10) (.bool x11)) h = model_Model_done_c1_S M x0 x1 x6 x7 x9 x10 x11 h := by kernel_rfl

theorem model_Model_done_c1_n_eq (M : Env) (x0 : V) (x1 : Int) (x6 : V) (x7 : V) (x9 : Int) (x10 : Bool) (x11 : Bool) (h : H) : model_Model_done_K1 M .normal (model_Model_done_c1_O x0 (.int .i64 x1) x6 x7 (.int .i64 x9) (.bool x10) (.bool x11)) h = model_Model_done_c1_n M x0 x1 x6 x7 x9 x10 x11 h := by kernel_rfl

theorem model_Model_done_c3_eq (M : Env) (x0 : V) (x1 : Int) (x6 : V) (x7 : V) (x9 : Int) (x10 : Bool) (x11 : Bool) (x18 : Int) (h : H) : model_Model_done_c3_B M (model_Model_done_c3_E x0 (.int .i64 x1) x6 x7 (.int .i64 x9) (.bool x10) (.bool x11) (.int .i64 x18)) h = model_Model_done_c3_S M x0 x1 x6 x7 x9 x10 x11 x18 h := by kernel_rfl

theorem model_Model_done_c3_n_eq (M : Env) (x0 : V) (x1 : Int) (x6 : V) (x7 : V) (x9 : Int) (x10 : Bool) (x11 : Bool) (x18 : Int) (x19 : Bool) (h : H) : model_Model_done_K4 M .normal (model_Model_done_c3_O x0 (.int .i64 x1) x6 x7 (.int .i64 x9) (.bool x10) (.bool x11) (.int .i64 x18) (.bool x19)) h = model_Model_done_c3_n M x0 x1 x6 x7 x9 x10 x11 x18 x19 h := by kernel_rfl

theorem model_Model_done_c6_eq (M : Env) (x0 : V) (x1 : Int) (x6 : V) (x7 : V) (x9 : Int) (x10 : Bool) (x11 : Bool) (h : H) : model_Model_done_c6_B M (model_Model_done_c6_E x0 (.int .i64 x1) x6 x7 (.int .i64 x9) (.bool x10) (.bool x11)) h = model_Model_done_c6_S M x0 x1 x6 x7 x9 x10 x11 h := by kernel_rfl

theorem model_Model_done_c6_n_eq (M : Env) (x0 : V) (x1 : Int) (x6 : V) (x7 : V) (x9 : Int) (x10 : Bool) (x11 : Bool) (x74 : Bool) (h : H) : model_Model_done_K6 M .normal (model_Model_done_c6_O x0 (.int .i64 x1) x6 x7 (.int .i64 x9) (.bool x10) (.bool x11) (.bool x74)) h = model_Model_done_c6_n M x0 x1 x6 x7 x9 x10 x11 x74 h := by kernel_rfl

theorem model_Model_done_c8_eq (M : Env) (x0 : V) (x1 : Int) (x6 : V) (x7 : V) (x9 : Int) (x10 : Bool) (x11 : Bool) (h : H) : model_Model_done_c8_B M (model_Model_done_c8_E x0 (.int .i64 x1) x6 x7 (.int .i64 x9) (.bool x10) (.bool x11)) h = model_Model_done_c8_S M x0 x1 x6 x7 x9 x10 x11 h := by kernel_rfl

theorem model_Model_done_c8_n_eq (M : Env) (h : H) : model_Model_done_K7 M .normal model_Model_done_c8_O h = model_Model_done_c8_n M h := by kernel_rfl

end Wm.S
end

section
namespace Wm.S
open Wm
set_option maxRecDepth 100000
set_option linter.unusedVariables false

def model_Model_Does_c1_B (M : Env) : List V → H → Option (AX × List V × H) :=
 fun env h => evalC M F.model_Model_Does_c1 env h fun x env h => some (x, keepOf [0, 1, 6, 7, 9, 10] 0 env, h)

def model_Model_Does_c1_E (x0 x1 x6 x7 x10 : V) : List V := x0 :: x1 :: dd 4 (x6 :: x7 :: dd 2 (x10 :: dd 74 []))
def model_Model_Does_c1_O (x0 x1 x6 x7 x9 x10 : V) : List V := x0 :: x1 :: dd 4 (x6 :: x7 :: dd 1 (x9 :: x10 :: dd 74 []))

def model_Model_Does_c3_B (M : Env) : List V → H → Option (AX × List V × H) :=
 fun env h => evalC M F.model_Model_Does_c3 env h fun x env h => some (x, keepOf [0, 1, 6, 7, 10, 22] 0 env, h)

def model_Model_Does_c3_E (x0 x1 x6 x7 x10 : V) : List V := x0 :: x1 :: dd 4 (x6 :: x7 :: dd 2 (x10 :: dd 74 []))
def model_Model_Does_c3_O (x0 x1 x6 x7 x10 x22 : V) : List V := x0 :: x1 :: dd 4 (x6 :: x7 :: dd 2 (x10 :: dd 11 (x22 :: dd 62 [])))

def model_Model_Does_K0 (M : Env) : AX → List V → H → Option (V × H) :=
 fun x env h => fin F.model_Model_Does x env h

def model_Model_Does_K1 (M : Env) : AX → List V → H → Option (V × H) :=
 fun x env h => match x with | .normal => evalC M F.model_Model_Does_c0 env h (fun x env h => model_Model_Does_K0 M x env h) | x => model_Model_Does_K0 M x env h

def model_Model_Does_K2 (M : Env) : AX → List V → H → Option (AX × List V × H) :=
 fun x env h => some (x, keepOf [0, 1, 6, 7, 9, 10] 0 env, h)

def model_Model_Does_K3 (M : Env) : AX → List V → H → Option (AX × List V × H) :=
 fun x env h => match x with | .exit j => (match Nat.beq j 0 with | true => model_Model_Does_K2 M .normal env h | false => model_Model_Does_K2 M (.exit j) env h) | x => model_Model_Does_K2 M x env h

def model_Model_Does_K4 (M : Env) : AX → List V → H → Option (AX × List V × H) :=
 fun x env h => match x with | .normal => evalC M F.model_Model_Does_c2 env h (fun x env h => model_Model_Does_K3 M x env h) | x => model_Model_Does_K3 M x env h

def model_Model_Does (M : Env) (a0 : V) (a1 : Int) (a2_0 : Int) (a2_1 : Int) (a2_2 : Int) (a2_3 : Int) (a2_4 : Int) (a3_0 : Int) (a3_1 : Int) (a3_2 : Bool) (h : H) : Option (V × H) :=
 let h0 := h.new (.cells [(.int .i64 a2_0), (.int .i64 a2_1), (.int .u64 a2_2), (.int .u64 a2_3), (.int .u64 a2_4)] .rw)
 let h1 := h0.new (.cells [(.int .i64 a3_0), (.int .u64 a3_1), (.bool a3_2)] .rw)
 (M.call 279 [a0, (.int .i64 a1)] h1).bind fun p2 =>
 (asB p2.1).bind fun b3 =>
 match (!b3) with
 | true => (
 some ((.bool false), p2.2))
 | false => (
 (model_Model_Does_c1_B M (model_Model_Does_c1_E a0 (.int .i64 a1) (.ptr h.next 0) (.ptr h0.next 0) (.bool false)) p2.2).bind fun p4 => model_Model_Does_K1 M p4.1 p4.2.1 p4.2.2)

def model_Model_Does_c1_S (M : Env) (x0 : V) (x1 : Int) (x6 : V) (x7 : V) (x10 : Bool) (h : H) : Option (AX × List V × H) :=
 (model_Model_Does_c3_B M (model_Model_Does_c3_E x0 (.int .i64 x1) x6 x7 (.bool x10)) h).bind fun p0 => model_Model_Does_K4 M p0.1 p0.2.1 p0.2.2

def model_Model_Does_c1_n (M : Env) (x0 : V) (x1 : Int) (x6 : V) (x7 : V) (x9 : Int) (x10 : Bool) (h : H) : Option (V × H) :=
 match (!decide (x9 = 0)) with
 | true => (
 (h.ldN 3 x7).bind fun v0 =>
 (eqV (.agg [(0, .int), (1, .int), (2, .bool)]) v0 (.agg [(.int .i64 x9), (.int .u64 0), (.bool false)])).bind fun b1 =>
 some ((.bool b1), h))
 | false => (
 (ptrAt x7 0).bind fun v0 =>
 (h.ld1 v0).bind fun v1 =>
 (asI .i64 v1).bind fun n2 =>
 match (decide (n2 = 4)) with
 | true => (
 match x10 with
 | true => (
 (h.ldN 3 x7).bind fun v3 =>
 (eqV (.agg [(0, .int), (1, .int), (2, .bool)]) v3 (.agg [(.int .i64 4), (.int .u64 0), (.bool false)])).bind fun b4 =>
 match b4 with
 | true => (
 (ptrAt x6 0).bind fun v5 =>
 (h.ld1 v5).bind fun v6 =>
 (asI .i64 v6).bind fun n7 =>
 match (decide (n7 = 5)) with
 | true => (
 (h.ldN 5 x6).bind fun v8 =>
 (M.call 283 [x0, (.int .i64 x1), v8] h).bind fun p9 =>
 (asB p9.1).bind fun b10 =>
 some ((.bool (!(!b10))), p9.2))
 | false => (
 some ((.bool true), h)))
 | false => (
 some ((.bool false), h)))
 | false => (
 some ((.bool false), h)))
 | false => (
 (ptrAt x7 0).bind fun v3 =>
 (h.ld1 v3).bind fun v4 =>
 (asI .i64 v4).bind fun n5 =>
 match (decide (n5 = 0)) with
 | true => (
 (h.ldN 5 x6).bind fun v6 =>
 (h.ldN 3 x7).bind fun v7 =>
 (M.call 284 [x0, (.int .i64 x1), v6, v7] h).bind fun p8 =>
 some (p8.1, p8.2))
 | false => (
 some ((.bool false), h))))

def model_Model_Does_c3_S (M : Env) (x0 : V) (x1 : Int) (x6 : V) (x7 : V) (x10 : Bool) (h : H) : Option (AX × List V × H) :=
 (ptrAt x6 0).bind fun v0 =>
 (h.ld1 v0).bind fun v1 =>
 (asI .i64 v1).bind fun n2 =>
 match (decide (n2 < 1)) with
 | true => (
 some (.normal, (model_Model_Does_c3_O x0 (.int .i64 x1) x6 x7 (.bool x10) (.bool true)), h))
 | false => (
 (ptrAt x6 0).bind fun v3 =>
 (h.ld1 v3).bind fun v4 =>
 (asI .i64 v4).bind fun n5 =>
 some (.normal, (model_Model_Does_c3_O x0 (.int .i64 x1) x6 x7 (.bool x10) (.bool (decide (10 < n5)))), h))

def model_Model_Does_c3_n (M : Env) (x0 : V) (x1 : Int) (x6 : V) (x7 : V) (x10 : Bool) (x22 : Bool) (h : H) : Option (AX × List V × H) :=
 match x22 with
 | true => (
 some (.normal, (model_Model_Does_c1_O x0 (.int .i64 x1) x6 x7 (.int .i64 8) (.bool x10)), h))
 | false => (
 (ptrAt x6 0).bind fun v0 =>
 (h.ld1 v0).bind fun v1 =>
 (asI .i64 v1).bind fun n2 =>
 match (decide (n2 = 1)) with
 | true => (
 (h.ldN 5 x6).bind fun v3 =>
 (M.call 280 [x0, (.int .i64 x1), v3] h).bind fun p4 =>
 some (.normal, (model_Model_Does_c1_O x0 (.int .i64 x1) x6 x7 p4.1 (.bool true)), p4.2))
 | false => (
 (ptrAt x6 0).bind fun v3 =>
 (h.ld1 v3).bind fun v4 =>
 (M.call 82 [v4] h).bind fun p5 =>
 (asB p5.1).bind fun b6 =>
 match b6 with
 | true => (
 (p5.2.ldN 5 x6).bind fun v7 =>
 (M.call 281 [x0, (.int .i64 x1), v7] p5.2).bind fun p8 =>
 some (.normal, (model_Model_Does_c1_O x0 (.int .i64 x1) x6 x7 p8.1 (.bool x10)), p8.2))
 | false => (
 (p5.2.ldN 5 x6).bind fun v7 =>
 (ptrAt x6 0).bind fun v8 =>
 (p5.2.ld1 v8).bind fun v9 =>
 (M.call 282 [x0, (.int .i64 x1), v7] p5.2).bind fun p10 =>
 match ckB (p10.2.ld1 v8) v9 with
 | true => (
 (M.call 83 [v9] p10.2).bind fun p11 =>
 some (.normal, (model_Model_Does_c1_O x0 (.int .i64 x1) x6 x7 p10.1 p11.1), p11.2))
 | false => none)))

theorem model_Model_Does_eq (M : Env) (a0 : V) (a1 : Int) (a2_0 : Int) (a2_1 : Int) (a2_2 : Int) (a2_3 : Int) (a2_4 : Int) (a3_0 : Int) (a3_1 : Int) (a3_2 : Bool) (h : H) : evalF M F.model_Model_Does [a0, (.int .i64 a1), (.agg [(.int .i64 a2_0), (.int .i64 a2_1), (.int .u64 a2_2), (.int .u64 a2_3), (.int .u64 a2_4)]), (.agg [(.int .i64 a3_0), (.int .u64 a3_1), (.bool a3_2)])] h = model_Model_Does M a0 a1 a2_0 a2_1 a2_2 a2_3 a2_4 a3_0 a3_1 a3_2 h := by kernel_rfl

theorem model_Model_Does_c1_eq (M : Env) (x0 : V) (x1 : Int) (x6 : V) (x7 : V) (x10 : Bool) (h : H) : model_Model_Does_c1_B M (model_Model_Does_c1_E x0 (.int .i64 x1) x6 x7 (.bool x10)) h = model_Model_Does_c1_S M x0 x1 x6 x7 x10 h := by kernel_rfl

theorem model_Model_Does_c1_n_eq (M : Env) (x0 : V) (x1 : Int) (x6 : V) (x7 : V) (x9 : Int) (x10 : Bool) (h : H) : model_Model_Does_K1 M .normal (model_Model_Does_c1_O x0 (.int .i64 x1) x6 x7 (.int .i64 x9) (.bool x10)) h = model_Model_Does_c1_n M x0 x1 x6 x7 x9 x10 h := by kernel_rfl

theorem model_Model_Does_c3_eq (M : Env) (x0 : V) (x1 : Int) (x6 : V) (x7 : V) (x10 : Bool) (h : H) : model_Model_Does_c3_B M (model_Model_Does_c3_E x0 (.int .i64 x1) x6 x7 (.bool x10)) h = model_Model_Does_c3_S M x0 x1 x6 x7 x10 h := by kernel_rfl

theorem model_Model_Does_c3_n_eq (M : Env) (x0 : V) (x1 : Int) (x6 : V) (x7 : V) (x10 : Bool) (x22 : Bool) (h : H) : model_Model_Does_K4 M .normal (model_Model_Does_c3_O x0 (.int .i64 x1) x6 x7 (.bool x10) (.bool x22)) h = model_Model_Does_c3_n M x0 x1 x6 x7 x10 x22 h := by kernel_rfl

end Wm.S
end

section
namespace Wm.S
open Wm
set_option maxRecDepth 100000
set_option linter.unusedVariables false

def model_New_c1_B (M : Env) : List V → H → Option (AX × List V × H) :=
 fun env h => evalC M F.model_New_c1 env h fun x env h => match x with
 | .normal => some (.normal, keepOf [3, 15, 16] 0 env, h)
 | x => some (x, keepOf [3] 0 env, h)

def model_New_c1_E (x3 x15 x16 : V) : List V := dd 3 (x3 :: dd 11 (x15 :: x16 :: dd 13 []))
def model_New_c1_O (x3 : V) : List V := dd 3 (x3 :: dd 26 [])

def model_New_K0 (M : Env) : AX → List V → H → Option (V × H) :=
 fun x env h => fin F.model_New x env h

def model_New_K1 (M : Env) : AX → List V → H → Option (V × H) :=
 fun x env h => match x with | .normal => evalC M F.model_New_c0 env h (fun x env h => model_New_K0 M x env h) | x => model_New_K0 M x env h

def model_New_K2 (M : Env) : AX → List V → H → Option (V × H) :=
 fun x env h => match x with | .exit j => (match Nat.beq j 0 with | true => model_New_K1 M .normal env h | false => model_New_K1 M (.exit j) env h) | x => model_New_K1 M x env h

def model_New (M : Env) (a0_0 : Int) (a0_1 : Int) (a0_2 : Int) (a0_3 : Int) (a0_4 : Int) (a0_5 : Int) (h : H) : Option (V × H) :=
 let h0 := h.new (.cells [(.int .i64 a0_0), (.int .i64 a0_1), (.int .i64 a0_2), (.int .i64 a0_3), (.int .i64 a0_4), (.int .i64 a0_5)] .rw)
 (h0.ldN 6 (.ptr h.next 0)).bind fun v1 =>
 (M.call 263 [v1] h0).bind fun p2 =>
 (asB p2.1).bind fun b3 =>
 match (!b3) with
 | true => (
 some (.nilp, p2.2))
 | false => (
 (p2.2.ldN 6 (.ptr h.next 0)).bind fun v4 =>
 (p2.2.ld1 (.ptr h.next 2)).bind fun v5 =>
 (asI .i64 v5).bind fun n6 =>
 (asI .i64 v5).bind fun n7 =>
 (p2.2.mkSl 2 32 [(.int .u64 0), .nilsl] n6 n7).bind fun p8 =>
 let h9 := p8.2.new (.map [])
 (fill [(.int .i64 0), (.int .i64 0), (.int .i64 0), (.int .i64 0), (.int .i64 0), (.int .i64 0), .nilsl, .nilsl, .nilsl, .nilmap] [] [(0, 6, .c v4), (8, 1, .c p8.1), (9, 1, .c (.map p8.2.next))]).bind fun cs10 =>
 (boxc (.agg cs10)).bind fun cs11 =>
 let h12 := h9.new (.cells cs11 .rw)
 (h12.ld1 (.ptr h.next 2)).bind fun v13 =>
 (M.loop (model_New_c1_B M) (model_New_c1_E (.ptr h9.next 0) v13 (.int .i64 0)) h12).bind fun p14 => model_New_K2 M p14.1 p14.2.1 p14.2.2)

def model_New_c1_S (M : Env) (x3 : V) (x15 : Int) (x16 : Int) (h : H) : Option (AX × List V × H) :=
 match (decide (x16 < x15)) with
 | true => (
 (nilc x3).bind fun v0 =>
 (ptrAt v0 7).bind fun v1 =>
 (h.ld1 v1).bind fun v2 =>
 let h3 := h.new (.map [])
 let h4 := h3.new (.cells [(.map h.next)] .rw)
 (h4.append 1 8 v2 (.sl h3.next 0 1 (.ex 1))).bind fun p5 =>
 (nilc x3).bind fun v6 =>
 (ptrAt v6 7).bind fun v7 =>
 (p5.2.st 1 v7 p5.1).bind fun h8 =>
 some (.normal, (model_New_c1_E x3 (.int .i64 x15) (.int .i64 (wr .i64 (x16 + 1)))), h8))
 | false => (
 some ((.exit 0), (model_New_c1_O x3), h))

def model_New_c1_e0 (M : Env) (x3 : V) (h : H) : Option (V × H) :=
 some (x3, h)

theorem model_New_eq (M : Env) (a0_0 : Int) (a0_1 : Int) (a0_2 : Int) (a0_3 : Int) (a0_4 : Int) (a0_5 : Int) (h : H) : evalF M F.model_New [(.agg [(.int .i64 a0_0), (.int .i64 a0_1), (.int .i64 a0_2), (.int .i64 a0_3), (.int .i64 a0_4), (.int .i64 a0_5)])] h = model_New M a0_0 a0_1 a0_2 a0_3 a0_4 a0_5 h := by kernel_rfl

theorem model_New_c1_eq (M : Env) (x3 : V) (x15 : Int) (x16 : Int) (h : H) : model_New_c1_B M (model_New_c1_E x3 (.int .i64 x15) (.int .i64 x16)) h = model_New_c1_S M x3 x15 x16 h := by kernel_rfl

theorem model_New_c1_e0_eq (M : Env) (x3 : V) (h : H) : model_New_K2 M (.exit 0) (model_New_c1_O x3) h = model_New_c1_e0 M x3 h := by kernel_rfl

end Wm.S
end

section
namespace Wm.S
open Wm
set_option maxRecDepth 100000
set_option linter.unusedVariables false


def withyref17_New (M : Env) (a0_0 : Int) (a0_1 : Int) (a0_2 : Int) (a0_3 : Int) (a0_4 : Int) (a0_5 : Int) (h : H) : Option (V × H) :=
 let h0 := h.new (.cells [(.int .i64 a0_0), (.int .i64 a0_1), (.int .i64 a0_2), (.int .i64 a0_3), (.int .i64 a0_4), (.int .i64 a0_5)] .rw)
 let h1 := h0.new (.cells [(.int .i64 0), (.int .i64 0), (.int .i64 0), (.int .i64 0), (.int .i64 0), (.int .i64 0), .nilsl, .nilsl, .nilsl, .nilsl, .nilsl] .rw)
 (h1.ldN 6 (.ptr h.next 0)).bind fun v2 =>
 (h1.ld1 (.ptr h.next 2)).bind fun v3 =>
 (h1.ld1 (.ptr h.next 2)).bind fun v4 =>
 (asI .i64 v3).bind fun n5 =>
 (asI .i64 v3).bind fun n6 =>
 (h1.mkSl 1 8 [(.int .u64 0)] n5 n6).bind fun p7 =>
 (asI .i64 v4).bind fun n8 =>
 (asI .i64 v4).bind fun n9 =>
 (p7.2.mkSl 1 24 [.nilsl] n8 n9).bind fun p10 =>
 (fill [(.int .i64 0), (.int .i64 0), (.int .i64 0), (.int .i64 0), (.int .i64 0), (.int .i64 0), .nilsl, .nilsl, .nilsl, .nilsl, .nilsl] [] [(0, 6, .c v2), (8, 1, .c p7.1), (9, 1, .c p10.1)]).bind fun cs11 =>
 (p10.2.st 11 (.ptr h0.next 0) (.agg cs11)).bind fun h12 =>
 finV h12 [.cell true 11 (.ptr h0.next 0)]

theorem withyref17_New_eq (M : Env) (a0_0 : Int) (a0_1 : Int) (a0_2 : Int) (a0_3 : Int) (a0_4 : Int) (a0_5 : Int) (h : H) : evalF M F.withyref17_New [(.agg [(.int .i64 a0_0), (.int .i64 a0_1), (.int .i64 a0_2), (.int .i64 a0_3), (.int .i64 a0_4), (.int .i64 a0_5)])] h = withyref17_New M a0_0 a0_1 a0_2 a0_3 a0_4 a0_5 h := by kernel_rfl

end Wm.S
end

section
namespace Wm.S
open Wm
set_option maxRecDepth 100000
set_option linter.unusedVariables false


def withylaw17_config (M : Env) (h : H) : Option (V × H) :=
 let h0 := h.new (.cells [(.int .i64 0), (.int .i64 0), (.int .i64 0), (.int .i64 0), (.int .i64 0), (.int .i64 0)] .rw)
 (h0.st 6 (.ptr h.next 0) (.agg [(.int .i64 4), (.int .i64 2), (.int .i64 2), (.int .i64 3), (.int .i64 9), (.int .i64 0)])).bind fun h1 =>
 finV h1 [.cell true 6 (.ptr h.next 0)]

theorem withylaw17_config_eq (M : Env) (h : H) : evalF M F.withylaw17_config [] h = withylaw17_config M h := by kernel_rfl

end Wm.S
end

section
namespace Wm.S
open Wm
set_option maxRecDepth 100000
set_option linter.unusedVariables false


def withylaw17_given (M : Env) (a0 : V) (a1 : Int) (h : H) : Option (V × H) :=
 match (decide (a1 < 0)) with
 | true => (
 some ((.int .u64 0), h))
 | false => (
 (lenSl a0).bind fun n0 =>
 match (decide (((n0 : Nat) : Int) = 0)) with
 | true => (
 some ((.int .u64 0), h))
 | false => (
 (lenSl a0).bind fun n1 =>
 (lenSl a0).bind fun n2 =>
 (arith .rem .i64 a1 ((n2 : Nat) : Int)).bind fun n3 =>
 (indexAV 1 a0 (.int .i64 (wr .i64 ((wr .i64 (((n1 : Nat) : Int) - 1)) - n3)))).bind fun v4 =>
 (h.ld1 v4).bind fun v5 =>
 some (v5, h)))

theorem withylaw17_given_eq (M : Env) (a0 : V) (a1 : Int) (h : H) : evalF M F.withylaw17_given [a0, (.int .i64 a1)] h = withylaw17_given M a0 a1 h := by kernel_rfl

end Wm.S
end

section
namespace Wm.S
open Wm
set_option maxRecDepth 100000
set_option linter.unusedVariables false


def withylaw17_call (M : Env) (a0_0 : Int) (a0_1 : Int) (a0_2 : Int) (a0_3 : Int) (a0_4 : Int) (a0_5 : Int) (a0_6 : V) (a0_7 : V) (a0_8 : V) (a0_9 : V) (a0_10 : V) (a1_0 : Int) (a1_1 : Int) (a1_2 : Int) (a1_3 : Int) (a1_4 : Int) (a1_5 : Int) (a1_6 : Int) (a1_7 : Int) (a1_8 : Int) (a1_9 : Bool) (h : H) : Option (V × H) :=
 let h0 := h.new (.cells [(.int .i64 a0_0), (.int .i64 a0_1), (.int .i64 a0_2), (.int .i64 a0_3), (.int .i64 a0_4), (.int .i64 a0_5), a0_6, a0_7, a0_8, a0_9, a0_10] .rw)
 let h1 := h0.new (.cells [(.int .i64 a1_0), (.int .i64 a1_1), (.int .i64 a1_2), (.int .i64 a1_3), (.int .i64 a1_4), (.int .i64 a1_5), (.int .i64 a1_6), (.int .i64 a1_7), (.int .u64 a1_8), (.bool a1_9)] .rw)
 let h2 := h1.new (.cells [(.int .i64 0), (.int .i64 0), (.int .u64 0), (.int .u64 0), (.int .u64 0)] .rw)
 (h2.ld1 (.ptr h0.next 1)).bind fun v3 =>
 (h2.ld1 (.ptr h0.next 2)).bind fun v4 =>
 (h2.ld1 (.ptr h.next 10)).bind fun v5 =>
 (h2.ld1 (.ptr h0.next 3)).bind fun v6 =>
 (h2.ld1 (.ptr h.next 10)).bind fun v7 =>
 (h2.ld1 (.ptr h0.next 4)).bind fun v8 =>
 (h2.ld1 (.ptr h.next 10)).bind fun v9 =>
 (h2.ld1 (.ptr h0.next 5)).bind fun v10 =>
 (M.call 272 [v5, v6] h2).bind fun p11 =>
 match ckB (p11.2.ld1 (.ptr h0.next 5)) v10 with
 | true => (
 match ckB (p11.2.ld1 (.ptr h.next 10)) v9 with
 | true => (
 match ckB (p11.2.ld1 (.ptr h0.next 4)) v8 with
 | true => (
 match ckB (p11.2.ld1 (.ptr h.next 10)) v7 with
 | true => (
 match ckB (p11.2.ld1 (.ptr h0.next 2)) v4 with
 | true => (
 match ckB (p11.2.ld1 (.ptr h0.next 1)) v3 with
 | true => (
 (M.call 272 [v7, v8] p11.2).bind fun p12 =>
 match ckB (p12.2.ld1 (.ptr h0.next 5)) v10 with
 | true => (
 match ckB (p12.2.ld1 (.ptr h.next 10)) v9 with
 | true => (
 match ckB (p12.2.ld1 (.ptr h0.next 2)) v4 with
 | true => (
 match ckB (p12.2.ld1 (.ptr h0.next 1)) v3 with
 | true => (
 (M.call 272 [v9, v10] p12.2).bind fun p13 =>
 match ckB (p13.2.ld1 (.ptr h0.next 2)) v4 with
 | true => (
 match ckB (p13.2.ld1 (.ptr h0.next 1)) v3 with
 | true => (
 (fill [(.int .i64 0), (.int .i64 0), (.int .u64 0), (.int .u64 0), (.int .u64 0)] [] [(0, 1, .c v3), (1, 1, .c v4), (2, 1, .c p11.1), (3, 1, .c p12.1), (4, 1, .c p13.1)]).bind fun cs14 =>
 (p13.2.st 5 (.ptr h1.next 0) (.agg cs14)).bind fun h15 =>
 finV h15 [.cell true 5 (.ptr h1.next 0)])
 | false => none)
 | false => none)
 | false => none)
 | false => none)
 | false => none)
 | false => none)
 | false => none)
 | false => none)
 | false => none)
 | false => none)
 | false => none)
 | false => none

theorem withylaw17_call_eq (M : Env) (a0_0 : Int) (a0_1 : Int) (a0_2 : Int) (a0_3 : Int) (a0_4 : Int) (a0_5 : Int) (a0_6 : V) (a0_7 : V) (a0_8 : V) (a0_9 : V) (a0_10 : V) (a1_0 : Int) (a1_1 : Int) (a1_2 : Int) (a1_3 : Int) (a1_4 : Int) (a1_5 : Int) (a1_6 : Int) (a1_7 : Int) (a1_8 : Int) (a1_9 : Bool) (h : H) : evalF M F.withylaw17_call [(.agg [(.int .i64 a0_0), (.int .i64 a0_1), (.int .i64 a0_2), (.int .i64 a0_3), (.int .i64 a0_4), (.int .i64 a0_5), a0_6, a0_7, a0_8, a0_9, a0_10]), (.agg [(.int .i64 a1_0), (.int .i64 a1_1), (.int .i64 a1_2), (.int .i64 a1_3), (.int .i64 a1_4), (.int .i64 a1_5), (.int .i64 a1_6), (.int .i64 a1_7), (.int .u64 a1_8), (.bool a1_9)])] h = withylaw17_call M a0_0 a0_1 a0_2 a0_3 a0_4 a0_5 a0_6 a0_7 a0_8 a0_9 a0_10 a1_0 a1_1 a1_2 a1_3 a1_4 a1_5 a1_6 a1_7 a1_8 a1_9 h := by kernel_rfl

end Wm.S
end

section
namespace Wm.S
open Wm
set_option maxRecDepth 100000
set_option linter.unusedVariables false


def withylaw17_answer (M : Env) (a0_0 : Int) (a0_1 : Int) (a0_2 : Int) (a0_3 : Int) (a0_4 : Int) (a0_5 : Int) (a0_6 : V) (a0_7 : V) (a0_8 : V) (a0_9 : V) (a0_10 : V) (a1_0 : Int) (a1_1 : Int) (a1_2 : Int) (a1_3 : Int) (a1_4 : Int) (a1_5 : Int) (a1_6 : Int) (a1_7 : Int) (a1_8 : Int) (a1_9 : Bool) (a2_0 : Int) (a2_1 : Int) (a2_2 : Int) (a2_3 : Int) (a2_4 : Int) (a3 : Int) (h : H) : Option (V × H) :=
 let h0 := h.new (.cells [(.int .i64 a0_0), (.int .i64 a0_1), (.int .i64 a0_2), (.int .i64 a0_3), (.int .i64 a0_4), (.int .i64 a0_5), a0_6, a0_7, a0_8, a0_9, a0_10] .rw)
 let h1 := h0.new (.cells [(.int .i64 a1_0), (.int .i64 a1_1), (.int .i64 a1_2), (.int .i64 a1_3), (.int .i64 a1_4), (.int .i64 a1_5), (.int .i64 a1_6), (.int .i64 a1_7), (.int .u64 a1_8), (.bool a1_9)] .rw)
 let h2 := h1.new (.cells [(.int .i64 a2_0), (.int .i64 a2_1), (.int .u64 a2_2), (.int .u64 a2_3), (.int .u64 a2_4)] .rw)
 let h3 := h2.new (.cells [(.int .i64 0), (.int .u64 0), (.bool false)] .rw)
 (h3.ld1 (.ptr h0.next 6)).bind fun v4 =>
 (asI .i64 v4).bind fun n5 =>
 match (decide (n5 = 1)) with
 | true => (
 (h3.st 3 (.ptr h2.next 0) (.agg [(.int .i64 4), (.int .u64 0), (.bool false)])).bind fun h6 =>
 finV h6 [.cell true 3 (.ptr h2.next 0)])
 | false => (
 (h3.ld1 (.ptr h0.next 6)).bind fun v6 =>
 (asI .i64 v6).bind fun n7 =>
 match (decide (n7 = 2)) with
 | true => (
 (h3.ldN 3 (.ptr h0.next 7)).bind fun v8 =>
 (h3.st 3 (.ptr h2.next 0) v8).bind fun h9 =>
 finV h9 [.cell true 3 (.ptr h2.next 0)])
 | false => (
 (h3.ld1 (.ptr h0.next 0)).bind fun v8 =>
 (asI .i64 v8).bind fun n9 =>
 match (decide (n9 < 0)) with
 | true => (
 (h3.ldN 3 (.ptr h0.next 7)).bind fun v10 =>
 (h3.st 3 (.ptr h2.next 0) v10).bind fun h11 =>
 finV h11 [.cell true 3 (.ptr h2.next 0)])
 | false => (
 (h3.ld1 (.ptr h0.next 0)).bind fun v10 =>
 (h3.ld1 (.ptr h.next 2)).bind fun v11 =>
 (asI .i64 v10).bind fun n12 =>
 (asI .i64 v11).bind fun n13 =>
 match (decide (n13 ≤ n12)) with
 | true => (
 (h3.ldN 3 (.ptr h0.next 7)).bind fun v14 =>
 (h3.st 3 (.ptr h2.next 0) v14).bind fun h15 =>
 finV h15 [.cell true 3 (.ptr h2.next 0)])
 | false => (
 (h3.ldN 11 (.ptr h.next 0)).bind fun v14 =>
 (h3.ld1 (.ptr h0.next 0)).bind fun v15 =>
 (h3.ldN 5 (.ptr h1.next 0)).bind fun v16 =>
 (M.call 273 [v14, v15, v16, (.int .u64 (wr .u64 (wr .i64 (1000 + a3))))] h3).bind fun p17 =>
 (p17.2.st 3 (.ptr h2.next 0) p17.1).bind fun h18 =>
 finV h18 [.cell true 3 (.ptr h2.next 0)]))))

theorem withylaw17_answer_eq (M : Env) (a0_0 : Int) (a0_1 : Int) (a0_2 : Int) (a0_3 : Int) (a0_4 : Int) (a0_5 : Int) (a0_6 : V) (a0_7 : V) (a0_8 : V) (a0_9 : V) (a0_10 : V) (a1_0 : Int) (a1_1 : Int) (a1_2 : Int) (a1_3 : Int) (a1_4 : Int) (a1_5 : Int) (a1_6 : Int) (a1_7 : Int) (a1_8 : Int) (a1_9 : Bool) (a2_0 : Int) (a2_1 : Int) (a2_2 : Int) (a2_3 : Int) (a2_4 : Int) (a3 : Int) (h : H) : evalF M F.withylaw17_answer [(.agg [(.int .i64 a0_0), (.int .i64 a0_1), (.int .i64 a0_2), (.int .i64 a0_3), (.int .i64 a0_4), (.int .i64 a0_5), a0_6, a0_7, a0_8, a0_9, a0_10]), (.agg [(.int .i64 a1_0), (.int .i64 a1_1), (.int .i64 a1_2), (.int .i64 a1_3), (.int .i64 a1_4), (.int .i64 a1_5), (.int .i64 a1_6), (.int .i64 a1_7), (.int .u64 a1_8), (.bool a1_9)]), (.agg [(.int .i64 a2_0), (.int .i64 a2_1), (.int .u64 a2_2), (.int .u64 a2_3), (.int .u64 a2_4)]), (.int .i64 a3)] h = withylaw17_answer M a0_0 a0_1 a0_2 a0_3 a0_4 a0_5 a0_6 a0_7 a0_8 a0_9 a0_10 a1_0 a1_1 a1_2 a1_3 a1_4 a1_5 a1_6 a1_7 a1_8 a1_9 a2_0 a2_1 a2_2 a2_3 a2_4 a3 h := by kernel_rfl

end Wm.S
end

section
namespace Wm.S
open Wm
set_option maxRecDepth 100000
set_option linter.unusedVariables false

def withyref17_State_Whole_c1_B (M : Env) : List V → H → Option (AX × List V × H) :=
 fun env h => evalC M F.withyref17_State_Whole_c1 env h fun x env h => some (x, keepOf [3, 4, 6, 8, 10, 11] 0 env, h)

def withyref17_State_Whole_c1_E (x1 x3 x4 x6 x8 x10 : V) : List V := dd 1 (x1 :: dd 1 (x3 :: x4 :: dd 1 (x6 :: dd 1 (x8 :: dd 1 (x10 :: dd 82 [])))))
def withyref17_State_Whole_c1_O (x3 x4 x6 x8 x10 x11 : V) : List V := dd 3 (x3 :: x4 :: dd 1 (x6 :: dd 1 (x8 :: dd 1 (x10 :: x11 :: dd 81 []))))

def withyref17_State_Whole_c4_B (M : Env) : List V → H → Option (AX × List V × H) :=
 fun env h => evalC M F.withyref17_State_Whole_c4 env h fun x env h => some (x, keepOf [3, 8, 11, 89] 0 env, h)

def withyref17_State_Whole_c4_E (x3 x4 x6 x8 x10 x11 : V) : List V := dd 3 (x3 :: x4 :: dd 1 (x6 :: dd 1 (x8 :: dd 1 (x10 :: x11 :: dd 81 []))))
def withyref17_State_Whole_c4_O (x3 x8 x11 x89 : V) : List V := dd 3 (x3 :: dd 4 (x8 :: dd 2 (x11 :: dd 77 (x89 :: dd 3 []))))

def withyref17_State_Whole_K0 (M : Env) : AX → List V → H → Option (V × H) :=
 fun x env h => fin F.withyref17_State_Whole x env h

def withyref17_State_Whole_K1 (M : Env) : AX → List V → H → Option (V × H) :=
 fun x env h => match x with | .normal => evalC M F.withyref17_State_Whole_c0 env h (fun x env h => withyref17_State_Whole_K0 M x env h) | x => withyref17_State_Whole_K0 M x env h

def withyref17_State_Whole_K2 (M : Env) : AX → List V → H → Option (V × H) :=
 fun x env h => match x with | .normal => evalC M F.withyref17_State_Whole_c2 env h (fun x env h => withyref17_State_Whole_K0 M x env h) | x => withyref17_State_Whole_K0 M x env h

def withyref17_State_Whole_K3 (M : Env) : AX → List V → H → Option (V × H) :=
 fun x env h => match x with | .normal => evalC M F.withyref17_State_Whole_c3 env h (fun x env h => withyref17_State_Whole_K2 M x env h) | x => withyref17_State_Whole_K2 M x env h

def withyref17_State_Whole (M : Env) (a0_0 : Int) (a0_1 : Int) (a0_2 : Int) (a0_3 : Int) (a0_4 : Int) (a0_5 : Int) (a0_6 : V) (a0_7 : V) (a0_8 : V) (a0_9 : V) (a0_10 : V) (a1 : Int) (a2_0 : Int) (a2_1 : Int) (a2_2 : Int) (a2_3 : Int) (a2_4 : Int) (a3 : Int) (h : H) : Option (V × H) :=
 let h0 := h.new (.cells [(.int .i64 a0_0), (.int .i64 a0_1), (.int .i64 a0_2), (.int .i64 a0_3), (.int .i64 a0_4), (.int .i64 a0_5), a0_6, a0_7, a0_8, a0_9, a0_10] .rw)
 let h1 := h0.new (.cells [(.int .i64 a2_0), (.int .i64 a2_1), (.int .u64 a2_2), (.int .u64 a2_3), (.int .u64 a2_4)] .rw)
 let h2 := h1.new (.cells [(.int .i64 0), (.int .u64 0), (.bool false)] .rw)
 (h2.ldN 11 (.ptr h.next 0)).bind fun v3 =>
 (h2.ldN 5 (.ptr h0.next 0)).bind fun v4 =>
 (M.call 274 [v3, (.int .i64 a1), v4] h2).bind fun p5 =>
 (asI .i64 p5.1).bind fun n6 =>
 match (!decide (n6 = 0)) with
 | true => (
 (fill [(.int .i64 0), (.int .u64 0), (.bool false)] [] [(0, 1, .c p5.1)]).bind fun cs7 =>
 (p5.2.st 3 (.ptr h1.next 0) (.agg cs7)).bind fun h8 =>
 finV h8 [.cell true 3 (.ptr h1.next 0)])
 | false => (
 (p5.2.ldN 11 (.ptr h.next 0)).bind fun v7 =>
 (p5.2.ld1 (.ptr h0.next 2)).bind fun v8 =>
 (M.call 229 [v7, (.int .i64 a1), v8] p5.2).bind fun p9 =>
 (withyref17_State_Whole_c1_B M (withyref17_State_Whole_c1_E (.int .i64 a1) (.int .u64 a3) (.ptr h.next 0) (.ptr h0.next 0) (.ptr h1.next 0) p9.1) p9.2).bind fun p10 => withyref17_State_Whole_K1 M p10.1 p10.2.1 p10.2.2)

def withyref17_State_Whole_c1_S (M : Env) (x1 : Int) (x3 : Int) (x4 : V) (x6 : V) (x8 : V) (x10 : Int) (h : H) : Option (AX × List V × H) :=
 (ptrAt x6 0).bind fun v0 =>
 (h.ld1 v0).bind fun v1 =>
 (asI .i64 v1).bind fun n2 =>
 match (decide (n2 = 5)) with
 | true => (
 (ptrAt x4 6).bind fun v3 =>
 (h.ld1 v3).bind fun v4 =>
 (indexAV 1 v4 (.int .i64 x10)).bind fun v5 =>
 (h.ld1 v5).bind fun v6 =>
 (ptrAt x6 1).bind fun v7 =>
 (h.ld1 v7).bind fun v8 =>
 (indexAV 1 v6 v8).bind fun v9 =>
 (h.ld1 v9).bind fun v10 =>
 (h.ldN 11 x4).bind fun v11 =>
 (ptrAt x6 4).bind fun v12 =>
 (h.ld1 v12).bind fun v13 =>
 (M.call 229 [v11, (.int .i64 x1), v13] h).bind fun p14 =>
 match ckB (p14.2.ld1 v9) v10 with
 | true => (
 match ckB (p14.2.ld1 v7) v8 with
 | true => (
 match ckB (p14.2.ld1 v5) v6 with
 | true => (
 match ckB (p14.2.ld1 v3) v4 with
 | true => (
 (asI .i64 v10).bind fun n15 =>
 (asI .i64 p14.1).bind fun n16 =>
 match (decide (n15 = n16)) with
 | true => (
 let h17 := p14.2.new (.cells [(.int .i64 0), (.int .u64 0), (.bool false)] .rw)
 (h17.st 3 (.ptr p14.2.next 0) (.agg [(.int .i64 0), (.int .u64 0), (.bool true)])).bind fun h18 =>
 some (.normal, (withyref17_State_Whole_c1_O (.int .u64 x3) x4 x6 x8 (.int .i64 x10) (.ptr p14.2.next 0)), h18))
 | false => (
 (ptrAt x6 0).bind fun v17 =>
 (p14.2.ld1 v17).bind fun v18 =>
 (asI .i64 v18).bind fun n19 =>
 match (decide (n19 = 7)) with
 | true => (
 (p14.2.ldN 11 x4).bind fun v20 =>
 (ptrAt x6 3).bind fun v21 =>
 (p14.2.ld1 v21).bind fun v22 =>
 (M.call 229 [v20, (.int .i64 x1), v22] p14.2).bind fun p23 =>
 (asI .i64 p23.1).bind fun n24 =>
 let h25 := p23.2.new (.cells [(.int .i64 0), (.int .u64 0), (.bool false)] .rw)
 (h25.st 3 (.ptr p23.2.next 0) (.agg [(.int .i64 0), (.int .u64 0), (.bool (decide (x10 = n24)))])).bind fun h26 =>
 some (.normal, (withyref17_State_Whole_c1_O (.int .u64 x3) x4 x6 x8 (.int .i64 x10) (.ptr p23.2.next 0)), h26))
 | false => (
 let h20 := p14.2.new (.cells [(.int .i64 0), (.int .u64 0), (.bool false)] .rw)
 (h20.st 3 (.ptr p14.2.next 0) (.agg [(.int .i64 0), (.int .u64 0), (.bool false)])).bind fun h21 =>
 some (.normal, (withyref17_State_Whole_c1_O (.int .u64 x3) x4 x6 x8 (.int .i64 x10) (.ptr p14.2.next 0)), h21))))
 | false => none)
 | false => none)
 | false => none)
 | false => none)
 | false => (
 (ptrAt x6 0).bind fun v3 =>
 (h.ld1 v3).bind fun v4 =>
 (asI .i64 v4).bind fun n5 =>
 match (decide (n5 = 7)) with
 | true => (
 (h.ldN 11 x4).bind fun v6 =>
 (ptrAt x6 3).bind fun v7 =>
 (h.ld1 v7).bind fun v8 =>
 (M.call 229 [v6, (.int .i64 x1), v8] h).bind fun p9 =>
 (asI .i64 p9.1).bind fun n10 =>
 let h11 := p9.2.new (.cells [(.int .i64 0), (.int .u64 0), (.bool false)] .rw)
 (h11.st 3 (.ptr p9.2.next 0) (.agg [(.int .i64 0), (.int .u64 0), (.bool (decide (x10 = n10)))])).bind fun h12 =>
 some (.normal, (withyref17_State_Whole_c1_O (.int .u64 x3) x4 x6 x8 (.int .i64 x10) (.ptr p9.2.next 0)), h12))
 | false => (
 let h6 := h.new (.cells [(.int .i64 0), (.int .u64 0), (.bool false)] .rw)
 (h6.st 3 (.ptr h.next 0) (.agg [(.int .i64 0), (.int .u64 0), (.bool false)])).bind fun h7 =>
 some (.normal, (withyref17_State_Whole_c1_O (.int .u64 x3) x4 x6 x8 (.int .i64 x10) (.ptr h.next 0)), h7)))

def withyref17_State_Whole_c1_n (M : Env) (x3 : Int) (x4 : V) (x6 : V) (x8 : V) (x10 : Int) (x11 : V) (h : H) : Option (V × H) :=
 (withyref17_State_Whole_c4_B M (withyref17_State_Whole_c4_E (.int .u64 x3) x4 x6 x8 (.int .i64 x10) x11) h).bind fun p0 => withyref17_State_Whole_K3 M p0.1 p0.2.1 p0.2.2

def withyref17_State_Whole_c4_S (M : Env) (x3 : Int) (x4 : V) (x6 : V) (x8 : V) (x10 : Int) (x11 : V) (h : H) : Option (AX × List V × H) :=
 (ptrAt x6 0).bind fun v0 =>
 (h.ld1 v0).bind fun v1 =>
 (asI .i64 v1).bind fun n2 =>
 match (decide (n2 = 1)) with
 | true => (
 some (.normal, (withyref17_State_Whole_c4_O (.int .u64 x3) x8 x11 (.bool true)), h))
 | false => (
 (ptrAt x6 0).bind fun v3 =>
 (h.ld1 v3).bind fun v4 =>
 (asI .i64 v4).bind fun n5 =>
 match (decide (n5 = 8)) with
 | true => (
 some (.normal, (withyref17_State_Whole_c4_O (.int .u64 x3) x8 x11 (.bool true)), h))
 | false => (
 (ptrAt x6 0).bind fun v6 =>
 (h.ld1 v6).bind fun v7 =>
 (asI .i64 v7).bind fun n8 =>
 match (decide (n8 = 9)) with
 | true => (
 some (.normal, (withyref17_State_Whole_c4_O (.int .u64 x3) x8 x11 (.bool true)), h))
 | false => (
 (ptrAt x6 0).bind fun v9 =>
 (h.ld1 v9).bind fun v10 =>
 (asI .i64 v10).bind fun n11 =>
 match (decide (n11 = 2)) with
 | true => (
 (ptrAt x4 6).bind fun v12 =>
 (h.ld1 v12).bind fun v13 =>
 (indexAV 1 v13 (.int .i64 x10)).bind fun v14 =>
 (h.ld1 v14).bind fun v15 =>
 (ptrAt x6 1).bind fun v16 =>
 (h.ld1 v16).bind fun v17 =>
 (indexAV 1 v15 v17).bind fun v18 =>
 (h.ld1 v18).bind fun v19 =>
 (asI .i64 v19).bind fun n20 =>
 some (.normal, (withyref17_State_Whole_c4_O (.int .u64 x3) x8 x11 (.bool (decide (0 ≤ n20)))), h))
 | false => (
 some (.normal, (withyref17_State_Whole_c4_O (.int .u64 x3) x8 x11 (.bool false)), h)))))

def withyref17_State_Whole_c4_n (M : Env) (x3 : Int) (x8 : V) (x11 : V) (x89 : Bool) (h : H) : Option (V × H) :=
 match x89 with
 | true => (
 (ptrAt x11 1).bind fun v0 =>
 (h.st 1 v0 (.int .u64 x3)).bind fun h1 =>
 (h1.ldN 3 x11).bind fun v2 =>
 (h1.st 3 x8 v2).bind fun h3 =>
 finV h3 [.cell true 3 x8])
 | false => (
 (h.ldN 3 x11).bind fun v0 =>
 (h.st 3 x8 v0).bind fun h1 =>
 finV h1 [.cell true 3 x8])

theorem withyref17_State_Whole_eq (M : Env) (a0_0 : Int) (a0_1 : Int) (a0_2 : Int) (a0_3 : Int) (a0_4 : Int) (a0_5 : Int) (a0_6 : V) (a0_7 : V) (a0_8 : V) (a0_9 : V) (a0_10 : V) (a1 : Int) (a2_0 : Int) (a2_1 : Int) (a2_2 : Int) (a2_3 : Int) (a2_4 : Int) (a3 : Int) (h : H) : evalF M F.withyref17_State_Whole [(.agg [(.int .i64 a0_0), (.int .i64 a0_1), (.int .i64 a0_2), (.int .i64 a0_3), (.int .i64 a0_4), (.int .i64 a0_5), a0_6, a0_7, a0_8, a0_9, a0_10]), (.int .i64 a1), (.agg [(.int .i64 a2_0), (.int .i64 a2_1), (.int .u64 a2_2), (.int .u64 a2_3), (.int .u64 a2_4)]), (.int .u64 a3)] h = withyref17_State_Whole M a0_0 a0_1 a0_2 a0_3 a0_4 a0_5 a0_6 a0_7 a0_8 a0_9 a0_10 a1 a2_0 a2_1 a2_2 a2_3 a2_4 a3 h := by kernel_rfl

theorem withyref17_State_Whole_c1_eq (M : Env) (x1 : Int) (x3 : Int) (x4 : V) (x6 : V) (x8 : V) (x10 : Int) (h : H) : withyref17_State_Whole_c1_B M (withyref17_State_Whole_c1_E (.int .i64 x1) (.int .u64 x3) x4 x6 x8 (.int .i64 x10)) h = withyref17_State_Whole_c1_S M x1 x3 x4 x6 x8 x10 h := by kernel_rfl

theorem withyref17_State_Whole_c1_n_eq (M : Env) (x3 : Int) (x4 : V) (x6 : V) (x8 : V) (x10 : Int) (x11 : V) (h : H) : withyref17_State_Whole_K1 M .normal (withyref17_State_Whole_c1_O (.int .u64 x3) x4 x6 x8 (.int .i64 x10) x11) h = withyref17_State_Whole_c1_n M x3 x4 x6 x8 x10 x11 h := by kernel_rfl

theorem withyref17_State_Whole_c4_eq (M : Env) (x3 : Int) (x4 : V) (x6 : V) (x8 : V) (x10 : Int) (x11 : V) (h : H) : withyref17_State_Whole_c4_B M (withyref17_State_Whole_c4_E (.int .u64 x3) x4 x6 x8 (.int .i64 x10) x11) h = withyref17_State_Whole_c4_S M x3 x4 x6 x8 x10 x11 h := by kernel_rfl

theorem withyref17_State_Whole_c4_n_eq (M : Env) (x3 : Int) (x8 : V) (x11 : V) (x89 : Bool) (h : H) : withyref17_State_Whole_K3 M .normal (withyref17_State_Whole_c4_O (.int .u64 x3) x8 x11 (.bool x89)) h = withyref17_State_Whole_c4_n M x3 x8 x11 x89 h := by kernel_rfl

end Wm.S
end

section
namespace Wm.S
open Wm
set_option maxRecDepth 100000
set_option linter.unusedVariables false

def withylaw17_same_c1_B (M : Env) : List V → H → Option (AX × List V × H) :=
 fun env h => evalC M F.withylaw17_same_c1 env h fun x env h => match x with
 | .normal => some (.normal, keepOf [0, 3, 5] 0 env, h)
 | x => some (x, keepOf [0, 3, 4] 0 env, h)

def withylaw17_same_c1_E (x0 x3 x5 : V) : List V := x0 :: dd 2 (x3 :: dd 1 (x5 :: dd 89 []))
def withylaw17_same_c1_O (x0 x3 x4 : V) : List V := x0 :: dd 2 (x3 :: x4 :: dd 90 [])

def withylaw17_same_c3_B (M : Env) : List V → H → Option (AX × List V × H) :=
 fun env h => evalC M F.withylaw17_same_c3 env h fun x env h => match x with
 | .normal => some (.normal, keepOf [0, 3, 5, 6] 0 env, h)
 | x => some (x, keepOf [0, 3, 4, 5] 0 env, h)

def withylaw17_same_c3_E (x0 x3 x5 x6 : V) : List V := x0 :: dd 2 (x3 :: dd 1 (x5 :: x6 :: dd 88 []))
def withylaw17_same_c3_O (x0 x3 x4 x5 : V) : List V := x0 :: dd 2 (x3 :: x4 :: x5 :: dd 89 [])

def withylaw17_same_c5_B (M : Env) : List V → H → Option (AX × List V × H) :=
 fun env h => evalC M F.withylaw17_same_c5 env h fun x env h => match x with
 | .normal => some (.normal, keepOf [0, 3, 7] 0 env, h)
 | x => some (x, keepOf [0, 4] 0 env, h)

def withylaw17_same_c5_E (x0 x3 x7 : V) : List V := x0 :: dd 2 (x3 :: dd 3 (x7 :: dd 87 []))
def withylaw17_same_c5_O (x0 x4 : V) : List V := x0 :: dd 3 (x4 :: dd 90 [])

def withylaw17_same_c7_B (M : Env) : List V → H → Option (AX × List V × H) :=
 fun env h => evalC M F.withylaw17_same_c7 env h fun x env h => match x with
 | .normal => some (.normal, keepOf [0, 3, 7, 8] 0 env, h)
 | x => some (x, keepOf [0, 3, 4, 7] 0 env, h)

def withylaw17_same_c7_E (x0 x3 x7 x8 : V) : List V := x0 :: dd 2 (x3 :: dd 3 (x7 :: x8 :: dd 86 []))
def withylaw17_same_c7_O (x0 x3 x4 x7 : V) : List V := x0 :: dd 2 (x3 :: x4 :: dd 2 (x7 :: dd 87 []))

def withylaw17_same_K0 (M : Env) : AX → List V → H → Option (V × H) :=
 fun x env h => fin F.withylaw17_same x env h

def withylaw17_same_K1 (M : Env) : AX → List V → H → Option (V × H) :=
 fun x env h => match x with | .normal => evalC M F.withylaw17_same_c0 env h (fun x env h => withylaw17_same_K0 M x env h) | x => withylaw17_same_K0 M x env h

def withylaw17_same_K2 (M : Env) : AX → List V → H → Option (V × H) :=
 fun x env h => match x with | .exit j => (match Nat.beq j 0 with | true => withylaw17_same_K1 M .normal env h | false => withylaw17_same_K1 M (.exit j) env h) | x => withylaw17_same_K1 M x env h

def withylaw17_same_K3 (M : Env) : AX → List V → H → Option (AX × List V × H) :=
 fun x env h => match x with | .normal => some (.normal, keepOf [0, 3, 5] 0 env, h) | x => some (x, keepOf [0, 3, 4] 0 env, h)

def withylaw17_same_K4 (M : Env) : AX → List V → H → Option (AX × List V × H) :=
 fun x env h => match x with | .normal => evalC M F.withylaw17_same_c2 env h (fun x env h => withylaw17_same_K3 M x env h) | x => withylaw17_same_K3 M x env h

def withylaw17_same_K5 (M : Env) : AX → List V → H → Option (AX × List V × H) :=
 fun x env h => match x with | .exit j => (match Nat.beq j 1 with | true => withylaw17_same_K4 M .normal env h | false => withylaw17_same_K4 M (.exit j) env h) | x => withylaw17_same_K4 M x env h

def withylaw17_same_K6 (M : Env) : AX → List V → H → Option (AX × List V × H) :=
 fun x env h => match x with | .exit j => (match Nat.beq j 2 with | true => withylaw17_same_K5 M .normal env h | false => withylaw17_same_K5 M (.exit j) env h) | x => withylaw17_same_K5 M x env h

def withylaw17_same_K7 (M : Env) : AX → List V → H → Option (V × H) :=
 fun x env h => match x with | .normal => evalC M F.withylaw17_same_c4 env h (fun x env h => withylaw17_same_K0 M x env h) | x => withylaw17_same_K0 M x env h

def withylaw17_same_K8 (M : Env) : AX → List V → H → Option (V × H) :=
 fun x env h => match x with | .exit j => (match Nat.beq j 4 with | true => withylaw17_same_K7 M .normal env h | false => withylaw17_same_K7 M (.exit j) env h) | x => withylaw17_same_K7 M x env h

def withylaw17_same_K9 (M : Env) : AX → List V → H → Option (AX × List V × H) :=
 fun x env h => match x with | .normal => some (.normal, keepOf [0, 3, 7] 0 env, h) | x => some (x, keepOf [0, 4] 0 env, h)

def withylaw17_same_K10 (M : Env) : AX → List V → H → Option (AX × List V × H) :=
 fun x env h => match x with | .normal => evalC M F.withylaw17_same_c6 env h (fun x env h => withylaw17_same_K9 M x env h) | x => withylaw17_same_K9 M x env h

def withylaw17_same_K11 (M : Env) : AX → List V → H → Option (AX × List V × H) :=
 fun x env h => match x with | .exit j => (match Nat.beq j 5 with | true => withylaw17_same_K10 M .normal env h | false => withylaw17_same_K10 M (.exit j) env h) | x => withylaw17_same_K10 M x env h

def withylaw17_same_K12 (M : Env) : AX → List V → H → Option (AX × List V × H) :=
 fun x env h => match x with | .exit j => (match Nat.beq j 6 with | true => withylaw17_same_K11 M .normal env h | false => withylaw17_same_K11 M (.exit j) env h) | x => withylaw17_same_K11 M x env h

def withylaw17_same (M : Env) (a0 : V) (a1_0 : Int) (a1_1 : Int) (a1_2 : Int) (a1_3 : Int) (a1_4 : Int) (a1_5 : Int) (a1_6 : V) (a1_7 : V) (a1_8 : V) (a1_9 : V) (a1_10 : V) (h : H) : Option (V × H) :=
 let h0 := h.new (.cells [(.int .i64 a1_0), (.int .i64 a1_1), (.int .i64 a1_2), (.int .i64 a1_3), (.int .i64 a1_4), (.int .i64 a1_5), a1_6, a1_7, a1_8, a1_9, a1_10] .rw)
 (M.loop (withylaw17_same_c1_B M) (withylaw17_same_c1_E a0 (.ptr h.next 0) (.int .i64 (-1))) h0).bind fun p1 => withylaw17_same_K2 M p1.1 p1.2.1 p1.2.2

def withylaw17_same_c1_S (M : Env) (x0 : V) (x3 : V) (x5 : Int) (h : H) : Option (AX × List V × H) :=
 (ptrAt x3 0).bind fun v0 =>
 (ptrAt v0 2).bind fun v1 =>
 (h.ld1 v1).bind fun v2 =>
 (asI .i64 v2).bind fun n3 =>
 match (decide (x5 ≤ n3)) with
 | true => (
 (h.ldN 11 x3).bind fun v4 =>
 (M.call 105 [x0, (.int .i64 x5)] h).bind fun p5 =>
 match ckB (p5.2.ldN 11 x3) v4 with
 | true => (
 (M.call 231 [v4, (.int .i64 x5)] p5.2).bind fun p6 =>
 (asI .i64 p5.1).bind fun n7 =>
 (asI .i64 p6.1).bind fun n8 =>
 match (!decide (n7 = n8)) with
 | true => (
 some (.ret, (withylaw17_same_c1_O x0 x3 (.bool false)), p6.2))
 | false => (
 (M.loop (withylaw17_same_c3_B M) (withylaw17_same_c3_E x0 x3 (.int .i64 x5) (.int .i64 0)) p6.2).bind fun p9 => withylaw17_same_K6 M p9.1 p9.2.1 p9.2.2))
 | false => none)
 | false => (
 some ((.exit 0), (withylaw17_same_c1_O x0 x3 .dead), h))

def withylaw17_same_c1_e0 (M : Env) (x0 : V) (x3 : V) (x4 : V) (h : H) : Option (V × H) :=
 (M.loop (withylaw17_same_c5_B M) (withylaw17_same_c5_E x0 x3 (.int .i64 0)) h).bind fun p0 => withylaw17_same_K8 M p0.1 p0.2.1 p0.2.2

def withylaw17_same_c3_S (M : Env) (x0 : V) (x3 : V) (x5 : Int) (x6 : Int) (h : H) : Option (AX × List V × H) :=
 (ptrAt x3 10).bind fun v0 =>
 (h.ld1 v0).bind fun v1 =>
 (lenSl v1).bind fun n2 =>
 match (decide (x6 < ((n2 : Nat) : Int))) with
 | true => (
 (ptrAt x3 10).bind fun v3 =>
 (h.ld1 v3).bind fun v4 =>
 (indexAV 1 v4 (.int .i64 x6)).bind fun v5 =>
 (h.ld1 v5).bind fun v6 =>
 (h.ldN 11 x3).bind fun v7 =>
 (ptrAt x3 10).bind fun v8 =>
 (h.ld1 v8).bind fun v9 =>
 (indexAV 1 v9 (.int .i64 x6)).bind fun v10 =>
 (h.ld1 v10).bind fun v11 =>
 (M.call 106 [x0, (.int .i64 x5), v6] h).bind fun p12 =>
 match ckB (p12.2.ld1 v10) v11 with
 | true => (
 match ckB (p12.2.ld1 v8) v9 with
 | true => (
 match ckB (p12.2.ldN 11 x3) v7 with
 | true => (
 (M.call 229 [v7, (.int .i64 x5), v11] p12.2).bind fun p13 =>
 (asI .i64 p12.1).bind fun n14 =>
 (asI .i64 p13.1).bind fun n15 =>
 match (!decide (n14 = n15)) with
 | true => (
 some (.ret, (withylaw17_same_c3_O x0 x3 (.bool false) (.int .i64 x5)), p13.2))
 | false => (
 some (.normal, (withylaw17_same_c3_E x0 x3 (.int .i64 x5) (.int .i64 (wr .i64 (x6 + 1)))), p13.2)))
 | false => none)
 | false => none)
 | false => none)
 | false => (
 some ((.exit 2), (withylaw17_same_c3_O x0 x3 .dead (.int .i64 x5)), h))

def withylaw17_same_c3_e2 (M : Env) (x0 : V) (x3 : V) (x4 : V) (x5 : Int) (h : H) : Option (AX × List V × H) :=
 some (.normal, (withylaw17_same_c1_E x0 x3 (.int .i64 (wr .i64 (x5 + 1)))), h)

def withylaw17_same_c5_S (M : Env) (x0 : V) (x3 : V) (x7 : Int) (h : H) : Option (AX × List V × H) :=
 (ptrAt x3 6).bind fun v0 =>
 (h.ld1 v0).bind fun v1 =>
 (lenSl v1).bind fun n2 =>
 match (decide (x7 ≤ ((n2 : Nat) : Int))) with
 | true => (
 (M.loop (withylaw17_same_c7_B M) (withylaw17_same_c7_E x0 x3 (.int .i64 x7) (.int .i64 (-1))) h).bind fun p3 => withylaw17_same_K12 M p3.1 p3.2.1 p3.2.2)
 | false => (
 some ((.exit 4), (withylaw17_same_c5_O x0 .dead), h))

def withylaw17_same_c5_e4 (M : Env) (x0 : V) (x4 : V) (h : H) : Option (V × H) :=
 (M.call 116 [x0, (.int .i64 (-1)), (.int .i64 0)] h).bind fun p0 =>
 (asI .i64 p0.1).bind fun n1 =>
 some ((.bool (decide (n1 = (-1)))), p0.2)

def withylaw17_same_c7_S (M : Env) (x0 : V) (x3 : V) (x7 : Int) (x8 : Int) (h : H) : Option (AX × List V × H) :=
 match (decide (x8 ≤ 2)) with
 | true => (
 (ptrAt x3 6).bind fun v0 =>
 (h.ld1 v0).bind fun v1 =>
 (lenSl v1).bind fun n2 =>
 match (decide (x7 < ((n2 : Nat) : Int))) with
 | true => (
 match (decide (0 ≤ x8)) with
 | true => (
 (ptrAt x3 6).bind fun v3 =>
 (h.ld1 v3).bind fun v4 =>
 (indexAV 1 v4 (.int .i64 x7)).bind fun v5 =>
 (h.ld1 v5).bind fun v6 =>
 (lenSl v6).bind fun n7 =>
 match (decide (x8 < ((n7 : Nat) : Int))) with
 | true => (
 (ptrAt x3 6).bind fun v8 =>
 (h.ld1 v8).bind fun v9 =>
 (indexAV 1 v9 (.int .i64 x7)).bind fun v10 =>
 (h.ld1 v10).bind fun v11 =>
 (indexAV 1 v11 (.int .i64 x8)).bind fun v12 =>
 (h.ld1 v12).bind fun v13 =>
 (M.call 116 [x0, (.int .i64 x7), (.int .i64 x8)] h).bind fun p14 =>
 (asI .i64 p14.1).bind fun n15 =>
 (asI .i64 v13).bind fun n16 =>
 match (!decide (n15 = n16)) with
 | true => (
 some (.ret, (withylaw17_same_c7_O x0 x3 (.bool false) (.int .i64 x7)), p14.2))
 | false => (
 some (.normal, (withylaw17_same_c7_E x0 x3 (.int .i64 x7) (.int .i64 (wr .i64 (x8 + 1)))), p14.2)))
 | false => (
 (M.call 116 [x0, (.int .i64 x7), (.int .i64 x8)] h).bind fun p8 =>
 (asI .i64 p8.1).bind fun n9 =>
 match (!decide (n9 = (-1))) with
 | true => (
 some (.ret, (withylaw17_same_c7_O x0 x3 (.bool false) (.int .i64 x7)), p8.2))
 | false => (
 some (.normal, (withylaw17_same_c7_E x0 x3 (.int .i64 x7) (.int .i64 (wr .i64 (x8 + 1)))), p8.2))))
 | false => (
 (M.call 116 [x0, (.int .i64 x7), (.int .i64 x8)] h).bind fun p3 =>
 (asI .i64 p3.1).bind fun n4 =>
 match (!decide (n4 = (-1))) with
 | true => (
 some (.ret, (withylaw17_same_c7_O x0 x3 (.bool false) (.int .i64 x7)), p3.2))
 | false => (
 some (.normal, (withylaw17_same_c7_E x0 x3 (.int .i64 x7) (.int .i64 (wr .i64 (x8 + 1)))), p3.2))))
 | false => (
 (M.call 116 [x0, (.int .i64 x7), (.int .i64 x8)] h).bind fun p3 =>
 (asI .i64 p3.1).bind fun n4 =>
 match (!decide (n4 = (-1))) with
 | true => (
 some (.ret, (withylaw17_same_c7_O x0 x3 (.bool false) (.int .i64 x7)), p3.2))
 | false => (
 some (.normal, (withylaw17_same_c7_E x0 x3 (.int .i64 x7) (.int .i64 (wr .i64 (x8 + 1)))), p3.2))))
 | false => (
 some ((.exit 6), (withylaw17_same_c7_O x0 x3 .dead (.int .i64 x7)), h))

def withylaw17_same_c7_e6 (M : Env) (x0 : V) (x3 : V) (x4 : V) (x7 : Int) (h : H) : Option (AX × List V × H) :=
 some (.normal, (withylaw17_same_c5_E x0 x3 (.int .i64 (wr .i64 (x7 + 1)))), h)

theorem withylaw17_same_eq (M : Env) (a0 : V) (a1_0 : Int) (a1_1 : Int) (a1_2 : Int) (a1_3 : Int) (a1_4 : Int) (a1_5 : Int) (a1_6 : V) (a1_7 : V) (a1_8 : V) (a1_9 : V) (a1_10 : V) (h : H) : evalF M F.withylaw17_same [a0, (.agg [(.int .i64 a1_0), (.int .i64 a1_1), (.int .i64 a1_2), (.int .i64 a1_3), (.int .i64 a1_4), (.int .i64 a1_5), a1_6, a1_7, a1_8, a1_9, a1_10])] h = withylaw17_same M a0 a1_0 a1_1 a1_2 a1_3 a1_4 a1_5 a1_6 a1_7 a1_8 a1_9 a1_10 h := by kernel_rfl

theorem withylaw17_same_c1_eq (M : Env) (x0 : V) (x3 : V) (x5 : Int) (h : H) : withylaw17_same_c1_B M (withylaw17_same_c1_E x0 x3 (.int .i64 x5)) h = withylaw17_same_c1_S M x0 x3 x5 h := by kernel_rfl

theorem withylaw17_same_c1_e0_eq (M : Env) (x0 : V) (x3 : V) (x4 : V) (h : H) : withylaw17_same_K2 M (.exit 0) (withylaw17_same_c1_O x0 x3 x4) h = withylaw17_same_c1_e0 M x0 x3 x4 h := by kernel_rfl

theorem withylaw17_same_c3_eq (M : Env) (x0 : V) (x3 : V) (x5 : Int) (x6 : Int) (h : H) : withylaw17_same_c3_B M (withylaw17_same_c3_E x0 x3 (.int .i64 x5) (.int .i64 x6)) h = withylaw17_same_c3_S M x0 x3 x5 x6 h := by kernel_rfl

theorem withylaw17_same_c3_e2_eq (M : Env) (x0 : V) (x3 : V) (x4 : V) (x5 : Int) (h : H) : withylaw17_same_K6 M (.exit 2) (withylaw17_same_c3_O x0 x3 x4 (.int .i64 x5)) h = withylaw17_same_c3_e2 M x0 x3 x4 x5 h := by kernel_rfl

theorem withylaw17_same_c5_eq (M : Env) (x0 : V) (x3 : V) (x7 : Int) (h : H) : withylaw17_same_c5_B M (withylaw17_same_c5_E x0 x3 (.int .i64 x7)) h = withylaw17_same_c5_S M x0 x3 x7 h := by kernel_rfl

theorem withylaw17_same_c5_e4_eq (M : Env) (x0 : V) (x4 : V) (h : H) : withylaw17_same_K8 M (.exit 4) (withylaw17_same_c5_O x0 x4) h = withylaw17_same_c5_e4 M x0 x4 h := by kernel_rfl

theorem withylaw17_same_c7_eq (M : Env) (x0 : V) (x3 : V) (x7 : Int) (x8 : Int) (h : H) : withylaw17_same_c7_B M (withylaw17_same_c7_E x0 x3 (.int .i64 x7) (.int .i64 x8)) h = withylaw17_same_c7_S M x0 x3 x7 x8 h := by kernel_rfl

theorem withylaw17_same_c7_e6_eq (M : Env) (x0 : V) (x3 : V) (x4 : V) (x7 : Int) (h : H) : withylaw17_same_K12 M (.exit 6) (withylaw17_same_c7_O x0 x3 x4 (.int .i64 x7)) h = withylaw17_same_c7_e6 M x0 x3 x4 x7 h := by kernel_rfl

end Wm.S
end

section
namespace Wm.S
open Wm
set_option maxRecDepth 100000
set_option linter.unusedVariables false

def withylaw17_ModelRefuses_c1_B (M : Env) : List V → H → Option (AX × List V × H) :=
 fun env h => evalC M F.withylaw17_ModelRefuses_c1 env h fun x env h => match x with
 | .normal => some (.normal, keepOf [0, 3, 5, 6, 7] 0 env, h)
 | x => some (x, keepOf [3, 5, 6] 0 env, h)

def withylaw17_ModelRefuses_c1_E (x0 x3 x5 x6 x7 : V) : List V := x0 :: dd 2 (x3 :: dd 1 (x5 :: x6 :: x7 :: dd 98 []))
def withylaw17_ModelRefuses_c1_O (x3 x5 x6 : V) : List V := dd 3 (x3 :: dd 1 (x5 :: x6 :: dd 99 []))

def withylaw17_ModelRefuses_K0 (M : Env) : AX → List V → H → Option (V × H) :=
 fun x env h => fin F.withylaw17_ModelRefuses x env h

def withylaw17_ModelRefuses_K1 (M : Env) : AX → List V → H → Option (V × H) :=
 fun x env h => match x with | .normal => evalC M F.withylaw17_ModelRefuses_c0 env h (fun x env h => withylaw17_ModelRefuses_K0 M x env h) | x => withylaw17_ModelRefuses_K0 M x env h

def withylaw17_ModelRefuses_K2 (M : Env) : AX → List V → H → Option (V × H) :=
 fun x env h => match x with | .exit j => (match Nat.beq j 0 with | true => withylaw17_ModelRefuses_K1 M .normal env h | false => withylaw17_ModelRefuses_K1 M (.exit j) env h) | x => withylaw17_ModelRefuses_K1 M x env h

def withylaw17_ModelRefuses (M : Env) (a0 : V) (a1_0 : Int) (a1_1 : Int) (a1_2 : Int) (a1_3 : Int) (a1_4 : Int) (a1_5 : Int) (a1_6 : Int) (a1_7 : Int) (a1_8 : Int) (a1_9 : Bool) (h : H) : Option (V × H) :=
 let h0 := h.new (.cells [(.int .i64 a1_0), (.int .i64 a1_1), (.int .i64 a1_2), (.int .i64 a1_3), (.int .i64 a1_4), (.int .i64 a1_5), (.int .i64 a1_6), (.int .i64 a1_7), (.int .u64 a1_8), (.bool a1_9)] .rw)
 (M.call 97 [] h0).bind fun p1 =>
 (M.call 96 [p1.1] p1.2).bind fun p2 =>
 (lenSl a0).bind fun n3 =>
 match (decide (80 < ((n3 : Nat) : Int))) with
 | true => (
 (lenSl a0).bind fun n4 =>
 match (decide (80 < ((n4 : Nat) : Int))) with
 | true => (
 (M.call 98 [] p2.2).bind fun p5 =>
 some (p5.1, p5.2))
 | false => (
 some ((.bool false), p2.2)))
 | false => (
 (M.call 98 [] p2.2).bind fun p4 =>
 (asB p4.1).bind fun b5 =>
 match (!b5) with
 | true => (
 (lenSl a0).bind fun n6 =>
 match (decide (80 < ((n6 : Nat) : Int))) with
 | true => (
 (M.call 98 [] p4.2).bind fun p7 =>
 some (p7.1, p7.2))
 | false => (
 some ((.bool false), p4.2)))
 | false => (
 (eqV .ptr p2.1 .nilp).bind fun b6 =>
 match b6 with
 | true => (
 (lenSl a0).bind fun n7 =>
 match (decide (80 < ((n7 : Nat) : Int))) with
 | true => (
 (M.call 98 [] p4.2).bind fun p8 =>
 some (p8.1, p8.2))
 | false => (
 some ((.bool false), p4.2)))
 | false => (
 (M.call 97 [] p4.2).bind fun p7 =>
 (M.call 99 [p7.1] p7.2).bind fun p8 =>
 let h9 := p8.2.new (.cells [(.int .i64 0), (.int .i64 0), (.int .i64 0), (.int .i64 0), (.int .i64 0), (.int .i64 0), .nilsl, .nilsl, .nilsl, .nilsl, .nilsl] .rw)
 (h9.st 11 (.ptr p8.2.next 0) p8.1).bind fun h10 =>
 (M.loop (withylaw17_ModelRefuses_c1_B M) (withylaw17_ModelRefuses_c1_E a0 (.ptr h.next 0) p2.1 (.ptr p8.2.next 0) (.int .i64 0)) h10).bind fun p11 => withylaw17_ModelRefuses_K2 M p11.1 p11.2.1 p11.2.2)))

def withylaw17_ModelRefuses_c1_S (M : Env) (x0 : V) (x3 : V) (x5 : V) (x6 : V) (x7 : Int) (h : H) : Option (AX × List V × H) :=
 (lenSl x0).bind fun n0 =>
 match (decide (x7 < ((n0 : Nat) : Int))) with
 | true => (
 (h.ldN 11 x6).bind fun v1 =>
 (indexAV 10 x0 (.int .i64 x7)).bind fun v2 =>
 (h.ldN 10 v2).bind fun v3 =>
 (M.call 100 [v1, v3] h).bind fun p4 =>
 let h5 := p4.2.new (.cells [(.int .i64 0), (.int .i64 0), (.int .u64 0), (.int .u64 0), (.int .u64 0)] .rw)
 (h5.st 5 (.ptr p4.2.next 0) p4.1).bind fun h6 =>
 (h6.ldN 11 x6).bind fun v7 =>
 (indexAV 10 x0 (.int .i64 x7)).bind fun v8 =>
 (h6.ldN 10 v8).bind fun v9 =>
 (h6.ldN 5 (.ptr p4.2.next 0)).bind fun v10 =>
 (M.call 101 [v7, v9, v10, (.int .i64 x7)] h6).bind fun p11 =>
 let h12 := p11.2.new (.cells [(.int .i64 0), (.int .u64 0), (.bool false)] .rw)
 (h12.st 3 (.ptr p11.2.next 0) p11.1).bind fun h13 =>
 (h13.ldN 11 x6).bind fun v14 =>
 (indexAV 10 x0 (.int .i64 x7)).bind fun v15 =>
 (ptrAt v15 0).bind fun v16 =>
 (h13.ld1 v16).bind fun v17 =>
 (h13.ldN 5 (.ptr p4.2.next 0)).bind fun v18 =>
 (h13.ldN 3 (.ptr p11.2.next 0)).bind fun v19 =>
 (M.call 102 [v14, v17, v18, v19] h13).bind fun p20 =>
 match p20.1 with
 | .tup vs21 => ((vs21[0]?).bind fun v22 =>
 match p20.1 with
 | .tup vs23 => ((vs23[1]?).bind fun v24 =>
 let h25 := p20.2.new (.cells [(.int .i64 0), (.int .i64 0), (.int .i64 0), (.int .i64 0), (.int .i64 0), (.int .i64 0), .nilsl, .nilsl, .nilsl, .nilsl, .nilsl] .rw)
 (h25.st 11 (.ptr p20.2.next 0) v22).bind fun h26 =>
 (asB v24).bind fun b27 =>
 match b27 with
 | true => (
 (indexAV 10 x0 (.int .i64 x7)).bind fun v28 =>
 (ptrAt v28 0).bind fun v29 =>
 (h26.ld1 v29).bind fun v30 =>
 (h26.ldN 5 (.ptr p4.2.next 0)).bind fun v31 =>
 (h26.ldN 3 (.ptr p11.2.next 0)).bind fun v32 =>
 (M.call 103 [x5, v30, v31, v32] h26).bind fun p33 =>
 (p33.2.ldN 11 (.ptr p20.2.next 0)).bind fun v34 =>
 (p33.2.st 11 x6 v34).bind fun h35 =>
 some (.normal, (withylaw17_ModelRefuses_c1_E x0 x3 x5 x6 (.int .i64 (wr .i64 (x7 + 1)))), h35))
 | false => (
 some (.normal, (withylaw17_ModelRefuses_c1_E x0 x3 x5 x6 (.int .i64 (wr .i64 (x7 + 1)))), h26)))
 | _ => none)
 | _ => none)
 | false => (
 some ((.exit 0), (withylaw17_ModelRefuses_c1_O x3 x5 x6), h))

def withylaw17_ModelRefuses_c1_e0 (M : Env) (x3 : V) (x5 : V) (x6 : V) (h : H) : Option (V × H) :=
 (h.ldN 11 x6).bind fun v0 =>
 (h.ldN 10 x3).bind fun v1 =>
 (M.call 100 [v0, v1] h).bind fun p2 =>
 let h3 := p2.2.new (.cells [(.int .i64 0), (.int .i64 0), (.int .u64 0), (.int .u64 0), (.int .u64 0)] .rw)
 (h3.st 5 (.ptr p2.2.next 0) p2.1).bind fun h4 =>
 (h4.ldN 11 x6).bind fun v5 =>
 (h4.ldN 10 x3).bind fun v6 =>
 (h4.ldN 5 (.ptr p2.2.next 0)).bind fun v7 =>
 (M.call 101 [v5, v6, v7, (.int .i64 999)] h4).bind fun p8 =>
 let h9 := p8.2.new (.cells [(.int .i64 0), (.int .u64 0), (.bool false)] .rw)
 (h9.st 3 (.ptr p8.2.next 0) p8.1).bind fun h10 =>
 (ptrAt x3 0).bind fun v11 =>
 (h10.ld1 v11).bind fun v12 =>
 (h10.ldN 5 (.ptr p2.2.next 0)).bind fun v13 =>
 (h10.ldN 3 (.ptr p8.2.next 0)).bind fun v14 =>
 (M.call 103 [x5, v12, v13, v14] h10).bind fun p15 =>
 match p15.1 with
 | .bool true => (
 (p15.2.ld1 (.ptr p8.2.next 0)).bind fun v16 =>
 (asI .i64 v16).bind fun n17 =>
 match (decide (n17 = 0)) with
 | true => (
 (p15.2.ld1 (.ptr p2.2.next 0)).bind fun v18 =>
 (asI .i64 v18).bind fun n19 =>
 match (!decide (n19 = 7)) with
 | true => (
 some ((.bool true), p15.2))
 | false => (
 (p15.2.ldN 11 x6).bind fun v20 =>
 (M.call 104 [x5, v20] p15.2).bind fun p21 =>
 some (p21.1, p21.2)))
 | false => (
 (p15.2.ldN 11 x6).bind fun v18 =>
 (M.call 104 [x5, v18] p15.2).bind fun p19 =>
 some (p19.1, p19.2)))
 | .bool false => (
 (p15.2.ldN 11 x6).bind fun v16 =>
 (M.call 104 [x5, v16] p15.2).bind fun p17 =>
 some (p17.1, p17.2))
 | .tup [] => (
 (asB p15.1).bind fun b16 =>
 match (match b16 with | true => (.tup []) | false => (.bool false) : V) with
 | .bool true => (
 (p15.2.ld1 (.ptr p2.2.next 0)).bind fun v17 =>
 (asI .i64 v17).bind fun n18 =>
 match (!decide (n18 = 7)) with
 | true => (
 some ((.bool true), p15.2))
 | false => (
 (p15.2.ldN 11 x6).bind fun v19 =>
 (M.call 104 [x5, v19] p15.2).bind fun p20 =>
 some (p20.1, p20.2)))
 | .bool false => (
 (p15.2.ldN 11 x6).bind fun v17 =>
 (M.call 104 [x5, v17] p15.2).bind fun p18 =>
 some (p18.1, p18.2))
 | .tup [] => (
 (asB (match b16 with | true => (.tup []) | false => (.bool false) : V)).bind fun b17 =>
 (asB (match b17 with | true => (.tup []) | false => (.bool false) : V)).bind fun b18 =>
 match b18 with
 | true => (
 some ((.bool true), p15.2))
 | false => (
 (p15.2.ldN 11 x6).bind fun v19 =>
 (M.call 104 [x5, v19] p15.2).bind fun p20 =>
 some (p20.1, p20.2)))
 | _ => none)
 | _ => none

theorem withylaw17_ModelRefuses_eq (M : Env) (a0 : V) (a1_0 : Int) (a1_1 : Int) (a1_2 : Int) (a1_3 : Int) (a1_4 : Int) (a1_5 : Int) (a1_6 : Int) (a1_7 : Int) (a1_8 : Int) (a1_9 : Bool) (h : H) : evalF M F.withylaw17_ModelRefuses [a0, (.agg [(.int .i64 a1_0), (.int .i64 a1_1), (.int .i64 a1_2), (.int .i64 a1_3), (.int .i64 a1_4), (.int .i64 a1_5), (.int .i64 a1_6), (.int .i64 a1_7), (.int .u64 a1_8), (.bool a1_9)])] h = withylaw17_ModelRefuses M a0 a1_0 a1_1 a1_2 a1_3 a1_4 a1_5 a1_6 a1_7 a1_8 a1_9 h := by kernel_rfl

theorem withylaw17_ModelRefuses_c1_eq (M : Env) (x0 : V) (x3 : V) (x5 : V) (x6 : V) (x7 : Int) (h : H) : withylaw17_ModelRefuses_c1_B M (withylaw17_ModelRefuses_c1_E x0 x3 x5 x6 (.int .i64 x7)) h = withylaw17_ModelRefuses_c1_S M x0 x3 x5 x6 x7 h := by kernel_rfl

theorem withylaw17_ModelRefuses_c1_e0_eq (M : Env) (x3 : V) (x5 : V) (x6 : V) (h : H) : withylaw17_ModelRefuses_K2 M (.exit 0) (withylaw17_ModelRefuses_c1_O x3 x5 x6) h = withylaw17_ModelRefuses_c1_e0 M x3 x5 x6 h := by kernel_rfl

end Wm.S
end

