/- PRINTED by my tool: what functions come to, stretch by stretch. -/
import Derived.KernelRfl
import Derived.Test.YtmhebljpahogaaaWmShal
import Derived.Test.YtmhebljpahogaaaWmFnsModelNewA
set_option linter.all false
section
/- PRINTED by my tool (wip/wm/tool/Gen.lean): what a function comes to, stretch by stretch. -/
namespace Wm.S
open Wm
set_option maxRecDepth 100000
set_option linter.unusedVariables false


def plan_between (M : Env) (a0 : Int) (a1 : Int) (a2 : Int) (h : H) : Option (V × H) :=
  match (decide (a1 ≤ a0)) with
  | true => (
    some ((.bool (decide (a0 ≤ a2))), h))
  | false => (
    some ((.bool false), h))

theorem plan_between_eq (M : Env) (a0 : Int) (a1 : Int) (a2 : Int) (h : H) : evalF M F.plan_between [(.int .i64 a0), (.int .i64 a1), (.int .i64 a2)] h = plan_between M a0 a1 a2 h := by kernel_rfl

end Wm.S
end

section
/- PRINTED by my tool (wip/wm/tool/Gen.lean): what a function comes to, stretch by stretch. -/
namespace Wm.S
open Wm
set_option maxRecDepth 100000
set_option linter.unusedVariables false


def plan_Right (M : Env) (a0_0 : Int) (a0_1 : Int) (a0_2 : Int) (a0_3 : Int) (a0_4 : Int) (a0_5 : Int) (h : H) : Option (V × H) :=
  let h0 := h.new (.cells [(.int .i64 a0_0), (.int .i64 a0_1), (.int .i64 a0_2), (.int .i64 a0_3), (.int .i64 a0_4), (.int .i64 a0_5)] .rw)
  (h0.ld1 (.ptr h.next 0)).bind fun v1 =>
  (M.call 376 [v1, (.int .i64 1), (.int .i64 64)] h0).bind fun p2 =>
  match p2.1 with
  | .bool true => (
    (p2.2.ld1 (.ptr h.next 1)).bind fun v3 =>
    (M.call 376 [v3, (.int .i64 0), (.int .i64 8)] p2.2).bind fun p4 =>
    match p4.1 with
    | .bool true => (
      (p4.2.ld1 (.ptr h.next 2)).bind fun v5 =>
      (M.call 376 [v5, (.int .i64 1), (.int .i64 8)] p4.2).bind fun p6 =>
      match p6.1 with
      | .bool true => (
        (p6.2.ld1 (.ptr h.next 3)).bind fun v7 =>
        (M.call 376 [v7, (.int .i64 1), (.int .i64 16)] p6.2).bind fun p8 =>
        match p8.1 with
        | .bool true => (
          (p8.2.ld1 (.ptr h.next 4)).bind fun v9 =>
          (M.call 376 [v9, (.int .i64 1), (.int .i64 1048576)] p8.2).bind fun p10 =>
          match p10.1 with
          | .bool true => (
            (p10.2.ld1 (.ptr h.next 5)).bind fun v11 =>
            (M.call 376 [v11, (.int .i64 0), (.int .i64 64)] p10.2).bind fun p12 =>
            some (p12.1, p12.2))
          | .bool false => (
            some ((.bool false), p10.2))
          | .tup [] => (
            (asB p10.1).bind fun b11 =>
            some ((match b11 with | true => (.tup []) | false => (.bool false) : V), p10.2))
          | _ => none)
        | .bool false => (
          some ((.bool false), p8.2))
        | .tup [] => (
          (asB p8.1).bind fun b9 =>
          match (match b9 with | true => (.tup []) | false => (.bool false) : V) with
          | .bool true => (
            (p8.2.ld1 (.ptr h.next 5)).bind fun v10 =>
            (M.call 376 [v10, (.int .i64 0), (.int .i64 64)] p8.2).bind fun p11 =>
            some (p11.1, p11.2))
          | .bool false => (
            some ((.bool false), p8.2))
          | .tup [] => (
            (asB (match b9 with | true => (.tup []) | false => (.bool false) : V)).bind fun b10 =>
            some ((match b10 with | true => (.tup []) | false => (.bool false) : V), p8.2))
          | _ => none)
        | _ => none)
      | .bool false => (
        some ((.bool false), p6.2))
      | .tup [] => (
        (asB p6.1).bind fun b7 =>
        match (match b7 with | true => (.tup []) | false => (.bool false) : V) with
        | .bool true => (
          (p6.2.ld1 (.ptr h.next 4)).bind fun v8 =>
          (M.call 376 [v8, (.int .i64 1), (.int .i64 1048576)] p6.2).bind fun p9 =>
          match p9.1 with
          | .bool true => (
            (p9.2.ld1 (.ptr h.next 5)).bind fun v10 =>
            (M.call 376 [v10, (.int .i64 0), (.int .i64 64)] p9.2).bind fun p11 =>
            some (p11.1, p11.2))
          | .bool false => (
            some ((.bool false), p9.2))
          | .tup [] => (
            (asB p9.1).bind fun b10 =>
            some ((match b10 with | true => (.tup []) | false => (.bool false) : V), p9.2))
          | _ => none)
        | .bool false => (
          some ((.bool false), p6.2))
        | .tup [] => (
          (asB (match b7 with | true => (.tup []) | false => (.bool false) : V)).bind fun b8 =>
          match (match b8 with | true => (.tup []) | false => (.bool false) : V) with
          | .bool true => (
            (p6.2.ld1 (.ptr h.next 5)).bind fun v9 =>
            (M.call 376 [v9, (.int .i64 0), (.int .i64 64)] p6.2).bind fun p10 =>
            some (p10.1, p10.2))
          | .bool false => (
            some ((.bool false), p6.2))
          | .tup [] => (
            (asB (match b8 with | true => (.tup []) | false => (.bool false) : V)).bind fun b9 =>
            some ((match b9 with | true => (.tup []) | false => (.bool false) : V), p6.2))
          | _ => none)
        | _ => none)
      | _ => none)
    | .bool false => (
      some ((.bool false), p4.2))
    | .tup [] => (
      (asB p4.1).bind fun b5 =>
      match (match b5 with | true => (.tup []) | false => (.bool false) : V) with
      | .bool true => (
        (p4.2.ld1 (.ptr h.next 3)).bind fun v6 =>
        (M.call 376 [v6, (.int .i64 1), (.int .i64 16)] p4.2).bind fun p7 =>
        match p7.1 with
        | .bool true => (
          (p7.2.ld1 (.ptr h.next 4)).bind fun v8 =>
          (M.call 376 [v8, (.int .i64 1), (.int .i64 1048576)] p7.2).bind fun p9 =>
          match p9.1 with
          | .bool true => (
            (p9.2.ld1 (.ptr h.next 5)).bind fun v10 =>
            (M.call 376 [v10, (.int .i64 0), (.int .i64 64)] p9.2).bind fun p11 =>
            some (p11.1, p11.2))
          | .bool false => (
            some ((.bool false), p9.2))
          | .tup [] => (
            (asB p9.1).bind fun b10 =>
            some ((match b10 with | true => (.tup []) | false => (.bool false) : V), p9.2))
          | _ => none)
        | .bool false => (
          some ((.bool false), p7.2))
        | .tup [] => (
          (asB p7.1).bind fun b8 =>
          match (match b8 with | true => (.tup []) | false => (.bool false) : V) with
          | .bool true => (
            (p7.2.ld1 (.ptr h.next 5)).bind fun v9 =>
            (M.call 376 [v9, (.int .i64 0), (.int .i64 64)] p7.2).bind fun p10 =>
            some (p10.1, p10.2))
          | .bool false => (
            some ((.bool false), p7.2))
          | .tup [] => (
            (asB (match b8 with | true => (.tup []) | false => (.bool false) : V)).bind fun b9 =>
            some ((match b9 with | true => (.tup []) | false => (.bool false) : V), p7.2))
          | _ => none)
        | _ => none)
      | .bool false => (
        some ((.bool false), p4.2))
      | .tup [] => (
        (asB (match b5 with | true => (.tup []) | false => (.bool false) : V)).bind fun b6 =>
        match (match b6 with | true => (.tup []) | false => (.bool false) : V) with
        | .bool true => (
          (p4.2.ld1 (.ptr h.next 4)).bind fun v7 =>
          (M.call 376 [v7, (.int .i64 1), (.int .i64 1048576)] p4.2).bind fun p8 =>
          match p8.1 with
          | .bool true => (
            (p8.2.ld1 (.ptr h.next 5)).bind fun v9 =>
            (M.call 376 [v9, (.int .i64 0), (.int .i64 64)] p8.2).bind fun p10 =>
            some (p10.1, p10.2))
          | .bool false => (
            some ((.bool false), p8.2))
          | .tup [] => (
            (asB p8.1).bind fun b9 =>
            some ((match b9 with | true => (.tup []) | false => (.bool false) : V), p8.2))
          | _ => none)
        | .bool false => (
          some ((.bool false), p4.2))
        | .tup [] => (
          (asB (match b6 with | true => (.tup []) | false => (.bool false) : V)).bind fun b7 =>
          match (match b7 with | true => (.tup []) | false => (.bool false) : V) with
          | .bool true => (
            (p4.2.ld1 (.ptr h.next 5)).bind fun v8 =>
            (M.call 376 [v8, (.int .i64 0), (.int .i64 64)] p4.2).bind fun p9 =>
            some (p9.1, p9.2))
          | .bool false => (
            some ((.bool false), p4.2))
          | .tup [] => (
            (asB (match b7 with | true => (.tup []) | false => (.bool false) : V)).bind fun b8 =>
            some ((match b8 with | true => (.tup []) | false => (.bool false) : V), p4.2))
          | _ => none)
        | _ => none)
      | _ => none)
    | _ => none)
  | .bool false => (
    some ((.bool false), p2.2))
  | .tup [] => (
    (asB p2.1).bind fun b3 =>
    match (match b3 with | true => (.tup []) | false => (.bool false) : V) with
    | .bool true => (
      (p2.2.ld1 (.ptr h.next 2)).bind fun v4 =>
      (M.call 376 [v4, (.int .i64 1), (.int .i64 8)] p2.2).bind fun p5 =>
      match p5.1 with
      | .bool true => (
        (p5.2.ld1 (.ptr h.next 3)).bind fun v6 =>
        (M.call 376 [v6, (.int .i64 1), (.int .i64 16)] p5.2).bind fun p7 =>
        match p7.1 with
        | .bool true => (
          (p7.2.ld1 (.ptr h.next 4)).bind fun v8 =>
          (M.call 376 [v8, (.int .i64 1), (.int .i64 1048576)] p7.2).bind fun p9 =>
          match p9.1 with
          | .bool true => (
            (p9.2.ld1 (.ptr h.next 5)).bind fun v10 =>
            (M.call 376 [v10, (.int .i64 0), (.int .i64 64)] p9.2).bind fun p11 =>
            some (p11.1, p11.2))
          | .bool false => (
            some ((.bool false), p9.2))
          | .tup [] => (
            (asB p9.1).bind fun b10 =>
            some ((match b10 with | true => (.tup []) | false => (.bool false) : V), p9.2))
          | _ => none)
        | .bool false => (
          some ((.bool false), p7.2))
        | .tup [] => (
          (asB p7.1).bind fun b8 =>
          match (match b8 with | true => (.tup []) | false => (.bool false) : V) with
          | .bool true => (
            (p7.2.ld1 (.ptr h.next 5)).bind fun v9 =>
            (M.call 376 [v9, (.int .i64 0), (.int .i64 64)] p7.2).bind fun p10 =>
            some (p10.1, p10.2))
          | .bool false => (
            some ((.bool false), p7.2))
          | .tup [] => (
            (asB (match b8 with | true => (.tup []) | false => (.bool false) : V)).bind fun b9 =>
            some ((match b9 with | true => (.tup []) | false => (.bool false) : V), p7.2))
          | _ => none)
        | _ => none)
      | .bool false => (
        some ((.bool false), p5.2))
      | .tup [] => (
        (asB p5.1).bind fun b6 =>
        match (match b6 with | true => (.tup []) | false => (.bool false) : V) with
        | .bool true => (
          (p5.2.ld1 (.ptr h.next 4)).bind fun v7 =>
          (M.call 376 [v7, (.int .i64 1), (.int .i64 1048576)] p5.2).bind fun p8 =>
          match p8.1 with
          | .bool true => (
            (p8.2.ld1 (.ptr h.next 5)).bind fun v9 =>
            (M.call 376 [v9, (.int .i64 0), (.int .i64 64)] p8.2).bind fun p10 =>
            some (p10.1, p10.2))
          | .bool false => (
            some ((.bool false), p8.2))
          | .tup [] => (
            (asB p8.1).bind fun b9 =>
            some ((match b9 with | true => (.tup []) | false => (.bool false) : V), p8.2))
          | _ => none)
        | .bool false => (
          some ((.bool false), p5.2))
        | .tup [] => (
          (asB (match b6 with | true => (.tup []) | false => (.bool false) : V)).bind fun b7 =>
          match (match b7 with | true => (.tup []) | false => (.bool false) : V) with
          | .bool true => (
            (p5.2.ld1 (.ptr h.next 5)).bind fun v8 =>
            (M.call 376 [v8, (.int .i64 0), (.int .i64 64)] p5.2).bind fun p9 =>
            some (p9.1, p9.2))
          | .bool false => (
            some ((.bool false), p5.2))
          | .tup [] => (
            (asB (match b7 with | true => (.tup []) | false => (.bool false) : V)).bind fun b8 =>
            some ((match b8 with | true => (.tup []) | false => (.bool false) : V), p5.2))
          | _ => none)
        | _ => none)
      | _ => none)
    | .bool false => (
      some ((.bool false), p2.2))
    | .tup [] => (
      (asB (match b3 with | true => (.tup []) | false => (.bool false) : V)).bind fun b4 =>
      match (match b4 with | true => (.tup []) | false => (.bool false) : V) with
      | .bool true => (
        (p2.2.ld1 (.ptr h.next 3)).bind fun v5 =>
        (M.call 376 [v5, (.int .i64 1), (.int .i64 16)] p2.2).bind fun p6 =>
        match p6.1 with
        | .bool true => (
          (p6.2.ld1 (.ptr h.next 4)).bind fun v7 =>
          (M.call 376 [v7, (.int .i64 1), (.int .i64 1048576)] p6.2).bind fun p8 =>
          match p8.1 with
          | .bool true => (
            (p8.2.ld1 (.ptr h.next 5)).bind fun v9 =>
            (M.call 376 [v9, (.int .i64 0), (.int .i64 64)] p8.2).bind fun p10 =>
            some (p10.1, p10.2))
          | .bool false => (
            some ((.bool false), p8.2))
          | .tup [] => (
            (asB p8.1).bind fun b9 =>
            some ((match b9 with | true => (.tup []) | false => (.bool false) : V), p8.2))
          | _ => none)
        | .bool false => (
          some ((.bool false), p6.2))
        | .tup [] => (
          (asB p6.1).bind fun b7 =>
          match (match b7 with | true => (.tup []) | false => (.bool false) : V) with
          | .bool true => (
            (p6.2.ld1 (.ptr h.next 5)).bind fun v8 =>
            (M.call 376 [v8, (.int .i64 0), (.int .i64 64)] p6.2).bind fun p9 =>
            some (p9.1, p9.2))
          | .bool false => (
            some ((.bool false), p6.2))
          | .tup [] => (
            (asB (match b7 with | true => (.tup []) | false => (.bool false) : V)).bind fun b8 =>
            some ((match b8 with | true => (.tup []) | false => (.bool false) : V), p6.2))
          | _ => none)
        | _ => none)
      | .bool false => (
        some ((.bool false), p2.2))
      | .tup [] => (
        (asB (match b4 with | true => (.tup []) | false => (.bool false) : V)).bind fun b5 =>
        match (match b5 with | true => (.tup []) | false => (.bool false) : V) with
        | .bool true => (
          (p2.2.ld1 (.ptr h.next 4)).bind fun v6 =>
          (M.call 376 [v6, (.int .i64 1), (.int .i64 1048576)] p2.2).bind fun p7 =>
          match p7.1 with
          | .bool true => (
            (p7.2.ld1 (.ptr h.next 5)).bind fun v8 =>
            (M.call 376 [v8, (.int .i64 0), (.int .i64 64)] p7.2).bind fun p9 =>
            some (p9.1, p9.2))
          | .bool false => (
            some ((.bool false), p7.2))
          | .tup [] => (
            (asB p7.1).bind fun b8 =>
            some ((match b8 with | true => (.tup []) | false => (.bool false) : V), p7.2))
          | _ => none)
        | .bool false => (
          some ((.bool false), p2.2))
        | .tup [] => (
          (asB (match b5 with | true => (.tup []) | false => (.bool false) : V)).bind fun b6 =>
          match (match b6 with | true => (.tup []) | false => (.bool false) : V) with
          | .bool true => (
            (p2.2.ld1 (.ptr h.next 5)).bind fun v7 =>
            (M.call 376 [v7, (.int .i64 0), (.int .i64 64)] p2.2).bind fun p8 =>
            some (p8.1, p8.2))
          | .bool false => (
            some ((.bool false), p2.2))
          | .tup [] => (
            (asB (match b6 with | true => (.tup []) | false => (.bool false) : V)).bind fun b7 =>
            some ((match b7 with | true => (.tup []) | false => (.bool false) : V), p2.2))
          | _ => none)
        | _ => none)
      | _ => none)
    | _ => none)
  | _ => none

theorem plan_Right_eq (M : Env) (a0_0 : Int) (a0_1 : Int) (a0_2 : Int) (a0_3 : Int) (a0_4 : Int) (a0_5 : Int) (h : H) : evalF M F.plan_Right [(.agg [(.int .i64 a0_0), (.int .i64 a0_1), (.int .i64 a0_2), (.int .i64 a0_3), (.int .i64 a0_4), (.int .i64 a0_5)])] h = plan_Right M a0_0 a0_1 a0_2 a0_3 a0_4 a0_5 h := by kernel_rfl

end Wm.S
end

section
/- PRINTED by my tool (wip/wm/tool/Gen.lean): what a function comes to, stretch by stretch. -/
namespace Wm.S
open Wm
set_option maxRecDepth 100000
set_option linter.unusedVariables false


def withyref06_Right (M : Env) (a0_0 : Int) (a0_1 : Int) (a0_2 : Int) (a0_3 : Int) (a0_4 : Int) (a0_5 : Int) (h : H) : Option (V × H) :=
  let h0 := h.new (.cells [(.int .i64 a0_0), (.int .i64 a0_1), (.int .i64 a0_2), (.int .i64 a0_3), (.int .i64 a0_4), (.int .i64 a0_5)] .rw)
  (h0.ld1 (.ptr h.next 0)).bind fun v1 =>
  (asI .i64 v1).bind fun n2 =>
  match (decide (1 ≤ n2)) with
  | true => (
    (h0.ld1 (.ptr h.next 0)).bind fun v3 =>
    (asI .i64 v3).bind fun n4 =>
    match (decide (n4 ≤ 64)) with
    | true => (
      (h0.ld1 (.ptr h.next 1)).bind fun v5 =>
      (asI .i64 v5).bind fun n6 =>
      match (decide (0 ≤ n6)) with
      | true => (
        (h0.ld1 (.ptr h.next 1)).bind fun v7 =>
        (asI .i64 v7).bind fun n8 =>
        match (decide (n8 ≤ 8)) with
        | true => (
          (h0.ld1 (.ptr h.next 2)).bind fun v9 =>
          (asI .i64 v9).bind fun n10 =>
          match (decide (1 ≤ n10)) with
          | true => (
            (h0.ld1 (.ptr h.next 2)).bind fun v11 =>
            (asI .i64 v11).bind fun n12 =>
            match (decide (n12 ≤ 8)) with
            | true => (
              (h0.ld1 (.ptr h.next 3)).bind fun v13 =>
              (asI .i64 v13).bind fun n14 =>
              match (decide (1 ≤ n14)) with
              | true => (
                (h0.ld1 (.ptr h.next 3)).bind fun v15 =>
                (asI .i64 v15).bind fun n16 =>
                match (decide (n16 ≤ 16)) with
                | true => (
                  (h0.ld1 (.ptr h.next 4)).bind fun v17 =>
                  (asI .i64 v17).bind fun n18 =>
                  match (decide (1 ≤ n18)) with
                  | true => (
                    (h0.ld1 (.ptr h.next 4)).bind fun v19 =>
                    (asI .i64 v19).bind fun n20 =>
                    match (decide (n20 ≤ 1048576)) with
                    | true => (
                      (h0.ld1 (.ptr h.next 5)).bind fun v21 =>
                      (asI .i64 v21).bind fun n22 =>
                      match (decide (0 ≤ n22)) with
                      | true => (
                        (h0.ld1 (.ptr h.next 5)).bind fun v23 =>
                        (asI .i64 v23).bind fun n24 =>
                        some ((.bool (decide (n24 ≤ 64))), h0))
                      | false => (
                        some ((.bool false), h0)))
                    | false => (
                      some ((.bool false), h0)))
                  | false => (
                    some ((.bool false), h0)))
                | false => (
                  some ((.bool false), h0)))
              | false => (
                some ((.bool false), h0)))
            | false => (
              some ((.bool false), h0)))
          | false => (
            some ((.bool false), h0)))
        | false => (
          some ((.bool false), h0)))
      | false => (
        some ((.bool false), h0)))
    | false => (
      some ((.bool false), h0)))
  | false => (
    some ((.bool false), h0))

theorem withyref06_Right_eq (M : Env) (a0_0 : Int) (a0_1 : Int) (a0_2 : Int) (a0_3 : Int) (a0_4 : Int) (a0_5 : Int) (h : H) : evalF M F.withyref06_Right [(.agg [(.int .i64 a0_0), (.int .i64 a0_1), (.int .i64 a0_2), (.int .i64 a0_3), (.int .i64 a0_4), (.int .i64 a0_5)])] h = withyref06_Right M a0_0 a0_1 a0_2 a0_3 a0_4 a0_5 h := by kernel_rfl

end Wm.S
end

section
/- PRINTED by my tool (wip/wm/tool/Gen.lean): what a function comes to, stretch by stretch. -/
namespace Wm.S
open Wm
set_option maxRecDepth 100000
set_option linter.unusedVariables false

def model_New_c1_B (M : Env) : List V → H → Option (AX × List V × H) :=
  fun env h => evalC M F.model_New_c1 env h fun x env h => match x with
    | .normal => some (.normal, keepOf [3, 15, 16] 0 env, h)
    | x => some (x, keepOf [3] 0 env, h)

def model_New_c1_E (x3 x15 x16 : V) : List V := [.dead, .dead, .dead, x3, .dead, .dead, .dead, .dead, .dead, .dead, .dead, .dead, .dead, .dead, .dead, x15, x16, .dead, .dead, .dead, .dead, .dead, .dead, .dead, .dead, .dead, .dead, .dead, .dead, .dead]
def model_New_c1_O (x3 : V) : List V := [.dead, .dead, .dead, x3, .dead, .dead, .dead, .dead, .dead, .dead, .dead, .dead, .dead, .dead, .dead, .dead, .dead, .dead, .dead, .dead, .dead, .dead, .dead, .dead, .dead, .dead, .dead, .dead, .dead, .dead]

def model_New_K0 (M : Env) : AX → List V → H → Option (V × H) :=
  fun x env h => fin F.model_New x env h

def model_New_K1 (M : Env) : AX → List V → H → Option (V × H) :=
  fun x env h => match x with | .normal => evalC M F.model_New_c0 env h (fun x env h => model_New_K0 M x env h) | x => model_New_K0 M x env h

def model_New_K2 (M : Env) : AX → List V → H → Option (V × H) :=
  fun x env h => match x with | .exit j => (match Nat.beq j 0 with | true => model_New_K1 M .normal env h | false => model_New_K1 M (.exit j) env h) | x => model_New_K1 M x env h

def model_New (M : Env) (a0_0 : Int) (a0_1 : Int) (a0_2 : Int) (a0_3 : Int) (a0_4 : Int) (a0_5 : Int) (h : H) : Option (V × H) :=
  let h0 := h.new (.cells [(.int .i64 a0_0), (.int .i64 a0_1), (.int .i64 a0_2), (.int .i64 a0_3), (.int .i64 a0_4), (.int .i64 a0_5)] .rw)
  (h0.ldN 6 (.ptr h.next 0)).bind fun v1 =>
  (M.call 263 [v1] h0).bind fun p2 =>
  (asB p2.1).bind fun b3 =>
  match (!b3) with
  | true => (
    some (.nilp, p2.2))
  | false => (
    (p2.2.ldN 6 (.ptr h.next 0)).bind fun v4 =>
    (p2.2.ld1 (.ptr h.next 2)).bind fun v5 =>
    (asI .i64 v5).bind fun n6 =>
    (asI .i64 v5).bind fun n7 =>
    (p2.2.mkSl 2 32 [(.int .u64 0), .nilsl] n6 n7).bind fun p8 =>
    let h9 := p8.2.new (.map [])
    (fill [(.int .i64 0), (.int .i64 0), (.int .i64 0), (.int .i64 0), (.int .i64 0), (.int .i64 0), .nilsl, .nilsl, .nilsl, .nilmap] [] [(0, 6, .c v4), (8, 1, .c p8.1), (9, 1, .c (.map p8.2.next))]).bind fun cs10 =>
    (boxc (.agg cs10)).bind fun cs11 =>
    let h12 := h9.new (.cells cs11 .rw)
    (h12.ld1 (.ptr h.next 2)).bind fun v13 =>
    (M.loop (model_New_c1_B M) (model_New_c1_E (.ptr h9.next 0) v13 (.int .i64 0)) h12).bind fun p14 => model_New_K2 M p14.1 p14.2.1 p14.2.2)

def model_New_c1_S (M : Env) (x3 : V) (x15 : Int) (x16 : Int) (h : H) : Option (AX × List V × H) :=
  match (decide (x16 < x15)) with
  | true => (
    (nilc x3).bind fun v0 =>
    (ptrAt v0 7).bind fun v1 =>
    (h.ld1 v1).bind fun v2 =>
    let h3 := h.new (.map [])
    let h4 := h3.new (.cells [(.map h.next)] .rw)
    (h4.append 1 8 v2 (.sl h3.next 0 1 (.ex 1))).bind fun p5 =>
    (nilc x3).bind fun v6 =>
    (ptrAt v6 7).bind fun v7 =>
    (p5.2.st 1 v7 p5.1).bind fun h8 =>
    some (.normal, (model_New_c1_E x3 (.int .i64 x15) (.int .i64 (wr .i64 (x16 + 1)))), h8))
  | false => (
    some ((.exit 0), (model_New_c1_O x3), h))

def model_New_c1_e0 (M : Env) (x3 : V) (h : H) : Option (V × H) :=
  some (x3, h)

theorem model_New_eq (M : Env) (a0_0 : Int) (a0_1 : Int) (a0_2 : Int) (a0_3 : Int) (a0_4 : Int) (a0_5 : Int) (h : H) : evalF M F.model_New [(.agg [(.int .i64 a0_0), (.int .i64 a0_1), (.int .i64 a0_2), (.int .i64 a0_3), (.int .i64 a0_4), (.int .i64 a0_5)])] h = model_New M a0_0 a0_1 a0_2 a0_3 a0_4 a0_5 h := by kernel_rfl

theorem model_New_c1_eq (M : Env) (x3 : V) (x15 : Int) (x16 : Int) (h : H) : model_New_c1_B M (model_New_c1_E x3 (.int .i64 x15) (.int .i64 x16)) h = model_New_c1_S M x3 x15 x16 h := by kernel_rfl

theorem model_New_c1_e0_eq (M : Env) (x3 : V) (h : H) : model_New_K2 M (.exit 0) (model_New_c1_O x3) h = model_New_c1_e0 M x3 h := by kernel_rfl

end Wm.S
end

section
/- PRINTED by my tool (wip/wm/tool/Gen.lean): what a function comes to, stretch by stretch. -/
namespace Wm.S
open Wm
set_option maxRecDepth 100000
set_option linter.unusedVariables false


def withylaw17_ModelNew (M : Env) (a0_0 : Int) (a0_1 : Int) (a0_2 : Int) (a0_3 : Int) (a0_4 : Int) (a0_5 : Int) (h : H) : Option (V × H) :=
  let h0 := h.new (.cells [(.int .i64 a0_0), (.int .i64 a0_1), (.int .i64 a0_2), (.int .i64 a0_3), (.int .i64 a0_4), (.int .i64 a0_5)] .rw)
  (h0.ldN 6 (.ptr h.next 0)).bind fun v1 =>
  (h0.ldN 6 (.ptr h.next 0)).bind fun v2 =>
  (M.call 96 [v1] h0).bind fun p3 =>
  match ckB (p3.2.ldN 6 (.ptr h.next 0)) v2 with
  | true => (
  (eqV .ptr p3.1 .nilp).bind fun b4 =>
  (M.call 85 [v2] p3.2).bind fun p5 =>
  (eqV .bool (.bool (!b4)) p5.1).bind fun b6 =>
  match b6 with
  | true => (
    (M.call 98 [] p5.2).bind fun p7 =>
    some (p7.1, p7.2))
  | false => (
    some ((.bool false), p5.2)))
  | false => none

theorem withylaw17_ModelNew_eq (M : Env) (a0_0 : Int) (a0_1 : Int) (a0_2 : Int) (a0_3 : Int) (a0_4 : Int) (a0_5 : Int) (h : H) : evalF M F.withylaw17_ModelNew [(.agg [(.int .i64 a0_0), (.int .i64 a0_1), (.int .i64 a0_2), (.int .i64 a0_3), (.int .i64 a0_4), (.int .i64 a0_5)])] h = withylaw17_ModelNew M a0_0 a0_1 a0_2 a0_3 a0_4 a0_5 h := by kernel_rfl

end Wm.S
end

