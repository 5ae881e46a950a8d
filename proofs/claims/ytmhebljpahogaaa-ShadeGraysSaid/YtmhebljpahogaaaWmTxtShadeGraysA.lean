/- PRINTED by my tool: what functions come to, stretch by stretch. -/
import Derived.KernelRfl
import Derived.Test.YtmhebljpahogaaaWmShal
import Derived.Test.YtmhebljpahogaaaWmFnsShadeGraysA
set_option linter.all false
section
/- PRINTED by my tool (wip/wm/tool/Gen.lean): what a function comes to, stretch by stretch. -/
namespace Wm.S
open Wm
set_option maxRecDepth 100000
set_option linter.unusedVariables false


def plan_between (M : Env) (a0 : Int) (a1 : Int) (a2 : Int) (h : H) : Option (V × H) :=
  match (decide (a1 ≤ a0)) with
  | true => (
    some ((.bool (decide (a0 ≤ a2))), h))
  | false => (
    some ((.bool false), h))

theorem plan_between_eq (M : Env) (a0 : Int) (a1 : Int) (a2 : Int) (h : H) : evalF M F.plan_between [(.int .i64 a0), (.int .i64 a1), (.int .i64 a2)] h = plan_between M a0 a1 a2 h := by kernel_rfl

end Wm.S
end

section
/- PRINTED by my tool (wip/wm/tool/Gen.lean): what a function comes to, stretch by stretch. -/
namespace Wm.S
open Wm
set_option maxRecDepth 100000
set_option linter.unusedVariables false


def plan_Right (M : Env) (a0_0 : Int) (a0_1 : Int) (a0_2 : Int) (a0_3 : Int) (a0_4 : Int) (a0_5 : Int) (h : H) : Option (V × H) :=
  let h0 := h.new (.cells [(.int .i64 a0_0), (.int .i64 a0_1), (.int .i64 a0_2), (.int .i64 a0_3), (.int .i64 a0_4), (.int .i64 a0_5)] .rw)
  (h0.ld1 (.ptr h.next 0)).bind fun v1 =>
  (M.call 376 [v1, (.int .i64 1), (.int .i64 64)] h0).bind fun p2 =>
  match p2.1 with
  | .bool true => (
    (p2.2.ld1 (.ptr h.next 1)).bind fun v3 =>
    (M.call 376 [v3, (.int .i64 0), (.int .i64 8)] p2.2).bind fun p4 =>
    match p4.1 with
    | .bool true => (
      (p4.2.ld1 (.ptr h.next 2)).bind fun v5 =>
      (M.call 376 [v5, (.int .i64 1), (.int .i64 8)] p4.2).bind fun p6 =>
      match p6.1 with
      | .bool true => (
        (p6.2.ld1 (.ptr h.next 3)).bind fun v7 =>
        (M.call 376 [v7, (.int .i64 1), (.int .i64 16)] p6.2).bind fun p8 =>
        match p8.1 with
        | .bool true => (
          (p8.2.ld1 (.ptr h.next 4)).bind fun v9 =>
          (M.call 376 [v9, (.int .i64 1), (.int .i64 1048576)] p8.2).bind fun p10 =>
          match p10.1 with
          | .bool true => (
            (p10.2.ld1 (.ptr h.next 5)).bind fun v11 =>
            (M.call 376 [v11, (.int .i64 0), (.int .i64 64)] p10.2).bind fun p12 =>
            some (p12.1, p12.2))
          | .bool false => (
            some ((.bool false), p10.2))
          | .tup [] => (
            (asB p10.1).bind fun b11 =>
            some ((match b11 with | true => (.tup []) | false => (.bool false) : V), p10.2))
          | _ => none)
        | .bool false => (
          some ((.bool false), p8.2))
        | .tup [] => (
          (asB p8.1).bind fun b9 =>
          match (match b9 with | true => (.tup []) | false => (.bool false) : V) with
          | .bool true => (
            (p8.2.ld1 (.ptr h.next 5)).bind fun v10 =>
            (M.call 376 [v10, (.int .i64 0), (.int .i64 64)] p8.2).bind fun p11 =>
            some (p11.1, p11.2))
          | .bool false => (
            some ((.bool false), p8.2))
          | .tup [] => (
            (asB (match b9 with | true => (.tup []) | false => (.bool false) : V)).bind fun b10 =>
            some ((match b10 with | true => (.tup []) | false => (.bool false) : V), p8.2))
          | _ => none)
        | _ => none)
      | .bool false => (
        some ((.bool false), p6.2))
      | .tup [] => (
        (asB p6.1).bind fun b7 =>
        match (match b7 with | true => (.tup []) | false => (.bool false) : V) with
        | .bool true => (
          (p6.2.ld1 (.ptr h.next 4)).bind fun v8 =>
          (M.call 376 [v8, (.int .i64 1), (.int .i64 1048576)] p6.2).bind fun p9 =>
          match p9.1 with
          | .bool true => (
            (p9.2.ld1 (.ptr h.next 5)).bind fun v10 =>
            (M.call 376 [v10, (.int .i64 0), (.int .i64 64)] p9.2).bind fun p11 =>
            some (p11.1, p11.2))
          | .bool false => (
            some ((.bool false), p9.2))
          | .tup [] => (
            (asB p9.1).bind fun b10 =>
            some ((match b10 with | true => (.tup []) | false => (.bool false) : V), p9.2))
          | _ => none)
        | .bool false => (
          some ((.bool false), p6.2))
        | .tup [] => (
          (asB (match b7 with | true => (.tup []) | false => (.bool false) : V)).bind fun b8 =>
          match (match b8 with | true => (.tup []) | false => (.bool false) : V) with
          | .bool true => (
            (p6.2.ld1 (.ptr h.next 5)).bind fun v9 =>
            (M.call 376 [v9, (.int .i64 0), (.int .i64 64)] p6.2).bind fun p10 =>
            some (p10.1, p10.2))
          | .bool false => (
            some ((.bool false), p6.2))
          | .tup [] => (
            (asB (match b8 with | true => (.tup []) | false => (.bool false) : V)).bind fun b9 =>
            some ((match b9 with | true => (.tup []) | false => (.bool false) : V), p6.2))
          | _ => none)
        | _ => none)
      | _ => none)
    | .bool false => (
      some ((.bool false), p4.2))
    | .tup [] => (
      (asB p4.1).bind fun b5 =>
      match (match b5 with | true => (.tup []) | false => (.bool false) : V) with
      | .bool true => (
        (p4.2.ld1 (.ptr h.next 3)).bind fun v6 =>
        (M.call 376 [v6, (.int .i64 1), (.int .i64 16)] p4.2).bind fun p7 =>
        match p7.1 with
        | .bool true => (
          (p7.2.ld1 (.ptr h.next 4)).bind fun v8 =>
          (M.call 376 [v8, (.int .i64 1), (.int .i64 1048576)] p7.2).bind fun p9 =>
          match p9.1 with
          | .bool true => (
            (p9.2.ld1 (.ptr h.next 5)).bind fun v10 =>
            (M.call 376 [v10, (.int .i64 0), (.int .i64 64)] p9.2).bind fun p11 =>
            some (p11.1, p11.2))
          | .bool false => (
            some ((.bool false), p9.2))
          | .tup [] => (
            (asB p9.1).bind fun b10 =>
            some ((match b10 with | true => (.tup []) | false => (.bool false) : V), p9.2))
          | _ => none)
        | .bool false => (
          some ((.bool false), p7.2))
        | .tup [] => (
          (asB p7.1).bind fun b8 =>
          match (match b8 with | true => (.tup []) | false => (.bool false) : V) with
          | .bool true => (
            (p7.2.ld1 (.ptr h.next 5)).bind fun v9 =>
            (M.call 376 [v9, (.int .i64 0), (.int .i64 64)] p7.2).bind fun p10 =>
            some (p10.1, p10.2))
          | .bool false => (
            some ((.bool false), p7.2))
          | .tup [] => (
            (asB (match b8 with | true => (.tup []) | false => (.bool false) : V)).bind fun b9 =>
            some ((match b9 with | true => (.tup []) | false => (.bool false) : V), p7.2))
          | _ => none)
        | _ => none)
      | .bool false => (
        some ((.bool false), p4.2))
      | .tup [] => (
        (asB (match b5 with | true => (.tup []) | false => (.bool false) : V)).bind fun b6 =>
        match (match b6 with | true => (.tup []) | false => (.bool false) : V) with
        | .bool true => (
          (p4.2.ld1 (.ptr h.next 4)).bind fun v7 =>
          (M.call 376 [v7, (.int .i64 1), (.int .i64 1048576)] p4.2).bind fun p8 =>
          match p8.1 with
          | .bool true => (
            (p8.2.ld1 (.ptr h.next 5)).bind fun v9 =>
            (M.call 376 [v9, (.int .i64 0), (.int .i64 64)] p8.2).bind fun p10 =>
            some (p10.1, p10.2))
          | .bool false => (
            some ((.bool false), p8.2))
          | .tup [] => (
            (asB p8.1).bind fun b9 =>
            some ((match b9 with | true => (.tup []) | false => (.bool false) : V), p8.2))
          | _ => none)
        | .bool false => (
          some ((.bool false), p4.2))
        | .tup [] => (
          (asB (match b6 with | true => (.tup []) | false => (.bool false) : V)).bind fun b7 =>
          match (match b7 with | true => (.tup []) | false => (.bool false) : V) with
          | .bool true => (
            (p4.2.ld1 (.ptr h.next 5)).bind fun v8 =>
            (M.call 376 [v8, (.int .i64 0), (.int .i64 64)] p4.2).bind fun p9 =>
            some (p9.1, p9.2))
          | .bool false => (
            some ((.bool false), p4.2))
          | .tup [] => (
            (asB (match b7 with | true => (.tup []) | false => (.bool false) : V)).bind fun b8 =>
            some ((match b8 with | true => (.tup []) | false => (.bool false) : V), p4.2))
          | _ => none)
        | _ => none)
      | _ => none)
    | _ => none)
  | .bool false => (
    some ((.bool false), p2.2))
  | .tup [] => (
    (asB p2.1).bind fun b3 =>
    match (match b3 with | true => (.tup []) | false => (.bool false) : V) with
    | .bool true => (
      (p2.2.ld1 (.ptr h.next 2)).bind fun v4 =>
      (M.call 376 [v4, (.int .i64 1), (.int .i64 8)] p2.2).bind fun p5 =>
      match p5.1 with
      | .bool true => (
        (p5.2.ld1 (.ptr h.next 3)).bind fun v6 =>
        (M.call 376 [v6, (.int .i64 1), (.int .i64 16)] p5.2).bind fun p7 =>
        match p7.1 with
        | .bool true => (
          (p7.2.ld1 (.ptr h.next 4)).bind fun v8 =>
          (M.call 376 [v8, (.int .i64 1), (.int .i64 1048576)] p7.2).bind fun p9 =>
          match p9.1 with
          | .bool true => (
            (p9.2.ld1 (.ptr h.next 5)).bind fun v10 =>
            (M.call 376 [v10, (.int .i64 0), (.int .i64 64)] p9.2).bind fun p11 =>
            some (p11.1, p11.2))
          | .bool false => (
            some ((.bool false), p9.2))
          | .tup [] => (
            (asB p9.1).bind fun b10 =>
            some ((match b10 with | true => (.tup []) | false => (.bool false) : V), p9.2))
          | _ => none)
        | .bool false => (
          some ((.bool false), p7.2))
        | .tup [] => (
          (asB p7.1).bind fun b8 =>
          match (match b8 with | true => (.tup []) | false => (.bool false) : V) with
          | .bool true => (
            (p7.2.ld1 (.ptr h.next 5)).bind fun v9 =>
            (M.call 376 [v9, (.int .i64 0), (.int .i64 64)] p7.2).bind fun p10 =>
            some (p10.1, p10.2))
          | .bool false => (
            some ((.bool false), p7.2))
          | .tup [] => (
            (asB (match b8 with | true => (.tup []) | false => (.bool false) : V)).bind fun b9 =>
            some ((match b9 with | true => (.tup []) | false => (.bool false) : V), p7.2))
          | _ => none)
        | _ => none)
      | .bool false => (
        some ((.bool false), p5.2))
      | .tup [] => (
        (asB p5.1).bind fun b6 =>
        match (match b6 with | true => (.tup []) | false => (.bool false) : V) with
        | .bool true => (
          (p5.2.ld1 (.ptr h.next 4)).bind fun v7 =>
          (M.call 376 [v7, (.int .i64 1), (.int .i64 1048576)] p5.2).bind fun p8 =>
          match p8.1 with
          | .bool true => (
            (p8.2.ld1 (.ptr h.next 5)).bind fun v9 =>
            (M.call 376 [v9, (.int .i64 0), (.int .i64 64)] p8.2).bind fun p10 =>
            some (p10.1, p10.2))
          | .bool false => (
            some ((.bool false), p8.2))
          | .tup [] => (
            (asB p8.1).bind fun b9 =>
            some ((match b9 with | true => (.tup []) | false => (.bool false) : V), p8.2))
          | _ => none)
        | .bool false => (
          some ((.bool false), p5.2))
        | .tup [] => (
          (asB (match b6 with | true => (.tup []) | false => (.bool false) : V)).bind fun b7 =>
          match (match b7 with | true => (.tup []) | false => (.bool false) : V) with
          | .bool true => (
            (p5.2.ld1 (.ptr h.next 5)).bind fun v8 =>
            (M.call 376 [v8, (.int .i64 0), (.int .i64 64)] p5.2).bind fun p9 =>
            some (p9.1, p9.2))
          | .bool false => (
            some ((.bool false), p5.2))
          | .tup [] => (
            (asB (match b7 with | true => (.tup []) | false => (.bool false) : V)).bind fun b8 =>
            some ((match b8 with | true => (.tup []) | false => (.bool false) : V), p5.2))
          | _ => none)
        | _ => none)
      | _ => none)
    | .bool false => (
      some ((.bool false), p2.2))
    | .tup [] => (
      (asB (match b3 with | true => (.tup []) | false => (.bool false) : V)).bind fun b4 =>
      match (match b4 with | true => (.tup []) | false => (.bool false) : V) with
      | .bool true => (
        (p2.2.ld1 (.ptr h.next 3)).bind fun v5 =>
        (M.call 376 [v5, (.int .i64 1), (.int .i64 16)] p2.2).bind fun p6 =>
        match p6.1 with
        | .bool true => (
          (p6.2.ld1 (.ptr h.next 4)).bind fun v7 =>
          (M.call 376 [v7, (.int .i64 1), (.int .i64 1048576)] p6.2).bind fun p8 =>
          match p8.1 with
          | .bool true => (
            (p8.2.ld1 (.ptr h.next 5)).bind fun v9 =>
            (M.call 376 [v9, (.int .i64 0), (.int .i64 64)] p8.2).bind fun p10 =>
            some (p10.1, p10.2))
          | .bool false => (
            some ((.bool false), p8.2))
          | .tup [] => (
            (asB p8.1).bind fun b9 =>
            some ((match b9 with | true => (.tup []) | false => (.bool false) : V), p8.2))
          | _ => none)
        | .bool false => (
          some ((.bool false), p6.2))
        | .tup [] => (
          (asB p6.1).bind fun b7 =>
          match (match b7 with | true => (.tup []) | false => (.bool false) : V) with
          | .bool true => (
            (p6.2.ld1 (.ptr h.next 5)).bind fun v8 =>
            (M.call 376 [v8, (.int .i64 0), (.int .i64 64)] p6.2).bind fun p9 =>
            some (p9.1, p9.2))
          | .bool false => (
            some ((.bool false), p6.2))
          | .tup [] => (
            (asB (match b7 with | true => (.tup []) | false => (.bool false) : V)).bind fun b8 =>
            some ((match b8 with | true => (.tup []) | false => (.bool false) : V), p6.2))
          | _ => none)
        | _ => none)
      | .bool false => (
        some ((.bool false), p2.2))
      | .tup [] => (
        (asB (match b4 with | true => (.tup []) | false => (.bool false) : V)).bind fun b5 =>
        match (match b5 with | true => (.tup []) | false => (.bool false) : V) with
        | .bool true => (
          (p2.2.ld1 (.ptr h.next 4)).bind fun v6 =>
          (M.call 376 [v6, (.int .i64 1), (.int .i64 1048576)] p2.2).bind fun p7 =>
          match p7.1 with
          | .bool true => (
            (p7.2.ld1 (.ptr h.next 5)).bind fun v8 =>
            (M.call 376 [v8, (.int .i64 0), (.int .i64 64)] p7.2).bind fun p9 =>
            some (p9.1, p9.2))
          | .bool false => (
            some ((.bool false), p7.2))
          | .tup [] => (
            (asB p7.1).bind fun b8 =>
            some ((match b8 with | true => (.tup []) | false => (.bool false) : V), p7.2))
          | _ => none)
        | .bool false => (
          some ((.bool false), p2.2))
        | .tup [] => (
          (asB (match b5 with | true => (.tup []) | false => (.bool false) : V)).bind fun b6 =>
          match (match b6 with | true => (.tup []) | false => (.bool false) : V) with
          | .bool true => (
            (p2.2.ld1 (.ptr h.next 5)).bind fun v7 =>
            (M.call 376 [v7, (.int .i64 0), (.int .i64 64)] p2.2).bind fun p8 =>
            some (p8.1, p8.2))
          | .bool false => (
            some ((.bool false), p2.2))
          | .tup [] => (
            (asB (match b6 with | true => (.tup []) | false => (.bool false) : V)).bind fun b7 =>
            some ((match b7 with | true => (.tup []) | false => (.bool false) : V), p2.2))
          | _ => none)
        | _ => none)
      | _ => none)
    | _ => none)
  | _ => none

theorem plan_Right_eq (M : Env) (a0_0 : Int) (a0_1 : Int) (a0_2 : Int) (a0_3 : Int) (a0_4 : Int) (a0_5 : Int) (h : H) : evalF M F.plan_Right [(.agg [(.int .i64 a0_0), (.int .i64 a0_1), (.int .i64 a0_2), (.int .i64 a0_3), (.int .i64 a0_4), (.int .i64 a0_5)])] h = plan_Right M a0_0 a0_1 a0_2 a0_3 a0_4 a0_5 h := by kernel_rfl

end Wm.S
end

section
/- PRINTED by my tool (wip/wm/tool/Gen.lean): what a function comes to, stretch by stretch. -/
namespace Wm.S
open Wm
set_option maxRecDepth 100000
set_option linter.unusedVariables false


def withyref06_Right (M : Env) (a0_0 : Int) (a0_1 : Int) (a0_2 : Int) (a0_3 : Int) (a0_4 : Int) (a0_5 : Int) (h : H) : Option (V × H) :=
  let h0 := h.new (.cells [(.int .i64 a0_0), (.int .i64 a0_1), (.int .i64 a0_2), (.int .i64 a0_3), (.int .i64 a0_4), (.int .i64 a0_5)] .rw)
  (h0.ld1 (.ptr h.next 0)).bind fun v1 =>
  (asI .i64 v1).bind fun n2 =>
  match (decide (1 ≤ n2)) with
  | true => (
    (h0.ld1 (.ptr h.next 0)).bind fun v3 =>
    (asI .i64 v3).bind fun n4 =>
    match (decide (n4 ≤ 64)) with
    | true => (
      (h0.ld1 (.ptr h.next 1)).bind fun v5 =>
      (asI .i64 v5).bind fun n6 =>
      match (decide (0 ≤ n6)) with
      | true => (
        (h0.ld1 (.ptr h.next 1)).bind fun v7 =>
        (asI .i64 v7).bind fun n8 =>
        match (decide (n8 ≤ 8)) with
        | true => (
          (h0.ld1 (.ptr h.next 2)).bind fun v9 =>
          (asI .i64 v9).bind fun n10 =>
          match (decide (1 ≤ n10)) with
          | true => (
            (h0.ld1 (.ptr h.next 2)).bind fun v11 =>
            (asI .i64 v11).bind fun n12 =>
            match (decide (n12 ≤ 8)) with
            | true => (
              (h0.ld1 (.ptr h.next 3)).bind fun v13 =>
              (asI .i64 v13).bind fun n14 =>
              match (decide (1 ≤ n14)) with
              | true => (
                (h0.ld1 (.ptr h.next 3)).bind fun v15 =>
                (asI .i64 v15).bind fun n16 =>
                match (decide (n16 ≤ 16)) with
                | true => (
                  (h0.ld1 (.ptr h.next 4)).bind fun v17 =>
                  (asI .i64 v17).bind fun n18 =>
                  match (decide (1 ≤ n18)) with
                  | true => (
                    (h0.ld1 (.ptr h.next 4)).bind fun v19 =>
                    (asI .i64 v19).bind fun n20 =>
                    match (decide (n20 ≤ 1048576)) with
                    | true => (
                      (h0.ld1 (.ptr h.next 5)).bind fun v21 =>
                      (asI .i64 v21).bind fun n22 =>
                      match (decide (0 ≤ n22)) with
                      | true => (
                        (h0.ld1 (.ptr h.next 5)).bind fun v23 =>
                        (asI .i64 v23).bind fun n24 =>
                        some ((.bool (decide (n24 ≤ 64))), h0))
                      | false => (
                        some ((.bool false), h0)))
                    | false => (
                      some ((.bool false), h0)))
                  | false => (
                    some ((.bool false), h0)))
                | false => (
                  some ((.bool false), h0)))
              | false => (
                some ((.bool false), h0)))
            | false => (
              some ((.bool false), h0)))
          | false => (
            some ((.bool false), h0)))
        | false => (
          some ((.bool false), h0)))
      | false => (
        some ((.bool false), h0)))
    | false => (
      some ((.bool false), h0)))
  | false => (
    some ((.bool false), h0))

theorem withyref06_Right_eq (M : Env) (a0_0 : Int) (a0_1 : Int) (a0_2 : Int) (a0_3 : Int) (a0_4 : Int) (a0_5 : Int) (h : H) : evalF M F.withyref06_Right [(.agg [(.int .i64 a0_0), (.int .i64 a0_1), (.int .i64 a0_2), (.int .i64 a0_3), (.int .i64 a0_4), (.int .i64 a0_5)])] h = withyref06_Right M a0_0 a0_1 a0_2 a0_3 a0_4 a0_5 h := by kernel_rfl

end Wm.S
end

section
/- PRINTED by my tool (wip/wm/tool/Gen.lean): what a function comes to, stretch by stretch. -/
namespace Wm.S
open Wm
set_option maxRecDepth 100000
set_option linter.unusedVariables false

def withyref06_Words_c1_B (M : Env) : List V → H → Option (AX × List V × H) :=
  fun env h => evalC M F.withyref06_Words_c1 env h fun x env h => match x with
    | .normal => some (.normal, keepOf [1, 3, 4] 0 env, h)
    | x => some (x, keepOf [1, 3] 0 env, h)

def withyref06_Words_c1_E (x1 x3 x4 : V) : List V := [.dead, x1, .dead, x3, x4, .dead, .dead, .dead, .dead, .dead, .dead, .dead, .dead, .dead, .dead, .dead, .dead, .dead, .dead, .dead, .dead, .dead, .dead, .dead, .dead, .dead, .dead, .dead, .dead, .dead, .dead, .dead, .dead, .dead, .dead, .dead, .dead, .dead, .dead, .dead, .dead, .dead, .dead, .dead, .dead, .dead, .dead, .dead, .dead, .dead, .dead, .dead, .dead, .dead, .dead, .dead, .dead, .dead, .dead, .dead, .dead, .dead, .dead, .dead, .dead, .dead, .dead, .dead, .dead, .dead, .dead, .dead, .dead, .dead, .dead, .dead, .dead, .dead, .dead, .dead, .dead, .dead, .dead]
def withyref06_Words_c1_O (x1 x3 : V) : List V := [.dead, x1, .dead, x3, .dead, .dead, .dead, .dead, .dead, .dead, .dead, .dead, .dead, .dead, .dead, .dead, .dead, .dead, .dead, .dead, .dead, .dead, .dead, .dead, .dead, .dead, .dead, .dead, .dead, .dead, .dead, .dead, .dead, .dead, .dead, .dead, .dead, .dead, .dead, .dead, .dead, .dead, .dead, .dead, .dead, .dead, .dead, .dead, .dead, .dead, .dead, .dead, .dead, .dead, .dead, .dead, .dead, .dead, .dead, .dead, .dead, .dead, .dead, .dead, .dead, .dead, .dead, .dead, .dead, .dead, .dead, .dead, .dead, .dead, .dead, .dead, .dead, .dead, .dead, .dead, .dead, .dead, .dead]

def withyref06_Words_c3_B (M : Env) : List V → H → Option (AX × List V × H) :=
  fun env h => evalC M F.withyref06_Words_c3 env h fun x env h => match x with
    | .normal => some (.normal, keepOf [1, 3, 5] 0 env, h)
    | x => some (x, keepOf [1, 3] 0 env, h)

def withyref06_Words_c3_E (x1 x3 x5 : V) : List V := [.dead, x1, .dead, x3, .dead, x5, .dead, .dead, .dead, .dead, .dead, .dead, .dead, .dead, .dead, .dead, .dead, .dead, .dead, .dead, .dead, .dead, .dead, .dead, .dead, .dead, .dead, .dead, .dead, .dead, .dead, .dead, .dead, .dead, .dead, .dead, .dead, .dead, .dead, .dead, .dead, .dead, .dead, .dead, .dead, .dead, .dead, .dead, .dead, .dead, .dead, .dead, .dead, .dead, .dead, .dead, .dead, .dead, .dead, .dead, .dead, .dead, .dead, .dead, .dead, .dead, .dead, .dead, .dead, .dead, .dead, .dead, .dead, .dead, .dead, .dead, .dead, .dead, .dead, .dead, .dead, .dead, .dead]
def withyref06_Words_c3_O (x1 x3 : V) : List V := [.dead, x1, .dead, x3, .dead, .dead, .dead, .dead, .dead, .dead, .dead, .dead, .dead, .dead, .dead, .dead, .dead, .dead, .dead, .dead, .dead, .dead, .dead, .dead, .dead, .dead, .dead, .dead, .dead, .dead, .dead, .dead, .dead, .dead, .dead, .dead, .dead, .dead, .dead, .dead, .dead, .dead, .dead, .dead, .dead, .dead, .dead, .dead, .dead, .dead, .dead, .dead, .dead, .dead, .dead, .dead, .dead, .dead, .dead, .dead, .dead, .dead, .dead, .dead, .dead, .dead, .dead, .dead, .dead, .dead, .dead, .dead, .dead, .dead, .dead, .dead, .dead, .dead, .dead, .dead, .dead, .dead, .dead]

def withyref06_Words_c5_B (M : Env) : List V → H → Option (AX × List V × H) :=
  fun env h => evalC M F.withyref06_Words_c5 env h fun x env h => match x with
    | .normal => some (.normal, keepOf [1, 3, 5, 6] 0 env, h)
    | x => some (x, keepOf [1, 3, 5] 0 env, h)

def withyref06_Words_c5_E (x1 x3 x5 x6 : V) : List V := [.dead, x1, .dead, x3, .dead, x5, x6, .dead, .dead, .dead, .dead, .dead, .dead, .dead, .dead, .dead, .dead, .dead, .dead, .dead, .dead, .dead, .dead, .dead, .dead, .dead, .dead, .dead, .dead, .dead, .dead, .dead, .dead, .dead, .dead, .dead, .dead, .dead, .dead, .dead, .dead, .dead, .dead, .dead, .dead, .dead, .dead, .dead, .dead, .dead, .dead, .dead, .dead, .dead, .dead, .dead, .dead, .dead, .dead, .dead, .dead, .dead, .dead, .dead, .dead, .dead, .dead, .dead, .dead, .dead, .dead, .dead, .dead, .dead, .dead, .dead, .dead, .dead, .dead, .dead, .dead, .dead, .dead]
def withyref06_Words_c5_O (x1 x3 x5 : V) : List V := [.dead, x1, .dead, x3, .dead, x5, .dead, .dead, .dead, .dead, .dead, .dead, .dead, .dead, .dead, .dead, .dead, .dead, .dead, .dead, .dead, .dead, .dead, .dead, .dead, .dead, .dead, .dead, .dead, .dead, .dead, .dead, .dead, .dead, .dead, .dead, .dead, .dead, .dead, .dead, .dead, .dead, .dead, .dead, .dead, .dead, .dead, .dead, .dead, .dead, .dead, .dead, .dead, .dead, .dead, .dead, .dead, .dead, .dead, .dead, .dead, .dead, .dead, .dead, .dead, .dead, .dead, .dead, .dead, .dead, .dead, .dead, .dead, .dead, .dead, .dead, .dead, .dead, .dead, .dead, .dead, .dead, .dead]

def withyref06_Words_c7_B (M : Env) : List V → H → Option (AX × List V × H) :=
  fun env h => evalC M F.withyref06_Words_c7 env h fun x env h => match x with
    | .normal => some (.normal, keepOf [1, 3, 7] 0 env, h)
    | x => some (x, keepOf [1, 3] 0 env, h)

def withyref06_Words_c7_E (x1 x3 x7 : V) : List V := [.dead, x1, .dead, x3, .dead, .dead, .dead, x7, .dead, .dead, .dead, .dead, .dead, .dead, .dead, .dead, .dead, .dead, .dead, .dead, .dead, .dead, .dead, .dead, .dead, .dead, .dead, .dead, .dead, .dead, .dead, .dead, .dead, .dead, .dead, .dead, .dead, .dead, .dead, .dead, .dead, .dead, .dead, .dead, .dead, .dead, .dead, .dead, .dead, .dead, .dead, .dead, .dead, .dead, .dead, .dead, .dead, .dead, .dead, .dead, .dead, .dead, .dead, .dead, .dead, .dead, .dead, .dead, .dead, .dead, .dead, .dead, .dead, .dead, .dead, .dead, .dead, .dead, .dead, .dead, .dead, .dead, .dead]
def withyref06_Words_c7_O (x1 x3 : V) : List V := [.dead, x1, .dead, x3, .dead, .dead, .dead, .dead, .dead, .dead, .dead, .dead, .dead, .dead, .dead, .dead, .dead, .dead, .dead, .dead, .dead, .dead, .dead, .dead, .dead, .dead, .dead, .dead, .dead, .dead, .dead, .dead, .dead, .dead, .dead, .dead, .dead, .dead, .dead, .dead, .dead, .dead, .dead, .dead, .dead, .dead, .dead, .dead, .dead, .dead, .dead, .dead, .dead, .dead, .dead, .dead, .dead, .dead, .dead, .dead, .dead, .dead, .dead, .dead, .dead, .dead, .dead, .dead, .dead, .dead, .dead, .dead, .dead, .dead, .dead, .dead, .dead, .dead, .dead, .dead, .dead, .dead, .dead]

def withyref06_Words_c9_B (M : Env) : List V → H → Option (AX × List V × H) :=
  fun env h => evalC M F.withyref06_Words_c9 env h fun x env h => match x with
    | .normal => some (.normal, keepOf [1, 3, 8] 0 env, h)
    | x => some (x, keepOf [3] 0 env, h)

def withyref06_Words_c9_E (x1 x3 x8 : V) : List V := [.dead, x1, .dead, x3, .dead, .dead, .dead, .dead, x8, .dead, .dead, .dead, .dead, .dead, .dead, .dead, .dead, .dead, .dead, .dead, .dead, .dead, .dead, .dead, .dead, .dead, .dead, .dead, .dead, .dead, .dead, .dead, .dead, .dead, .dead, .dead, .dead, .dead, .dead, .dead, .dead, .dead, .dead, .dead, .dead, .dead, .dead, .dead, .dead, .dead, .dead, .dead, .dead, .dead, .dead, .dead, .dead, .dead, .dead, .dead, .dead, .dead, .dead, .dead, .dead, .dead, .dead, .dead, .dead, .dead, .dead, .dead, .dead, .dead, .dead, .dead, .dead, .dead, .dead, .dead, .dead, .dead, .dead]
def withyref06_Words_c9_O (x3 : V) : List V := [.dead, .dead, .dead, x3, .dead, .dead, .dead, .dead, .dead, .dead, .dead, .dead, .dead, .dead, .dead, .dead, .dead, .dead, .dead, .dead, .dead, .dead, .dead, .dead, .dead, .dead, .dead, .dead, .dead, .dead, .dead, .dead, .dead, .dead, .dead, .dead, .dead, .dead, .dead, .dead, .dead, .dead, .dead, .dead, .dead, .dead, .dead, .dead, .dead, .dead, .dead, .dead, .dead, .dead, .dead, .dead, .dead, .dead, .dead, .dead, .dead, .dead, .dead, .dead, .dead, .dead, .dead, .dead, .dead, .dead, .dead, .dead, .dead, .dead, .dead, .dead, .dead, .dead, .dead, .dead, .dead, .dead, .dead]

def withyref06_Words_c11_B (M : Env) : List V → H → Option (AX × List V × H) :=
  fun env h => evalC M F.withyref06_Words_c11 env h fun x env h => match x with
    | .normal => some (.normal, keepOf [1, 3, 8, 9] 0 env, h)
    | x => some (x, keepOf [1, 3, 8] 0 env, h)

def withyref06_Words_c11_E (x1 x3 x8 x9 : V) : List V := [.dead, x1, .dead, x3, .dead, .dead, .dead, .dead, x8, x9, .dead, .dead, .dead, .dead, .dead, .dead, .dead, .dead, .dead, .dead, .dead, .dead, .dead, .dead, .dead, .dead, .dead, .dead, .dead, .dead, .dead, .dead, .dead, .dead, .dead, .dead, .dead, .dead, .dead, .dead, .dead, .dead, .dead, .dead, .dead, .dead, .dead, .dead, .dead, .dead, .dead, .dead, .dead, .dead, .dead, .dead, .dead, .dead, .dead, .dead, .dead, .dead, .dead, .dead, .dead, .dead, .dead, .dead, .dead, .dead, .dead, .dead, .dead, .dead, .dead, .dead, .dead, .dead, .dead, .dead, .dead, .dead, .dead]
def withyref06_Words_c11_O (x1 x3 x8 : V) : List V := [.dead, x1, .dead, x3, .dead, .dead, .dead, .dead, x8, .dead, .dead, .dead, .dead, .dead, .dead, .dead, .dead, .dead, .dead, .dead, .dead, .dead, .dead, .dead, .dead, .dead, .dead, .dead, .dead, .dead, .dead, .dead, .dead, .dead, .dead, .dead, .dead, .dead, .dead, .dead, .dead, .dead, .dead, .dead, .dead, .dead, .dead, .dead, .dead, .dead, .dead, .dead, .dead, .dead, .dead, .dead, .dead, .dead, .dead, .dead, .dead, .dead, .dead, .dead, .dead, .dead, .dead, .dead, .dead, .dead, .dead, .dead, .dead, .dead, .dead, .dead, .dead, .dead, .dead, .dead, .dead, .dead, .dead]

def withyref06_Words_K0 (M : Env) : AX → List V → H → Option (V × H) :=
  fun x env h => fin F.withyref06_Words x env h

def withyref06_Words_K1 (M : Env) : AX → List V → H → Option (V × H) :=
  fun x env h => match x with | .normal => evalC M F.withyref06_Words_c0 env h (fun x env h => withyref06_Words_K0 M x env h) | x => withyref06_Words_K0 M x env h

def withyref06_Words_K2 (M : Env) : AX → List V → H → Option (V × H) :=
  fun x env h => match x with | .exit j => (match Nat.beq j 0 with | true => withyref06_Words_K1 M .normal env h | false => withyref06_Words_K1 M (.exit j) env h) | x => withyref06_Words_K1 M x env h

def withyref06_Words_K3 (M : Env) : AX → List V → H → Option (V × H) :=
  fun x env h => match x with | .normal => evalC M F.withyref06_Words_c2 env h (fun x env h => withyref06_Words_K0 M x env h) | x => withyref06_Words_K0 M x env h

def withyref06_Words_K4 (M : Env) : AX → List V → H → Option (V × H) :=
  fun x env h => match x with | .exit j => (match Nat.beq j 2 with | true => withyref06_Words_K3 M .normal env h | false => withyref06_Words_K3 M (.exit j) env h) | x => withyref06_Words_K3 M x env h

def withyref06_Words_K5 (M : Env) : AX → List V → H → Option (AX × List V × H) :=
  fun x env h => match x with | .normal => some (.normal, keepOf [1, 3, 5] 0 env, h) | x => some (x, keepOf [1, 3] 0 env, h)

def withyref06_Words_K6 (M : Env) : AX → List V → H → Option (AX × List V × H) :=
  fun x env h => match x with | .normal => evalC M F.withyref06_Words_c4 env h (fun x env h => withyref06_Words_K5 M x env h) | x => withyref06_Words_K5 M x env h

def withyref06_Words_K7 (M : Env) : AX → List V → H → Option (AX × List V × H) :=
  fun x env h => match x with | .exit j => (match Nat.beq j 3 with | true => withyref06_Words_K6 M .normal env h | false => withyref06_Words_K6 M (.exit j) env h) | x => withyref06_Words_K6 M x env h

def withyref06_Words_K8 (M : Env) : AX → List V → H → Option (AX × List V × H) :=
  fun x env h => match x with | .exit j => (match Nat.beq j 4 with | true => withyref06_Words_K7 M .normal env h | false => withyref06_Words_K7 M (.exit j) env h) | x => withyref06_Words_K7 M x env h

def withyref06_Words_K9 (M : Env) : AX → List V → H → Option (V × H) :=
  fun x env h => match x with | .normal => evalC M F.withyref06_Words_c6 env h (fun x env h => withyref06_Words_K0 M x env h) | x => withyref06_Words_K0 M x env h

def withyref06_Words_K10 (M : Env) : AX → List V → H → Option (V × H) :=
  fun x env h => match x with | .exit j => (match Nat.beq j 6 with | true => withyref06_Words_K9 M .normal env h | false => withyref06_Words_K9 M (.exit j) env h) | x => withyref06_Words_K9 M x env h

def withyref06_Words_K11 (M : Env) : AX → List V → H → Option (V × H) :=
  fun x env h => match x with | .normal => evalC M F.withyref06_Words_c8 env h (fun x env h => withyref06_Words_K0 M x env h) | x => withyref06_Words_K0 M x env h

def withyref06_Words_K12 (M : Env) : AX → List V → H → Option (V × H) :=
  fun x env h => match x with | .exit j => (match Nat.beq j 8 with | true => withyref06_Words_K11 M .normal env h | false => withyref06_Words_K11 M (.exit j) env h) | x => withyref06_Words_K11 M x env h

def withyref06_Words_K13 (M : Env) : AX → List V → H → Option (AX × List V × H) :=
  fun x env h => match x with | .normal => some (.normal, keepOf [1, 3, 8] 0 env, h) | x => some (x, keepOf [3] 0 env, h)

def withyref06_Words_K14 (M : Env) : AX → List V → H → Option (AX × List V × H) :=
  fun x env h => match x with | .normal => evalC M F.withyref06_Words_c10 env h (fun x env h => withyref06_Words_K13 M x env h) | x => withyref06_Words_K13 M x env h

def withyref06_Words_K15 (M : Env) : AX → List V → H → Option (AX × List V × H) :=
  fun x env h => match x with | .exit j => (match Nat.beq j 9 with | true => withyref06_Words_K14 M .normal env h | false => withyref06_Words_K14 M (.exit j) env h) | x => withyref06_Words_K14 M x env h

def withyref06_Words_K16 (M : Env) : AX → List V → H → Option (AX × List V × H) :=
  fun x env h => match x with | .exit j => (match Nat.beq j 10 with | true => withyref06_Words_K15 M .normal env h | false => withyref06_Words_K15 M (.exit j) env h) | x => withyref06_Words_K15 M x env h

def withyref06_Words (M : Env) (a0_0 : Int) (a0_1 : Int) (a0_2 : Int) (a0_3 : Int) (a0_4 : Int) (a0_5 : Int) (h : H) : Option (V × H) :=
  let h0 := h.new (.cells [(.int .i64 a0_0), (.int .i64 a0_1), (.int .i64 a0_2), (.int .i64 a0_3), (.int .i64 a0_4), (.int .i64 a0_5)] .rw)
  let h1 := h0.new (.cells [(.str ⟨⟨[99, 108, 111, 99, 107]⟩⟩), (.int .i64 0), (.int .i64 0), (.str ⟨⟨[101, 112, 111, 99, 104]⟩⟩), (.int .i64 0), (.int .i64 0), (.str ⟨⟨[103, 114, 97, 121, 115]⟩⟩), (.int .i64 0), (.int .i64 0), (.str ⟨⟨[116, 111, 112]⟩⟩), (.int .i64 0), (.int .i64 0)] .rw)
  (M.loop (withyref06_Words_c1_B M) (withyref06_Words_c1_E (.ptr h.next 0) (.sl h0.next 0 4 (.ex 4)) (.int .i64 0)) h1).bind fun p2 => withyref06_Words_K2 M p2.1 p2.2.1 p2.2.2

def withyref06_Words_c1_S (M : Env) (x1 : V) (x3 : V) (x4 : Int) (h : H) : Option (AX × List V × H) :=
  (ptrAt x1 2).bind fun v0 =>
  (h.ld1 v0).bind fun v1 =>
  (asI .i64 v1).bind fun n2 =>
  match (decide (x4 < n2)) with
  | true => (
    let h3 := h.new (.cells [(.str ⟨⟨[112, 105, 110]⟩⟩), (.int .i64 x4), (.int .i64 0)] .rw)
    (h3.append 3 32 x3 (.sl h.next 0 1 (.ex 1))).bind fun p4 =>
    some (.normal, (withyref06_Words_c1_E x1 p4.1 (.int .i64 (wr .i64 (x4 + 1)))), p4.2))
  | false => (
    some ((.exit 0), (withyref06_Words_c1_O x1 x3), h))

def withyref06_Words_c1_e0 (M : Env) (x1 : V) (x3 : V) (h : H) : Option (V × H) :=
  (M.loop (withyref06_Words_c3_B M) (withyref06_Words_c3_E x1 x3 (.int .i64 0)) h).bind fun p0 => withyref06_Words_K4 M p0.1 p0.2.1 p0.2.2

def withyref06_Words_c3_S (M : Env) (x1 : V) (x3 : V) (x5 : Int) (h : H) : Option (AX × List V × H) :=
  (ptrAt x1 2).bind fun v0 =>
  (h.ld1 v0).bind fun v1 =>
  (asI .i64 v1).bind fun n2 =>
  match (decide (x5 < n2)) with
  | true => (
    (M.loop (withyref06_Words_c5_B M) (withyref06_Words_c5_E x1 x3 (.int .i64 x5) (.int .i64 0)) h).bind fun p3 => withyref06_Words_K8 M p3.1 p3.2.1 p3.2.2)
  | false => (
    some ((.exit 2), (withyref06_Words_c3_O x1 x3), h))

def withyref06_Words_c3_e2 (M : Env) (x1 : V) (x3 : V) (h : H) : Option (V × H) :=
  (M.loop (withyref06_Words_c7_B M) (withyref06_Words_c7_E x1 x3 (.int .i64 0)) h).bind fun p0 => withyref06_Words_K10 M p0.1 p0.2.1 p0.2.2

def withyref06_Words_c5_S (M : Env) (x1 : V) (x3 : V) (x5 : Int) (x6 : Int) (h : H) : Option (AX × List V × H) :=
  (ptrAt x1 3).bind fun v0 =>
  (h.ld1 v0).bind fun v1 =>
  (asI .i64 v1).bind fun n2 =>
  match (decide (x6 < n2)) with
  | true => (
    let h3 := h.new (.cells [(.str ⟨⟨[101, 110, 116, 114, 121]⟩⟩), (.int .i64 x5), (.int .i64 x6)] .rw)
    (h3.append 3 32 x3 (.sl h.next 0 1 (.ex 1))).bind fun p4 =>
    some (.normal, (withyref06_Words_c5_E x1 p4.1 (.int .i64 x5) (.int .i64 (wr .i64 (x6 + 1)))), p4.2))
  | false => (
    some ((.exit 4), (withyref06_Words_c5_O x1 x3 (.int .i64 x5)), h))

def withyref06_Words_c5_e4 (M : Env) (x1 : V) (x3 : V) (x5 : Int) (h : H) : Option (AX × List V × H) :=
  some (.normal, (withyref06_Words_c3_E x1 x3 (.int .i64 (wr .i64 (x5 + 1)))), h)

def withyref06_Words_c7_S (M : Env) (x1 : V) (x3 : V) (x7 : Int) (h : H) : Option (AX × List V × H) :=
  (ptrAt x1 2).bind fun v0 =>
  (h.ld1 v0).bind fun v1 =>
  (asI .i64 v1).bind fun n2 =>
  match (decide (x7 < n2)) with
  | true => (
    let h3 := h.new (.cells [(.str ⟨⟨[118, 105, 101, 119]⟩⟩), (.int .i64 x7), (.int .i64 0), (.str ⟨⟨[115, 116, 97, 114, 116]⟩⟩), (.int .i64 x7), (.int .i64 0)] .rw)
    (h3.append 3 32 x3 (.sl h.next 0 2 (.ex 2))).bind fun p4 =>
    some (.normal, (withyref06_Words_c7_E x1 p4.1 (.int .i64 (wr .i64 (x7 + 1)))), p4.2))
  | false => (
    some ((.exit 6), (withyref06_Words_c7_O x1 x3), h))

def withyref06_Words_c7_e6 (M : Env) (x1 : V) (x3 : V) (h : H) : Option (V × H) :=
  (M.loop (withyref06_Words_c9_B M) (withyref06_Words_c9_E x1 x3 (.int .i64 0)) h).bind fun p0 => withyref06_Words_K12 M p0.1 p0.2.1 p0.2.2

def withyref06_Words_c9_S (M : Env) (x1 : V) (x3 : V) (x8 : Int) (h : H) : Option (AX × List V × H) :=
  (ptrAt x1 0).bind fun v0 =>
  (h.ld1 v0).bind fun v1 =>
  (asI .i64 v1).bind fun n2 =>
  match (decide (x8 < n2)) with
  | true => (
    let h3 := h.new (.cells [(.str ⟨⟨[104, 101, 97, 100, 101, 114]⟩⟩), (.int .i64 x8), (.int .i64 0), (.str ⟨⟨[108, 105, 110, 107]⟩⟩), (.int .i64 x8), (.int .i64 0)] .rw)
    (h3.append 3 32 x3 (.sl h.next 0 2 (.ex 2))).bind fun p4 =>
    (M.loop (withyref06_Words_c11_B M) (withyref06_Words_c11_E x1 p4.1 (.int .i64 x8) (.int .i64 0)) p4.2).bind fun p5 => withyref06_Words_K16 M p5.1 p5.2.1 p5.2.2)
  | false => (
    some ((.exit 8), (withyref06_Words_c9_O x3), h))

def withyref06_Words_c9_e8 (M : Env) (x3 : V) (h : H) : Option (V × H) :=
  some (x3, h)

def withyref06_Words_c11_S (M : Env) (x1 : V) (x3 : V) (x8 : Int) (x9 : Int) (h : H) : Option (AX × List V × H) :=
  (h.ldN 6 x1).bind fun v0 =>
  (M.call 149 [v0] h).bind fun p1 =>
  (asI .i64 p1.1).bind fun n2 =>
  match (decide (x9 < n2)) with
  | true => (
    let h3 := p1.2.new (.cells [(.str ⟨⟨[98, 111, 100, 121]⟩⟩), (.int .i64 x8), (.int .i64 x9)] .rw)
    (h3.append 3 32 x3 (.sl p1.2.next 0 1 (.ex 1))).bind fun p4 =>
    some (.normal, (withyref06_Words_c11_E x1 p4.1 (.int .i64 x8) (.int .i64 (wr .i64 (x9 + 1)))), p4.2))
  | false => (
    some ((.exit 10), (withyref06_Words_c11_O x1 x3 (.int .i64 x8)), p1.2))

def withyref06_Words_c11_e10 (M : Env) (x1 : V) (x3 : V) (x8 : Int) (h : H) : Option (AX × List V × H) :=
  some (.normal, (withyref06_Words_c9_E x1 x3 (.int .i64 (wr .i64 (x8 + 1)))), h)

theorem withyref06_Words_eq (M : Env) (a0_0 : Int) (a0_1 : Int) (a0_2 : Int) (a0_3 : Int) (a0_4 : Int) (a0_5 : Int) (h : H) : evalF M F.withyref06_Words [(.agg [(.int .i64 a0_0), (.int .i64 a0_1), (.int .i64 a0_2), (.int .i64 a0_3), (.int .i64 a0_4), (.int .i64 a0_5)])] h = withyref06_Words M a0_0 a0_1 a0_2 a0_3 a0_4 a0_5 h := by kernel_rfl

theorem withyref06_Words_c1_eq (M : Env) (x1 : V) (x3 : V) (x4 : Int) (h : H) : withyref06_Words_c1_B M (withyref06_Words_c1_E x1 x3 (.int .i64 x4)) h = withyref06_Words_c1_S M x1 x3 x4 h := by kernel_rfl

theorem withyref06_Words_c1_e0_eq (M : Env) (x1 : V) (x3 : V) (h : H) : withyref06_Words_K2 M (.exit 0) (withyref06_Words_c1_O x1 x3) h = withyref06_Words_c1_e0 M x1 x3 h := by kernel_rfl

theorem withyref06_Words_c3_eq (M : Env) (x1 : V) (x3 : V) (x5 : Int) (h : H) : withyref06_Words_c3_B M (withyref06_Words_c3_E x1 x3 (.int .i64 x5)) h = withyref06_Words_c3_S M x1 x3 x5 h := by kernel_rfl

theorem withyref06_Words_c3_e2_eq (M : Env) (x1 : V) (x3 : V) (h : H) : withyref06_Words_K4 M (.exit 2) (withyref06_Words_c3_O x1 x3) h = withyref06_Words_c3_e2 M x1 x3 h := by kernel_rfl

theorem withyref06_Words_c5_eq (M : Env) (x1 : V) (x3 : V) (x5 : Int) (x6 : Int) (h : H) : withyref06_Words_c5_B M (withyref06_Words_c5_E x1 x3 (.int .i64 x5) (.int .i64 x6)) h = withyref06_Words_c5_S M x1 x3 x5 x6 h := by kernel_rfl

theorem withyref06_Words_c5_e4_eq (M : Env) (x1 : V) (x3 : V) (x5 : Int) (h : H) : withyref06_Words_K8 M (.exit 4) (withyref06_Words_c5_O x1 x3 (.int .i64 x5)) h = withyref06_Words_c5_e4 M x1 x3 x5 h := by kernel_rfl

theorem withyref06_Words_c7_eq (M : Env) (x1 : V) (x3 : V) (x7 : Int) (h : H) : withyref06_Words_c7_B M (withyref06_Words_c7_E x1 x3 (.int .i64 x7)) h = withyref06_Words_c7_S M x1 x3 x7 h := by kernel_rfl

theorem withyref06_Words_c7_e6_eq (M : Env) (x1 : V) (x3 : V) (h : H) : withyref06_Words_K10 M (.exit 6) (withyref06_Words_c7_O x1 x3) h = withyref06_Words_c7_e6 M x1 x3 h := by kernel_rfl

theorem withyref06_Words_c9_eq (M : Env) (x1 : V) (x3 : V) (x8 : Int) (h : H) : withyref06_Words_c9_B M (withyref06_Words_c9_E x1 x3 (.int .i64 x8)) h = withyref06_Words_c9_S M x1 x3 x8 h := by kernel_rfl

theorem withyref06_Words_c9_e8_eq (M : Env) (x3 : V) (h : H) : withyref06_Words_K12 M (.exit 8) (withyref06_Words_c9_O x3) h = withyref06_Words_c9_e8 M x3 h := by kernel_rfl

theorem withyref06_Words_c11_eq (M : Env) (x1 : V) (x3 : V) (x8 : Int) (x9 : Int) (h : H) : withyref06_Words_c11_B M (withyref06_Words_c11_E x1 x3 (.int .i64 x8) (.int .i64 x9)) h = withyref06_Words_c11_S M x1 x3 x8 x9 h := by kernel_rfl

theorem withyref06_Words_c11_e10_eq (M : Env) (x1 : V) (x3 : V) (x8 : Int) (h : H) : withyref06_Words_K16 M (.exit 10) (withyref06_Words_c11_O x1 x3 (.int .i64 x8)) h = withyref06_Words_c11_e10 M x1 x3 x8 h := by kernel_rfl

end Wm.S
end

section
/- PRINTED by my tool (wip/wm/tool/Gen.lean): what a function comes to, stretch by stretch. -/
namespace Wm.S
open Wm
set_option maxRecDepth 100000
set_option linter.unusedVariables false


def withyref06_Room (M : Env) (a0_0 : Int) (a0_1 : Int) (a0_2 : Int) (a0_3 : Int) (a0_4 : Int) (a0_5 : Int) (h : H) : Option (V × H) :=
  let h0 := h.new (.cells [(.int .i64 a0_0), (.int .i64 a0_1), (.int .i64 a0_2), (.int .i64 a0_3), (.int .i64 a0_4), (.int .i64 a0_5)] .rw)
  (h0.ld1 (.ptr h.next 1)).bind fun v1 =>
  (asI .i64 v1).bind fun n2 =>
  match (decide (n2 < 3)) with
  | true => (
    some ((.int .i64 3), h0))
  | false => (
    (h0.ld1 (.ptr h.next 1)).bind fun v3 =>
    some (v3, h0))

theorem withyref06_Room_eq (M : Env) (a0_0 : Int) (a0_1 : Int) (a0_2 : Int) (a0_3 : Int) (a0_4 : Int) (a0_5 : Int) (h : H) : evalF M F.withyref06_Room [(.agg [(.int .i64 a0_0), (.int .i64 a0_1), (.int .i64 a0_2), (.int .i64 a0_3), (.int .i64 a0_4), (.int .i64 a0_5)])] h = withyref06_Room M a0_0 a0_1 a0_2 a0_3 a0_4 a0_5 h := by kernel_rfl

end Wm.S
end

section
/- PRINTED by my tool (wip/wm/tool/Gen.lean): what a function comes to, stretch by stretch. -/
namespace Wm.S
open Wm
set_option maxRecDepth 100000
set_option linter.unusedVariables false


def plan_Header (M : Env) (a0_0 : Int) (a0_1 : Int) (a0_2 : Int) (a0_3 : Int) (a0_4 : Int) (a0_5 : Int) (a1 : Int) (h : H) : Option (V × H) :=
  let h0 := h.new (.cells [(.int .i64 a0_0), (.int .i64 a0_1), (.int .i64 a0_2), (.int .i64 a0_3), (.int .i64 a0_4), (.int .i64 a0_5)] .rw)
  (h0.ldN 6 (.ptr h.next 0)).bind fun v1 =>
  (M.call 375 [v1, (.int .i64 a1), (.int .i64 0)] h0).bind fun p2 =>
  some (p2.1, p2.2)

theorem plan_Header_eq (M : Env) (a0_0 : Int) (a0_1 : Int) (a0_2 : Int) (a0_3 : Int) (a0_4 : Int) (a0_5 : Int) (a1 : Int) (h : H) : evalF M F.plan_Header [(.agg [(.int .i64 a0_0), (.int .i64 a0_1), (.int .i64 a0_2), (.int .i64 a0_3), (.int .i64 a0_4), (.int .i64 a0_5)]), (.int .i64 a1)] h = plan_Header M a0_0 a0_1 a0_2 a0_3 a0_4 a0_5 a1 h := by kernel_rfl

end Wm.S
end

section
/- PRINTED by my tool (wip/wm/tool/Gen.lean): what a function comes to, stretch by stretch. -/
namespace Wm.S
open Wm
set_option maxRecDepth 100000
set_option linter.unusedVariables false


def plan_within (M : Env) (a0_0 : Int) (a0_1 : Int) (a0_2 : Int) (a0_3 : Int) (a0_4 : Int) (a0_5 : Int) (a1 : Int) (a2 : Int) (h : H) : Option (V × H) :=
  let h0 := h.new (.cells [(.int .i64 a0_0), (.int .i64 a0_1), (.int .i64 a0_2), (.int .i64 a0_3), (.int .i64 a0_4), (.int .i64 a0_5)] .rw)
  (h0.ldN 6 (.ptr h.next 0)).bind fun v1 =>
  (M.call 263 [v1] h0).bind fun p2 =>
  (asB p2.1).bind fun b3 =>
  match (!b3) with
  | true => (
    some ((.int .i64 (-1)), p2.2))
  | false => (
    (p2.2.ld1 (.ptr h.next 0)).bind fun v4 =>
    (asI .i64 v4).bind fun n5 =>
    (M.call 376 [(.int .i64 a1), (.int .i64 0), (.int .i64 (wr .i64 (n5 - 1)))] p2.2).bind fun p6 =>
    (asB p6.1).bind fun b7 =>
    match (!b7) with
    | true => (
      some ((.int .i64 (-1)), p6.2))
    | false => (
      (p6.2.ldN 6 (.ptr h.next 0)).bind fun v8 =>
      (M.call 378 [v8] p6.2).bind fun p9 =>
      (asI .i64 p9.1).bind fun n10 =>
      (M.call 376 [(.int .i64 a2), (.int .i64 0), (.int .i64 (wr .i64 (n10 - 1)))] p9.2).bind fun p11 =>
      (asB p11.1).bind fun b12 =>
      match (!b12) with
      | true => (
        some ((.int .i64 (-1)), p11.2))
      | false => (
        (p11.2.ldN 6 (.ptr h.next 0)).bind fun v13 =>
        (p11.2.ldN 6 (.ptr h.next 0)).bind fun v14 =>
        (M.call 377 [v13] p11.2).bind fun p15 =>
        match ckB (p15.2.ldN 6 (.ptr h.next 0)) v14 with
        | true => (
        (M.call 378 [v14] p15.2).bind fun p16 =>
        (asI .i64 p16.1).bind fun n17 =>
        (asI .i64 p15.1).bind fun n18 =>
        some ((.int .i64 (wr .i64 ((wr .i64 (n18 + (wr .i64 (a1 * n17)))) + a2))), p16.2))
        | false => none)))

theorem plan_within_eq (M : Env) (a0_0 : Int) (a0_1 : Int) (a0_2 : Int) (a0_3 : Int) (a0_4 : Int) (a0_5 : Int) (a1 : Int) (a2 : Int) (h : H) : evalF M F.plan_within [(.agg [(.int .i64 a0_0), (.int .i64 a0_1), (.int .i64 a0_2), (.int .i64 a0_3), (.int .i64 a0_4), (.int .i64 a0_5)]), (.int .i64 a1), (.int .i64 a2)] h = plan_within M a0_0 a0_1 a0_2 a0_3 a0_4 a0_5 a1 a2 h := by kernel_rfl

end Wm.S
end

section
/- PRINTED by my tool (wip/wm/tool/Gen.lean): what a function comes to, stretch by stretch. -/
namespace Wm.S
open Wm
set_option maxRecDepth 100000
set_option linter.unusedVariables false


def plan_slots (M : Env) (a0_0 : Int) (a0_1 : Int) (a0_2 : Int) (a0_3 : Int) (a0_4 : Int) (a0_5 : Int) (h : H) : Option (V × H) :=
  let h0 := h.new (.cells [(.int .i64 a0_0), (.int .i64 a0_1), (.int .i64 a0_2), (.int .i64 a0_3), (.int .i64 a0_4), (.int .i64 a0_5)] .rw)
  (h0.ld1 (.ptr h.next 2)).bind fun v1 =>
  (h0.ld1 (.ptr h.next 3)).bind fun v2 =>
  (asI .i64 v2).bind fun n3 =>
  (asI .i64 v1).bind fun n4 =>
  some ((.int .i64 (wr .i64 (4 + (wr .i64 (n4 * (wr .i64 ((wr .i64 (1 + n3)) + 2))))))), h0)

theorem plan_slots_eq (M : Env) (a0_0 : Int) (a0_1 : Int) (a0_2 : Int) (a0_3 : Int) (a0_4 : Int) (a0_5 : Int) (h : H) : evalF M F.plan_slots [(.agg [(.int .i64 a0_0), (.int .i64 a0_1), (.int .i64 a0_2), (.int .i64 a0_3), (.int .i64 a0_4), (.int .i64 a0_5)])] h = plan_slots M a0_0 a0_1 a0_2 a0_3 a0_4 a0_5 h := by kernel_rfl

end Wm.S
end

section
/- PRINTED by my tool (wip/wm/tool/Gen.lean): what a function comes to, stretch by stretch. -/
namespace Wm.S
open Wm
set_option maxRecDepth 100000
set_option linter.unusedVariables false


def plan_room (M : Env) (a0_0 : Int) (a0_1 : Int) (a0_2 : Int) (a0_3 : Int) (a0_4 : Int) (a0_5 : Int) (h : H) : Option (V × H) :=
  let h0 := h.new (.cells [(.int .i64 a0_0), (.int .i64 a0_1), (.int .i64 a0_2), (.int .i64 a0_3), (.int .i64 a0_4), (.int .i64 a0_5)] .rw)
  (h0.ld1 (.ptr h.next 1)).bind fun v1 =>
  (asI .i64 v1).bind fun n2 =>
  some ((.int .i64 (wr .i64 (2 + (max n2 3)))), h0)

theorem plan_room_eq (M : Env) (a0_0 : Int) (a0_1 : Int) (a0_2 : Int) (a0_3 : Int) (a0_4 : Int) (a0_5 : Int) (h : H) : evalF M F.plan_room [(.agg [(.int .i64 a0_0), (.int .i64 a0_1), (.int .i64 a0_2), (.int .i64 a0_3), (.int .i64 a0_4), (.int .i64 a0_5)])] h = plan_room M a0_0 a0_1 a0_2 a0_3 a0_4 a0_5 h := by kernel_rfl

end Wm.S
end

section
/- PRINTED by my tool (wip/wm/tool/Gen.lean): what a function comes to, stretch by stretch. -/
namespace Wm.S
open Wm
set_option maxRecDepth 100000
set_option linter.unusedVariables false

def withyref06_At_c1_B (M : Env) : List V → H → Option (AX × List V × H) :=
  fun env h => evalC M F.withyref06_At_c1 env h fun x env h => match x with
    | .normal => some (.normal, keepOf [3, 5, 6] 0 env, h)
    | x => some (x, keepOf [4] 0 env, h)

def withyref06_At_c1_E (x3 x5 x6 : V) : List V := [.dead, .dead, .dead, x3, .dead, x5, x6, .dead, .dead, .dead, .dead, .dead, .dead, .dead, .dead, .dead, .dead, .dead, .dead, .dead, .dead, .dead, .dead, .dead, .dead]
def withyref06_At_c1_O (x4 : V) : List V := [.dead, .dead, .dead, .dead, x4, .dead, .dead, .dead, .dead, .dead, .dead, .dead, .dead, .dead, .dead, .dead, .dead, .dead, .dead, .dead, .dead, .dead, .dead, .dead, .dead]

def withyref06_At_K0 (M : Env) : AX → List V → H → Option (V × H) :=
  fun x env h => fin F.withyref06_At x env h

def withyref06_At_K1 (M : Env) : AX → List V → H → Option (V × H) :=
  fun x env h => match x with | .normal => evalC M F.withyref06_At_c0 env h (fun x env h => withyref06_At_K0 M x env h) | x => withyref06_At_K0 M x env h

def withyref06_At_K2 (M : Env) : AX → List V → H → Option (V × H) :=
  fun x env h => match x with | .exit j => (match Nat.beq j 0 with | true => withyref06_At_K1 M .normal env h | false => withyref06_At_K1 M (.exit j) env h) | x => withyref06_At_K1 M x env h

def withyref06_At (M : Env) (a0_0 : Int) (a0_1 : Int) (a0_2 : Int) (a0_3 : Int) (a0_4 : Int) (a0_5 : Int) (a1_0 : ByteArray) (a1_1 : Int) (a1_2 : Int) (h : H) : Option (V × H) :=
  let h0 := h.new (.cells [(.int .i64 a0_0), (.int .i64 a0_1), (.int .i64 a0_2), (.int .i64 a0_3), (.int .i64 a0_4), (.int .i64 a0_5)] .rw)
  let h1 := h0.new (.cells [(.str a1_0), (.int .i64 a1_1), (.int .i64 a1_2)] .rw)
  (h1.ldN 6 (.ptr h.next 0)).bind fun v2 =>
  (M.call 85 [v2] h1).bind fun p3 =>
  (asB p3.1).bind fun b4 =>
  match (!b4) with
  | true => (
    some ((.int .i64 (-1)), p3.2))
  | false => (
    (p3.2.ldN 6 (.ptr h.next 0)).bind fun v5 =>
    (M.call 87 [v5] p3.2).bind fun p6 =>
    (M.loop (withyref06_At_c1_B M) (withyref06_At_c1_E (.ptr h0.next 0) p6.1 (.int .i64 0)) p6.2).bind fun p7 => withyref06_At_K2 M p7.1 p7.2.1 p7.2.2)

def withyref06_At_c1_S (M : Env) (x3 : V) (x5 : V) (x6 : Int) (h : H) : Option (AX × List V × H) :=
  (lenSl x5).bind fun n0 =>
  match (decide (x6 < ((n0 : Nat) : Int))) with
  | true => (
    (indexAV 3 x5 (.int .i64 x6)).bind fun v1 =>
    (h.ldN 3 v1).bind fun v2 =>
    (h.ldN 3 x3).bind fun v3 =>
    (eqV (.agg [(0, .str), (1, .int), (2, .int)]) v2 v3).bind fun b4 =>
    match b4 with
    | true => (
      some (.ret, (withyref06_At_c1_O (.int .i64 x6)), h))
    | false => (
      some (.normal, (withyref06_At_c1_E x3 x5 (.int .i64 (wr .i64 (x6 + 1)))), h)))
  | false => (
    some ((.exit 0), (withyref06_At_c1_O .dead), h))

def withyref06_At_c1_e0 (M : Env) (x4 : V) (h : H) : Option (V × H) :=
  some ((.int .i64 (-1)), h)

def withyref06_At_c1_r (M : Env) (x4 : Int) (h : H) : Option (V × H) :=
  some ((.int .i64 x4), h)

theorem withyref06_At_eq (M : Env) (a0_0 : Int) (a0_1 : Int) (a0_2 : Int) (a0_3 : Int) (a0_4 : Int) (a0_5 : Int) (a1_0 : ByteArray) (a1_1 : Int) (a1_2 : Int) (h : H) : evalF M F.withyref06_At [(.agg [(.int .i64 a0_0), (.int .i64 a0_1), (.int .i64 a0_2), (.int .i64 a0_3), (.int .i64 a0_4), (.int .i64 a0_5)]), (.agg [(.str a1_0), (.int .i64 a1_1), (.int .i64 a1_2)])] h = withyref06_At M a0_0 a0_1 a0_2 a0_3 a0_4 a0_5 a1_0 a1_1 a1_2 h := by kernel_rfl

theorem withyref06_At_c1_eq (M : Env) (x3 : V) (x5 : V) (x6 : Int) (h : H) : withyref06_At_c1_B M (withyref06_At_c1_E x3 x5 (.int .i64 x6)) h = withyref06_At_c1_S M x3 x5 x6 h := by kernel_rfl

theorem withyref06_At_c1_e0_eq (M : Env) (x4 : V) (h : H) : withyref06_At_K2 M (.exit 0) (withyref06_At_c1_O x4) h = withyref06_At_c1_e0 M x4 h := by kernel_rfl

theorem withyref06_At_c1_r_eq (M : Env) (x4 : Int) (h : H) : withyref06_At_K2 M .ret (withyref06_At_c1_O (.int .i64 x4)) h = withyref06_At_c1_r M x4 h := by kernel_rfl

end Wm.S
end

section
/- PRINTED by my tool (wip/wm/tool/Gen.lean): what a function comes to, stretch by stretch. -/
namespace Wm.S
open Wm
set_option maxRecDepth 100000
set_option linter.unusedVariables false


def word_some (M : Env) (a0 : Int) (a1 : Int) (h : H) : Option (V × H) :=
  match (decide (1 ≤ a1)) with
  | true => (
    match (decide (a1 ≤ 64)) with
    | true => (
      match (decide (0 ≤ a0)) with
      | true => (
        some ((.bool (decide (a0 ≤ (wr .i64 (64 - a1))))), h))
      | false => (
        some ((.bool false), h)))
    | false => (
      some ((.bool false), h)))
  | false => (
    some ((.bool false), h))

theorem word_some_eq (M : Env) (a0 : Int) (a1 : Int) (h : H) : evalF M F.word_some [(.int .i64 a0), (.int .i64 a1)] h = word_some M a0 a1 h := by kernel_rfl

end Wm.S
end

section
/- PRINTED by my tool (wip/wm/tool/Gen.lean): what a function comes to, stretch by stretch. -/
namespace Wm.S
open Wm
set_option maxRecDepth 100000
set_option linter.unusedVariables false


def word_mask (M : Env) (a0 : Int) (h : H) : Option (V × H) :=
  (shiftI true .u64 1 a0).bind fun n0 =>
  some ((.int .u64 (wr .u64 (n0 - 1))), h)

theorem word_mask_eq (M : Env) (a0 : Int) (h : H) : evalF M F.word_mask [(.int .i64 a0)] h = word_mask M a0 h := by kernel_rfl

end Wm.S
end

section
/- PRINTED by my tool (wip/wm/tool/Gen.lean): what a function comes to, stretch by stretch. -/
namespace Wm.S
open Wm
set_option maxRecDepth 100000
set_option linter.unusedVariables false


def word_Get (M : Env) (a0 : Int) (a1 : Int) (a2 : Int) (h : H) : Option (V × H) :=
  (M.call 441 [(.int .i64 a1), (.int .i64 a2)] h).bind fun p0 =>
  (asB p0.1).bind fun b1 =>
  match (!b1) with
  | true => (
    some ((.int .u64 0), p0.2))
  | false => (
    (shiftI false .u64 a0 a1).bind fun n2 =>
    (M.call 449 [(.int .i64 a2)] p0.2).bind fun p3 =>
    (asI .u64 p3.1).bind fun n4 =>
    some ((.int .u64 (and64 n2 n4)), p3.2))

theorem word_Get_eq (M : Env) (a0 : Int) (a1 : Int) (a2 : Int) (h : H) : evalF M F.word_Get [(.int .u64 a0), (.int .i64 a1), (.int .i64 a2)] h = word_Get M a0 a1 a2 h := by kernel_rfl

end Wm.S
end

section
/- PRINTED by my tool (wip/wm/tool/Gen.lean): what a function comes to, stretch by stretch. -/
namespace Wm.S
open Wm
set_option maxRecDepth 100000
set_option linter.unusedVariables false

def word_Unpack_c1_B (M : Env) : List V → H → Option (AX × List V × H) :=
  fun env h => evalC M F.word_Unpack_c1 env h fun x env h => match x with
    | .normal => some (.normal, keepOf [0, 6, 7, 10, 11, 12] 0 env, h)
    | x => some (x, keepOf [4, 5, 6] 0 env, h)

def word_Unpack_c1_E (x0 x6 x7 x10 x11 x12 : V) : List V := [x0, .dead, .dead, .dead, .dead, .dead, x6, x7, .dead, .dead, x10, x11, x12, .dead, .dead, .dead, .dead, .dead, .dead, .dead, .dead, .dead, .dead, .dead, .dead, .dead, .dead, .dead, .dead, .dead, .dead, .dead]
def word_Unpack_c1_O (x4 x5 x6 : V) : List V := [.dead, .dead, .dead, .dead, x4, x5, x6, .dead, .dead, .dead, .dead, .dead, .dead, .dead, .dead, .dead, .dead, .dead, .dead, .dead, .dead, .dead, .dead, .dead, .dead, .dead, .dead, .dead, .dead, .dead, .dead, .dead]

def word_Unpack_K0 (M : Env) : AX → List V → H → Option (V × H) :=
  fun x env h => fin F.word_Unpack x env h

def word_Unpack_K1 (M : Env) : AX → List V → H → Option (V × H) :=
  fun x env h => match x with | .normal => evalC M F.word_Unpack_c0 env h (fun x env h => word_Unpack_K0 M x env h) | x => word_Unpack_K0 M x env h

def word_Unpack_K2 (M : Env) : AX → List V → H → Option (V × H) :=
  fun x env h => match x with | .exit j => (match Nat.beq j 0 with | true => word_Unpack_K1 M .normal env h | false => word_Unpack_K1 M (.exit j) env h) | x => word_Unpack_K1 M x env h

def word_Unpack (M : Env) (a0 : Int) (a1 : V) (h : H) : Option (V × H) :=
  (lenSl a1).bind fun n0 =>
  (M.loop (word_Unpack_c1_B M) (word_Unpack_c1_E (.int .u64 a0) .nilsl (.int .i64 0) a1 (.int .i64 ((n0 : Nat) : Int)) (.int .i64 0)) h).bind fun p1 => word_Unpack_K2 M p1.1 p1.2.1 p1.2.2

def word_Unpack_c1_S (M : Env) (x0 : Int) (x6 : V) (x7 : Int) (x10 : V) (x11 : Int) (x12 : Int) (h : H) : Option (AX × List V × H) :=
  match (decide (x12 < x11)) with
  | true => (
    (indexAV 1 x10 (.int .i64 x12)).bind fun v0 =>
    (h.ld1 v0).bind fun v1 =>
    (M.call 441 [(.int .i64 x7), v1] h).bind fun p2 =>
    (asB p2.1).bind fun b3 =>
    match (!b3) with
    | true => (
      some (.ret, (word_Unpack_c1_O .nilsl (.bool false) x6), p2.2))
    | false => (
      (M.call 396 [(.int .u64 x0), (.int .i64 x7), v1] p2.2).bind fun p4 =>
      (fill (repl [(.int .u64 0)] 1) [] [(0, 1, .c p4.1)]).bind fun cs5 =>
      let h6 := p4.2.new (.cells cs5 .rw)
      (h6.append 1 8 x6 (.sl p4.2.next 0 1 (.ex 1))).bind fun p7 =>
      (asI .i64 v1).bind fun n8 =>
      some (.normal, (word_Unpack_c1_E (.int .u64 x0) p7.1 (.int .i64 (wr .i64 (x7 + n8))) x10 (.int .i64 x11) (.int .i64 (wr .i64 (x12 + 1)))), p7.2)))
  | false => (
    some ((.exit 0), (word_Unpack_c1_O .dead .dead x6), h))

def word_Unpack_c1_e0 (M : Env) (x4 : V) (x5 : V) (x6 : V) (h : H) : Option (V × H) :=
  some ((.tup [x6, (.bool true)]), h)

def word_Unpack_c1_r (M : Env) (x4 : V) (x5 : Bool) (x6 : V) (h : H) : Option (V × H) :=
  some ((.tup [x4, (.bool x5)]), h)

theorem word_Unpack_eq (M : Env) (a0 : Int) (a1 : V) (h : H) : evalF M F.word_Unpack [(.int .u64 a0), a1] h = word_Unpack M a0 a1 h := by kernel_rfl

theorem word_Unpack_c1_eq (M : Env) (x0 : Int) (x6 : V) (x7 : Int) (x10 : V) (x11 : Int) (x12 : Int) (h : H) : word_Unpack_c1_B M (word_Unpack_c1_E (.int .u64 x0) x6 (.int .i64 x7) x10 (.int .i64 x11) (.int .i64 x12)) h = word_Unpack_c1_S M x0 x6 x7 x10 x11 x12 h := by kernel_rfl

theorem word_Unpack_c1_e0_eq (M : Env) (x4 : V) (x5 : V) (x6 : V) (h : H) : word_Unpack_K2 M (.exit 0) (word_Unpack_c1_O x4 x5 x6) h = word_Unpack_c1_e0 M x4 x5 x6 h := by kernel_rfl

theorem word_Unpack_c1_r_eq (M : Env) (x4 : V) (x5 : Bool) (x6 : V) (h : H) : word_Unpack_K2 M .ret (word_Unpack_c1_O x4 (.bool x5) x6) h = word_Unpack_c1_r M x4 x5 x6 h := by kernel_rfl

end Wm.S
end

section
/- PRINTED by my tool (wip/wm/tool/Gen.lean): what a function comes to, stretch by stretch. -/
namespace Wm.S
open Wm
set_option maxRecDepth 100000
set_option linter.unusedVariables false


def head_Unpack (M : Env) (a0 : Int) (h : H) : Option (V × H) :=
  let h0 := h.new (.cells [(.int .i64 0), (.int .i64 0), (.bool false), (.int .i64 0), (.int .i64 0), (.int .i64 0)] .rw)
  let h1 := h0.new (.cells [(.int .i64 3), (.int .i64 1), (.int .i64 1), (.int .i64 4), (.int .i64 7), (.int .i64 32), (.int .i64 16)] .rw)
  (M.call 379 [(.int .u64 a0), (.sl h0.next 0 7 (.ex 7))] h1).bind fun p2 =>
  match p2.1 with
  | .tup vs3 => ((vs3[0]?).bind fun v4 =>
  match p2.1 with
  | .tup vs5 => ((vs5[1]?).bind fun v6 =>
  (lenSl v4).bind fun n7 =>
  match (decide (((n7 : Nat) : Int) < 7)) with
  | true => (
    (p2.2.st 6 (.ptr h.next 0) (.agg [(.int .i64 0), (.int .i64 0), (.bool false), (.int .i64 0), (.int .i64 0), (.int .i64 0)])).bind fun h8 =>
    finV h8 [.cell true 6 (.ptr h.next 0), .v (.bool false)])
  | false => (
    (indexAV 1 v4 (.int .i64 0)).bind fun v8 =>
    (p2.2.ld1 v8).bind fun v9 =>
    (asI .u64 v9).bind fun n10 =>
    match (decide (4 < n10)) with
    | true => (
      (p2.2.st 6 (.ptr h.next 0) (.agg [(.int .i64 0), (.int .i64 0), (.bool false), (.int .i64 0), (.int .i64 0), (.int .i64 0)])).bind fun h11 =>
      finV h11 [.cell true 6 (.ptr h.next 0), .v (.bool false)])
    | false => (
      (indexAV 1 v4 (.int .i64 4)).bind fun v11 =>
      (p2.2.ld1 v11).bind fun v12 =>
      (asI .u64 v12).bind fun n13 =>
      match (!decide (n13 = 0)) with
      | true => (
        (p2.2.st 6 (.ptr h.next 0) (.agg [(.int .i64 0), (.int .i64 0), (.bool false), (.int .i64 0), (.int .i64 0), (.int .i64 0)])).bind fun h14 =>
        finV h14 [.cell true 6 (.ptr h.next 0), .v (.bool false)])
      | false => (
        (indexAV 1 v4 (.int .i64 0)).bind fun v14 =>
        (p2.2.ld1 v14).bind fun v15 =>
        (asIAny v15).bind fun n16 =>
        (indexAV 1 v4 (.int .i64 1)).bind fun v17 =>
        (p2.2.ld1 v17).bind fun v18 =>
        (asIAny v18).bind fun n19 =>
        (indexAV 1 v4 (.int .i64 2)).bind fun v20 =>
        (p2.2.ld1 v20).bind fun v21 =>
        (asI .u64 v21).bind fun n22 =>
        (indexAV 1 v4 (.int .i64 3)).bind fun v23 =>
        (p2.2.ld1 v23).bind fun v24 =>
        (asIAny v24).bind fun n25 =>
        (indexAV 1 v4 (.int .i64 5)).bind fun v26 =>
        (p2.2.ld1 v26).bind fun v27 =>
        (asIAny v27).bind fun n28 =>
        (indexAV 1 v4 (.int .i64 6)).bind fun v29 =>
        (p2.2.ld1 v29).bind fun v30 =>
        (asIAny v30).bind fun n31 =>
        (p2.2.st 6 (.ptr h.next 0) (.agg [(.int .i64 (wr .i64 n16)), (.int .i64 (wr .i64 n19)), (.bool (decide (n22 = 1))), (.int .i64 (wr .i64 n25)), (.int .i64 (wr .i64 n28)), (.int .i64 (wr .i64 n31))])).bind fun h32 =>
        finV h32 [.cell true 6 (.ptr h.next 0), .v (.bool true)]))))
  | _ => none)
  | _ => none

theorem head_Unpack_eq (M : Env) (a0 : Int) (h : H) : evalF M F.head_Unpack [(.int .u64 a0)] h = head_Unpack M a0 h := by kernel_rfl

end Wm.S
end

section
/- PRINTED by my tool (wip/wm/tool/Gen.lean): what a function comes to, stretch by stretch. -/
namespace Wm.S
open Wm
set_option maxRecDepth 100000
set_option linter.unusedVariables false


def withyref04_Unpack (M : Env) (a0 : Int) (h : H) : Option (V × H) :=
  let h0 := h.new (.cells [(.int .i64 0), (.int .i64 0), (.bool false), (.int .i64 0), (.int .i64 0), (.int .i64 0)] .rw)
  let h1 := h0.new (.cells [(.int .i64 0), (.int .i64 0), (.bool false), (.int .i64 0), (.int .i64 0), (.int .i64 0)] .rw)
  (h1.st 6 (.ptr h0.next 0) (.agg [(.int .i64 (wr .i64 (Int.tmod a0 8))), (.int .i64 (wr .i64 (Int.tmod (wr .u64 (Int.tdiv a0 8)) 2))), (.bool (decide ((Int.tmod (wr .u64 (Int.tdiv a0 16)) 2) = 1))), (.int .i64 (wr .i64 (Int.tmod (wr .u64 (Int.tdiv a0 32)) 16))), (.int .i64 (wr .i64 (Int.tmod (wr .u64 (Int.tdiv a0 65536)) 4294967296))), (.int .i64 (wr .i64 (wr .u64 (Int.tdiv a0 281474976710656))))])).bind fun h2 =>
  (h2.ld1 (.ptr h0.next 0)).bind fun v3 =>
  (asI .i64 v3).bind fun n4 =>
  match (decide (4 < n4)) with
  | true => (
    (h2.st 6 (.ptr h.next 0) (.agg [(.int .i64 0), (.int .i64 0), (.bool false), (.int .i64 0), (.int .i64 0), (.int .i64 0)])).bind fun h5 =>
    finV h5 [.cell true 6 (.ptr h.next 0), .v (.bool false)])
  | false => (
    match (!decide ((Int.tmod (wr .u64 (Int.tdiv a0 512)) 128) = 0)) with
    | true => (
      (h2.st 6 (.ptr h.next 0) (.agg [(.int .i64 0), (.int .i64 0), (.bool false), (.int .i64 0), (.int .i64 0), (.int .i64 0)])).bind fun h5 =>
      finV h5 [.cell true 6 (.ptr h.next 0), .v (.bool false)])
    | false => (
      (h2.ldN 6 (.ptr h0.next 0)).bind fun v5 =>
      (h2.st 6 (.ptr h.next 0) v5).bind fun h6 =>
      finV h6 [.cell true 6 (.ptr h.next 0), .v (.bool true)]))

theorem withyref04_Unpack_eq (M : Env) (a0 : Int) (h : H) : evalF M F.withyref04_Unpack [(.int .u64 a0)] h = withyref04_Unpack M a0 h := by kernel_rfl

end Wm.S
end

section
/- PRINTED by my tool (wip/wm/tool/Gen.lean): what a function comes to, stretch by stretch. -/
namespace Wm.S
open Wm
set_option maxRecDepth 100000
set_option linter.unusedVariables false

def withylaw09_grays_c1_B (M : Env) : List V → H → Option (AX × List V × H) :=
  fun env h => evalC M F.withylaw09_grays_c1 env h fun x env h => match x with
    | .normal => some (.normal, keepOf [1, 2, 5, 6] 0 env, h)
    | x => some (x, keepOf [5] 0 env, h)

def withylaw09_grays_c1_E (x1 x2 x5 x6 : V) : List V := [.dead, x1, x2, .dead, .dead, x5, x6, .dead, .dead, .dead, .dead, .dead, .dead, .dead, .dead, .dead, .dead, .dead, .dead, .dead, .dead, .dead, .dead, .dead, .dead, .dead, .dead, .dead, .dead, .dead, .dead, .dead, .dead, .dead]
def withylaw09_grays_c1_O (x5 : V) : List V := [.dead, .dead, .dead, .dead, .dead, x5, .dead, .dead, .dead, .dead, .dead, .dead, .dead, .dead, .dead, .dead, .dead, .dead, .dead, .dead, .dead, .dead, .dead, .dead, .dead, .dead, .dead, .dead, .dead, .dead, .dead, .dead, .dead, .dead]

def withylaw09_grays_K0 (M : Env) : AX → List V → H → Option (V × H) :=
  fun x env h => fin F.withylaw09_grays x env h

def withylaw09_grays_K1 (M : Env) : AX → List V → H → Option (V × H) :=
  fun x env h => match x with | .normal => evalC M F.withylaw09_grays_c0 env h (fun x env h => withylaw09_grays_K0 M x env h) | x => withylaw09_grays_K0 M x env h

def withylaw09_grays_K2 (M : Env) : AX → List V → H → Option (V × H) :=
  fun x env h => match x with | .exit j => (match Nat.beq j 0 with | true => withylaw09_grays_K1 M .normal env h | false => withylaw09_grays_K1 M (.exit j) env h) | x => withylaw09_grays_K1 M x env h

def withylaw09_grays (M : Env) (a0_0 : Int) (a0_1 : Int) (a0_2 : Int) (a0_3 : Int) (a0_4 : Int) (a0_5 : Int) (a1 : V) (h : H) : Option (V × H) :=
  let h0 := h.new (.cells [(.int .i64 a0_0), (.int .i64 a0_1), (.int .i64 a0_2), (.int .i64 a0_3), (.int .i64 a0_4), (.int .i64 a0_5)] .rw)
  (M.loop (withylaw09_grays_c1_B M) (withylaw09_grays_c1_E a1 (.ptr h.next 0) (.int .i64 0) (.int .i64 0)) h0).bind fun p1 => withylaw09_grays_K2 M p1.1 p1.2.1 p1.2.2

def withylaw09_grays_c1_S (M : Env) (x1 : V) (x2 : V) (x5 : Int) (x6 : Int) (h : H) : Option (AX × List V × H) :=
  (ptrAt x2 0).bind fun v0 =>
  (h.ld1 v0).bind fun v1 =>
  (asI .i64 v1).bind fun n2 =>
  match (decide (x6 < n2)) with
  | true => (
    (h.ldN 6 x2).bind fun v3 =>
    (M.call 108 [v3, (.agg [(.str ⟨⟨[104, 101, 97, 100, 101, 114]⟩⟩), (.int .i64 x6), (.int .i64 0)])] h).bind fun p4 =>
    (indexAV 1 x1 p4.1).bind fun v5 =>
    (p4.2.ld1 v5).bind fun v6 =>
    (M.call 109 [v6] p4.2).bind fun p7 =>
    match p7.1 with
    | .tup vs8 => ((vs8[0]?).bind fun v9 =>
    match p7.1 with
    | .tup vs10 => ((vs10[1]?).bind fun v11 =>
    let h12 := p7.2.new (.cells [(.int .i64 0), (.int .i64 0), (.bool false), (.int .i64 0), (.int .i64 0), (.int .i64 0)] .rw)
    (h12.st 6 (.ptr p7.2.next 0) v9).bind fun h13 =>
    match v11 with
    | .bool true => (
      (h13.ld1 (.ptr p7.2.next 2)).bind fun v14 =>
      (asB v14).bind fun b15 =>
      match b15 with
      | true => (
        some (.normal, (withylaw09_grays_c1_E x1 x2 (.int .i64 (wr .i64 (x5 + 1))) (.int .i64 (wr .i64 (x6 + 1)))), h13))
      | false => (
        some (.normal, (withylaw09_grays_c1_E x1 x2 (.int .i64 x5) (.int .i64 (wr .i64 (x6 + 1)))), h13)))
    | .bool false => (
      some (.normal, (withylaw09_grays_c1_E x1 x2 (.int .i64 x5) (.int .i64 (wr .i64 (x6 + 1)))), h13))
    | .tup [] => (
      (asB v11).bind fun b14 =>
      (asB (match b14 with | true => (.tup []) | false => (.bool false) : V)).bind fun b15 =>
      match b15 with
      | true => (
        some (.normal, (withylaw09_grays_c1_E x1 x2 (.int .i64 (wr .i64 (x5 + 1))) (.int .i64 (wr .i64 (x6 + 1)))), h13))
      | false => (
        some (.normal, (withylaw09_grays_c1_E x1 x2 (.int .i64 x5) (.int .i64 (wr .i64 (x6 + 1)))), h13)))
    | _ => none)
    | _ => none)
    | _ => none)
  | false => (
    some ((.exit 0), (withylaw09_grays_c1_O (.int .i64 x5)), h))

def withylaw09_grays_c1_e0 (M : Env) (x5 : Int) (h : H) : Option (V × H) :=
  some ((.int .i64 x5), h)

theorem withylaw09_grays_eq (M : Env) (a0_0 : Int) (a0_1 : Int) (a0_2 : Int) (a0_3 : Int) (a0_4 : Int) (a0_5 : Int) (a1 : V) (h : H) : evalF M F.withylaw09_grays [(.agg [(.int .i64 a0_0), (.int .i64 a0_1), (.int .i64 a0_2), (.int .i64 a0_3), (.int .i64 a0_4), (.int .i64 a0_5)]), a1] h = withylaw09_grays M a0_0 a0_1 a0_2 a0_3 a0_4 a0_5 a1 h := by kernel_rfl

theorem withylaw09_grays_c1_eq (M : Env) (x1 : V) (x2 : V) (x5 : Int) (x6 : Int) (h : H) : withylaw09_grays_c1_B M (withylaw09_grays_c1_E x1 x2 (.int .i64 x5) (.int .i64 x6)) h = withylaw09_grays_c1_S M x1 x2 x5 x6 h := by kernel_rfl

theorem withylaw09_grays_c1_e0_eq (M : Env) (x5 : Int) (h : H) : withylaw09_grays_K2 M (.exit 0) (withylaw09_grays_c1_O (.int .i64 x5)) h = withylaw09_grays_c1_e0 M x5 h := by kernel_rfl

end Wm.S
end

section
/- PRINTED by my tool (wip/wm/tool/Gen.lean): what a function comes to, stretch by stretch. -/
namespace Wm.S
open Wm
set_option maxRecDepth 100000
set_option linter.unusedVariables false

def shade_Grays_c1_B (M : Env) : List V → H → Option (AX × List V × H) :=
  fun env h => evalC M F.shade_Grays_c1 env h fun x env h => match x with
    | .normal => some (.normal, keepOf [1, 2, 5, 20, 21] 0 env, h)
    | x => some (x, keepOf [5] 0 env, h)

def shade_Grays_c1_E (x1 x2 x5 x20 x21 : V) : List V := [.dead, x1, x2, .dead, .dead, x5, .dead, .dead, .dead, .dead, .dead, .dead, .dead, .dead, .dead, .dead, .dead, .dead, .dead, .dead, x20, x21, .dead, .dead, .dead, .dead, .dead, .dead, .dead, .dead, .dead, .dead, .dead, .dead, .dead, .dead, .dead, .dead, .dead, .dead, .dead, .dead, .dead]
def shade_Grays_c1_O (x5 : V) : List V := [.dead, .dead, .dead, .dead, .dead, x5, .dead, .dead, .dead, .dead, .dead, .dead, .dead, .dead, .dead, .dead, .dead, .dead, .dead, .dead, .dead, .dead, .dead, .dead, .dead, .dead, .dead, .dead, .dead, .dead, .dead, .dead, .dead, .dead, .dead, .dead, .dead, .dead, .dead, .dead, .dead, .dead, .dead]

def shade_Grays_K0 (M : Env) : AX → List V → H → Option (V × H) :=
  fun x env h => fin F.shade_Grays x env h

def shade_Grays_K1 (M : Env) : AX → List V → H → Option (V × H) :=
  fun x env h => match x with | .normal => evalC M F.shade_Grays_c0 env h (fun x env h => shade_Grays_K0 M x env h) | x => shade_Grays_K0 M x env h

def shade_Grays_K2 (M : Env) : AX → List V → H → Option (V × H) :=
  fun x env h => match x with | .exit j => (match Nat.beq j 0 with | true => shade_Grays_K1 M .normal env h | false => shade_Grays_K1 M (.exit j) env h) | x => shade_Grays_K1 M x env h

def shade_Grays (M : Env) (a0_0 : Int) (a0_1 : Int) (a0_2 : Int) (a0_3 : Int) (a0_4 : Int) (a0_5 : Int) (a1 : V) (h : H) : Option (V × H) :=
  let h0 := h.new (.cells [(.int .i64 a0_0), (.int .i64 a0_1), (.int .i64 a0_2), (.int .i64 a0_3), (.int .i64 a0_4), (.int .i64 a0_5)] .rw)
  (h0.ldN 6 (.ptr h.next 0)).bind fun v1 =>
  (M.call 263 [v1] h0).bind fun p2 =>
  (asB p2.1).bind fun b3 =>
  match (!b3) with
  | true => (
    some ((.int .i64 0), p2.2))
  | false => (
    (lenSl a1).bind fun n4 =>
    (p2.2.ldN 6 (.ptr h.next 0)).bind fun v5 =>
    (M.call 264 [v5] p2.2).bind fun p6 =>
    (asI .i64 p6.1).bind fun n7 =>
    match (!decide (((n4 : Nat) : Int) = n7)) with
    | true => (
      some ((.int .i64 0), p6.2))
    | false => (
      (p6.2.ld1 (.ptr h.next 0)).bind fun v8 =>
      (M.loop (shade_Grays_c1_B M) (shade_Grays_c1_E a1 (.ptr h.next 0) (.int .i64 0) v8 (.int .i64 0)) p6.2).bind fun p9 => shade_Grays_K2 M p9.1 p9.2.1 p9.2.2))

def shade_Grays_c1_S (M : Env) (x1 : V) (x2 : V) (x5 : Int) (x20 : Int) (x21 : Int) (h : H) : Option (AX × List V × H) :=
  match (decide (x21 < x20)) with
  | true => (
    (h.ldN 6 x2).bind fun v0 =>
    (M.call 261 [v0, (.int .i64 x21)] h).bind fun p1 =>
    (indexAV 1 x1 p1.1).bind fun v2 =>
    (p1.2.ld1 v2).bind fun v3 =>
    (M.call 265 [v3] p1.2).bind fun p4 =>
    match p4.1 with
    | .tup vs5 => ((vs5[0]?).bind fun v6 =>
    match p4.1 with
    | .tup vs7 => ((vs7[1]?).bind fun v8 =>
    let h9 := p4.2.new (.cells [(.int .i64 0), (.int .i64 0), (.bool false), (.int .i64 0), (.int .i64 0), (.int .i64 0)] .rw)
    (h9.st 6 (.ptr p4.2.next 0) v6).bind fun h10 =>
    match v8 with
    | .bool true => (
      (h10.ld1 (.ptr p4.2.next 2)).bind fun v11 =>
      (asB v11).bind fun b12 =>
      match b12 with
      | true => (
        some (.normal, (shade_Grays_c1_E x1 x2 (.int .i64 (wr .i64 (x5 + 1))) (.int .i64 x20) (.int .i64 (wr .i64 (x21 + 1)))), h10))
      | false => (
        some (.normal, (shade_Grays_c1_E x1 x2 (.int .i64 x5) (.int .i64 x20) (.int .i64 (wr .i64 (x21 + 1)))), h10)))
    | .bool false => (
      some (.normal, (shade_Grays_c1_E x1 x2 (.int .i64 x5) (.int .i64 x20) (.int .i64 (wr .i64 (x21 + 1)))), h10))
    | .tup [] => (
      (asB v8).bind fun b11 =>
      (asB (match b11 with | true => (.tup []) | false => (.bool false) : V)).bind fun b12 =>
      match b12 with
      | true => (
        some (.normal, (shade_Grays_c1_E x1 x2 (.int .i64 (wr .i64 (x5 + 1))) (.int .i64 x20) (.int .i64 (wr .i64 (x21 + 1)))), h10))
      | false => (
        some (.normal, (shade_Grays_c1_E x1 x2 (.int .i64 x5) (.int .i64 x20) (.int .i64 (wr .i64 (x21 + 1)))), h10)))
    | _ => none)
    | _ => none)
    | _ => none)
  | false => (
    some ((.exit 0), (shade_Grays_c1_O (.int .i64 x5)), h))

def shade_Grays_c1_e0 (M : Env) (x5 : Int) (h : H) : Option (V × H) :=
  some ((.int .i64 x5), h)

theorem shade_Grays_eq (M : Env) (a0_0 : Int) (a0_1 : Int) (a0_2 : Int) (a0_3 : Int) (a0_4 : Int) (a0_5 : Int) (a1 : V) (h : H) : evalF M F.shade_Grays [(.agg [(.int .i64 a0_0), (.int .i64 a0_1), (.int .i64 a0_2), (.int .i64 a0_3), (.int .i64 a0_4), (.int .i64 a0_5)]), a1] h = shade_Grays M a0_0 a0_1 a0_2 a0_3 a0_4 a0_5 a1 h := by kernel_rfl

theorem shade_Grays_c1_eq (M : Env) (x1 : V) (x2 : V) (x5 : Int) (x20 : Int) (x21 : Int) (h : H) : shade_Grays_c1_B M (shade_Grays_c1_E x1 x2 (.int .i64 x5) (.int .i64 x20) (.int .i64 x21)) h = shade_Grays_c1_S M x1 x2 x5 x20 x21 h := by kernel_rfl

theorem shade_Grays_c1_e0_eq (M : Env) (x5 : Int) (h : H) : shade_Grays_K2 M (.exit 0) (shade_Grays_c1_O (.int .i64 x5)) h = shade_Grays_c1_e0 M x5 h := by kernel_rfl

end Wm.S
end

section
/- PRINTED by my tool (wip/wm/tool/Gen.lean): what a function comes to, stretch by stretch. -/
namespace Wm.S
open Wm
set_option maxRecDepth 100000
set_option linter.unusedVariables false


def plan_Size (M : Env) (a0_0 : Int) (a0_1 : Int) (a0_2 : Int) (a0_3 : Int) (a0_4 : Int) (a0_5 : Int) (h : H) : Option (V × H) :=
  let h0 := h.new (.cells [(.int .i64 a0_0), (.int .i64 a0_1), (.int .i64 a0_2), (.int .i64 a0_3), (.int .i64 a0_4), (.int .i64 a0_5)] .rw)
  (h0.ldN 6 (.ptr h.next 0)).bind fun v1 =>
  (M.call 263 [v1] h0).bind fun p2 =>
  (asB p2.1).bind fun b3 =>
  match (!b3) with
  | true => (
    some ((.int .i64 0), p2.2))
  | false => (
    (p2.2.ldN 6 (.ptr h.next 0)).bind fun v4 =>
    (p2.2.ld1 (.ptr h.next 0)).bind fun v5 =>
    (p2.2.ldN 6 (.ptr h.next 0)).bind fun v6 =>
    (M.call 377 [v4] p2.2).bind fun p7 =>
    match ckB (p7.2.ldN 6 (.ptr h.next 0)) v6 with
    | true => (
    match ckB (p7.2.ld1 (.ptr h.next 0)) v5 with
    | true => (
    (M.call 378 [v6] p7.2).bind fun p8 =>
    match ckB (p8.2.ld1 (.ptr h.next 0)) v5 with
    | true => (
    (asI .i64 v5).bind fun n9 =>
    (asI .i64 p8.1).bind fun n10 =>
    (asI .i64 p7.1).bind fun n11 =>
    some ((.int .i64 (wr .i64 (n11 + (wr .i64 (n9 * n10))))), p8.2))
    | false => none)
    | false => none)
    | false => none)

theorem plan_Size_eq (M : Env) (a0_0 : Int) (a0_1 : Int) (a0_2 : Int) (a0_3 : Int) (a0_4 : Int) (a0_5 : Int) (h : H) : evalF M F.plan_Size [(.agg [(.int .i64 a0_0), (.int .i64 a0_1), (.int .i64 a0_2), (.int .i64 a0_3), (.int .i64 a0_4), (.int .i64 a0_5)])] h = plan_Size M a0_0 a0_1 a0_2 a0_3 a0_4 a0_5 h := by kernel_rfl

end Wm.S
end

section
/- PRINTED by my tool (wip/wm/tool/Gen.lean): what a function comes to, stretch by stretch. -/
namespace Wm.S
open Wm
set_option maxRecDepth 100000
set_option linter.unusedVariables false

def withyref06_Memory_c1_B (M : Env) : List V → H → Option (AX × List V × H) :=
  fun env h => evalC M F.withyref06_Memory_c1 env h fun x env h => match x with
    | .normal => some (.normal, keepOf [1, 3, 4, 5] 0 env, h)
    | x => some (x, keepOf [4] 0 env, h)

def withyref06_Memory_c1_E (x1 x3 x4 x5 : V) : List V := [.dead, x1, .dead, x3, x4, x5, .dead, .dead, .dead, .dead, .dead, .dead, .dead, .dead, .dead, .dead, .dead, .dead, .dead, .dead, .dead, .dead, .dead, .dead, .dead, .dead, .dead, .dead, .dead, .dead, .dead, .dead, .dead, .dead, .dead, .dead, .dead, .dead, .dead, .dead, .dead, .dead, .dead, .dead, .dead, .dead, .dead, .dead, .dead]
def withyref06_Memory_c1_O (x4 : V) : List V := [.dead, .dead, .dead, .dead, x4, .dead, .dead, .dead, .dead, .dead, .dead, .dead, .dead, .dead, .dead, .dead, .dead, .dead, .dead, .dead, .dead, .dead, .dead, .dead, .dead, .dead, .dead, .dead, .dead, .dead, .dead, .dead, .dead, .dead, .dead, .dead, .dead, .dead, .dead, .dead, .dead, .dead, .dead, .dead, .dead, .dead, .dead, .dead, .dead]

def withyref06_Memory_K0 (M : Env) : AX → List V → H → Option (V × H) :=
  fun x env h => fin F.withyref06_Memory x env h

def withyref06_Memory_K1 (M : Env) : AX → List V → H → Option (V × H) :=
  fun x env h => match x with | .normal => evalC M F.withyref06_Memory_c0 env h (fun x env h => withyref06_Memory_K0 M x env h) | x => withyref06_Memory_K0 M x env h

def withyref06_Memory_K2 (M : Env) : AX → List V → H → Option (V × H) :=
  fun x env h => match x with | .exit j => (match Nat.beq j 0 with | true => withyref06_Memory_K1 M .normal env h | false => withyref06_Memory_K1 M (.exit j) env h) | x => withyref06_Memory_K1 M x env h

def withyref06_Memory (M : Env) (a0_0 : Int) (a0_1 : Int) (a0_2 : Int) (a0_3 : Int) (a0_4 : Int) (a0_5 : Int) (h : H) : Option (V × H) :=
  let h0 := h.new (.cells [(.int .i64 a0_0), (.int .i64 a0_1), (.int .i64 a0_2), (.int .i64 a0_3), (.int .i64 a0_4), (.int .i64 a0_5)] .rw)
  (h0.ldN 6 (.ptr h.next 0)).bind fun v1 =>
  (M.call 87 [v1] h0).bind fun p2 =>
  (lenSl p2.1).bind fun n3 =>
  (p2.2.mkSl 1 8 [(.int .u64 0)] ((n3 : Nat) : Int) ((n3 : Nat) : Int)).bind fun p4 =>
  (indexAV 1 p4.1 (.int .i64 0)).bind fun v5 =>
  (p4.2.st 1 v5 (.int .u64 1)).bind fun h6 =>
  (indexAV 1 p4.1 (.int .i64 3)).bind fun v7 =>
  (h6.st 1 v7 (.int .u64 1)).bind fun h8 =>
  (M.loop (withyref06_Memory_c1_B M) (withyref06_Memory_c1_E (.ptr h.next 0) p2.1 p4.1 (.int .i64 0)) h8).bind fun p9 => withyref06_Memory_K2 M p9.1 p9.2.1 p9.2.2

def withyref06_Memory_c1_S (M : Env) (x1 : V) (x3 : V) (x4 : V) (x5 : Int) (h : H) : Option (AX × List V × H) :=
  (lenSl x3).bind fun n0 =>
  match (decide (x5 < ((n0 : Nat) : Int))) with
  | true => (
    (indexAV 3 x3 (.int .i64 x5)).bind fun v1 =>
    (ptrAt v1 0).bind fun v2 =>
    (h.ld1 v2).bind fun v3 =>
    (eqV .str v3 (.str ⟨⟨[108, 105, 110, 107]⟩⟩)).bind fun b4 =>
    match b4 with
    | true => (
      (indexAV 3 x3 (.int .i64 x5)).bind fun v5 =>
      (ptrAt v5 1).bind fun v6 =>
      (h.ld1 v6).bind fun v7 =>
      (asI .i64 v7).bind fun n8 =>
      (ptrAt x1 0).bind fun v9 =>
      (h.ld1 v9).bind fun v10 =>
      (asI .i64 v10).bind fun n11 =>
      match (decide ((wr .i64 (n8 + 1)) < n11)) with
      | true => (
        (indexAV 3 x3 (.int .i64 x5)).bind fun v12 =>
        (ptrAt v12 1).bind fun v13 =>
        (h.ld1 v13).bind fun v14 =>
        (asI .i64 v14).bind fun n15 =>
        (indexAV 1 x4 (.int .i64 x5)).bind fun v16 =>
        (h.st 1 v16 (.int .u64 (wr .u64 (wr .i64 (n15 + 2))))).bind fun h17 =>
        some (.normal, (withyref06_Memory_c1_E x1 x3 x4 (.int .i64 (wr .i64 (x5 + 1)))), h17))
      | false => (
        some (.normal, (withyref06_Memory_c1_E x1 x3 x4 (.int .i64 (wr .i64 (x5 + 1)))), h)))
    | false => (
      some (.normal, (withyref06_Memory_c1_E x1 x3 x4 (.int .i64 (wr .i64 (x5 + 1)))), h)))
  | false => (
    some ((.exit 0), (withyref06_Memory_c1_O x4), h))

def withyref06_Memory_c1_e0 (M : Env) (x4 : V) (h : H) : Option (V × H) :=
  some (x4, h)

theorem withyref06_Memory_eq (M : Env) (a0_0 : Int) (a0_1 : Int) (a0_2 : Int) (a0_3 : Int) (a0_4 : Int) (a0_5 : Int) (h : H) : evalF M F.withyref06_Memory [(.agg [(.int .i64 a0_0), (.int .i64 a0_1), (.int .i64 a0_2), (.int .i64 a0_3), (.int .i64 a0_4), (.int .i64 a0_5)])] h = withyref06_Memory M a0_0 a0_1 a0_2 a0_3 a0_4 a0_5 h := by kernel_rfl

theorem withyref06_Memory_c1_eq (M : Env) (x1 : V) (x3 : V) (x4 : V) (x5 : Int) (h : H) : withyref06_Memory_c1_B M (withyref06_Memory_c1_E x1 x3 x4 (.int .i64 x5)) h = withyref06_Memory_c1_S M x1 x3 x4 x5 h := by kernel_rfl

theorem withyref06_Memory_c1_e0_eq (M : Env) (x4 : V) (h : H) : withyref06_Memory_K2 M (.exit 0) (withyref06_Memory_c1_O x4) h = withyref06_Memory_c1_e0 M x4 h := by kernel_rfl

end Wm.S
end

section
/- PRINTED by my tool (wip/wm/tool/Gen.lean): what a function comes to, stretch by stretch. -/
namespace Wm.S
open Wm
set_option maxRecDepth 100000
set_option linter.unusedVariables false

def withylaw09_ShadeGrays_c2_B (M : Env) : List V → H → Option (AX × List V × H) :=
  fun env h => evalC M F.withylaw09_ShadeGrays_c2 env h fun x env h => match x with
    | .normal => some (.normal, keepOf [1, 3, 7, 8] 0 env, h)
    | x => some (x, keepOf [3, 7] 0 env, h)

def withylaw09_ShadeGrays_c2_E (x1 x3 x7 x8 : V) : List V := [.dead, x1, .dead, x3, .dead, .dead, .dead, x7, x8, .dead, .dead, .dead, .dead, .dead, .dead, .dead, .dead, .dead, .dead, .dead, .dead, .dead, .dead, .dead, .dead, .dead, .dead, .dead, .dead, .dead, .dead, .dead, .dead, .dead, .dead, .dead, .dead, .dead, .dead, .dead, .dead, .dead, .dead, .dead, .dead, .dead, .dead, .dead, .dead, .dead, .dead, .dead, .dead, .dead, .dead, .dead, .dead, .dead, .dead, .dead, .dead, .dead, .dead, .dead, .dead, .dead, .dead, .dead, .dead, .dead, .dead]
def withylaw09_ShadeGrays_c2_O (x3 x7 : V) : List V := [.dead, .dead, .dead, x3, .dead, .dead, .dead, x7, .dead, .dead, .dead, .dead, .dead, .dead, .dead, .dead, .dead, .dead, .dead, .dead, .dead, .dead, .dead, .dead, .dead, .dead, .dead, .dead, .dead, .dead, .dead, .dead, .dead, .dead, .dead, .dead, .dead, .dead, .dead, .dead, .dead, .dead, .dead, .dead, .dead, .dead, .dead, .dead, .dead, .dead, .dead, .dead, .dead, .dead, .dead, .dead, .dead, .dead, .dead, .dead, .dead, .dead, .dead, .dead, .dead, .dead, .dead, .dead, .dead, .dead, .dead]

def withylaw09_ShadeGrays_K0 (M : Env) : AX → List V → H → Option (V × H) :=
  fun x env h => fin F.withylaw09_ShadeGrays x env h

def withylaw09_ShadeGrays_K1 (M : Env) : AX → List V → H → Option (V × H) :=
  fun x env h => match x with | .normal => evalC M F.withylaw09_ShadeGrays_c0 env h (fun x env h => withylaw09_ShadeGrays_K0 M x env h) | x => withylaw09_ShadeGrays_K0 M x env h

def withylaw09_ShadeGrays_K2 (M : Env) : AX → List V → H → Option (V × H) :=
  fun x env h => match x with | .normal => evalC M F.withylaw09_ShadeGrays_c1 env h (fun x env h => withylaw09_ShadeGrays_K1 M x env h) | x => withylaw09_ShadeGrays_K1 M x env h

def withylaw09_ShadeGrays_K3 (M : Env) : AX → List V → H → Option (V × H) :=
  fun x env h => match x with | .exit j => (match Nat.beq j 0 with | true => withylaw09_ShadeGrays_K2 M .normal env h | false => withylaw09_ShadeGrays_K2 M (.exit j) env h) | x => withylaw09_ShadeGrays_K2 M x env h

def withylaw09_ShadeGrays (M : Env) (a0_0 : Int) (a0_1 : Int) (a0_2 : Int) (a0_3 : Int) (a0_4 : Int) (a0_5 : Int) (a1 : V) (a2 : Bool) (h : H) : Option (V × H) :=
  let h0 := h.new (.cells [(.int .i64 a0_0), (.int .i64 a0_1), (.int .i64 a0_2), (.int .i64 a0_3), (.int .i64 a0_4), (.int .i64 a0_5)] .rw)
  (lenSl a1).bind fun n1 =>
  match (decide (700 < ((n1 : Nat) : Int))) with
  | true => (
    (M.call 84 [] h0).bind fun p2 =>
    some (p2.1, p2.2))
  | false => (
    match a2 with
    | true => (
      (h0.ldN 6 (.ptr h.next 0)).bind fun v2 =>
      (M.call 85 [v2] h0).bind fun p3 =>
      match p3.1 with
      | .bool true => (
        (p3.2.ld1 (.ptr h.next 0)).bind fun v4 =>
        (asI .i64 v4).bind fun n5 =>
        match (decide (n5 ≤ 20)) with
        | true => (
          (p3.2.ldN 6 (.ptr h.next 0)).bind fun v6 =>
          (M.call 86 [v6] p3.2).bind fun p7 =>
          (M.loop (withylaw09_ShadeGrays_c2_B M) (withylaw09_ShadeGrays_c2_E a1 (.ptr h.next 0) p7.1 (.int .i64 0)) p7.2).bind fun p8 => withylaw09_ShadeGrays_K3 M p8.1 p8.2.1 p8.2.2)
        | false => (
          (p3.2.ldN 6 (.ptr h.next 0)).bind fun v6 =>
          (M.call 85 [v6] p3.2).bind fun p7 =>
          match p7.1 with
          | .bool true => (
            (lenSl a1).bind fun n8 =>
            (p7.2.ldN 6 (.ptr h.next 0)).bind fun v9 =>
            (M.call 87 [v9] p7.2).bind fun p10 =>
            (lenSl p10.1).bind fun n11 =>
            match (decide (((n8 : Nat) : Int) = ((n11 : Nat) : Int))) with
            | true => (
              (p10.2.ldN 6 (.ptr h.next 0)).bind fun v12 =>
              (M.call 88 [v12, a1] p10.2).bind fun p13 =>
              (p13.2.ldN 6 (.ptr h.next 0)).bind fun v14 =>
              (M.call 89 [v14, a1] p13.2).bind fun p15 =>
              (asI .i64 p15.1).bind fun n16 =>
              (asI .i64 p13.1).bind fun n17 =>
              match (decide (n16 = n17)) with
              | true => (
                (M.call 84 [] p15.2).bind fun p18 =>
                some (p18.1, p18.2))
              | false => (
                some ((.bool false), p15.2)))
            | false => (
              (p10.2.ldN 6 (.ptr h.next 0)).bind fun v12 =>
              (M.call 89 [v12, a1] p10.2).bind fun p13 =>
              (asI .i64 p13.1).bind fun n14 =>
              match (decide (n14 = 0)) with
              | true => (
                (M.call 84 [] p13.2).bind fun p15 =>
                some (p15.1, p15.2))
              | false => (
                some ((.bool false), p13.2))))
          | .bool false => (
            (p7.2.ldN 6 (.ptr h.next 0)).bind fun v8 =>
            (M.call 89 [v8, a1] p7.2).bind fun p9 =>
            (asI .i64 p9.1).bind fun n10 =>
            match (decide (n10 = 0)) with
            | true => (
              (M.call 84 [] p9.2).bind fun p11 =>
              some (p11.1, p11.2))
            | false => (
              some ((.bool false), p9.2)))
          | .tup [] => (
            (asB p7.1).bind fun b8 =>
            (asB (match b8 with | true => (.tup []) | false => (.bool false) : V)).bind fun b9 =>
            match b9 with
            | true => (
              (p7.2.ldN 6 (.ptr h.next 0)).bind fun v10 =>
              (M.call 88 [v10, a1] p7.2).bind fun p11 =>
              (p11.2.ldN 6 (.ptr h.next 0)).bind fun v12 =>
              (M.call 89 [v12, a1] p11.2).bind fun p13 =>
              (asI .i64 p13.1).bind fun n14 =>
              (asI .i64 p11.1).bind fun n15 =>
              match (decide (n14 = n15)) with
              | true => (
                (M.call 84 [] p13.2).bind fun p16 =>
                some (p16.1, p16.2))
              | false => (
                some ((.bool false), p13.2)))
            | false => (
              (p7.2.ldN 6 (.ptr h.next 0)).bind fun v10 =>
              (M.call 89 [v10, a1] p7.2).bind fun p11 =>
              (asI .i64 p11.1).bind fun n12 =>
              match (decide (n12 = 0)) with
              | true => (
                (M.call 84 [] p11.2).bind fun p13 =>
                some (p13.1, p13.2))
              | false => (
                some ((.bool false), p11.2))))
          | _ => none))
      | .bool false => (
        (p3.2.ldN 6 (.ptr h.next 0)).bind fun v4 =>
        (M.call 85 [v4] p3.2).bind fun p5 =>
        match p5.1 with
        | .bool true => (
          (lenSl a1).bind fun n6 =>
          (p5.2.ldN 6 (.ptr h.next 0)).bind fun v7 =>
          (M.call 87 [v7] p5.2).bind fun p8 =>
          (lenSl p8.1).bind fun n9 =>
          match (decide (((n6 : Nat) : Int) = ((n9 : Nat) : Int))) with
          | true => (
            (p8.2.ldN 6 (.ptr h.next 0)).bind fun v10 =>
            (M.call 88 [v10, a1] p8.2).bind fun p11 =>
            (p11.2.ldN 6 (.ptr h.next 0)).bind fun v12 =>
            (M.call 89 [v12, a1] p11.2).bind fun p13 =>
            (asI .i64 p13.1).bind fun n14 =>
            (asI .i64 p11.1).bind fun n15 =>
            match (decide (n14 = n15)) with
            | true => (
              (M.call 84 [] p13.2).bind fun p16 =>
              some (p16.1, p16.2))
            | false => (
              some ((.bool false), p13.2)))
          | false => (
            (p8.2.ldN 6 (.ptr h.next 0)).bind fun v10 =>
            (M.call 89 [v10, a1] p8.2).bind fun p11 =>
            (asI .i64 p11.1).bind fun n12 =>
            match (decide (n12 = 0)) with
            | true => (
              (M.call 84 [] p11.2).bind fun p13 =>
              some (p13.1, p13.2))
            | false => (
              some ((.bool false), p11.2))))
        | .bool false => (
          (p5.2.ldN 6 (.ptr h.next 0)).bind fun v6 =>
          (M.call 89 [v6, a1] p5.2).bind fun p7 =>
          (asI .i64 p7.1).bind fun n8 =>
          match (decide (n8 = 0)) with
          | true => (
            (M.call 84 [] p7.2).bind fun p9 =>
            some (p9.1, p9.2))
          | false => (
            some ((.bool false), p7.2)))
        | .tup [] => (
          (asB p5.1).bind fun b6 =>
          (asB (match b6 with | true => (.tup []) | false => (.bool false) : V)).bind fun b7 =>
          match b7 with
          | true => (
            (p5.2.ldN 6 (.ptr h.next 0)).bind fun v8 =>
            (M.call 88 [v8, a1] p5.2).bind fun p9 =>
            (p9.2.ldN 6 (.ptr h.next 0)).bind fun v10 =>
            (M.call 89 [v10, a1] p9.2).bind fun p11 =>
            (asI .i64 p11.1).bind fun n12 =>
            (asI .i64 p9.1).bind fun n13 =>
            match (decide (n12 = n13)) with
            | true => (
              (M.call 84 [] p11.2).bind fun p14 =>
              some (p14.1, p14.2))
            | false => (
              some ((.bool false), p11.2)))
          | false => (
            (p5.2.ldN 6 (.ptr h.next 0)).bind fun v8 =>
            (M.call 89 [v8, a1] p5.2).bind fun p9 =>
            (asI .i64 p9.1).bind fun n10 =>
            match (decide (n10 = 0)) with
            | true => (
              (M.call 84 [] p9.2).bind fun p11 =>
              some (p11.1, p11.2))
            | false => (
              some ((.bool false), p9.2))))
        | _ => none)
      | .tup [] => (
        (asB p3.1).bind fun b4 =>
        (asB (match b4 with | true => (.tup []) | false => (.bool false) : V)).bind fun b5 =>
        match b5 with
        | true => (
          (p3.2.ldN 6 (.ptr h.next 0)).bind fun v6 =>
          (M.call 86 [v6] p3.2).bind fun p7 =>
          (M.loop (withylaw09_ShadeGrays_c2_B M) (withylaw09_ShadeGrays_c2_E a1 (.ptr h.next 0) p7.1 (.int .i64 0)) p7.2).bind fun p8 => withylaw09_ShadeGrays_K3 M p8.1 p8.2.1 p8.2.2)
        | false => (
          (p3.2.ldN 6 (.ptr h.next 0)).bind fun v6 =>
          (M.call 85 [v6] p3.2).bind fun p7 =>
          match p7.1 with
          | .bool true => (
            (lenSl a1).bind fun n8 =>
            (p7.2.ldN 6 (.ptr h.next 0)).bind fun v9 =>
            (M.call 87 [v9] p7.2).bind fun p10 =>
            (lenSl p10.1).bind fun n11 =>
            match (decide (((n8 : Nat) : Int) = ((n11 : Nat) : Int))) with
            | true => (
              (p10.2.ldN 6 (.ptr h.next 0)).bind fun v12 =>
              (M.call 88 [v12, a1] p10.2).bind fun p13 =>
              (p13.2.ldN 6 (.ptr h.next 0)).bind fun v14 =>
              (M.call 89 [v14, a1] p13.2).bind fun p15 =>
              (asI .i64 p15.1).bind fun n16 =>
              (asI .i64 p13.1).bind fun n17 =>
              match (decide (n16 = n17)) with
              | true => (
                (M.call 84 [] p15.2).bind fun p18 =>
                some (p18.1, p18.2))
              | false => (
                some ((.bool false), p15.2)))
            | false => (
              (p10.2.ldN 6 (.ptr h.next 0)).bind fun v12 =>
              (M.call 89 [v12, a1] p10.2).bind fun p13 =>
              (asI .i64 p13.1).bind fun n14 =>
              match (decide (n14 = 0)) with
              | true => (
                (M.call 84 [] p13.2).bind fun p15 =>
                some (p15.1, p15.2))
              | false => (
                some ((.bool false), p13.2))))
          | .bool false => (
            (p7.2.ldN 6 (.ptr h.next 0)).bind fun v8 =>
            (M.call 89 [v8, a1] p7.2).bind fun p9 =>
            (asI .i64 p9.1).bind fun n10 =>
            match (decide (n10 = 0)) with
            | true => (
              (M.call 84 [] p9.2).bind fun p11 =>
              some (p11.1, p11.2))
            | false => (
              some ((.bool false), p9.2)))
          | .tup [] => (
            (asB p7.1).bind fun b8 =>
            (asB (match b8 with | true => (.tup []) | false => (.bool false) : V)).bind fun b9 =>
            match b9 with
            | true => (
              (p7.2.ldN 6 (.ptr h.next 0)).bind fun v10 =>
              (M.call 88 [v10, a1] p7.2).bind fun p11 =>
              (p11.2.ldN 6 (.ptr h.next 0)).bind fun v12 =>
              (M.call 89 [v12, a1] p11.2).bind fun p13 =>
              (asI .i64 p13.1).bind fun n14 =>
              (asI .i64 p11.1).bind fun n15 =>
              match (decide (n14 = n15)) with
              | true => (
                (M.call 84 [] p13.2).bind fun p16 =>
                some (p16.1, p16.2))
              | false => (
                some ((.bool false), p13.2)))
            | false => (
              (p7.2.ldN 6 (.ptr h.next 0)).bind fun v10 =>
              (M.call 89 [v10, a1] p7.2).bind fun p11 =>
              (asI .i64 p11.1).bind fun n12 =>
              match (decide (n12 = 0)) with
              | true => (
                (M.call 84 [] p11.2).bind fun p13 =>
                some (p13.1, p13.2))
              | false => (
                some ((.bool false), p11.2))))
          | _ => none))
      | _ => none)
    | false => (
      (h0.ldN 6 (.ptr h.next 0)).bind fun v2 =>
      (M.call 85 [v2] h0).bind fun p3 =>
      match p3.1 with
      | .bool true => (
        (lenSl a1).bind fun n4 =>
        (p3.2.ldN 6 (.ptr h.next 0)).bind fun v5 =>
        (M.call 87 [v5] p3.2).bind fun p6 =>
        (lenSl p6.1).bind fun n7 =>
        match (decide (((n4 : Nat) : Int) = ((n7 : Nat) : Int))) with
        | true => (
          (p6.2.ldN 6 (.ptr h.next 0)).bind fun v8 =>
          (M.call 88 [v8, a1] p6.2).bind fun p9 =>
          (p9.2.ldN 6 (.ptr h.next 0)).bind fun v10 =>
          (M.call 89 [v10, a1] p9.2).bind fun p11 =>
          (asI .i64 p11.1).bind fun n12 =>
          (asI .i64 p9.1).bind fun n13 =>
          match (decide (n12 = n13)) with
          | true => (
            (M.call 84 [] p11.2).bind fun p14 =>
            some (p14.1, p14.2))
          | false => (
            some ((.bool false), p11.2)))
        | false => (
          (p6.2.ldN 6 (.ptr h.next 0)).bind fun v8 =>
          (M.call 89 [v8, a1] p6.2).bind fun p9 =>
          (asI .i64 p9.1).bind fun n10 =>
          match (decide (n10 = 0)) with
          | true => (
            (M.call 84 [] p9.2).bind fun p11 =>
            some (p11.1, p11.2))
          | false => (
            some ((.bool false), p9.2))))
      | .bool false => (
        (p3.2.ldN 6 (.ptr h.next 0)).bind fun v4 =>
        (M.call 89 [v4, a1] p3.2).bind fun p5 =>
        (asI .i64 p5.1).bind fun n6 =>
        match (decide (n6 = 0)) with
        | true => (
          (M.call 84 [] p5.2).bind fun p7 =>
          some (p7.1, p7.2))
        | false => (
          some ((.bool false), p5.2)))
      | .tup [] => (
        (asB p3.1).bind fun b4 =>
        (asB (match b4 with | true => (.tup []) | false => (.bool false) : V)).bind fun b5 =>
        match b5 with
        | true => (
          (p3.2.ldN 6 (.ptr h.next 0)).bind fun v6 =>
          (M.call 88 [v6, a1] p3.2).bind fun p7 =>
          (p7.2.ldN 6 (.ptr h.next 0)).bind fun v8 =>
          (M.call 89 [v8, a1] p7.2).bind fun p9 =>
          (asI .i64 p9.1).bind fun n10 =>
          (asI .i64 p7.1).bind fun n11 =>
          match (decide (n10 = n11)) with
          | true => (
            (M.call 84 [] p9.2).bind fun p12 =>
            some (p12.1, p12.2))
          | false => (
            some ((.bool false), p9.2)))
        | false => (
          (p3.2.ldN 6 (.ptr h.next 0)).bind fun v6 =>
          (M.call 89 [v6, a1] p3.2).bind fun p7 =>
          (asI .i64 p7.1).bind fun n8 =>
          match (decide (n8 = 0)) with
          | true => (
            (M.call 84 [] p7.2).bind fun p9 =>
            some (p9.1, p9.2))
          | false => (
            some ((.bool false), p7.2))))
      | _ => none))

def withylaw09_ShadeGrays_c2_S (M : Env) (x1 : V) (x3 : V) (x7 : V) (x8 : Int) (h : H) : Option (AX × List V × H) :=
  (lenSl x1).bind fun n0 =>
  match (decide (x8 < ((n0 : Nat) : Int))) with
  | true => (
    (lenSl x7).bind fun n1 =>
    match (decide (x8 < ((n1 : Nat) : Int))) with
    | true => (
      (lenSl x7).bind fun n2 =>
      (indexAV 1 x1 (.int .i64 x8)).bind fun v3 =>
      (h.ld1 v3).bind fun v4 =>
      (indexAV 1 x7 (.int .i64 (wr .i64 ((wr .i64 (((n2 : Nat) : Int) - 1)) - x8)))).bind fun v5 =>
      (h.st 1 v5 v4).bind fun h6 =>
      some (.normal, (withylaw09_ShadeGrays_c2_E x1 x3 x7 (.int .i64 (wr .i64 (x8 + 1)))), h6))
    | false => (
      some ((.exit 0), (withylaw09_ShadeGrays_c2_O x3 x7), h)))
  | false => (
    some ((.exit 0), (withylaw09_ShadeGrays_c2_O x3 x7), h))

def withylaw09_ShadeGrays_c2_e0 (M : Env) (x3 : V) (x7 : V) (h : H) : Option (V × H) :=
  (h.ldN 6 x3).bind fun v0 =>
  (M.call 85 [v0] h).bind fun p1 =>
  match p1.1 with
  | .bool true => (
    (lenSl x7).bind fun n2 =>
    (p1.2.ldN 6 x3).bind fun v3 =>
    (M.call 87 [v3] p1.2).bind fun p4 =>
    (lenSl p4.1).bind fun n5 =>
    match (decide (((n2 : Nat) : Int) = ((n5 : Nat) : Int))) with
    | true => (
      (p4.2.ldN 6 x3).bind fun v6 =>
      (M.call 88 [v6, x7] p4.2).bind fun p7 =>
      (p7.2.ldN 6 x3).bind fun v8 =>
      (M.call 89 [v8, x7] p7.2).bind fun p9 =>
      (asI .i64 p9.1).bind fun n10 =>
      (asI .i64 p7.1).bind fun n11 =>
      match (decide (n10 = n11)) with
      | true => (
        (M.call 84 [] p9.2).bind fun p12 =>
        some (p12.1, p12.2))
      | false => (
        some ((.bool false), p9.2)))
    | false => (
      (p4.2.ldN 6 x3).bind fun v6 =>
      (M.call 89 [v6, x7] p4.2).bind fun p7 =>
      (asI .i64 p7.1).bind fun n8 =>
      match (decide (n8 = 0)) with
      | true => (
        (M.call 84 [] p7.2).bind fun p9 =>
        some (p9.1, p9.2))
      | false => (
        some ((.bool false), p7.2))))
  | .bool false => (
    (p1.2.ldN 6 x3).bind fun v2 =>
    (M.call 89 [v2, x7] p1.2).bind fun p3 =>
    (asI .i64 p3.1).bind fun n4 =>
    match (decide (n4 = 0)) with
    | true => (
      (M.call 84 [] p3.2).bind fun p5 =>
      some (p5.1, p5.2))
    | false => (
      some ((.bool false), p3.2)))
  | .tup [] => (
    (asB p1.1).bind fun b2 =>
    (asB (match b2 with | true => (.tup []) | false => (.bool false) : V)).bind fun b3 =>
    match b3 with
    | true => (
      (p1.2.ldN 6 x3).bind fun v4 =>
      (M.call 88 [v4, x7] p1.2).bind fun p5 =>
      (p5.2.ldN 6 x3).bind fun v6 =>
      (M.call 89 [v6, x7] p5.2).bind fun p7 =>
      (asI .i64 p7.1).bind fun n8 =>
      (asI .i64 p5.1).bind fun n9 =>
      match (decide (n8 = n9)) with
      | true => (
        (M.call 84 [] p7.2).bind fun p10 =>
        some (p10.1, p10.2))
      | false => (
        some ((.bool false), p7.2)))
    | false => (
      (p1.2.ldN 6 x3).bind fun v4 =>
      (M.call 89 [v4, x7] p1.2).bind fun p5 =>
      (asI .i64 p5.1).bind fun n6 =>
      match (decide (n6 = 0)) with
      | true => (
        (M.call 84 [] p5.2).bind fun p7 =>
        some (p7.1, p7.2))
      | false => (
        some ((.bool false), p5.2))))
  | _ => none

theorem withylaw09_ShadeGrays_eq (M : Env) (a0_0 : Int) (a0_1 : Int) (a0_2 : Int) (a0_3 : Int) (a0_4 : Int) (a0_5 : Int) (a1 : V) (a2 : Bool) (h : H) : evalF M F.withylaw09_ShadeGrays [(.agg [(.int .i64 a0_0), (.int .i64 a0_1), (.int .i64 a0_2), (.int .i64 a0_3), (.int .i64 a0_4), (.int .i64 a0_5)]), a1, (.bool a2)] h = withylaw09_ShadeGrays M a0_0 a0_1 a0_2 a0_3 a0_4 a0_5 a1 a2 h := by kernel_rfl

theorem withylaw09_ShadeGrays_c2_eq (M : Env) (x1 : V) (x3 : V) (x7 : V) (x8 : Int) (h : H) : withylaw09_ShadeGrays_c2_B M (withylaw09_ShadeGrays_c2_E x1 x3 x7 (.int .i64 x8)) h = withylaw09_ShadeGrays_c2_S M x1 x3 x7 x8 h := by kernel_rfl

theorem withylaw09_ShadeGrays_c2_e0_eq (M : Env) (x3 : V) (x7 : V) (h : H) : withylaw09_ShadeGrays_K3 M (.exit 0) (withylaw09_ShadeGrays_c2_O x3 x7) h = withylaw09_ShadeGrays_c2_e0 M x3 x7 h := by kernel_rfl

end Wm.S
end

