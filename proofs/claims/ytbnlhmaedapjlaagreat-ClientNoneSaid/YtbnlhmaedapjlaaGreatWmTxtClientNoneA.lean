/- PRINTED by my tool: what functions come to, stretch by stretch. -/
import Derived.KernelRfl
import Derived.Test.YtbnlhmaedapjlaaGreatWmShal
import Derived.Test.YtbnlhmaedapjlaaGreatWmFnsClientNoneA
set_option linter.all false
section
/- PRINTED by my tool (wip/wm/tool/Gen.lean): what a function comes to, stretch by stretch. -/
namespace Wm.S
open Wm
set_option maxRecDepth 100000
set_option linter.unusedVariables false


def plan_between (M : Env) (a0 : Int) (a1 : Int) (a2 : Int) (h : H) : Option (V × H) :=
  match (decide (a1 ≤ a0)) with
  | true => (
    some ((.bool (decide (a0 ≤ a2))), h))
  | false => (
    some ((.bool false), h))

theorem plan_between_eq (M : Env) (a0 : Int) (a1 : Int) (a2 : Int) (h : H) : evalF M F.plan_between [(.int .i64 a0), (.int .i64 a1), (.int .i64 a2)] h = plan_between M a0 a1 a2 h := by kernel_rfl

end Wm.S
end

section
/- PRINTED by my tool (wip/wm/tool/Gen.lean): what a function comes to, stretch by stretch. -/
namespace Wm.S
open Wm
set_option maxRecDepth 100000
set_option linter.unusedVariables false


def plan_Right (M : Env) (a0_0 : Int) (a0_1 : Int) (a0_2 : Int) (a0_3 : Int) (a0_4 : Int) (a0_5 : Int) (h : H) : Option (V × H) :=
  let h0 := h.new (.cells [(.int .i64 a0_0), (.int .i64 a0_1), (.int .i64 a0_2), (.int .i64 a0_3), (.int .i64 a0_4), (.int .i64 a0_5)] .rw)
  (h0.ld1 (.ptr h.next 0)).bind fun v1 =>
  (M.call 376 [v1, (.int .i64 1), (.int .i64 64)] h0).bind fun p2 =>
  match p2.1 with
  | .bool true => (
    (p2.2.ld1 (.ptr h.next 1)).bind fun v3 =>
    (M.call 376 [v3, (.int .i64 0), (.int .i64 8)] p2.2).bind fun p4 =>
    match p4.1 with
    | .bool true => (
      (p4.2.ld1 (.ptr h.next 2)).bind fun v5 =>
      (M.call 376 [v5, (.int .i64 1), (.int .i64 8)] p4.2).bind fun p6 =>
      match p6.1 with
      | .bool true => (
        (p6.2.ld1 (.ptr h.next 3)).bind fun v7 =>
        (M.call 376 [v7, (.int .i64 1), (.int .i64 16)] p6.2).bind fun p8 =>
        match p8.1 with
        | .bool true => (
          (p8.2.ld1 (.ptr h.next 4)).bind fun v9 =>
          (M.call 376 [v9, (.int .i64 1), (.int .i64 1048576)] p8.2).bind fun p10 =>
          match p10.1 with
          | .bool true => (
            (p10.2.ld1 (.ptr h.next 5)).bind fun v11 =>
            (M.call 376 [v11, (.int .i64 0), (.int .i64 64)] p10.2).bind fun p12 =>
            some (p12.1, p12.2))
          | .bool false => (
            some ((.bool false), p10.2))
          | .tup [] => (
            (asB p10.1).bind fun b11 =>
            some ((match b11 with | true => (.tup []) | false => (.bool false) : V), p10.2))
          | _ => none)
        | .bool false => (
          some ((.bool false), p8.2))
        | .tup [] => (
          (asB p8.1).bind fun b9 =>
          match (match b9 with | true => (.tup []) | false => (.bool false) : V) with
          | .bool true => (
            (p8.2.ld1 (.ptr h.next 5)).bind fun v10 =>
            (M.call 376 [v10, (.int .i64 0), (.int .i64 64)] p8.2).bind fun p11 =>
            some (p11.1, p11.2))
          | .bool false => (
            some ((.bool false), p8.2))
          | .tup [] => (
            (asB (match b9 with | true => (.tup []) | false => (.bool false) : V)).bind fun b10 =>
            some ((match b10 with | true => (.tup []) | false => (.bool false) : V), p8.2))
          | _ => none)
        | _ => none)
      | .bool false => (
        some ((.bool false), p6.2))
      | .tup [] => (
        (asB p6.1).bind fun b7 =>
        match (match b7 with | true => (.tup []) | false => (.bool false) : V) with
        | .bool true => (
          (p6.2.ld1 (.ptr h.next 4)).bind fun v8 =>
          (M.call 376 [v8, (.int .i64 1), (.int .i64 1048576)] p6.2).bind fun p9 =>
          match p9.1 with
          | .bool true => (
            (p9.2.ld1 (.ptr h.next 5)).bind fun v10 =>
            (M.call 376 [v10, (.int .i64 0), (.int .i64 64)] p9.2).bind fun p11 =>
            some (p11.1, p11.2))
          | .bool false => (
            some ((.bool false), p9.2))
          | .tup [] => (
            (asB p9.1).bind fun b10 =>
            some ((match b10 with | true => (.tup []) | false => (.bool false) : V), p9.2))
          | _ => none)
        | .bool false => (
          some ((.bool false), p6.2))
        | .tup [] => (
          (asB (match b7 with | true => (.tup []) | false => (.bool false) : V)).bind fun b8 =>
          match (match b8 with | true => (.tup []) | false => (.bool false) : V) with
          | .bool true => (
            (p6.2.ld1 (.ptr h.next 5)).bind fun v9 =>
            (M.call 376 [v9, (.int .i64 0), (.int .i64 64)] p6.2).bind fun p10 =>
            some (p10.1, p10.2))
          | .bool false => (
            some ((.bool false), p6.2))
          | .tup [] => (
            (asB (match b8 with | true => (.tup []) | false => (.bool false) : V)).bind fun b9 =>
            some ((match b9 with | true => (.tup []) | false => (.bool false) : V), p6.2))
          | _ => none)
        | _ => none)
      | _ => none)
    | .bool false => (
      some ((.bool false), p4.2))
    | .tup [] => (
      (asB p4.1).bind fun b5 =>
      match (match b5 with | true => (.tup []) | false => (.bool false) : V) with
      | .bool true => (
        (p4.2.ld1 (.ptr h.next 3)).bind fun v6 =>
        (M.call 376 [v6, (.int .i64 1), (.int .i64 16)] p4.2).bind fun p7 =>
        match p7.1 with
        | .bool true => (
          (p7.2.ld1 (.ptr h.next 4)).bind fun v8 =>
          (M.call 376 [v8, (.int .i64 1), (.int .i64 1048576)] p7.2).bind fun p9 =>
          match p9.1 with
          | .bool true => (
            (p9.2.ld1 (.ptr h.next 5)).bind fun v10 =>
            (M.call 376 [v10, (.int .i64 0), (.int .i64 64)] p9.2).bind fun p11 =>
            some (p11.1, p11.2))
          | .bool false => (
            some ((.bool false), p9.2))
          | .tup [] => (
            (asB p9.1).bind fun b10 =>
            some ((match b10 with | true => (.tup []) | false => (.bool false) : V), p9.2))
          | _ => none)
        | .bool false => (
          some ((.bool false), p7.2))
        | .tup [] => (
          (asB p7.1).bind fun b8 =>
          match (match b8 with | true => (.tup []) | false => (.bool false) : V) with
          | .bool true => (
            (p7.2.ld1 (.ptr h.next 5)).bind fun v9 =>
            (M.call 376 [v9, (.int .i64 0), (.int .i64 64)] p7.2).bind fun p10 =>
            some (p10.1, p10.2))
          | .bool false => (
            some ((.bool false), p7.2))
          | .tup [] => (
            (asB (match b8 with | true => (.tup []) | false => (.bool false) : V)).bind fun b9 =>
            some ((match b9 with | true => (.tup []) | false => (.bool false) : V), p7.2))
          | _ => none)
        | _ => none)
      | .bool false => (
        some ((.bool false), p4.2))
      | .tup [] => (
        (asB (match b5 with | true => (.tup []) | false => (.bool false) : V)).bind fun b6 =>
        match (match b6 with | true => (.tup []) | false => (.bool false) : V) with
        | .bool true => (
          (p4.2.ld1 (.ptr h.next 4)).bind fun v7 =>
          (M.call 376 [v7, (.int .i64 1), (.int .i64 1048576)] p4.2).bind fun p8 =>
          match p8.1 with
          | .bool true => (
            (p8.2.ld1 (.ptr h.next 5)).bind fun v9 =>
            (M.call 376 [v9, (.int .i64 0), (.int .i64 64)] p8.2).bind fun p10 =>
            some (p10.1, p10.2))
          | .bool false => (
            some ((.bool false), p8.2))
          | .tup [] => (
            (asB p8.1).bind fun b9 =>
            some ((match b9 with | true => (.tup []) | false => (.bool false) : V), p8.2))
          | _ => none)
        | .bool false => (
          some ((.bool false), p4.2))
        | .tup [] => (
          (asB (match b6 with | true => (.tup []) | false => (.bool false) : V)).bind fun b7 =>
          match (match b7 with | true => (.tup []) | false => (.bool false) : V) with
          | .bool true => (
            (p4.2.ld1 (.ptr h.next 5)).bind fun v8 =>
            (M.call 376 [v8, (.int .i64 0), (.int .i64 64)] p4.2).bind fun p9 =>
            some (p9.1, p9.2))
          | .bool false => (
            some ((.bool false), p4.2))
          | .tup [] => (
            (asB (match b7 with | true => (.tup []) | false => (.bool false) : V)).bind fun b8 =>
            some ((match b8 with | true => (.tup []) | false => (.bool false) : V), p4.2))
          | _ => none)
        | _ => none)
      | _ => none)
    | _ => none)
  | .bool false => (
    some ((.bool false), p2.2))
  | .tup [] => (
    (asB p2.1).bind fun b3 =>
    match (match b3 with | true => (.tup []) | false => (.bool false) : V) with
    | .bool true => (
      (p2.2.ld1 (.ptr h.next 2)).bind fun v4 =>
      (M.call 376 [v4, (.int .i64 1), (.int .i64 8)] p2.2).bind fun p5 =>
      match p5.1 with
      | .bool true => (
        (p5.2.ld1 (.ptr h.next 3)).bind fun v6 =>
        (M.call 376 [v6, (.int .i64 1), (.int .i64 16)] p5.2).bind fun p7 =>
        match p7.1 with
        | .bool true => (
          (p7.2.ld1 (.ptr h.next 4)).bind fun v8 =>
          (M.call 376 [v8, (.int .i64 1), (.int .i64 1048576)] p7.2).bind fun p9 =>
          match p9.1 with
          | .bool true => (
            (p9.2.ld1 (.ptr h.next 5)).bind fun v10 =>
            (M.call 376 [v10, (.int .i64 0), (.int .i64 64)] p9.2).bind fun p11 =>
            some (p11.1, p11.2))
          | .bool false => (
            some ((.bool false), p9.2))
          | .tup [] => (
            (asB p9.1).bind fun b10 =>
            some ((match b10 with | true => (.tup []) | false => (.bool false) : V), p9.2))
          | _ => none)
        | .bool false => (
          some ((.bool false), p7.2))
        | .tup [] => (
          (asB p7.1).bind fun b8 =>
          match (match b8 with | true => (.tup []) | false => (.bool false) : V) with
          | .bool true => (
            (p7.2.ld1 (.ptr h.next 5)).bind fun v9 =>
            (M.call 376 [v9, (.int .i64 0), (.int .i64 64)] p7.2).bind fun p10 =>
            some (p10.1, p10.2))
          | .bool false => (
            some ((.bool false), p7.2))
          | .tup [] => (
            (asB (match b8 with | true => (.tup []) | false => (.bool false) : V)).bind fun b9 =>
            some ((match b9 with | true => (.tup []) | false => (.bool false) : V), p7.2))
          | _ => none)
        | _ => none)
      | .bool false => (
        some ((.bool false), p5.2))
      | .tup [] => (
        (asB p5.1).bind fun b6 =>
        match (match b6 with | true => (.tup []) | false => (.bool false) : V) with
        | .bool true => (
          (p5.2.ld1 (.ptr h.next 4)).bind fun v7 =>
          (M.call 376 [v7, (.int .i64 1), (.int .i64 1048576)] p5.2).bind fun p8 =>
          match p8.1 with
          | .bool true => (
            (p8.2.ld1 (.ptr h.next 5)).bind fun v9 =>
            (M.call 376 [v9, (.int .i64 0), (.int .i64 64)] p8.2).bind fun p10 =>
            some (p10.1, p10.2))
          | .bool false => (
            some ((.bool false), p8.2))
          | .tup [] => (
            (asB p8.1).bind fun b9 =>
            some ((match b9 with | true => (.tup []) | false => (.bool false) : V), p8.2))
          | _ => none)
        | .bool false => (
          some ((.bool false), p5.2))
        | .tup [] => (
          (asB (match b6 with | true => (.tup []) | false => (.bool false) : V)).bind fun b7 =>
          match (match b7 with | true => (.tup []) | false => (.bool false) : V) with
          | .bool true => (
            (p5.2.ld1 (.ptr h.next 5)).bind fun v8 =>
            (M.call 376 [v8, (.int .i64 0), (.int .i64 64)] p5.2).bind fun p9 =>
            some (p9.1, p9.2))
          | .bool false => (
            some ((.bool false), p5.2))
          | .tup [] => (
            (asB (match b7 with | true => (.tup []) | false => (.bool false) : V)).bind fun b8 =>
            some ((match b8 with | true => (.tup []) | false => (.bool false) : V), p5.2))
          | _ => none)
        | _ => none)
      | _ => none)
    | .bool false => (
      some ((.bool false), p2.2))
    | .tup [] => (
      (asB (match b3 with | true => (.tup []) | false => (.bool false) : V)).bind fun b4 =>
      match (match b4 with | true => (.tup []) | false => (.bool false) : V) with
      | .bool true => (
        (p2.2.ld1 (.ptr h.next 3)).bind fun v5 =>
        (M.call 376 [v5, (.int .i64 1), (.int .i64 16)] p2.2).bind fun p6 =>
        match p6.1 with
        | .bool true => (
          (p6.2.ld1 (.ptr h.next 4)).bind fun v7 =>
          (M.call 376 [v7, (.int .i64 1), (.int .i64 1048576)] p6.2).bind fun p8 =>
          match p8.1 with
          | .bool true => (
            (p8.2.ld1 (.ptr h.next 5)).bind fun v9 =>
            (M.call 376 [v9, (.int .i64 0), (.int .i64 64)] p8.2).bind fun p10 =>
            some (p10.1, p10.2))
          | .bool false => (
            some ((.bool false), p8.2))
          | .tup [] => (
            (asB p8.1).bind fun b9 =>
            some ((match b9 with | true => (.tup []) | false => (.bool false) : V), p8.2))
          | _ => none)
        | .bool false => (
          some ((.bool false), p6.2))
        | .tup [] => (
          (asB p6.1).bind fun b7 =>
          match (match b7 with | true => (.tup []) | false => (.bool false) : V) with
          | .bool true => (
            (p6.2.ld1 (.ptr h.next 5)).bind fun v8 =>
            (M.call 376 [v8, (.int .i64 0), (.int .i64 64)] p6.2).bind fun p9 =>
            some (p9.1, p9.2))
          | .bool false => (
            some ((.bool false), p6.2))
          | .tup [] => (
            (asB (match b7 with | true => (.tup []) | false => (.bool false) : V)).bind fun b8 =>
            some ((match b8 with | true => (.tup []) | false => (.bool false) : V), p6.2))
          | _ => none)
        | _ => none)
      | .bool false => (
        some ((.bool false), p2.2))
      | .tup [] => (
        (asB (match b4 with | true => (.tup []) | false => (.bool false) : V)).bind fun b5 =>
        match (match b5 with | true => (.tup []) | false => (.bool false) : V) with
        | .bool true => (
          (p2.2.ld1 (.ptr h.next 4)).bind fun v6 =>
          (M.call 376 [v6, (.int .i64 1), (.int .i64 1048576)] p2.2).bind fun p7 =>
          match p7.1 with
          | .bool true => (
            (p7.2.ld1 (.ptr h.next 5)).bind fun v8 =>
            (M.call 376 [v8, (.int .i64 0), (.int .i64 64)] p7.2).bind fun p9 =>
            some (p9.1, p9.2))
          | .bool false => (
            some ((.bool false), p7.2))
          | .tup [] => (
            (asB p7.1).bind fun b8 =>
            some ((match b8 with | true => (.tup []) | false => (.bool false) : V), p7.2))
          | _ => none)
        | .bool false => (
          some ((.bool false), p2.2))
        | .tup [] => (
          (asB (match b5 with | true => (.tup []) | false => (.bool false) : V)).bind fun b6 =>
          match (match b6 with | true => (.tup []) | false => (.bool false) : V) with
          | .bool true => (
            (p2.2.ld1 (.ptr h.next 5)).bind fun v7 =>
            (M.call 376 [v7, (.int .i64 0), (.int .i64 64)] p2.2).bind fun p8 =>
            some (p8.1, p8.2))
          | .bool false => (
            some ((.bool false), p2.2))
          | .tup [] => (
            (asB (match b6 with | true => (.tup []) | false => (.bool false) : V)).bind fun b7 =>
            some ((match b7 with | true => (.tup []) | false => (.bool false) : V), p2.2))
          | _ => none)
        | _ => none)
      | _ => none)
    | _ => none)
  | _ => none

theorem plan_Right_eq (M : Env) (a0_0 : Int) (a0_1 : Int) (a0_2 : Int) (a0_3 : Int) (a0_4 : Int) (a0_5 : Int) (h : H) : evalF M F.plan_Right [(.agg [(.int .i64 a0_0), (.int .i64 a0_1), (.int .i64 a0_2), (.int .i64 a0_3), (.int .i64 a0_4), (.int .i64 a0_5)])] h = plan_Right M a0_0 a0_1 a0_2 a0_3 a0_4 a0_5 h := by kernel_rfl

end Wm.S
end

section
/- PRINTED by my tool (wip/wm/tool/Gen.lean): what a function comes to, stretch by stretch. -/
namespace Wm.S
open Wm
set_option maxRecDepth 100000
set_option linter.unusedVariables false


def withyref06_Right (M : Env) (a0_0 : Int) (a0_1 : Int) (a0_2 : Int) (a0_3 : Int) (a0_4 : Int) (a0_5 : Int) (h : H) : Option (V × H) :=
  let h0 := h.new (.cells [(.int .i64 a0_0), (.int .i64 a0_1), (.int .i64 a0_2), (.int .i64 a0_3), (.int .i64 a0_4), (.int .i64 a0_5)] .rw)
  (h0.ld1 (.ptr h.next 0)).bind fun v1 =>
  (asI .i64 v1).bind fun n2 =>
  match (decide (1 ≤ n2)) with
  | true => (
    (h0.ld1 (.ptr h.next 0)).bind fun v3 =>
    (asI .i64 v3).bind fun n4 =>
    match (decide (n4 ≤ 64)) with
    | true => (
      (h0.ld1 (.ptr h.next 1)).bind fun v5 =>
      (asI .i64 v5).bind fun n6 =>
      match (decide (0 ≤ n6)) with
      | true => (
        (h0.ld1 (.ptr h.next 1)).bind fun v7 =>
        (asI .i64 v7).bind fun n8 =>
        match (decide (n8 ≤ 8)) with
        | true => (
          (h0.ld1 (.ptr h.next 2)).bind fun v9 =>
          (asI .i64 v9).bind fun n10 =>
          match (decide (1 ≤ n10)) with
          | true => (
            (h0.ld1 (.ptr h.next 2)).bind fun v11 =>
            (asI .i64 v11).bind fun n12 =>
            match (decide (n12 ≤ 8)) with
            | true => (
              (h0.ld1 (.ptr h.next 3)).bind fun v13 =>
              (asI .i64 v13).bind fun n14 =>
              match (decide (1 ≤ n14)) with
              | true => (
                (h0.ld1 (.ptr h.next 3)).bind fun v15 =>
                (asI .i64 v15).bind fun n16 =>
                match (decide (n16 ≤ 16)) with
                | true => (
                  (h0.ld1 (.ptr h.next 4)).bind fun v17 =>
                  (asI .i64 v17).bind fun n18 =>
                  match (decide (1 ≤ n18)) with
                  | true => (
                    (h0.ld1 (.ptr h.next 4)).bind fun v19 =>
                    (asI .i64 v19).bind fun n20 =>
                    match (decide (n20 ≤ 1048576)) with
                    | true => (
                      (h0.ld1 (.ptr h.next 5)).bind fun v21 =>
                      (asI .i64 v21).bind fun n22 =>
                      match (decide (0 ≤ n22)) with
                      | true => (
                        (h0.ld1 (.ptr h.next 5)).bind fun v23 =>
                        (asI .i64 v23).bind fun n24 =>
                        some ((.bool (decide (n24 ≤ 64))), h0))
                      | false => (
                        some ((.bool false), h0)))
                    | false => (
                      some ((.bool false), h0)))
                  | false => (
                    some ((.bool false), h0)))
                | false => (
                  some ((.bool false), h0)))
              | false => (
                some ((.bool false), h0)))
            | false => (
              some ((.bool false), h0)))
          | false => (
            some ((.bool false), h0)))
        | false => (
          some ((.bool false), h0)))
      | false => (
        some ((.bool false), h0)))
    | false => (
      some ((.bool false), h0)))
  | false => (
    some ((.bool false), h0))

theorem withyref06_Right_eq (M : Env) (a0_0 : Int) (a0_1 : Int) (a0_2 : Int) (a0_3 : Int) (a0_4 : Int) (a0_5 : Int) (h : H) : evalF M F.withyref06_Right [(.agg [(.int .i64 a0_0), (.int .i64 a0_1), (.int .i64 a0_2), (.int .i64 a0_3), (.int .i64 a0_4), (.int .i64 a0_5)])] h = withyref06_Right M a0_0 a0_1 a0_2 a0_3 a0_4 a0_5 h := by kernel_rfl

end Wm.S
end

section
/- PRINTED by my tool (wip/wm/tool/Gen.lean): what a function comes to, stretch by stretch. -/
namespace Wm.S
open Wm
set_option maxRecDepth 100000
set_option linter.unusedVariables false


def plan_Header (M : Env) (a0_0 : Int) (a0_1 : Int) (a0_2 : Int) (a0_3 : Int) (a0_4 : Int) (a0_5 : Int) (a1 : Int) (h : H) : Option (V × H) :=
  let h0 := h.new (.cells [(.int .i64 a0_0), (.int .i64 a0_1), (.int .i64 a0_2), (.int .i64 a0_3), (.int .i64 a0_4), (.int .i64 a0_5)] .rw)
  (h0.ldN 6 (.ptr h.next 0)).bind fun v1 =>
  (M.call 375 [v1, (.int .i64 a1), (.int .i64 0)] h0).bind fun p2 =>
  some (p2.1, p2.2)

theorem plan_Header_eq (M : Env) (a0_0 : Int) (a0_1 : Int) (a0_2 : Int) (a0_3 : Int) (a0_4 : Int) (a0_5 : Int) (a1 : Int) (h : H) : evalF M F.plan_Header [(.agg [(.int .i64 a0_0), (.int .i64 a0_1), (.int .i64 a0_2), (.int .i64 a0_3), (.int .i64 a0_4), (.int .i64 a0_5)]), (.int .i64 a1)] h = plan_Header M a0_0 a0_1 a0_2 a0_3 a0_4 a0_5 a1 h := by kernel_rfl

end Wm.S
end

section
/- PRINTED by my tool (wip/wm/tool/Gen.lean): what a function comes to, stretch by stretch. -/
namespace Wm.S
open Wm
set_option maxRecDepth 100000
set_option linter.unusedVariables false


def plan_within (M : Env) (a0_0 : Int) (a0_1 : Int) (a0_2 : Int) (a0_3 : Int) (a0_4 : Int) (a0_5 : Int) (a1 : Int) (a2 : Int) (h : H) : Option (V × H) :=
  let h0 := h.new (.cells [(.int .i64 a0_0), (.int .i64 a0_1), (.int .i64 a0_2), (.int .i64 a0_3), (.int .i64 a0_4), (.int .i64 a0_5)] .rw)
  (h0.ldN 6 (.ptr h.next 0)).bind fun v1 =>
  (M.call 263 [v1] h0).bind fun p2 =>
  (asB p2.1).bind fun b3 =>
  match (!b3) with
  | true => (
    some ((.int .i64 (-1)), p2.2))
  | false => (
    (p2.2.ld1 (.ptr h.next 0)).bind fun v4 =>
    (asI .i64 v4).bind fun n5 =>
    (M.call 376 [(.int .i64 a1), (.int .i64 0), (.int .i64 (wr .i64 (n5 - 1)))] p2.2).bind fun p6 =>
    (asB p6.1).bind fun b7 =>
    match (!b7) with
    | true => (
      some ((.int .i64 (-1)), p6.2))
    | false => (
      (p6.2.ldN 6 (.ptr h.next 0)).bind fun v8 =>
      (M.call 378 [v8] p6.2).bind fun p9 =>
      (asI .i64 p9.1).bind fun n10 =>
      (M.call 376 [(.int .i64 a2), (.int .i64 0), (.int .i64 (wr .i64 (n10 - 1)))] p9.2).bind fun p11 =>
      (asB p11.1).bind fun b12 =>
      match (!b12) with
      | true => (
        some ((.int .i64 (-1)), p11.2))
      | false => (
        (p11.2.ldN 6 (.ptr h.next 0)).bind fun v13 =>
        (p11.2.ldN 6 (.ptr h.next 0)).bind fun v14 =>
        (M.call 377 [v13] p11.2).bind fun p15 =>
        match ckB (p15.2.ldN 6 (.ptr h.next 0)) v14 with
        | true => (
        (M.call 378 [v14] p15.2).bind fun p16 =>
        (asI .i64 p16.1).bind fun n17 =>
        (asI .i64 p15.1).bind fun n18 =>
        some ((.int .i64 (wr .i64 ((wr .i64 (n18 + (wr .i64 (a1 * n17)))) + a2))), p16.2))
        | false => none)))

theorem plan_within_eq (M : Env) (a0_0 : Int) (a0_1 : Int) (a0_2 : Int) (a0_3 : Int) (a0_4 : Int) (a0_5 : Int) (a1 : Int) (a2 : Int) (h : H) : evalF M F.plan_within [(.agg [(.int .i64 a0_0), (.int .i64 a0_1), (.int .i64 a0_2), (.int .i64 a0_3), (.int .i64 a0_4), (.int .i64 a0_5)]), (.int .i64 a1), (.int .i64 a2)] h = plan_within M a0_0 a0_1 a0_2 a0_3 a0_4 a0_5 a1 a2 h := by kernel_rfl

end Wm.S
end

section
/- PRINTED by my tool (wip/wm/tool/Gen.lean): what a function comes to, stretch by stretch. -/
namespace Wm.S
open Wm
set_option maxRecDepth 100000
set_option linter.unusedVariables false


def plan_slots (M : Env) (a0_0 : Int) (a0_1 : Int) (a0_2 : Int) (a0_3 : Int) (a0_4 : Int) (a0_5 : Int) (h : H) : Option (V × H) :=
  let h0 := h.new (.cells [(.int .i64 a0_0), (.int .i64 a0_1), (.int .i64 a0_2), (.int .i64 a0_3), (.int .i64 a0_4), (.int .i64 a0_5)] .rw)
  (h0.ld1 (.ptr h.next 2)).bind fun v1 =>
  (h0.ld1 (.ptr h.next 3)).bind fun v2 =>
  (asI .i64 v2).bind fun n3 =>
  (asI .i64 v1).bind fun n4 =>
  some ((.int .i64 (wr .i64 (4 + (wr .i64 (n4 * (wr .i64 ((wr .i64 (1 + n3)) + 2))))))), h0)

theorem plan_slots_eq (M : Env) (a0_0 : Int) (a0_1 : Int) (a0_2 : Int) (a0_3 : Int) (a0_4 : Int) (a0_5 : Int) (h : H) : evalF M F.plan_slots [(.agg [(.int .i64 a0_0), (.int .i64 a0_1), (.int .i64 a0_2), (.int .i64 a0_3), (.int .i64 a0_4), (.int .i64 a0_5)])] h = plan_slots M a0_0 a0_1 a0_2 a0_3 a0_4 a0_5 h := by kernel_rfl

end Wm.S
end

section
/- PRINTED by my tool (wip/wm/tool/Gen.lean): what a function comes to, stretch by stretch. -/
namespace Wm.S
open Wm
set_option maxRecDepth 100000
set_option linter.unusedVariables false


def plan_room (M : Env) (a0_0 : Int) (a0_1 : Int) (a0_2 : Int) (a0_3 : Int) (a0_4 : Int) (a0_5 : Int) (h : H) : Option (V × H) :=
  let h0 := h.new (.cells [(.int .i64 a0_0), (.int .i64 a0_1), (.int .i64 a0_2), (.int .i64 a0_3), (.int .i64 a0_4), (.int .i64 a0_5)] .rw)
  (h0.ld1 (.ptr h.next 1)).bind fun v1 =>
  (asI .i64 v1).bind fun n2 =>
  some ((.int .i64 (wr .i64 (2 + (max n2 3)))), h0)

theorem plan_room_eq (M : Env) (a0_0 : Int) (a0_1 : Int) (a0_2 : Int) (a0_3 : Int) (a0_4 : Int) (a0_5 : Int) (h : H) : evalF M F.plan_room [(.agg [(.int .i64 a0_0), (.int .i64 a0_1), (.int .i64 a0_2), (.int .i64 a0_3), (.int .i64 a0_4), (.int .i64 a0_5)])] h = plan_room M a0_0 a0_1 a0_2 a0_3 a0_4 a0_5 h := by kernel_rfl

end Wm.S
end

section
/- PRINTED by my tool (wip/wm/tool/Gen.lean): what a function comes to, stretch by stretch. -/
namespace Wm.S
open Wm
set_option maxRecDepth 100000
set_option linter.unusedVariables false

def root_NewTable_c1_B (M : Env) : List V → H → Option (AX × List V × H) :=
  fun env h => evalC M F.root_NewTable_c1 env h fun x env h => match x with
    | .normal => some (.normal, keepOf [2, 7, 21, 22] 0 env, h)
    | x => some (x, keepOf [7] 0 env, h)

def root_NewTable_c1_E (x2 x7 x21 x22 : V) : List V := [.dead, .dead, x2, .dead, .dead, .dead, .dead, x7, .dead, .dead, .dead, .dead, .dead, .dead, .dead, .dead, .dead, .dead, .dead, .dead, .dead, x21, x22, .dead, .dead, .dead, .dead, .dead, .dead, .dead, .dead, .dead, .dead, .dead, .dead, .dead, .dead]
def root_NewTable_c1_O (x7 : V) : List V := [.dead, .dead, .dead, .dead, .dead, .dead, .dead, x7, .dead, .dead, .dead, .dead, .dead, .dead, .dead, .dead, .dead, .dead, .dead, .dead, .dead, .dead, .dead, .dead, .dead, .dead, .dead, .dead, .dead, .dead, .dead, .dead, .dead, .dead, .dead, .dead, .dead]

def root_NewTable_K0 (M : Env) : AX → List V → H → Option (V × H) :=
  fun x env h => fin F.root_NewTable x env h

def root_NewTable_K1 (M : Env) : AX → List V → H → Option (V × H) :=
  fun x env h => match x with | .normal => evalC M F.root_NewTable_c0 env h (fun x env h => root_NewTable_K0 M x env h) | x => root_NewTable_K0 M x env h

def root_NewTable_K2 (M : Env) : AX → List V → H → Option (V × H) :=
  fun x env h => match x with | .exit j => (match Nat.beq j 0 with | true => root_NewTable_K1 M .normal env h | false => root_NewTable_K1 M (.exit j) env h) | x => root_NewTable_K1 M x env h

def root_NewTable (M : Env) (a0_0 : Int) (a0_1 : Int) (a0_2 : Int) (a0_3 : Int) (a0_4 : Int) (a0_5 : Int) (a1 : Int) (a2 : Int) (h : H) : Option (V × H) :=
  let h0 := h.new (.cells [(.int .i64 a0_0), (.int .i64 a0_1), (.int .i64 a0_2), (.int .i64 a0_3), (.int .i64 a0_4), (.int .i64 a0_5)] .rw)
  (h0.ldN 6 (.ptr h.next 0)).bind fun v1 =>
  (M.call 416 [v1, (.int .i64 a1)] h0).bind fun p2 =>
  (asI .i64 p2.1).bind fun n3 =>
  match (decide (n3 < 0)) with
  | true => (
    some (.nilp, p2.2))
  | false => (
    match (decide (4294967295 < a2)) with
    | true => (
      some (.nilp, p2.2))
    | false => (
      (p2.2.ldN 6 (.ptr h.next 0)).bind fun v4 =>
      (fill [(.int .i64 0), (.int .i64 0), (.int .i64 0), (.int .i64 0), (.int .i64 0), (.int .i64 0), (.int .i64 0), .nilsl] [] [(0, 6, .c v4), (6, 1, .c (.int .i64 a1))]).bind fun cs5 =>
      (boxc (.agg cs5)).bind fun cs6 =>
      let h7 := p2.2.new (.cells cs6 .rw)
      (h7.ld1 (.ptr h.next 3)).bind fun v8 =>
      (M.loop (root_NewTable_c1_B M) (root_NewTable_c1_E (.int .u64 a2) (.ptr p2.2.next 0) v8 (.int .i64 0)) h7).bind fun p9 => root_NewTable_K2 M p9.1 p9.2.1 p9.2.2))

def root_NewTable_c1_S (M : Env) (x2 : Int) (x7 : V) (x21 : Int) (x22 : Int) (h : H) : Option (AX × List V × H) :=
  match (decide (x22 < x21)) with
  | true => (
    (nilc x7).bind fun v0 =>
    (ptrAt v0 7).bind fun v1 =>
    (h.ld1 v1).bind fun v2 =>
    let h3 := h.new (.cells [(.int .u64 x2), (.int .i64 (-1))] .rw)
    (h3.append 2 16 v2 (.sl h.next 0 1 (.ex 1))).bind fun p4 =>
    (nilc x7).bind fun v5 =>
    (ptrAt v5 7).bind fun v6 =>
    (p4.2.st 1 v6 p4.1).bind fun h7 =>
    some (.normal, (root_NewTable_c1_E (.int .u64 x2) x7 (.int .i64 x21) (.int .i64 (wr .i64 (x22 + 1)))), h7))
  | false => (
    some ((.exit 0), (root_NewTable_c1_O x7), h))

def root_NewTable_c1_e0 (M : Env) (x7 : V) (h : H) : Option (V × H) :=
  some (x7, h)

theorem root_NewTable_eq (M : Env) (a0_0 : Int) (a0_1 : Int) (a0_2 : Int) (a0_3 : Int) (a0_4 : Int) (a0_5 : Int) (a1 : Int) (a2 : Int) (h : H) : evalF M F.root_NewTable [(.agg [(.int .i64 a0_0), (.int .i64 a0_1), (.int .i64 a0_2), (.int .i64 a0_3), (.int .i64 a0_4), (.int .i64 a0_5)]), (.int .i64 a1), (.int .u64 a2)] h = root_NewTable M a0_0 a0_1 a0_2 a0_3 a0_4 a0_5 a1 a2 h := by kernel_rfl

theorem root_NewTable_c1_eq (M : Env) (x2 : Int) (x7 : V) (x21 : Int) (x22 : Int) (h : H) : root_NewTable_c1_B M (root_NewTable_c1_E (.int .u64 x2) x7 (.int .i64 x21) (.int .i64 x22)) h = root_NewTable_c1_S M x2 x7 x21 x22 h := by kernel_rfl

theorem root_NewTable_c1_e0_eq (M : Env) (x7 : V) (h : H) : root_NewTable_K2 M (.exit 0) (root_NewTable_c1_O x7) h = root_NewTable_c1_e0 M x7 h := by kernel_rfl

end Wm.S
end

section
/- PRINTED by my tool (wip/wm/tool/Gen.lean): what a function comes to, stretch by stretch. -/
namespace Wm.S
open Wm
set_option maxRecDepth 100000
set_option linter.unusedVariables false


def plan_Pin (M : Env) (a0_0 : Int) (a0_1 : Int) (a0_2 : Int) (a0_3 : Int) (a0_4 : Int) (a0_5 : Int) (a1 : Int) (h : H) : Option (V × H) :=
  let h0 := h.new (.cells [(.int .i64 a0_0), (.int .i64 a0_1), (.int .i64 a0_2), (.int .i64 a0_3), (.int .i64 a0_4), (.int .i64 a0_5)] .rw)
  (h0.ldN 6 (.ptr h.next 0)).bind fun v1 =>
  (M.call 397 [v1, (.int .i64 a1), (.int .i64 0), (.int .i64 1), (.int .i64 0)] h0).bind fun p2 =>
  some (p2.1, p2.2)

theorem plan_Pin_eq (M : Env) (a0_0 : Int) (a0_1 : Int) (a0_2 : Int) (a0_3 : Int) (a0_4 : Int) (a0_5 : Int) (a1 : Int) (h : H) : evalF M F.plan_Pin [(.agg [(.int .i64 a0_0), (.int .i64 a0_1), (.int .i64 a0_2), (.int .i64 a0_3), (.int .i64 a0_4), (.int .i64 a0_5)]), (.int .i64 a1)] h = plan_Pin M a0_0 a0_1 a0_2 a0_3 a0_4 a0_5 a1 h := by kernel_rfl

end Wm.S
end

section
/- PRINTED by my tool (wip/wm/tool/Gen.lean): what a function comes to, stretch by stretch. -/
namespace Wm.S
open Wm
set_option maxRecDepth 100000
set_option linter.unusedVariables false


def plan_place (M : Env) (a0_0 : Int) (a0_1 : Int) (a0_2 : Int) (a0_3 : Int) (a0_4 : Int) (a0_5 : Int) (a1 : Int) (a2 : Int) (a3 : Int) (a4 : Int) (h : H) : Option (V × H) :=
  let h0 := h.new (.cells [(.int .i64 a0_0), (.int .i64 a0_1), (.int .i64 a0_2), (.int .i64 a0_3), (.int .i64 a0_4), (.int .i64 a0_5)] .rw)
  (h0.ldN 6 (.ptr h.next 0)).bind fun v1 =>
  (M.call 263 [v1] h0).bind fun p2 =>
  (asB p2.1).bind fun b3 =>
  match (!b3) with
  | true => (
    some ((.int .i64 (-1)), p2.2))
  | false => (
    (p2.2.ld1 (.ptr h.next 2)).bind fun v4 =>
    (asI .i64 v4).bind fun n5 =>
    (M.call 376 [(.int .i64 a1), (.int .i64 0), (.int .i64 (wr .i64 (n5 - 1)))] p2.2).bind fun p6 =>
    (asB p6.1).bind fun b7 =>
    match (!b7) with
    | true => (
      some ((.int .i64 (-1)), p6.2))
    | false => (
      (M.call 376 [(.int .i64 a4), (.int .i64 0), (.int .i64 (wr .i64 (a3 - 1)))] p6.2).bind fun p8 =>
      (asB p8.1).bind fun b9 =>
      match (!b9) with
      | true => (
        some ((.int .i64 (-1)), p8.2))
      | false => (
        (p8.2.ld1 (.ptr h.next 2)).bind fun v10 =>
        (asI .i64 v10).bind fun n11 =>
        some ((.int .i64 (wr .i64 ((wr .i64 ((wr .i64 (4 + (wr .i64 (a2 * n11)))) + (wr .i64 (a1 * a3)))) + a4))), p8.2))))

theorem plan_place_eq (M : Env) (a0_0 : Int) (a0_1 : Int) (a0_2 : Int) (a0_3 : Int) (a0_4 : Int) (a0_5 : Int) (a1 : Int) (a2 : Int) (a3 : Int) (a4 : Int) (h : H) : evalF M F.plan_place [(.agg [(.int .i64 a0_0), (.int .i64 a0_1), (.int .i64 a0_2), (.int .i64 a0_3), (.int .i64 a0_4), (.int .i64 a0_5)]), (.int .i64 a1), (.int .i64 a2), (.int .i64 a3), (.int .i64 a4)] h = plan_place M a0_0 a0_1 a0_2 a0_3 a0_4 a0_5 a1 a2 a3 a4 h := by kernel_rfl

end Wm.S
end

section
/- PRINTED by my tool (wip/wm/tool/Gen.lean): what a function comes to, stretch by stretch. -/
namespace Wm.S
open Wm
set_option maxRecDepth 100000
set_option linter.unusedVariables false


def client_New (M : Env) (a0_0 : Int) (a0_1 : Int) (a0_2 : Int) (a0_3 : Int) (a0_4 : Int) (a0_5 : Int) (a1 : Int) (a2 : V) (h : H) : Option (V × H) :=
  let h0 := h.new (.cells [(.int .i64 a0_0), (.int .i64 a0_1), (.int .i64 a0_2), (.int .i64 a0_3), (.int .i64 a0_4), (.int .i64 a0_5)] .rw)
  (h0.ldN 6 (.ptr h.next 0)).bind fun v1 =>
  (M.call 354 [v1, (.int .i64 a1), (.int .u64 0)] h0).bind fun p2 =>
  (eqV .ptr p2.1 .nilp).bind fun b3 =>
  match b3 with
  | true => (
    some (.nilp, p2.2))
  | false => (
    (eqV .ptr a2 .nilp).bind fun b4 =>
    match b4 with
    | true => (
      some (.nilp, p2.2))
    | false => (
      (p2.2.ldN 6 (.ptr h.next 0)).bind fun v5 =>
      (fill [(.int .i64 0), (.int .i64 0), (.int .i64 0), (.int .i64 0), (.int .i64 0), (.int .i64 0), (.int .i64 0), .nilp, .nilp, .nilp, (.int .i64 0), (.int .u64 0), (.int .u64 0), (.int .i64 0), (.int .i64 0), (.int .u64 0), (.int .u64 0), (.int .u64 0), (.int .i64 0), (.int .u64 0), (.bool false), (.int .i64 0), (.bool false), (.bool false), (.int .i64 0), .nilifc, (.int .u64 0), (.int .i64 0), (.int .i64 0), (.int .i64 0), (.int .i64 0), .nilp, .nilp, .nilp, .nilp, .nilp, .nilp] [] [(0, 6, .c v5), (6, 1, .c (.int .i64 a1)), (7, 1, .c a2), (8, 1, .c p2.1)]).bind fun cs6 =>
      (boxc (.agg cs6)).bind fun cs7 =>
      let h8 := p2.2.new (.cells cs7 .rw)
      some ((.ptr p2.2.next 0), h8)))

theorem client_New_eq (M : Env) (a0_0 : Int) (a0_1 : Int) (a0_2 : Int) (a0_3 : Int) (a0_4 : Int) (a0_5 : Int) (a1 : Int) (a2 : V) (h : H) : evalF M F.client_New [(.agg [(.int .i64 a0_0), (.int .i64 a0_1), (.int .i64 a0_2), (.int .i64 a0_3), (.int .i64 a0_4), (.int .i64 a0_5)]), (.int .i64 a1), a2] h = client_New M a0_0 a0_1 a0_2 a0_3 a0_4 a0_5 a1 a2 h := by kernel_rfl

end Wm.S
end

section
/- PRINTED by my tool (wip/wm/tool/Gen.lean): what a function comes to, stretch by stretch. -/
namespace Wm.S
open Wm
set_option maxRecDepth 100000
set_option linter.unusedVariables false


def client_Client_Point (M : Env) (a0 : V) (h : H) : Option (V × H) :=
  (eqV .ptr a0 .nilp).bind fun b0 =>
  match b0 with
  | true => (
    some ((.tup [(.int .i64 0), (.bool false)]), h))
  | false => (
    (nilc a0).bind fun v1 =>
    (ptrAt v1 21).bind fun v2 =>
    (h.ld1 v2).bind fun v3 =>
    (nilc a0).bind fun v4 =>
    (ptrAt v4 22).bind fun v5 =>
    (h.ld1 v5).bind fun v6 =>
    some ((.tup [v3, v6]), h))

theorem client_Client_Point_eq (M : Env) (a0 : V) (h : H) : evalF M F.client_Client_Point [a0] h = client_Client_Point M a0 h := by kernel_rfl

end Wm.S
end

section
/- PRINTED by my tool (wip/wm/tool/Gen.lean): what a function comes to, stretch by stretch. -/
namespace Wm.S
open Wm
set_option maxRecDepth 100000
set_option linter.unusedVariables false


def client_Client_Begin (M : Env) (a0 : V) (a1_0 : Int) (a1_1 : Int) (a1_2 : Int) (a1_3 : Int) (a1_4 : Int) (h : H) : Option (V × H) :=
  let h0 := h.new (.cells [(.int .i64 a1_0), (.int .i64 a1_1), (.int .u64 a1_2), (.int .u64 a1_3), (.int .u64 a1_4)] .rw)
  (eqV .ptr a0 .nilp).bind fun b1 =>
  match b1 with
  | true => (
    some ((.bool false), h0))
  | false => (
    (nilc a0).bind fun v2 =>
    (ptrAt v2 23).bind fun v3 =>
    (h0.ld1 v3).bind fun v4 =>
    (asB v4).bind fun b5 =>
    match b5 with
    | true => (
      some ((.bool false), h0))
    | false => (
      (h0.ldN 5 (.ptr h.next 0)).bind fun v6 =>
      (nilc a0).bind fun v7 =>
      (ptrAt v7 13).bind fun v8 =>
      (h0.st 5 v8 v6).bind fun h9 =>
      (nilc a0).bind fun v10 =>
      (ptrAt v10 23).bind fun v11 =>
      (h9.st 1 v11 (.bool true)).bind fun h12 =>
      (nilc a0).bind fun v13 =>
      (ptrAt v13 24).bind fun v14 =>
      (h12.st 1 v14 (.int .i64 0)).bind fun h15 =>
      (nilc a0).bind fun v16 =>
      (ptrAt v16 25).bind fun v17 =>
      (h15.st 1 v17 .nilifc).bind fun h18 =>
      some ((.bool true), h18)))

theorem client_Client_Begin_eq (M : Env) (a0 : V) (a1_0 : Int) (a1_1 : Int) (a1_2 : Int) (a1_3 : Int) (a1_4 : Int) (h : H) : evalF M F.client_Client_Begin [a0, (.agg [(.int .i64 a1_0), (.int .i64 a1_1), (.int .u64 a1_2), (.int .u64 a1_3), (.int .u64 a1_4)])] h = client_Client_Begin M a0 a1_0 a1_1 a1_2 a1_3 a1_4 h := by kernel_rfl

end Wm.S
end

section
/- PRINTED by my tool (wip/wm/tool/Gen.lean): what a function comes to, stretch by stretch. -/
namespace Wm.S
open Wm
set_option maxRecDepth 100000
set_option linter.unusedVariables false


def client_Client_Busy (M : Env) (a0 : V) (h : H) : Option (V × H) :=
  (eqV .ptr a0 .nilp).bind fun b0 =>
  match (!b0) with
  | true => (
    (nilc a0).bind fun v1 =>
    (ptrAt v1 23).bind fun v2 =>
    (h.ld1 v2).bind fun v3 =>
    some (v3, h))
  | false => (
    some ((.bool false), h))

theorem client_Client_Busy_eq (M : Env) (a0 : V) (h : H) : evalF M F.client_Client_Busy [a0] h = client_Client_Busy M a0 h := by kernel_rfl

end Wm.S
end

section
/- PRINTED by my tool (wip/wm/tool/Gen.lean): what a function comes to, stretch by stretch. -/
namespace Wm.S
open Wm
set_option maxRecDepth 100000
set_option linter.unusedVariables false


def client_Client_Step (M : Env) (a0 : V) (a1 : V) (h : H) : Option (V × H) :=
  (M.call 233 [a0] h).bind fun p0 =>
  (asB p0.1).bind fun b1 =>
  match (!b1) with
  | true => (
    some ((.bool true), p0.2))
  | false => (
    (nilc a0).bind fun v2 =>
    (ptrAt v2 24).bind fun v3 =>
    (p0.2.ld1 v3).bind fun v4 =>
    (asI .i64 v4).bind fun n5 =>
    match (decide (n5 = 0)) with
    | true => (
      (M.call 356 [a0] p0.2).bind fun p6 =>
      (asB p6.1).bind fun b7 =>
      match b7 with
      | true => (
        (nilc a0).bind fun v8 =>
        (ptrAt v8 23).bind fun v9 =>
        (p6.2.st 1 v9 (.bool false)).bind fun h10 =>
        some ((.bool true), h10))
      | false => (
        (nilc a0).bind fun v8 =>
        (ptrAt v8 0).bind fun v9 =>
        (p6.2.ldN 6 v9).bind fun v10 =>
        (nilc a0).bind fun v11 =>
        (ptrAt v11 6).bind fun v12 =>
        (p6.2.ld1 v12).bind fun v13 =>
        (M.call 357 [v10, v13] p6.2).bind fun p14 =>
        (nilc a0).bind fun v15 =>
        (ptrAt v15 31).bind fun v16 =>
        (p14.2.st 1 v16 p14.1).bind fun h17 =>
        (nilc a0).bind fun v18 =>
        (ptrAt v18 31).bind fun v19 =>
        (h17.ld1 v19).bind fun v20 =>
        (nilc a0).bind fun v21 =>
        (ptrAt v21 25).bind fun v22 =>
        (h17.st 1 v22 (.ifc 387 v20)).bind fun h23 =>
        (nilc a0).bind fun v24 =>
        (ptrAt v24 24).bind fun v25 =>
        (h23.st 1 v25 (.int .i64 1)).bind fun h26 =>
        (nilc a0).bind fun v27 =>
        (ptrAt v27 25).bind fun v28 =>
        (h26.ld1 v28).bind fun v29 =>
        match v29 with
        | .ifc t30 v31 => ((M.meth t30 0).bind fun f32 => (M.call f32 (v31 :: [a1]) h26).bind fun p33 =>
        (asB p33.1).bind fun b34 =>
        match b34 with
        | true => (
          (M.call 358 [a0] p33.2).bind fun p35 =>
          (nilc a0).bind fun v36 =>
          (ptrAt v36 24).bind fun v37 =>
          (p35.2.ld1 v37).bind fun v38 =>
          (asI .i64 v38).bind fun n39 =>
          (nilc a0).bind fun v40 =>
          (ptrAt v40 23).bind fun v41 =>
          (p35.2.st 1 v41 (.bool (!decide (n39 = 13)))).bind fun h42 =>
          (nilc a0).bind fun v43 =>
          (ptrAt v43 23).bind fun v44 =>
          (h42.ld1 v44).bind fun v45 =>
          (asB v45).bind fun b46 =>
          some ((.bool (!b46)), h42))
        | false => (
          (nilc a0).bind fun v35 =>
          (ptrAt v35 24).bind fun v36 =>
          (p33.2.ld1 v36).bind fun v37 =>
          (asI .i64 v37).bind fun n38 =>
          (nilc a0).bind fun v39 =>
          (ptrAt v39 23).bind fun v40 =>
          (p33.2.st 1 v40 (.bool (!decide (n38 = 13)))).bind fun h41 =>
          (nilc a0).bind fun v42 =>
          (ptrAt v42 23).bind fun v43 =>
          (h41.ld1 v43).bind fun v44 =>
          (asB v44).bind fun b45 =>
          some ((.bool (!b45)), h41)))
        | _ => none))
    | false => (
      (nilc a0).bind fun v6 =>
      (ptrAt v6 25).bind fun v7 =>
      (p0.2.ld1 v7).bind fun v8 =>
      match v8 with
      | .ifc t9 v10 => ((M.meth t9 0).bind fun f11 => (M.call f11 (v10 :: [a1]) p0.2).bind fun p12 =>
      (asB p12.1).bind fun b13 =>
      match b13 with
      | true => (
        (M.call 358 [a0] p12.2).bind fun p14 =>
        (nilc a0).bind fun v15 =>
        (ptrAt v15 24).bind fun v16 =>
        (p14.2.ld1 v16).bind fun v17 =>
        (asI .i64 v17).bind fun n18 =>
        (nilc a0).bind fun v19 =>
        (ptrAt v19 23).bind fun v20 =>
        (p14.2.st 1 v20 (.bool (!decide (n18 = 13)))).bind fun h21 =>
        (nilc a0).bind fun v22 =>
        (ptrAt v22 23).bind fun v23 =>
        (h21.ld1 v23).bind fun v24 =>
        (asB v24).bind fun b25 =>
        some ((.bool (!b25)), h21))
      | false => (
        (nilc a0).bind fun v14 =>
        (ptrAt v14 24).bind fun v15 =>
        (p12.2.ld1 v15).bind fun v16 =>
        (asI .i64 v16).bind fun n17 =>
        (nilc a0).bind fun v18 =>
        (ptrAt v18 23).bind fun v19 =>
        (p12.2.st 1 v19 (.bool (!decide (n17 = 13)))).bind fun h20 =>
        (nilc a0).bind fun v21 =>
        (ptrAt v21 23).bind fun v22 =>
        (h20.ld1 v22).bind fun v23 =>
        (asB v23).bind fun b24 =>
        some ((.bool (!b24)), h20)))
      | _ => none))

theorem client_Client_Step_eq (M : Env) (a0 : V) (a1 : V) (h : H) : evalF M F.client_Client_Step [a0, a1] h = client_Client_Step M a0 a1 h := by kernel_rfl

end Wm.S
end

section
/- PRINTED by my tool (wip/wm/tool/Gen.lean): what a function comes to, stretch by stretch. -/
namespace Wm.S
open Wm
set_option maxRecDepth 100000
set_option linter.unusedVariables false


def client_Client_Answer (M : Env) (a0 : V) (h : H) : Option (V × H) :=
  let h0 := h.new (.cells [(.int .i64 0), (.int .u64 0), (.bool false)] .rw)
  (eqV .ptr a0 .nilp).bind fun b1 =>
  match b1 with
  | true => (
    (h0.st 3 (.ptr h.next 0) (.agg [(.int .i64 0), (.int .u64 0), (.bool false)])).bind fun h2 =>
    finV h2 [.cell true 3 (.ptr h.next 0)])
  | false => (
    (nilc a0).bind fun v2 =>
    (ptrAt v2 18).bind fun v3 =>
    (h0.ldN 3 v3).bind fun v4 =>
    (h0.st 3 (.ptr h.next 0) v4).bind fun h5 =>
    finV h5 [.cell true 3 (.ptr h.next 0)])

theorem client_Client_Answer_eq (M : Env) (a0 : V) (h : H) : evalF M F.client_Client_Answer [a0] h = client_Client_Answer M a0 h := by kernel_rfl

end Wm.S
end

section
/- PRINTED by my tool (wip/wm/tool/Gen.lean): what a function comes to, stretch by stretch. -/
namespace Wm.S
open Wm
set_option maxRecDepth 100000
set_option linter.unusedVariables false


def client_Client_Holds (M : Env) (a0 : V) (a1 : Int) (h : H) : Option (V × H) :=
  (eqV .ptr a0 .nilp).bind fun b0 =>
  match (!b0) with
  | true => (
    (nilc a0).bind fun v1 =>
    (ptrAt v1 8).bind fun v2 =>
    (h.ld1 v2).bind fun v3 =>
    (M.call 359 [v3, (.int .u64 a1)] h).bind fun p4 =>
    match p4.1 with
    | .tup vs5 => ((vs5[0]?).bind fun v6 =>
    match p4.1 with
    | .tup vs7 => ((vs7[1]?).bind fun v8 =>
    match p4.1 with
    | .tup vs9 => ((vs9[2]?).bind fun v10 =>
    (asB v10).bind fun b11 =>
    match b11 with
    | true => (
      some (v8, p4.2))
    | false => (
      some ((.int .i64 (-1)), p4.2)))
    | _ => none)
    | _ => none)
    | _ => none)
  | false => (
    some ((.int .i64 (-1)), h))

theorem client_Client_Holds_eq (M : Env) (a0 : V) (a1 : Int) (h : H) : evalF M F.client_Client_Holds [a0, (.int .u64 a1)] h = client_Client_Holds M a0 a1 h := by kernel_rfl

end Wm.S
end

section
/- PRINTED by my tool (wip/wm/tool/Gen.lean): what a function comes to, stretch by stretch. -/
namespace Wm.S
open Wm
set_option maxRecDepth 100000
set_option linter.unusedVariables false


def field_NewBook (M : Env) (h : H) : Option (V × H) :=
  let h0 := h.new (.map [])
  let h1 := h0.new (.map [])
  let h2 := h1.new (.cells [(.int .i64 0), (.map h.next), (.map h0.next)] .rw)
  some ((.ptr h1.next 0), h2)

theorem field_NewBook_eq (M : Env) (h : H) : evalF M F.field_NewBook [] h = field_NewBook M h := by kernel_rfl

end Wm.S
end

section
/- PRINTED by my tool (wip/wm/tool/Gen.lean): what a function comes to, stretch by stretch. -/
namespace Wm.S
open Wm
set_option maxRecDepth 100000
set_option linter.unusedVariables false

def withylaw21_ClientNone_c1_B (M : Env) : List V → H → Option (AX × List V × H) :=
  fun env h => evalC M F.withylaw21_ClientNone_c1 env h fun x env h => some (x, keepOf [1, 2, 4, 7, 9] 0 env, h)

def withylaw21_ClientNone_c1_E (x1 x2 x4 x7 x9 : V) : List V := [.dead, x1, x2, .dead, x4, .dead, .dead, x7, .dead, x9, .dead, .dead, .dead, .dead, .dead, .dead, .dead, .dead, .dead, .dead, .dead, .dead, .dead, .dead, .dead, .dead, .dead, .dead, .dead, .dead, .dead, .dead, .dead, .dead, .dead, .dead, .dead, .dead, .dead, .dead, .dead, .dead, .dead, .dead, .dead, .dead, .dead, .dead, .dead, .dead, .dead, .dead, .dead, .dead, .dead, .dead, .dead, .dead, .dead, .dead, .dead, .dead, .dead, .dead, .dead, .dead, .dead, .dead, .dead, .dead, .dead, .dead, .dead, .dead, .dead, .dead, .dead, .dead, .dead, .dead, .dead, .dead]
def withylaw21_ClientNone_c1_O (x1 x2 x4 x7 x9 : V) : List V := [.dead, x1, x2, .dead, x4, .dead, .dead, x7, .dead, x9, .dead, .dead, .dead, .dead, .dead, .dead, .dead, .dead, .dead, .dead, .dead, .dead, .dead, .dead, .dead, .dead, .dead, .dead, .dead, .dead, .dead, .dead, .dead, .dead, .dead, .dead, .dead, .dead, .dead, .dead, .dead, .dead, .dead, .dead, .dead, .dead, .dead, .dead, .dead, .dead, .dead, .dead, .dead, .dead, .dead, .dead, .dead, .dead, .dead, .dead, .dead, .dead, .dead, .dead, .dead, .dead, .dead, .dead, .dead, .dead, .dead, .dead, .dead, .dead, .dead, .dead, .dead, .dead, .dead, .dead, .dead, .dead]

def withylaw21_ClientNone_c3_B (M : Env) : List V → H → Option (AX × List V × H) :=
  fun env h => evalC M F.withylaw21_ClientNone_c3 env h fun x env h => some (x, keepOf [1, 4, 7, 9, 10] 0 env, h)

def withylaw21_ClientNone_c3_E (x1 x2 x4 x7 x9 : V) : List V := [.dead, x1, x2, .dead, x4, .dead, .dead, x7, .dead, x9, .dead, .dead, .dead, .dead, .dead, .dead, .dead, .dead, .dead, .dead, .dead, .dead, .dead, .dead, .dead, .dead, .dead, .dead, .dead, .dead, .dead, .dead, .dead, .dead, .dead, .dead, .dead, .dead, .dead, .dead, .dead, .dead, .dead, .dead, .dead, .dead, .dead, .dead, .dead, .dead, .dead, .dead, .dead, .dead, .dead, .dead, .dead, .dead, .dead, .dead, .dead, .dead, .dead, .dead, .dead, .dead, .dead, .dead, .dead, .dead, .dead, .dead, .dead, .dead, .dead, .dead, .dead, .dead, .dead, .dead, .dead, .dead]
def withylaw21_ClientNone_c3_O (x1 x4 x7 x9 x10 : V) : List V := [.dead, x1, .dead, .dead, x4, .dead, .dead, x7, .dead, x9, x10, .dead, .dead, .dead, .dead, .dead, .dead, .dead, .dead, .dead, .dead, .dead, .dead, .dead, .dead, .dead, .dead, .dead, .dead, .dead, .dead, .dead, .dead, .dead, .dead, .dead, .dead, .dead, .dead, .dead, .dead, .dead, .dead, .dead, .dead, .dead, .dead, .dead, .dead, .dead, .dead, .dead, .dead, .dead, .dead, .dead, .dead, .dead, .dead, .dead, .dead, .dead, .dead, .dead, .dead, .dead, .dead, .dead, .dead, .dead, .dead, .dead, .dead, .dead, .dead, .dead, .dead, .dead, .dead, .dead, .dead, .dead]

def withylaw21_ClientNone_K0 (M : Env) : AX → List V → H → Option (V × H) :=
  fun x env h => fin F.withylaw21_ClientNone x env h

def withylaw21_ClientNone_K1 (M : Env) : AX → List V → H → Option (V × H) :=
  fun x env h => match x with | .normal => evalC M F.withylaw21_ClientNone_c0 env h (fun x env h => withylaw21_ClientNone_K0 M x env h) | x => withylaw21_ClientNone_K0 M x env h

def withylaw21_ClientNone_K2 (M : Env) : AX → List V → H → Option (V × H) :=
  fun x env h => match x with | .normal => evalC M F.withylaw21_ClientNone_c2 env h (fun x env h => withylaw21_ClientNone_K0 M x env h) | x => withylaw21_ClientNone_K0 M x env h

def withylaw21_ClientNone (M : Env) (a0_0 : Int) (a0_1 : Int) (a0_2 : Int) (a0_3 : Int) (a0_4 : Int) (a0_5 : Int) (a1 : Int) (a2 : Bool) (a3_0 : Int) (a3_1 : Int) (a3_2 : Int) (a3_3 : Int) (a3_4 : Int) (h : H) : Option (V × H) :=
  let h0 := h.new (.cells [(.int .i64 a0_0), (.int .i64 a0_1), (.int .i64 a0_2), (.int .i64 a0_3), (.int .i64 a0_4), (.int .i64 a0_5)] .rw)
  let h1 := h0.new (.cells [(.int .i64 a3_0), (.int .i64 a3_1), (.int .u64 a3_2), (.int .u64 a3_3), (.int .u64 a3_4)] .rw)
  (withylaw21_ClientNone_c1_B M (withylaw21_ClientNone_c1_E (.int .i64 a1) (.bool a2) (.ptr h.next 0) (.ptr h0.next 0) .nilp) h1).bind fun p2 => withylaw21_ClientNone_K1 M p2.1 p2.2.1 p2.2.2

def withylaw21_ClientNone_c1_S (M : Env) (x1 : Int) (x2 : Bool) (x4 : V) (x7 : V) (x9 : V) (h : H) : Option (AX × List V × H) :=
  match x2 with
  | true => (
    (M.call 148 [] h).bind fun p0 =>
    some (.normal, (withylaw21_ClientNone_c1_O (.int .i64 x1) (.bool x2) x4 x7 p0.1), p0.2))
  | false => (
    some (.normal, (withylaw21_ClientNone_c1_O (.int .i64 x1) (.bool x2) x4 x7 x9), h))

def withylaw21_ClientNone_c1_n (M : Env) (x1 : Int) (x2 : Bool) (x4 : V) (x7 : V) (x9 : V) (h : H) : Option (V × H) :=
  (withylaw21_ClientNone_c3_B M (withylaw21_ClientNone_c3_E (.int .i64 x1) (.bool x2) x4 x7 x9) h).bind fun p0 => withylaw21_ClientNone_K2 M p0.1 p0.2.1 p0.2.2

def withylaw21_ClientNone_c3_S (M : Env) (x1 : Int) (x2 : Bool) (x4 : V) (x7 : V) (x9 : V) (h : H) : Option (AX × List V × H) :=
  (h.ldN 6 x4).bind fun v0 =>
  (M.call 85 [v0] h).bind fun p1 =>
  match p1.1 with
  | .bool true => (
    match (decide (0 ≤ x1)) with
    | true => (
      (ptrAt x4 2).bind fun v2 =>
      (p1.2.ld1 v2).bind fun v3 =>
      (asI .i64 v3).bind fun n4 =>
      match (decide (x1 < n4)) with
      | true => (
        some (.normal, (withylaw21_ClientNone_c3_O (.int .i64 x1) x4 x7 x9 (.bool x2)), p1.2))
      | false => (
        some (.normal, (withylaw21_ClientNone_c3_O (.int .i64 x1) x4 x7 x9 (.bool false)), p1.2)))
    | false => (
      some (.normal, (withylaw21_ClientNone_c3_O (.int .i64 x1) x4 x7 x9 (.bool false)), p1.2)))
  | .bool false => (
    some (.normal, (withylaw21_ClientNone_c3_O (.int .i64 x1) x4 x7 x9 (.bool false)), p1.2))
  | .tup [] => (
    (asB p1.1).bind fun b2 =>
    match (match b2 with | true => (.tup []) | false => (.bool false) : V) with
    | .bool true => (
      (ptrAt x4 2).bind fun v3 =>
      (p1.2.ld1 v3).bind fun v4 =>
      (asI .i64 v4).bind fun n5 =>
      match (decide (x1 < n5)) with
      | true => (
        some (.normal, (withylaw21_ClientNone_c3_O (.int .i64 x1) x4 x7 x9 (.bool x2)), p1.2))
      | false => (
        some (.normal, (withylaw21_ClientNone_c3_O (.int .i64 x1) x4 x7 x9 (.bool false)), p1.2)))
    | .bool false => (
      some (.normal, (withylaw21_ClientNone_c3_O (.int .i64 x1) x4 x7 x9 (.bool false)), p1.2))
    | .tup [] => (
      (asB (match b2 with | true => (.tup []) | false => (.bool false) : V)).bind fun b3 =>
      match (match b3 with | true => (.tup []) | false => (.bool false) : V) with
      | .bool true => (
        some (.normal, (withylaw21_ClientNone_c3_O (.int .i64 x1) x4 x7 x9 (.bool x2)), p1.2))
      | .bool false => (
        some (.normal, (withylaw21_ClientNone_c3_O (.int .i64 x1) x4 x7 x9 (.bool false)), p1.2))
      | .tup [] => (
        (asB (match b3 with | true => (.tup []) | false => (.bool false) : V)).bind fun b4 =>
        some (.normal, (withylaw21_ClientNone_c3_O (.int .i64 x1) x4 x7 x9 (match b4 with | true => (.tup []) | false => (.bool false) : V)), p1.2))
      | _ => none)
    | _ => none)
  | _ => none

def withylaw21_ClientNone_c3_n (M : Env) (x1 : Int) (x4 : V) (x7 : V) (x9 : V) (x10 : Bool) (h : H) : Option (V × H) :=
  (M.call 232 [.nilp] h).bind fun p0 =>
  match p0.1 with
  | .tup vs1 => ((vs1[0]?).bind fun v2 =>
  match p0.1 with
  | .tup vs3 => ((vs3[1]?).bind fun v4 =>
  (p0.2.ldN 6 x4).bind fun v5 =>
  (M.call 220 [v5, (.int .i64 x1), x9] p0.2).bind fun p6 =>
  (eqV .ptr p6.1 .nilp).bind fun b7 =>
  (eqV .bool (.bool (!b7)) (.bool x10)).bind fun b8 =>
  match b8 with
  | true => (
    (p6.2.ldN 5 x7).bind fun v9 =>
    (M.call 223 [.nilp, v9] p6.2).bind fun p10 =>
    (asB p10.1).bind fun b11 =>
    match (!b11) with
    | true => (
      (M.call 233 [.nilp] p10.2).bind fun p12 =>
      (asB p12.1).bind fun b13 =>
      match (!b13) with
      | true => (
        (M.call 224 [.nilp, .nilp] p12.2).bind fun p14 =>
        match p14.1 with
        | .bool true => (
          (M.call 225 [.nilp] p14.2).bind fun p15 =>
          (eqV (.agg [(0, .int), (1, .int), (2, .bool)]) p15.1 (.agg [(.int .i64 0), (.int .u64 0), (.bool false)])).bind fun b16 =>
          match b16 with
          | true => (
            (asI .i64 v2).bind fun n17 =>
            match (decide (n17 = 0)) with
            | true => (
              (asB v4).bind fun b18 =>
              match (!b18) with
              | true => (
                (ptrAt x7 2).bind fun v19 =>
                (p15.2.ld1 v19).bind fun v20 =>
                (M.call 226 [.nilp, v20] p15.2).bind fun p21 =>
                (asI .i64 p21.1).bind fun n22 =>
                match (decide (n22 = (-1))) with
                | true => (
                  (M.call 221 [] p21.2).bind fun p23 =>
                  some (p23.1, p23.2))
                | false => (
                  some ((.bool false), p21.2)))
              | false => (
                some ((.bool false), p15.2)))
            | false => (
              some ((.bool false), p15.2)))
          | false => (
            some ((.bool false), p15.2)))
        | .bool false => (
          some ((.bool false), p14.2))
        | .tup [] => (
          (asB p14.1).bind fun b15 =>
          match (match b15 with | true => (.tup []) | false => (.bool false) : V) with
          | .bool true => (
            (asI .i64 v2).bind fun n16 =>
            match (decide (n16 = 0)) with
            | true => (
              (asB v4).bind fun b17 =>
              match (!b17) with
              | true => (
                (ptrAt x7 2).bind fun v18 =>
                (p14.2.ld1 v18).bind fun v19 =>
                (M.call 226 [.nilp, v19] p14.2).bind fun p20 =>
                (asI .i64 p20.1).bind fun n21 =>
                match (decide (n21 = (-1))) with
                | true => (
                  (M.call 221 [] p20.2).bind fun p22 =>
                  some (p22.1, p22.2))
                | false => (
                  some ((.bool false), p20.2)))
              | false => (
                some ((.bool false), p14.2)))
            | false => (
              some ((.bool false), p14.2)))
          | .bool false => (
            some ((.bool false), p14.2))
          | .tup [] => (
            (asB (match b15 with | true => (.tup []) | false => (.bool false) : V)).bind fun b16 =>
            match (match b16 with | true => (.tup []) | false => (.bool false) : V) with
            | .bool true => (
              (asB v4).bind fun b17 =>
              match (!b17) with
              | true => (
                (ptrAt x7 2).bind fun v18 =>
                (p14.2.ld1 v18).bind fun v19 =>
                (M.call 226 [.nilp, v19] p14.2).bind fun p20 =>
                (asI .i64 p20.1).bind fun n21 =>
                match (decide (n21 = (-1))) with
                | true => (
                  (M.call 221 [] p20.2).bind fun p22 =>
                  some (p22.1, p22.2))
                | false => (
                  some ((.bool false), p20.2)))
              | false => (
                some ((.bool false), p14.2)))
            | .bool false => (
              some ((.bool false), p14.2))
            | .tup [] => (
              (asB (match b16 with | true => (.tup []) | false => (.bool false) : V)).bind fun b17 =>
              match (match b17 with | true => (.tup []) | false => (.bool false) : V) with
              | .bool true => (
                (ptrAt x7 2).bind fun v18 =>
                (p14.2.ld1 v18).bind fun v19 =>
                (M.call 226 [.nilp, v19] p14.2).bind fun p20 =>
                (asI .i64 p20.1).bind fun n21 =>
                match (decide (n21 = (-1))) with
                | true => (
                  (M.call 221 [] p20.2).bind fun p22 =>
                  some (p22.1, p22.2))
                | false => (
                  some ((.bool false), p20.2)))
              | .bool false => (
                some ((.bool false), p14.2))
              | .tup [] => (
                (asB (match b17 with | true => (.tup []) | false => (.bool false) : V)).bind fun b18 =>
                match (match b18 with | true => (.tup []) | false => (.bool false) : V) with
                | .bool true => (
                  (M.call 221 [] p14.2).bind fun p19 =>
                  some (p19.1, p19.2))
                | .bool false => (
                  some ((.bool false), p14.2))
                | .tup [] => (
                  (asB (match b18 with | true => (.tup []) | false => (.bool false) : V)).bind fun b19 =>
                  some ((match b19 with | true => (.tup []) | false => (.bool false) : V), p14.2))
                | _ => none)
              | _ => none)
            | _ => none)
          | _ => none)
        | _ => none)
      | false => (
        some ((.bool false), p12.2)))
    | false => (
      some ((.bool false), p10.2)))
  | false => (
    some ((.bool false), p6.2)))
  | _ => none)
  | _ => none

theorem withylaw21_ClientNone_eq (M : Env) (a0_0 : Int) (a0_1 : Int) (a0_2 : Int) (a0_3 : Int) (a0_4 : Int) (a0_5 : Int) (a1 : Int) (a2 : Bool) (a3_0 : Int) (a3_1 : Int) (a3_2 : Int) (a3_3 : Int) (a3_4 : Int) (h : H) : evalF M F.withylaw21_ClientNone [(.agg [(.int .i64 a0_0), (.int .i64 a0_1), (.int .i64 a0_2), (.int .i64 a0_3), (.int .i64 a0_4), (.int .i64 a0_5)]), (.int .i64 a1), (.bool a2), (.agg [(.int .i64 a3_0), (.int .i64 a3_1), (.int .u64 a3_2), (.int .u64 a3_3), (.int .u64 a3_4)])] h = withylaw21_ClientNone M a0_0 a0_1 a0_2 a0_3 a0_4 a0_5 a1 a2 a3_0 a3_1 a3_2 a3_3 a3_4 h := by kernel_rfl

theorem withylaw21_ClientNone_c1_eq (M : Env) (x1 : Int) (x2 : Bool) (x4 : V) (x7 : V) (x9 : V) (h : H) : withylaw21_ClientNone_c1_B M (withylaw21_ClientNone_c1_E (.int .i64 x1) (.bool x2) x4 x7 x9) h = withylaw21_ClientNone_c1_S M x1 x2 x4 x7 x9 h := by kernel_rfl

theorem withylaw21_ClientNone_c1_n_eq (M : Env) (x1 : Int) (x2 : Bool) (x4 : V) (x7 : V) (x9 : V) (h : H) : withylaw21_ClientNone_K1 M .normal (withylaw21_ClientNone_c1_O (.int .i64 x1) (.bool x2) x4 x7 x9) h = withylaw21_ClientNone_c1_n M x1 x2 x4 x7 x9 h := by kernel_rfl

theorem withylaw21_ClientNone_c3_eq (M : Env) (x1 : Int) (x2 : Bool) (x4 : V) (x7 : V) (x9 : V) (h : H) : withylaw21_ClientNone_c3_B M (withylaw21_ClientNone_c3_E (.int .i64 x1) (.bool x2) x4 x7 x9) h = withylaw21_ClientNone_c3_S M x1 x2 x4 x7 x9 h := by kernel_rfl

theorem withylaw21_ClientNone_c3_n_eq (M : Env) (x1 : Int) (x4 : V) (x7 : V) (x9 : V) (x10 : Bool) (h : H) : withylaw21_ClientNone_K2 M .normal (withylaw21_ClientNone_c3_O (.int .i64 x1) x4 x7 x9 (.bool x10)) h = withylaw21_ClientNone_c3_n M x1 x4 x7 x9 x10 h := by kernel_rfl

end Wm.S
end

