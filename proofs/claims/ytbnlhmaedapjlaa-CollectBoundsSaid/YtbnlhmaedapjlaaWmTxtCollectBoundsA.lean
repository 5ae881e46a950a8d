/- PRINTED by my tool: what functions come to, stretch by stretch. -/
import Derived.KernelRfl
import Derived.Test.YtbnlhmaedapjlaaWmShal
import Derived.Test.YtbnlhmaedapjlaaWmFnsCollectBoundsA
set_option linter.all false
section
/- PRINTED by my tool (wip/wm/tool/Gen.lean): what a function comes to, stretch by stretch. -/
namespace Wm.S
open Wm
set_option maxRecDepth 100000
set_option linter.unusedVariables false


def plan_between (M : Env) (a0 : Int) (a1 : Int) (a2 : Int) (h : H) : Option (V × H) :=
  match (decide (a1 ≤ a0)) with
  | true => (
    some ((.bool (decide (a0 ≤ a2))), h))
  | false => (
    some ((.bool false), h))

theorem plan_between_eq (M : Env) (a0 : Int) (a1 : Int) (a2 : Int) (h : H) : evalF M F.plan_between [(.int .i64 a0), (.int .i64 a1), (.int .i64 a2)] h = plan_between M a0 a1 a2 h := by kernel_rfl

end Wm.S
end

section
/- PRINTED by my tool (wip/wm/tool/Gen.lean): what a function comes to, stretch by stretch. -/
namespace Wm.S
open Wm
set_option maxRecDepth 100000
set_option linter.unusedVariables false


def plan_Right (M : Env) (a0_0 : Int) (a0_1 : Int) (a0_2 : Int) (a0_3 : Int) (a0_4 : Int) (a0_5 : Int) (h : H) : Option (V × H) :=
  let h0 := h.new (.cells [(.int .i64 a0_0), (.int .i64 a0_1), (.int .i64 a0_2), (.int .i64 a0_3), (.int .i64 a0_4), (.int .i64 a0_5)] .rw)
  (h0.ld1 (.ptr h.next 0)).bind fun v1 =>
  (M.call 376 [v1, (.int .i64 1), (.int .i64 64)] h0).bind fun p2 =>
  match p2.1 with
  | .bool true => (
    (p2.2.ld1 (.ptr h.next 1)).bind fun v3 =>
    (M.call 376 [v3, (.int .i64 0), (.int .i64 8)] p2.2).bind fun p4 =>
    match p4.1 with
    | .bool true => (
      (p4.2.ld1 (.ptr h.next 2)).bind fun v5 =>
      (M.call 376 [v5, (.int .i64 1), (.int .i64 8)] p4.2).bind fun p6 =>
      match p6.1 with
      | .bool true => (
        (p6.2.ld1 (.ptr h.next 3)).bind fun v7 =>
        (M.call 376 [v7, (.int .i64 1), (.int .i64 16)] p6.2).bind fun p8 =>
        match p8.1 with
        | .bool true => (
          (p8.2.ld1 (.ptr h.next 4)).bind fun v9 =>
          (M.call 376 [v9, (.int .i64 1), (.int .i64 1048576)] p8.2).bind fun p10 =>
          match p10.1 with
          | .bool true => (
            (p10.2.ld1 (.ptr h.next 5)).bind fun v11 =>
            (M.call 376 [v11, (.int .i64 0), (.int .i64 64)] p10.2).bind fun p12 =>
            some (p12.1, p12.2))
          | .bool false => (
            some ((.bool false), p10.2))
          | .tup [] => (
            (asB p10.1).bind fun b11 =>
            some ((match b11 with | true => (.tup []) | false => (.bool false) : V), p10.2))
          | _ => none)
        | .bool false => (
          some ((.bool false), p8.2))
        | .tup [] => (
          (asB p8.1).bind fun b9 =>
          match (match b9 with | true => (.tup []) | false => (.bool false) : V) with
          | .bool true => (
            (p8.2.ld1 (.ptr h.next 5)).bind fun v10 =>
            (M.call 376 [v10, (.int .i64 0), (.int .i64 64)] p8.2).bind fun p11 =>
            some (p11.1, p11.2))
          | .bool false => (
            some ((.bool false), p8.2))
          | .tup [] => (
            (asB (match b9 with | true => (.tup []) | false => (.bool false) : V)).bind fun b10 =>
            some ((match b10 with | true => (.tup []) | false => (.bool false) : V), p8.2))
          | _ => none)
        | _ => none)
      | .bool false => (
        some ((.bool false), p6.2))
      | .tup [] => (
        (asB p6.1).bind fun b7 =>
        match (match b7 with | true => (.tup []) | false => (.bool false) : V) with
        | .bool true => (
          (p6.2.ld1 (.ptr h.next 4)).bind fun v8 =>
          (M.call 376 [v8, (.int .i64 1), (.int .i64 1048576)] p6.2).bind fun p9 =>
          match p9.1 with
          | .bool true => (
            (p9.2.ld1 (.ptr h.next 5)).bind fun v10 =>
            (M.call 376 [v10, (.int .i64 0), (.int .i64 64)] p9.2).bind fun p11 =>
            some (p11.1, p11.2))
          | .bool false => (
            some ((.bool false), p9.2))
          | .tup [] => (
            (asB p9.1).bind fun b10 =>
            some ((match b10 with | true => (.tup []) | false => (.bool false) : V), p9.2))
          | _ => none)
        | .bool false => (
          some ((.bool false), p6.2))
        | .tup [] => (
          (asB (match b7 with | true => (.tup []) | false => (.bool false) : V)).bind fun b8 =>
          match (match b8 with | true => (.tup []) | false => (.bool false) : V) with
          | .bool true => (
            (p6.2.ld1 (.ptr h.next 5)).bind fun v9 =>
            (M.call 376 [v9, (.int .i64 0), (.int .i64 64)] p6.2).bind fun p10 =>
            some (p10.1, p10.2))
          | .bool false => (
            some ((.bool false), p6.2))
          | .tup [] => (
            (asB (match b8 with | true => (.tup []) | false => (.bool false) : V)).bind fun b9 =>
            some ((match b9 with | true => (.tup []) | false => (.bool false) : V), p6.2))
          | _ => none)
        | _ => none)
      | _ => none)
    | .bool false => (
      some ((.bool false), p4.2))
    | .tup [] => (
      (asB p4.1).bind fun b5 =>
      match (match b5 with | true => (.tup []) | false => (.bool false) : V) with
      | .bool true => (
        (p4.2.ld1 (.ptr h.next 3)).bind fun v6 =>
        (M.call 376 [v6, (.int .i64 1), (.int .i64 16)] p4.2).bind fun p7 =>
        match p7.1 with
        | .bool true => (
          (p7.2.ld1 (.ptr h.next 4)).bind fun v8 =>
          (M.call 376 [v8, (.int .i64 1), (.int .i64 1048576)] p7.2).bind fun p9 =>
          match p9.1 with
          | .bool true => (
            (p9.2.ld1 (.ptr h.next 5)).bind fun v10 =>
            (M.call 376 [v10, (.int .i64 0), (.int .i64 64)] p9.2).bind fun p11 =>
            some (p11.1, p11.2))
          | .bool false => (
            some ((.bool false), p9.2))
          | .tup [] => (
            (asB p9.1).bind fun b10 =>
            some ((match b10 with | true => (.tup []) | false => (.bool false) : V), p9.2))
          | _ => none)
        | .bool false => (
          some ((.bool false), p7.2))
        | .tup [] => (
          (asB p7.1).bind fun b8 =>
          match (match b8 with | true => (.tup []) | false => (.bool false) : V) with
          | .bool true => (
            (p7.2.ld1 (.ptr h.next 5)).bind fun v9 =>
            (M.call 376 [v9, (.int .i64 0), (.int .i64 64)] p7.2).bind fun p10 =>
            some (p10.1, p10.2))
          | .bool false => (
            some ((.bool false), p7.2))
          | .tup [] => (
            (asB (match b8 with | true => (.tup []) | false => (.bool false) : V)).bind fun b9 =>
            some ((match b9 with | true => (.tup []) | false => (.bool false) : V), p7.2))
          | _ => none)
        | _ => none)
      | .bool false => (
        some ((.bool false), p4.2))
      | .tup [] => (
        (asB (match b5 with | true => (.tup []) | false => (.bool false) : V)).bind fun b6 =>
        match (match b6 with | true => (.tup []) | false => (.bool false) : V) with
        | .bool true => (
          (p4.2.ld1 (.ptr h.next 4)).bind fun v7 =>
          (M.call 376 [v7, (.int .i64 1), (.int .i64 1048576)] p4.2).bind fun p8 =>
          match p8.1 with
          | .bool true => (
            (p8.2.ld1 (.ptr h.next 5)).bind fun v9 =>
            (M.call 376 [v9, (.int .i64 0), (.int .i64 64)] p8.2).bind fun p10 =>
            some (p10.1, p10.2))
          | .bool false => (
            some ((.bool false), p8.2))
          | .tup [] => (
            (asB p8.1).bind fun b9 =>
            some ((match b9 with | true => (.tup []) | false => (.bool false) : V), p8.2))
          | _ => none)
        | .bool false => (
          some ((.bool false), p4.2))
        | .tup [] => (
          (asB (match b6 with | true => (.tup []) | false => (.bool false) : V)).bind fun b7 =>
          match (match b7 with | true => (.tup []) | false => (.bool false) : V) with
          | .bool true => (
            (p4.2.ld1 (.ptr h.next 5)).bind fun v8 =>
            (M.call 376 [v8, (.int .i64 0), (.int .i64 64)] p4.2).bind fun p9 =>
            some (p9.1, p9.2))
          | .bool false => (
            some ((.bool false), p4.2))
          | .tup [] => (
            (asB (match b7 with | true => (.tup []) | false => (.bool false) : V)).bind fun b8 =>
            some ((match b8 with | true => (.tup []) | false => (.bool false) : V), p4.2))
          | _ => none)
        | _ => none)
      | _ => none)
    | _ => none)
  | .bool false => (
    some ((.bool false), p2.2))
  | .tup [] => (
    (asB p2.1).bind fun b3 =>
    match (match b3 with | true => (.tup []) | false => (.bool false) : V) with
    | .bool true => (
      (p2.2.ld1 (.ptr h.next 2)).bind fun v4 =>
      (M.call 376 [v4, (.int .i64 1), (.int .i64 8)] p2.2).bind fun p5 =>
      match p5.1 with
      | .bool true => (
        (p5.2.ld1 (.ptr h.next 3)).bind fun v6 =>
        (M.call 376 [v6, (.int .i64 1), (.int .i64 16)] p5.2).bind fun p7 =>
        match p7.1 with
        | .bool true => (
          (p7.2.ld1 (.ptr h.next 4)).bind fun v8 =>
          (M.call 376 [v8, (.int .i64 1), (.int .i64 1048576)] p7.2).bind fun p9 =>
          match p9.1 with
          | .bool true => (
            (p9.2.ld1 (.ptr h.next 5)).bind fun v10 =>
            (M.call 376 [v10, (.int .i64 0), (.int .i64 64)] p9.2).bind fun p11 =>
            some (p11.1, p11.2))
          | .bool false => (
            some ((.bool false), p9.2))
          | .tup [] => (
            (asB p9.1).bind fun b10 =>
            some ((match b10 with | true => (.tup []) | false => (.bool false) : V), p9.2))
          | _ => none)
        | .bool false => (
          some ((.bool false), p7.2))
        | .tup [] => (
          (asB p7.1).bind fun b8 =>
          match (match b8 with | true => (.tup []) | false => (.bool false) : V) with
          | .bool true => (
            (p7.2.ld1 (.ptr h.next 5)).bind fun v9 =>
            (M.call 376 [v9, (.int .i64 0), (.int .i64 64)] p7.2).bind fun p10 =>
            some (p10.1, p10.2))
          | .bool false => (
            some ((.bool false), p7.2))
          | .tup [] => (
            (asB (match b8 with | true => (.tup []) | false => (.bool false) : V)).bind fun b9 =>
            some ((match b9 with | true => (.tup []) | false => (.bool false) : V), p7.2))
          | _ => none)
        | _ => none)
      | .bool false => (
        some ((.bool false), p5.2))
      | .tup [] => (
        (asB p5.1).bind fun b6 =>
        match (match b6 with | true => (.tup []) | false => (.bool false) : V) with
        | .bool true => (
          (p5.2.ld1 (.ptr h.next 4)).bind fun v7 =>
          (M.call 376 [v7, (.int .i64 1), (.int .i64 1048576)] p5.2).bind fun p8 =>
          match p8.1 with
          | .bool true => (
            (p8.2.ld1 (.ptr h.next 5)).bind fun v9 =>
            (M.call 376 [v9, (.int .i64 0), (.int .i64 64)] p8.2).bind fun p10 =>
            some (p10.1, p10.2))
          | .bool false => (
            some ((.bool false), p8.2))
          | .tup [] => (
            (asB p8.1).bind fun b9 =>
            some ((match b9 with | true => (.tup []) | false => (.bool false) : V), p8.2))
          | _ => none)
        | .bool false => (
          some ((.bool false), p5.2))
        | .tup [] => (
          (asB (match b6 with | true => (.tup []) | false => (.bool false) : V)).bind fun b7 =>
          match (match b7 with | true => (.tup []) | false => (.bool false) : V) with
          | .bool true => (
            (p5.2.ld1 (.ptr h.next 5)).bind fun v8 =>
            (M.call 376 [v8, (.int .i64 0), (.int .i64 64)] p5.2).bind fun p9 =>
            some (p9.1, p9.2))
          | .bool false => (
            some ((.bool false), p5.2))
          | .tup [] => (
            (asB (match b7 with | true => (.tup []) | false => (.bool false) : V)).bind fun b8 =>
            some ((match b8 with | true => (.tup []) | false => (.bool false) : V), p5.2))
          | _ => none)
        | _ => none)
      | _ => none)
    | .bool false => (
      some ((.bool false), p2.2))
    | .tup [] => (
      (asB (match b3 with | true => (.tup []) | false => (.bool false) : V)).bind fun b4 =>
      match (match b4 with | true => (.tup []) | false => (.bool false) : V) with
      | .bool true => (
        (p2.2.ld1 (.ptr h.next 3)).bind fun v5 =>
        (M.call 376 [v5, (.int .i64 1), (.int .i64 16)] p2.2).bind fun p6 =>
        match p6.1 with
        | .bool true => (
          (p6.2.ld1 (.ptr h.next 4)).bind fun v7 =>
          (M.call 376 [v7, (.int .i64 1), (.int .i64 1048576)] p6.2).bind fun p8 =>
          match p8.1 with
          | .bool true => (
            (p8.2.ld1 (.ptr h.next 5)).bind fun v9 =>
            (M.call 376 [v9, (.int .i64 0), (.int .i64 64)] p8.2).bind fun p10 =>
            some (p10.1, p10.2))
          | .bool false => (
            some ((.bool false), p8.2))
          | .tup [] => (
            (asB p8.1).bind fun b9 =>
            some ((match b9 with | true => (.tup []) | false => (.bool false) : V), p8.2))
          | _ => none)
        | .bool false => (
          some ((.bool false), p6.2))
        | .tup [] => (
          (asB p6.1).bind fun b7 =>
          match (match b7 with | true => (.tup []) | false => (.bool false) : V) with
          | .bool true => (
            (p6.2.ld1 (.ptr h.next 5)).bind fun v8 =>
            (M.call 376 [v8, (.int .i64 0), (.int .i64 64)] p6.2).bind fun p9 =>
            some (p9.1, p9.2))
          | .bool false => (
            some ((.bool false), p6.2))
          | .tup [] => (
            (asB (match b7 with | true => (.tup []) | false => (.bool false) : V)).bind fun b8 =>
            some ((match b8 with | true => (.tup []) | false => (.bool false) : V), p6.2))
          | _ => none)
        | _ => none)
      | .bool false => (
        some ((.bool false), p2.2))
      | .tup [] => (
        (asB (match b4 with | true => (.tup []) | false => (.bool false) : V)).bind fun b5 =>
        match (match b5 with | true => (.tup []) | false => (.bool false) : V) with
        | .bool true => (
          (p2.2.ld1 (.ptr h.next 4)).bind fun v6 =>
          (M.call 376 [v6, (.int .i64 1), (.int .i64 1048576)] p2.2).bind fun p7 =>
          match p7.1 with
          | .bool true => (
            (p7.2.ld1 (.ptr h.next 5)).bind fun v8 =>
            (M.call 376 [v8, (.int .i64 0), (.int .i64 64)] p7.2).bind fun p9 =>
            some (p9.1, p9.2))
          | .bool false => (
            some ((.bool false), p7.2))
          | .tup [] => (
            (asB p7.1).bind fun b8 =>
            some ((match b8 with | true => (.tup []) | false => (.bool false) : V), p7.2))
          | _ => none)
        | .bool false => (
          some ((.bool false), p2.2))
        | .tup [] => (
          (asB (match b5 with | true => (.tup []) | false => (.bool false) : V)).bind fun b6 =>
          match (match b6 with | true => (.tup []) | false => (.bool false) : V) with
          | .bool true => (
            (p2.2.ld1 (.ptr h.next 5)).bind fun v7 =>
            (M.call 376 [v7, (.int .i64 0), (.int .i64 64)] p2.2).bind fun p8 =>
            some (p8.1, p8.2))
          | .bool false => (
            some ((.bool false), p2.2))
          | .tup [] => (
            (asB (match b6 with | true => (.tup []) | false => (.bool false) : V)).bind fun b7 =>
            some ((match b7 with | true => (.tup []) | false => (.bool false) : V), p2.2))
          | _ => none)
        | _ => none)
      | _ => none)
    | _ => none)
  | _ => none

theorem plan_Right_eq (M : Env) (a0_0 : Int) (a0_1 : Int) (a0_2 : Int) (a0_3 : Int) (a0_4 : Int) (a0_5 : Int) (h : H) : evalF M F.plan_Right [(.agg [(.int .i64 a0_0), (.int .i64 a0_1), (.int .i64 a0_2), (.int .i64 a0_3), (.int .i64 a0_4), (.int .i64 a0_5)])] h = plan_Right M a0_0 a0_1 a0_2 a0_3 a0_4 a0_5 h := by kernel_rfl

end Wm.S
end

section
/- PRINTED by my tool (wip/wm/tool/Gen.lean): what a function comes to, stretch by stretch. -/
namespace Wm.S
open Wm
set_option maxRecDepth 100000
set_option linter.unusedVariables false


def withyref06_Right (M : Env) (a0_0 : Int) (a0_1 : Int) (a0_2 : Int) (a0_3 : Int) (a0_4 : Int) (a0_5 : Int) (h : H) : Option (V × H) :=
  let h0 := h.new (.cells [(.int .i64 a0_0), (.int .i64 a0_1), (.int .i64 a0_2), (.int .i64 a0_3), (.int .i64 a0_4), (.int .i64 a0_5)] .rw)
  (h0.ld1 (.ptr h.next 0)).bind fun v1 =>
  (asI .i64 v1).bind fun n2 =>
  match (decide (1 ≤ n2)) with
  | true => (
    (h0.ld1 (.ptr h.next 0)).bind fun v3 =>
    (asI .i64 v3).bind fun n4 =>
    match (decide (n4 ≤ 64)) with
    | true => (
      (h0.ld1 (.ptr h.next 1)).bind fun v5 =>
      (asI .i64 v5).bind fun n6 =>
      match (decide (0 ≤ n6)) with
      | true => (
        (h0.ld1 (.ptr h.next 1)).bind fun v7 =>
        (asI .i64 v7).bind fun n8 =>
        match (decide (n8 ≤ 8)) with
        | true => (
          (h0.ld1 (.ptr h.next 2)).bind fun v9 =>
          (asI .i64 v9).bind fun n10 =>
          match (decide (1 ≤ n10)) with
          | true => (
            (h0.ld1 (.ptr h.next 2)).bind fun v11 =>
            (asI .i64 v11).bind fun n12 =>
            match (decide (n12 ≤ 8)) with
            | true => (
              (h0.ld1 (.ptr h.next 3)).bind fun v13 =>
              (asI .i64 v13).bind fun n14 =>
              match (decide (1 ≤ n14)) with
              | true => (
                (h0.ld1 (.ptr h.next 3)).bind fun v15 =>
                (asI .i64 v15).bind fun n16 =>
                match (decide (n16 ≤ 16)) with
                | true => (
                  (h0.ld1 (.ptr h.next 4)).bind fun v17 =>
                  (asI .i64 v17).bind fun n18 =>
                  match (decide (1 ≤ n18)) with
                  | true => (
                    (h0.ld1 (.ptr h.next 4)).bind fun v19 =>
                    (asI .i64 v19).bind fun n20 =>
                    match (decide (n20 ≤ 1048576)) with
                    | true => (
                      (h0.ld1 (.ptr h.next 5)).bind fun v21 =>
                      (asI .i64 v21).bind fun n22 =>
                      match (decide (0 ≤ n22)) with
                      | true => (
                        (h0.ld1 (.ptr h.next 5)).bind fun v23 =>
                        (asI .i64 v23).bind fun n24 =>
                        some ((.bool (decide (n24 ≤ 64))), h0))
                      | false => (
                        some ((.bool false), h0)))
                    | false => (
                      some ((.bool false), h0)))
                  | false => (
                    some ((.bool false), h0)))
                | false => (
                  some ((.bool false), h0)))
              | false => (
                some ((.bool false), h0)))
            | false => (
              some ((.bool false), h0)))
          | false => (
            some ((.bool false), h0)))
        | false => (
          some ((.bool false), h0)))
      | false => (
        some ((.bool false), h0)))
    | false => (
      some ((.bool false), h0)))
  | false => (
    some ((.bool false), h0))

theorem withyref06_Right_eq (M : Env) (a0_0 : Int) (a0_1 : Int) (a0_2 : Int) (a0_3 : Int) (a0_4 : Int) (a0_5 : Int) (h : H) : evalF M F.withyref06_Right [(.agg [(.int .i64 a0_0), (.int .i64 a0_1), (.int .i64 a0_2), (.int .i64 a0_3), (.int .i64 a0_4), (.int .i64 a0_5)])] h = withyref06_Right M a0_0 a0_1 a0_2 a0_3 a0_4 a0_5 h := by kernel_rfl

end Wm.S
end

section
/- PRINTED by my tool (wip/wm/tool/Gen.lean): what a function comes to, stretch by stretch. -/
namespace Wm.S
open Wm
set_option maxRecDepth 100000
set_option linter.unusedVariables false


def sweep_NewSweep (M : Env) (a0_0 : Int) (a0_1 : Int) (a0_2 : Int) (a0_3 : Int) (a0_4 : Int) (a0_5 : Int) (a1 : Int) (h : H) : Option (V × H) :=
  let h0 := h.new (.cells [(.int .i64 a0_0), (.int .i64 a0_1), (.int .i64 a0_2), (.int .i64 a0_3), (.int .i64 a0_4), (.int .i64 a0_5)] .rw)
  (h0.ldN 6 (.ptr h.next 0)).bind fun v1 =>
  (M.call 263 [v1] h0).bind fun p2 =>
  (asB p2.1).bind fun b3 =>
  match (!b3) with
  | true => (
    some (.nilp, p2.2))
  | false => (
    (p2.2.ldN 6 (.ptr h.next 0)).bind fun v4 =>
    (fill [(.int .i64 0), (.int .i64 0), (.int .i64 0), (.int .i64 0), (.int .i64 0), (.int .i64 0), (.int .i64 0), (.int .u64 0), (.int .i64 0), (.int .u64 0), (.bool false)] [] [(1, 6, .c v4), (7, 1, .c (.int .u64 a1))]).bind fun cs5 =>
    (boxc (.agg cs5)).bind fun cs6 =>
    let h7 := p2.2.new (.cells cs6 .rw)
    some ((.ptr p2.2.next 0), h7))

theorem sweep_NewSweep_eq (M : Env) (a0_0 : Int) (a0_1 : Int) (a0_2 : Int) (a0_3 : Int) (a0_4 : Int) (a0_5 : Int) (a1 : Int) (h : H) : evalF M F.sweep_NewSweep [(.agg [(.int .i64 a0_0), (.int .i64 a0_1), (.int .i64 a0_2), (.int .i64 a0_3), (.int .i64 a0_4), (.int .i64 a0_5)]), (.int .u64 a1)] h = sweep_NewSweep M a0_0 a0_1 a0_2 a0_3 a0_4 a0_5 a1 h := by kernel_rfl

end Wm.S
end

section
/- PRINTED by my tool (wip/wm/tool/Gen.lean): what a function comes to, stretch by stretch. -/
namespace Wm.S
open Wm
set_option maxRecDepth 100000
set_option linter.unusedVariables false


def sweep_NewReclaim (M : Env) (a0_0 : Int) (a0_1 : Int) (a0_2 : Int) (a0_3 : Int) (a0_4 : Int) (a0_5 : Int) (h : H) : Option (V × H) :=
  let h0 := h.new (.cells [(.int .i64 a0_0), (.int .i64 a0_1), (.int .i64 a0_2), (.int .i64 a0_3), (.int .i64 a0_4), (.int .i64 a0_5)] .rw)
  (h0.ldN 6 (.ptr h.next 0)).bind fun v1 =>
  (M.call 263 [v1] h0).bind fun p2 =>
  (asB p2.1).bind fun b3 =>
  match (!b3) with
  | true => (
    some (.nilp, p2.2))
  | false => (
    (p2.2.ldN 6 (.ptr h.next 0)).bind fun v4 =>
    (fill [(.int .i64 0), (.int .i64 0), (.int .i64 0), (.int .i64 0), (.int .i64 0), (.int .i64 0), (.int .i64 0), (.int .i64 0), (.int .i64 0), .nilp] [] [(2, 6, .c v4)]).bind fun cs5 =>
    (boxc (.agg cs5)).bind fun cs6 =>
    let h7 := p2.2.new (.cells cs6 .rw)
    some ((.ptr p2.2.next 0), h7))

theorem sweep_NewReclaim_eq (M : Env) (a0_0 : Int) (a0_1 : Int) (a0_2 : Int) (a0_3 : Int) (a0_4 : Int) (a0_5 : Int) (h : H) : evalF M F.sweep_NewReclaim [(.agg [(.int .i64 a0_0), (.int .i64 a0_1), (.int .i64 a0_2), (.int .i64 a0_3), (.int .i64 a0_4), (.int .i64 a0_5)])] h = sweep_NewReclaim M a0_0 a0_1 a0_2 a0_3 a0_4 a0_5 h := by kernel_rfl

end Wm.S
end

section
/- PRINTED by my tool (wip/wm/tool/Gen.lean): what a function comes to, stretch by stretch. -/
namespace Wm.S
open Wm
set_option maxRecDepth 100000
set_option linter.unusedVariables false


def sweep_Sweep_Step (M : Env) (a0 : V) (a1 : V) (h : H) : Option (V × H) :=
  (eqV .ptr a0 .nilp).bind fun b0 =>
  match b0 with
  | true => (
    some ((.bool true), h))
  | false => (
    (nilc a0).bind fun v1 =>
    (ptrAt v1 8).bind fun v2 =>
    (h.ld1 v2).bind fun v3 =>
    (nilc a0).bind fun v4 =>
    (ptrAt v4 1).bind fun v5 =>
    (ptrAt v5 0).bind fun v6 =>
    (h.ld1 v6).bind fun v7 =>
    (asI .i64 v3).bind fun n8 =>
    (asI .i64 v7).bind fun n9 =>
    match (decide (n8 = n9)) with
    | true => (
      some ((.bool true), h))
    | false => (
      (nilc a0).bind fun v10 =>
      (ptrAt v10 1).bind fun v11 =>
      (h.ldN 6 v11).bind fun v12 =>
      (nilc a0).bind fun v13 =>
      (ptrAt v13 8).bind fun v14 =>
      (h.ld1 v14).bind fun v15 =>
      (M.call 261 [v12, v15] h).bind fun p16 =>
      (nilc a0).bind fun v17 =>
      (ptrAt v17 10).bind fun v18 =>
      (p16.2.ld1 v18).bind fun v19 =>
      (asB v19).bind fun b20 =>
      match b20 with
      | true => (
        (nilc a0).bind fun v21 =>
        (ptrAt v21 9).bind fun v22 =>
        (p16.2.ld1 v22).bind fun v23 =>
        (nilc a0).bind fun v24 =>
        (ptrAt v24 7).bind fun v25 =>
        (p16.2.ld1 v25).bind fun v26 =>
        (M.call 340 [v23, v26] p16.2).bind fun p27 =>
        match p27.1 with
        | .tup vs28 => ((vs28[0]?).bind fun v29 =>
        match p27.1 with
        | .tup vs30 => ((vs30[1]?).bind fun v31 =>
        (nilc a0).bind fun v32 =>
        (ptrAt v32 10).bind fun v33 =>
        (p27.2.st 1 v33 (.bool false)).bind fun h34 =>
        (nilc a0).bind fun v35 =>
        (ptrAt v35 9).bind fun v36 =>
        (h34.ld1 v36).bind fun v37 =>
        (M.call 269 [a1, p16.1, v37, v29] h34).bind fun p38 =>
        (asB p38.1).bind fun b39 =>
        match b39 with
        | true => (
          (nilc a0).bind fun v40 =>
          (ptrAt v40 0).bind fun v41 =>
          (p38.2.ld1 v41).bind fun v42 =>
          (asI .i64 v42).bind fun n43 =>
          (nilc a0).bind fun v44 =>
          (ptrAt v44 0).bind fun v45 =>
          (p38.2.st 1 v45 (.int .i64 (wr .i64 (n43 + 1)))).bind fun h46 =>
          (nilc a0).bind fun v47 =>
          (ptrAt v47 8).bind fun v48 =>
          (h46.ld1 v48).bind fun v49 =>
          (asI .i64 v49).bind fun n50 =>
          (nilc a0).bind fun v51 =>
          (ptrAt v51 8).bind fun v52 =>
          (h46.st 1 v52 (.int .i64 (wr .i64 (n50 + 1)))).bind fun h53 =>
          (nilc a0).bind fun v54 =>
          (ptrAt v54 8).bind fun v55 =>
          (h53.ld1 v55).bind fun v56 =>
          (nilc a0).bind fun v57 =>
          (ptrAt v57 1).bind fun v58 =>
          (ptrAt v58 0).bind fun v59 =>
          (h53.ld1 v59).bind fun v60 =>
          (asI .i64 v56).bind fun n61 =>
          (asI .i64 v60).bind fun n62 =>
          some ((.bool (decide (n61 = n62))), h53))
        | false => (
          (nilc a0).bind fun v40 =>
          (ptrAt v40 8).bind fun v41 =>
          (p38.2.ld1 v41).bind fun v42 =>
          (nilc a0).bind fun v43 =>
          (ptrAt v43 1).bind fun v44 =>
          (ptrAt v44 0).bind fun v45 =>
          (p38.2.ld1 v45).bind fun v46 =>
          (asI .i64 v42).bind fun n47 =>
          (asI .i64 v46).bind fun n48 =>
          some ((.bool (decide (n47 = n48))), p38.2)))
        | _ => none)
        | _ => none)
      | false => (
        (M.call 266 [a1, p16.1] p16.2).bind fun p21 =>
        (nilc a0).bind fun v22 =>
        (ptrAt v22 9).bind fun v23 =>
        (p21.2.st 1 v23 p21.1).bind fun h24 =>
        (nilc a0).bind fun v25 =>
        (ptrAt v25 9).bind fun v26 =>
        (h24.ld1 v26).bind fun v27 =>
        (nilc a0).bind fun v28 =>
        (ptrAt v28 7).bind fun v29 =>
        (h24.ld1 v29).bind fun v30 =>
        (M.call 340 [v27, v30] h24).bind fun p31 =>
        match p31.1 with
        | .tup vs32 => ((vs32[0]?).bind fun v33 =>
        match p31.1 with
        | .tup vs34 => ((vs34[1]?).bind fun v35 =>
        (nilc a0).bind fun v36 =>
        (ptrAt v36 10).bind fun v37 =>
        (p31.2.st 1 v37 v35).bind fun h38 =>
        (nilc a0).bind fun v39 =>
        (ptrAt v39 10).bind fun v40 =>
        (h38.ld1 v40).bind fun v41 =>
        (asB v41).bind fun b42 =>
        match (!b42) with
        | true => (
          (nilc a0).bind fun v43 =>
          (ptrAt v43 8).bind fun v44 =>
          (h38.ld1 v44).bind fun v45 =>
          (asI .i64 v45).bind fun n46 =>
          (nilc a0).bind fun v47 =>
          (ptrAt v47 8).bind fun v48 =>
          (h38.st 1 v48 (.int .i64 (wr .i64 (n46 + 1)))).bind fun h49 =>
          (nilc a0).bind fun v50 =>
          (ptrAt v50 8).bind fun v51 =>
          (h49.ld1 v51).bind fun v52 =>
          (nilc a0).bind fun v53 =>
          (ptrAt v53 1).bind fun v54 =>
          (ptrAt v54 0).bind fun v55 =>
          (h49.ld1 v55).bind fun v56 =>
          (asI .i64 v52).bind fun n57 =>
          (asI .i64 v56).bind fun n58 =>
          some ((.bool (decide (n57 = n58))), h49))
        | false => (
          (nilc a0).bind fun v43 =>
          (ptrAt v43 8).bind fun v44 =>
          (h38.ld1 v44).bind fun v45 =>
          (nilc a0).bind fun v46 =>
          (ptrAt v46 1).bind fun v47 =>
          (ptrAt v47 0).bind fun v48 =>
          (h38.ld1 v48).bind fun v49 =>
          (asI .i64 v45).bind fun n50 =>
          (asI .i64 v49).bind fun n51 =>
          some ((.bool (decide (n50 = n51))), h38)))
        | _ => none)
        | _ => none)))

theorem sweep_Sweep_Step_eq (M : Env) (a0 : V) (a1 : V) (h : H) : evalF M F.sweep_Sweep_Step [a0, a1] h = sweep_Sweep_Step M a0 a1 h := by kernel_rfl

end Wm.S
end

section
/- PRINTED by my tool (wip/wm/tool/Gen.lean): what a function comes to, stretch by stretch. -/
namespace Wm.S
open Wm
set_option maxRecDepth 100000
set_option linter.unusedVariables false


def sweep_Reclaim_Step (M : Env) (a0 : V) (a1 : V) (h : H) : Option (V × H) :=
  (eqV .ptr a0 .nilp).bind fun b0 =>
  match b0 with
  | true => (
    some ((.bool true), h))
  | false => (
    (nilc a0).bind fun v1 =>
    (ptrAt v1 8).bind fun v2 =>
    (h.ld1 v2).bind fun v3 =>
    (nilc a0).bind fun v4 =>
    (ptrAt v4 2).bind fun v5 =>
    (ptrAt v5 0).bind fun v6 =>
    (h.ld1 v6).bind fun v7 =>
    (asI .i64 v3).bind fun n8 =>
    (asI .i64 v7).bind fun n9 =>
    match (decide (n8 = n9)) with
    | true => (
      some ((.bool true), h))
    | false => (
      (nilc a0).bind fun v10 =>
      (ptrAt v10 9).bind fun v11 =>
      (h.ld1 v11).bind fun v12 =>
      (eqV .ptr v12 .nilp).bind fun b13 =>
      match b13 with
      | true => (
        (nilc a0).bind fun v14 =>
        (ptrAt v14 2).bind fun v15 =>
        (h.ldN 6 v15).bind fun v16 =>
        (nilc a0).bind fun v17 =>
        (ptrAt v17 8).bind fun v18 =>
        (h.ld1 v18).bind fun v19 =>
        (M.call 261 [v16, v19] h).bind fun p20 =>
        (M.call 266 [a1, p20.1] p20.2).bind fun p21 =>
        (M.call 265 [p21.1] p21.2).bind fun p22 =>
        match p22.1 with
        | .tup vs23 => ((vs23[0]?).bind fun v24 =>
        match p22.1 with
        | .tup vs25 => ((vs25[1]?).bind fun v26 =>
        let h27 := p22.2.new (.cells [(.int .i64 0), (.int .i64 0), (.bool false), (.int .i64 0), (.int .i64 0), (.int .i64 0)] .rw)
        (h27.st 6 (.ptr p22.2.next 0) v24).bind fun h28 =>
        match v26 with
        | .bool true => (
          (h28.ld1 (.ptr p22.2.next 0)).bind fun v29 =>
          (asI .i64 v29).bind fun n30 =>
          match (decide (n30 = 3)) with
          | true => (
            (nilc a0).bind fun v31 =>
            (ptrAt v31 2).bind fun v32 =>
            (h28.ldN 6 v32).bind fun v33 =>
            (nilc a0).bind fun v34 =>
            (ptrAt v34 8).bind fun v35 =>
            (h28.ld1 v35).bind fun v36 =>
            (M.call 341 [v33, v36] h28).bind fun p37 =>
            (nilc a0).bind fun v38 =>
            (ptrAt v38 9).bind fun v39 =>
            (p37.2.st 1 v39 p37.1).bind fun h40 =>
            (nilc a0).bind fun v41 =>
            (ptrAt v41 8).bind fun v42 =>
            (h40.ld1 v42).bind fun v43 =>
            (nilc a0).bind fun v44 =>
            (ptrAt v44 2).bind fun v45 =>
            (ptrAt v45 0).bind fun v46 =>
            (h40.ld1 v46).bind fun v47 =>
            (asI .i64 v43).bind fun n48 =>
            (asI .i64 v47).bind fun n49 =>
            some ((.bool (decide (n48 = n49))), h40))
          | false => (
            (nilc a0).bind fun v31 =>
            (ptrAt v31 8).bind fun v32 =>
            (h28.ld1 v32).bind fun v33 =>
            (asI .i64 v33).bind fun n34 =>
            (nilc a0).bind fun v35 =>
            (ptrAt v35 8).bind fun v36 =>
            (h28.st 1 v36 (.int .i64 (wr .i64 (n34 + 1)))).bind fun h37 =>
            (nilc a0).bind fun v38 =>
            (ptrAt v38 8).bind fun v39 =>
            (h37.ld1 v39).bind fun v40 =>
            (nilc a0).bind fun v41 =>
            (ptrAt v41 2).bind fun v42 =>
            (ptrAt v42 0).bind fun v43 =>
            (h37.ld1 v43).bind fun v44 =>
            (asI .i64 v40).bind fun n45 =>
            (asI .i64 v44).bind fun n46 =>
            some ((.bool (decide (n45 = n46))), h37)))
        | .bool false => (
          (nilc a0).bind fun v29 =>
          (ptrAt v29 8).bind fun v30 =>
          (h28.ld1 v30).bind fun v31 =>
          (asI .i64 v31).bind fun n32 =>
          (nilc a0).bind fun v33 =>
          (ptrAt v33 8).bind fun v34 =>
          (h28.st 1 v34 (.int .i64 (wr .i64 (n32 + 1)))).bind fun h35 =>
          (nilc a0).bind fun v36 =>
          (ptrAt v36 8).bind fun v37 =>
          (h35.ld1 v37).bind fun v38 =>
          (nilc a0).bind fun v39 =>
          (ptrAt v39 2).bind fun v40 =>
          (ptrAt v40 0).bind fun v41 =>
          (h35.ld1 v41).bind fun v42 =>
          (asI .i64 v38).bind fun n43 =>
          (asI .i64 v42).bind fun n44 =>
          some ((.bool (decide (n43 = n44))), h35))
        | .tup [] => (
          (asB v26).bind fun b29 =>
          (asB (match b29 with | true => (.tup []) | false => (.bool false) : V)).bind fun b30 =>
          match b30 with
          | true => (
            (nilc a0).bind fun v31 =>
            (ptrAt v31 2).bind fun v32 =>
            (h28.ldN 6 v32).bind fun v33 =>
            (nilc a0).bind fun v34 =>
            (ptrAt v34 8).bind fun v35 =>
            (h28.ld1 v35).bind fun v36 =>
            (M.call 341 [v33, v36] h28).bind fun p37 =>
            (nilc a0).bind fun v38 =>
            (ptrAt v38 9).bind fun v39 =>
            (p37.2.st 1 v39 p37.1).bind fun h40 =>
            (nilc a0).bind fun v41 =>
            (ptrAt v41 8).bind fun v42 =>
            (h40.ld1 v42).bind fun v43 =>
            (nilc a0).bind fun v44 =>
            (ptrAt v44 2).bind fun v45 =>
            (ptrAt v45 0).bind fun v46 =>
            (h40.ld1 v46).bind fun v47 =>
            (asI .i64 v43).bind fun n48 =>
            (asI .i64 v47).bind fun n49 =>
            some ((.bool (decide (n48 = n49))), h40))
          | false => (
            (nilc a0).bind fun v31 =>
            (ptrAt v31 8).bind fun v32 =>
            (h28.ld1 v32).bind fun v33 =>
            (asI .i64 v33).bind fun n34 =>
            (nilc a0).bind fun v35 =>
            (ptrAt v35 8).bind fun v36 =>
            (h28.st 1 v36 (.int .i64 (wr .i64 (n34 + 1)))).bind fun h37 =>
            (nilc a0).bind fun v38 =>
            (ptrAt v38 8).bind fun v39 =>
            (h37.ld1 v39).bind fun v40 =>
            (nilc a0).bind fun v41 =>
            (ptrAt v41 2).bind fun v42 =>
            (ptrAt v42 0).bind fun v43 =>
            (h37.ld1 v43).bind fun v44 =>
            (asI .i64 v40).bind fun n45 =>
            (asI .i64 v44).bind fun n46 =>
            some ((.bool (decide (n45 = n46))), h37)))
        | _ => none)
        | _ => none)
        | _ => none)
      | false => (
        (nilc a0).bind fun v14 =>
        (ptrAt v14 9).bind fun v15 =>
        (h.ld1 v15).bind fun v16 =>
        (M.call 342 [v16, a1] h).bind fun p17 =>
        (asB p17.1).bind fun b18 =>
        match b18 with
        | true => (
          (nilc a0).bind fun v19 =>
          (ptrAt v19 9).bind fun v20 =>
          (p17.2.ld1 v20).bind fun v21 =>
          (nilc v21).bind fun v22 =>
          (ptrAt v22 0).bind fun v23 =>
          (p17.2.ld1 v23).bind fun v24 =>
          (asB v24).bind fun b25 =>
          match b25 with
          | true => (
            (nilc a0).bind fun v26 =>
            (ptrAt v26 0).bind fun v27 =>
            (p17.2.ld1 v27).bind fun v28 =>
            (asI .i64 v28).bind fun n29 =>
            (nilc a0).bind fun v30 =>
            (ptrAt v30 0).bind fun v31 =>
            (p17.2.st 1 v31 (.int .i64 (wr .i64 (n29 + 1)))).bind fun h32 =>
            (nilc a0).bind fun v33 =>
            (ptrAt v33 9).bind fun v34 =>
            (h32.ld1 v34).bind fun v35 =>
            (nilc v35).bind fun v36 =>
            (ptrAt v36 1).bind fun v37 =>
            (h32.ld1 v37).bind fun v38 =>
            (asB v38).bind fun b39 =>
            match b39 with
            | true => (
              (nilc a0).bind fun v40 =>
              (ptrAt v40 1).bind fun v41 =>
              (h32.ld1 v41).bind fun v42 =>
              (asI .i64 v42).bind fun n43 =>
              (nilc a0).bind fun v44 =>
              (ptrAt v44 1).bind fun v45 =>
              (h32.st 1 v45 (.int .i64 (wr .i64 (n43 + 1)))).bind fun h46 =>
              (nilc a0).bind fun v47 =>
              (ptrAt v47 9).bind fun v48 =>
              (h46.st 1 v48 .nilp).bind fun h49 =>
              (nilc a0).bind fun v50 =>
              (ptrAt v50 8).bind fun v51 =>
              (h49.ld1 v51).bind fun v52 =>
              (asI .i64 v52).bind fun n53 =>
              (nilc a0).bind fun v54 =>
              (ptrAt v54 8).bind fun v55 =>
              (h49.st 1 v55 (.int .i64 (wr .i64 (n53 + 1)))).bind fun h56 =>
              (nilc a0).bind fun v57 =>
              (ptrAt v57 8).bind fun v58 =>
              (h56.ld1 v58).bind fun v59 =>
              (nilc a0).bind fun v60 =>
              (ptrAt v60 2).bind fun v61 =>
              (ptrAt v61 0).bind fun v62 =>
              (h56.ld1 v62).bind fun v63 =>
              (asI .i64 v59).bind fun n64 =>
              (asI .i64 v63).bind fun n65 =>
              some ((.bool (decide (n64 = n65))), h56))
            | false => (
              (nilc a0).bind fun v40 =>
              (ptrAt v40 9).bind fun v41 =>
              (h32.st 1 v41 .nilp).bind fun h42 =>
              (nilc a0).bind fun v43 =>
              (ptrAt v43 8).bind fun v44 =>
              (h42.ld1 v44).bind fun v45 =>
              (asI .i64 v45).bind fun n46 =>
              (nilc a0).bind fun v47 =>
              (ptrAt v47 8).bind fun v48 =>
              (h42.st 1 v48 (.int .i64 (wr .i64 (n46 + 1)))).bind fun h49 =>
              (nilc a0).bind fun v50 =>
              (ptrAt v50 8).bind fun v51 =>
              (h49.ld1 v51).bind fun v52 =>
              (nilc a0).bind fun v53 =>
              (ptrAt v53 2).bind fun v54 =>
              (ptrAt v54 0).bind fun v55 =>
              (h49.ld1 v55).bind fun v56 =>
              (asI .i64 v52).bind fun n57 =>
              (asI .i64 v56).bind fun n58 =>
              some ((.bool (decide (n57 = n58))), h49)))
          | false => (
            (nilc a0).bind fun v26 =>
            (ptrAt v26 9).bind fun v27 =>
            (p17.2.ld1 v27).bind fun v28 =>
            (nilc v28).bind fun v29 =>
            (ptrAt v29 1).bind fun v30 =>
            (p17.2.ld1 v30).bind fun v31 =>
            (asB v31).bind fun b32 =>
            match b32 with
            | true => (
              (nilc a0).bind fun v33 =>
              (ptrAt v33 1).bind fun v34 =>
              (p17.2.ld1 v34).bind fun v35 =>
              (asI .i64 v35).bind fun n36 =>
              (nilc a0).bind fun v37 =>
              (ptrAt v37 1).bind fun v38 =>
              (p17.2.st 1 v38 (.int .i64 (wr .i64 (n36 + 1)))).bind fun h39 =>
              (nilc a0).bind fun v40 =>
              (ptrAt v40 9).bind fun v41 =>
              (h39.st 1 v41 .nilp).bind fun h42 =>
              (nilc a0).bind fun v43 =>
              (ptrAt v43 8).bind fun v44 =>
              (h42.ld1 v44).bind fun v45 =>
              (asI .i64 v45).bind fun n46 =>
              (nilc a0).bind fun v47 =>
              (ptrAt v47 8).bind fun v48 =>
              (h42.st 1 v48 (.int .i64 (wr .i64 (n46 + 1)))).bind fun h49 =>
              (nilc a0).bind fun v50 =>
              (ptrAt v50 8).bind fun v51 =>
              (h49.ld1 v51).bind fun v52 =>
              (nilc a0).bind fun v53 =>
              (ptrAt v53 2).bind fun v54 =>
              (ptrAt v54 0).bind fun v55 =>
              (h49.ld1 v55).bind fun v56 =>
              (asI .i64 v52).bind fun n57 =>
              (asI .i64 v56).bind fun n58 =>
              some ((.bool (decide (n57 = n58))), h49))
            | false => (
              (nilc a0).bind fun v33 =>
              (ptrAt v33 9).bind fun v34 =>
              (p17.2.st 1 v34 .nilp).bind fun h35 =>
              (nilc a0).bind fun v36 =>
              (ptrAt v36 8).bind fun v37 =>
              (h35.ld1 v37).bind fun v38 =>
              (asI .i64 v38).bind fun n39 =>
              (nilc a0).bind fun v40 =>
              (ptrAt v40 8).bind fun v41 =>
              (h35.st 1 v41 (.int .i64 (wr .i64 (n39 + 1)))).bind fun h42 =>
              (nilc a0).bind fun v43 =>
              (ptrAt v43 8).bind fun v44 =>
              (h42.ld1 v44).bind fun v45 =>
              (nilc a0).bind fun v46 =>
              (ptrAt v46 2).bind fun v47 =>
              (ptrAt v47 0).bind fun v48 =>
              (h42.ld1 v48).bind fun v49 =>
              (asI .i64 v45).bind fun n50 =>
              (asI .i64 v49).bind fun n51 =>
              some ((.bool (decide (n50 = n51))), h42))))
        | false => (
          (nilc a0).bind fun v19 =>
          (ptrAt v19 8).bind fun v20 =>
          (p17.2.ld1 v20).bind fun v21 =>
          (nilc a0).bind fun v22 =>
          (ptrAt v22 2).bind fun v23 =>
          (ptrAt v23 0).bind fun v24 =>
          (p17.2.ld1 v24).bind fun v25 =>
          (asI .i64 v21).bind fun n26 =>
          (asI .i64 v25).bind fun n27 =>
          some ((.bool (decide (n26 = n27))), p17.2)))))

theorem sweep_Reclaim_Step_eq (M : Env) (a0 : V) (a1 : V) (h : H) : evalF M F.sweep_Reclaim_Step [a0, a1] h = sweep_Reclaim_Step M a0 a1 h := by kernel_rfl

end Wm.S
end

section
/- PRINTED by my tool (wip/wm/tool/Gen.lean): what a function comes to, stretch by stretch. -/
namespace Wm.S
open Wm
set_option maxRecDepth 100000
set_option linter.unusedVariables false


def epoch_NewAdvance (M : Env) (a0_0 : Int) (a0_1 : Int) (a0_2 : Int) (a0_3 : Int) (a0_4 : Int) (a0_5 : Int) (h : H) : Option (V × H) :=
  let h0 := h.new (.cells [(.int .i64 a0_0), (.int .i64 a0_1), (.int .i64 a0_2), (.int .i64 a0_3), (.int .i64 a0_4), (.int .i64 a0_5)] .rw)
  (h0.ldN 6 (.ptr h.next 0)).bind fun v1 =>
  (M.call 263 [v1] h0).bind fun p2 =>
  (asB p2.1).bind fun b3 =>
  match (!b3) with
  | true => (
    some (.nilp, p2.2))
  | false => (
    (p2.2.ldN 6 (.ptr h.next 0)).bind fun v4 =>
    (fill [(.int .u64 0), (.int .i64 0), (.int .i64 0), (.int .i64 0), (.int .i64 0), (.int .i64 0), (.int .i64 0), (.int .u64 0), (.int .i64 0), (.int .i64 0)] [] [(1, 6, .c v4)]).bind fun cs5 =>
    (boxc (.agg cs5)).bind fun cs6 =>
    let h7 := p2.2.new (.cells cs6 .rw)
    some ((.ptr p2.2.next 0), h7))

theorem epoch_NewAdvance_eq (M : Env) (a0_0 : Int) (a0_1 : Int) (a0_2 : Int) (a0_3 : Int) (a0_4 : Int) (a0_5 : Int) (h : H) : evalF M F.epoch_NewAdvance [(.agg [(.int .i64 a0_0), (.int .i64 a0_1), (.int .i64 a0_2), (.int .i64 a0_3), (.int .i64 a0_4), (.int .i64 a0_5)])] h = epoch_NewAdvance M a0_0 a0_1 a0_2 a0_3 a0_4 a0_5 h := by kernel_rfl

end Wm.S
end

section
/- PRINTED by my tool (wip/wm/tool/Gen.lean): what a function comes to, stretch by stretch. -/
namespace Wm.S
open Wm
set_option maxRecDepth 100000
set_option linter.unusedVariables false


def collect_NewCollect (M : Env) (a0_0 : Int) (a0_1 : Int) (a0_2 : Int) (a0_3 : Int) (a0_4 : Int) (a0_5 : Int) (h : H) : Option (V × H) :=
  let h0 := h.new (.cells [(.int .i64 a0_0), (.int .i64 a0_1), (.int .i64 a0_2), (.int .i64 a0_3), (.int .i64 a0_4), (.int .i64 a0_5)] .rw)
  (h0.ldN 6 (.ptr h.next 0)).bind fun v1 =>
  (M.call 263 [v1] h0).bind fun p2 =>
  (asB p2.1).bind fun b3 =>
  match (!b3) with
  | true => (
    some (.nilp, p2.2))
  | false => (
    (p2.2.ldN 6 (.ptr h.next 0)).bind fun v4 =>
    (fill [(.int .u64 0), (.int .i64 0), (.int .i64 0), (.int .i64 0), (.int .i64 0), (.int .i64 0), (.int .i64 0), (.int .i64 0), .nilifc, .nilp] [] [(2, 6, .c v4)]).bind fun cs5 =>
    (boxc (.agg cs5)).bind fun cs6 =>
    let h7 := p2.2.new (.cells cs6 .rw)
    (M.call 351 [(.ptr p2.2.next 0)] h7).bind fun p8 =>
    some ((.ptr p2.2.next 0), p8.2))

theorem collect_NewCollect_eq (M : Env) (a0_0 : Int) (a0_1 : Int) (a0_2 : Int) (a0_3 : Int) (a0_4 : Int) (a0_5 : Int) (h : H) : evalF M F.collect_NewCollect [(.agg [(.int .i64 a0_0), (.int .i64 a0_1), (.int .i64 a0_2), (.int .i64 a0_3), (.int .i64 a0_4), (.int .i64 a0_5)])] h = collect_NewCollect M a0_0 a0_1 a0_2 a0_3 a0_4 a0_5 h := by kernel_rfl

end Wm.S
end

section
/- PRINTED by my tool (wip/wm/tool/Gen.lean): what a function comes to, stretch by stretch. -/
namespace Wm.S
open Wm
set_option maxRecDepth 100000
set_option linter.unusedVariables false


def collect_Collect_begin (M : Env) (a0 : V) (h : H) : Option (V × H) :=
  (nilc a0).bind fun v0 =>
  (ptrAt v0 2).bind fun v1 =>
  (h.ldN 6 v1).bind fun v2 =>
  (M.call 415 [v2] h).bind fun p3 =>
  (nilc a0).bind fun v4 =>
  (ptrAt v4 9).bind fun v5 =>
  (p3.2.st 1 v5 p3.1).bind fun h6 =>
  (nilc a0).bind fun v7 =>
  (ptrAt v7 8).bind fun v8 =>
  (h6.st 1 v8 .nilifc).bind fun h9 =>
  (nilc a0).bind fun v10 =>
  (ptrAt v10 0).bind fun v11 =>
  (h9.ld1 v11).bind fun v12 =>
  (asI .u64 v12).bind fun n13 =>
  match (decide ((Int.tmod n13 4) = 0)) with
  | true => (
    (nilc a0).bind fun v14 =>
    (ptrAt v14 2).bind fun v15 =>
    (h9.ldN 6 v15).bind fun v16 =>
    (M.call 189 [v16] h9).bind fun p17 =>
    (nilc a0).bind fun v18 =>
    (ptrAt v18 8).bind fun v19 =>
    (p17.2.st 1 v19 (.ifc 207 p17.1)).bind fun h20 =>
    some ((.tup []), h20))
  | false => (
    match (decide ((Int.tmod n13 4) = 2)) with
    | true => (
      (nilc a0).bind fun v14 =>
      (ptrAt v14 2).bind fun v15 =>
      (h9.ldN 6 v15).bind fun v16 =>
      (nilc a0).bind fun v17 =>
      (ptrAt v17 0).bind fun v18 =>
      (h9.ld1 v18).bind fun v19 =>
      (M.call 158 [v16, v19] h9).bind fun p20 =>
      (nilc a0).bind fun v21 =>
      (ptrAt v21 8).bind fun v22 =>
      (p20.2.st 1 v22 (.ifc 166 p20.1)).bind fun h23 =>
      some ((.tup []), h23))
    | false => (
      match (decide ((Int.tmod n13 4) = 3)) with
      | true => (
        (nilc a0).bind fun v14 =>
        (ptrAt v14 2).bind fun v15 =>
        (h9.ldN 6 v15).bind fun v16 =>
        (nilc a0).bind fun v17 =>
        (ptrAt v17 0).bind fun v18 =>
        (h9.ld1 v18).bind fun v19 =>
        (M.call 188 [v16, v19] h9).bind fun p20 =>
        (nilc a0).bind fun v21 =>
        (ptrAt v21 8).bind fun v22 =>
        (p20.2.st 1 v22 (.ifc 206 p20.1)).bind fun h23 =>
        some ((.tup []), h23))
      | false => (
        some ((.tup []), h9))))

theorem collect_Collect_begin_eq (M : Env) (a0 : V) (h : H) : evalF M F.collect_Collect_begin [a0] h = collect_Collect_begin M a0 h := by kernel_rfl

end Wm.S
end

section
/- PRINTED by my tool (wip/wm/tool/Gen.lean): what a function comes to, stretch by stretch. -/
namespace Wm.S
open Wm
set_option maxRecDepth 100000
set_option linter.unusedVariables false


def collect_Collect_Step (M : Env) (a0 : V) (a1 : V) (h : H) : Option (V × H) :=
  (eqV .ptr a0 .nilp).bind fun b0 =>
  match b0 with
  | true => (
    some ((.bool true), h))
  | false => (
    (nilc a0).bind fun v1 =>
    (ptrAt v1 8).bind fun v2 =>
    (h.ld1 v2).bind fun v3 =>
    (eqV .ifc v3 .nilifc).bind fun b4 =>
    match (!b4) with
    | true => (
      (nilc a0).bind fun v5 =>
      (ptrAt v5 8).bind fun v6 =>
      (h.ld1 v6).bind fun v7 =>
      match v7 with
      | .ifc t8 v9 => ((M.meth t8 0).bind fun f10 => (M.call f10 (v9 :: [a1]) h).bind fun p11 =>
      (asB p11.1).bind fun b12 =>
      match b12 with
      | true => (
        (nilc a0).bind fun v13 =>
        (ptrAt v13 8).bind fun v14 =>
        (p11.2.st 1 v14 .nilifc).bind fun h15 =>
        some ((.bool false), h15))
      | false => (
        some ((.bool false), p11.2)))
      | _ => none)
    | false => (
      (nilc a0).bind fun v5 =>
      (ptrAt v5 9).bind fun v6 =>
      (h.ld1 v6).bind fun v7 =>
      (M.call 352 [v7, a1] h).bind fun p8 =>
      (asB p8.1).bind fun b9 =>
      match b9 with
      | true => (
        (nilc a0).bind fun v10 =>
        (ptrAt v10 9).bind fun v11 =>
        (p8.2.ld1 v11).bind fun v12 =>
        (nilc v12).bind fun v13 =>
        (ptrAt v13 0).bind fun v14 =>
        (p8.2.ld1 v14).bind fun v15 =>
        (nilc a0).bind fun v16 =>
        (ptrAt v16 0).bind fun v17 =>
        (p8.2.st 1 v17 v15).bind fun h18 =>
        (nilc a0).bind fun v19 =>
        (ptrAt v19 0).bind fun v20 =>
        (h18.ld1 v20).bind fun v21 =>
        (asI .u64 v21).bind fun n22 =>
        match (decide ((Int.tmod n22 4) = 0)) with
        | true => (
          (nilc a0).bind fun v23 =>
          (ptrAt v23 1).bind fun v24 =>
          (h18.ld1 v24).bind fun v25 =>
          (asI .i64 v25).bind fun n26 =>
          (nilc a0).bind fun v27 =>
          (ptrAt v27 1).bind fun v28 =>
          (h18.st 1 v28 (.int .i64 (wr .i64 (n26 + 1)))).bind fun h29 =>
          (M.call 351 [a0] h29).bind fun p30 =>
          some ((.bool false), p30.2))
        | false => (
          (M.call 351 [a0] h18).bind fun p23 =>
          some ((.bool false), p23.2)))
      | false => (
        some ((.bool false), p8.2))))

theorem collect_Collect_Step_eq (M : Env) (a0 : V) (a1 : V) (h : H) : evalF M F.collect_Collect_Step [a0, a1] h = collect_Collect_Step M a0 a1 h := by kernel_rfl

end Wm.S
end

section
/- PRINTED by my tool (wip/wm/tool/Gen.lean): what a function comes to, stretch by stretch. -/
namespace Wm.S
open Wm
set_option maxRecDepth 100000
set_option linter.unusedVariables false


def collect_Bound (M : Env) (a0_0 : Int) (a0_1 : Int) (a0_2 : Int) (a0_3 : Int) (a0_4 : Int) (a0_5 : Int) (h : H) : Option (V × H) :=
  let h0 := h.new (.cells [(.int .i64 a0_0), (.int .i64 a0_1), (.int .i64 a0_2), (.int .i64 a0_3), (.int .i64 a0_4), (.int .i64 a0_5)] .rw)
  (h0.ldN 6 (.ptr h.next 0)).bind fun v1 =>
  (M.call 263 [v1] h0).bind fun p2 =>
  (asB p2.1).bind fun b3 =>
  match (!b3) with
  | true => (
    some ((.int .i64 0), p2.2))
  | false => (
    (p2.2.ld1 (.ptr h.next 0)).bind fun v4 =>
    (asI .i64 v4).bind fun n5 =>
    (p2.2.ld1 (.ptr h.next 0)).bind fun v6 =>
    (asI .i64 v6).bind fun n7 =>
    (p2.2.ld1 (.ptr h.next 0)).bind fun v8 =>
    (p2.2.ld1 (.ptr h.next 1)).bind fun v9 =>
    (asI .i64 v9).bind fun n10 =>
    (asI .i64 v8).bind fun n11 =>
    (p2.2.ld1 (.ptr h.next 2)).bind fun v12 =>
    (p2.2.ld1 (.ptr h.next 3)).bind fun v13 =>
    (asI .i64 v13).bind fun n14 =>
    (asI .i64 v12).bind fun n15 =>
    some ((.int .i64 (wr .i64 ((wr .i64 ((wr .i64 ((wr .i64 ((wr .i64 (n5 + 1)) * (wr .i64 (n7 + 1)))) + (wr .i64 (n11 * (wr .i64 ((wr .i64 (4 * n10)) + 24)))))) + (wr .i64 (n15 * (wr .i64 ((wr .i64 (4 * n14)) + 13)))))) + 17))), p2.2))

theorem collect_Bound_eq (M : Env) (a0_0 : Int) (a0_1 : Int) (a0_2 : Int) (a0_3 : Int) (a0_4 : Int) (a0_5 : Int) (h : H) : evalF M F.collect_Bound [(.agg [(.int .i64 a0_0), (.int .i64 a0_1), (.int .i64 a0_2), (.int .i64 a0_3), (.int .i64 a0_4), (.int .i64 a0_5)])] h = collect_Bound M a0_0 a0_1 a0_2 a0_3 a0_4 a0_5 h := by kernel_rfl

end Wm.S
end

section
/- PRINTED by my tool (wip/wm/tool/Gen.lean): what a function comes to, stretch by stretch. -/
namespace Wm.S
open Wm
set_option maxRecDepth 100000
set_option linter.unusedVariables false


def withyref15_Bound (M : Env) (a0_0 : Int) (a0_1 : Int) (a0_2 : Int) (a0_3 : Int) (a0_4 : Int) (a0_5 : Int) (h : H) : Option (V × H) :=
  let h0 := h.new (.cells [(.int .i64 a0_0), (.int .i64 a0_1), (.int .i64 a0_2), (.int .i64 a0_3), (.int .i64 a0_4), (.int .i64 a0_5)] .rw)
  (h0.ldN 6 (.ptr h.next 0)).bind fun v1 =>
  (M.call 85 [v1] h0).bind fun p2 =>
  (asB p2.1).bind fun b3 =>
  match (!b3) with
  | true => (
    some ((.int .i64 0), p2.2))
  | false => (
    (p2.2.ld1 (.ptr h.next 0)).bind fun v4 =>
    (asI .i64 v4).bind fun n5 =>
    (p2.2.ld1 (.ptr h.next 0)).bind fun v6 =>
    (asI .i64 v6).bind fun n7 =>
    (p2.2.ld1 (.ptr h.next 0)).bind fun v8 =>
    (p2.2.ld1 (.ptr h.next 1)).bind fun v9 =>
    (asI .i64 v9).bind fun n10 =>
    (asI .i64 v8).bind fun n11 =>
    (p2.2.ld1 (.ptr h.next 2)).bind fun v12 =>
    (p2.2.ld1 (.ptr h.next 3)).bind fun v13 =>
    (asI .i64 v13).bind fun n14 =>
    (asI .i64 v12).bind fun n15 =>
    some ((.int .i64 (wr .i64 ((wr .i64 ((wr .i64 ((wr .i64 ((wr .i64 (n5 + 1)) * (wr .i64 (n7 + 1)))) + (wr .i64 (n11 * (wr .i64 ((wr .i64 (4 * n10)) + 24)))))) + (wr .i64 (n15 * (wr .i64 ((wr .i64 (4 * n14)) + 13)))))) + 17))), p2.2))

theorem withyref15_Bound_eq (M : Env) (a0_0 : Int) (a0_1 : Int) (a0_2 : Int) (a0_3 : Int) (a0_4 : Int) (a0_5 : Int) (h : H) : evalF M F.withyref15_Bound [(.agg [(.int .i64 a0_0), (.int .i64 a0_1), (.int .i64 a0_2), (.int .i64 a0_3), (.int .i64 a0_4), (.int .i64 a0_5)])] h = withyref15_Bound M a0_0 a0_1 a0_2 a0_3 a0_4 a0_5 h := by kernel_rfl

end Wm.S
end

section
/- PRINTED by my tool (wip/wm/tool/Gen.lean): what a function comes to, stretch by stretch. -/
namespace Wm.S
open Wm
set_option maxRecDepth 100000
set_option linter.unusedVariables false

def withylaw15_awake_c1_B (M : Env) : List V → H → Option (AX × List V × H) :=
  fun env h => evalC M F.withylaw15_awake_c1 env h fun x env h => match x with
    | .normal => some (.normal, keepOf [1, 2, 3, 4] 0 env, h)
    | x => some (x, keepOf [0, 3] 0 env, h)

def withylaw15_awake_c1_E (x1 x2 x3 x4 : V) : List V := [.dead, x1, x2, x3, x4, .dead, .dead, .dead, .dead, .dead, .dead, .dead, .dead, .dead, .dead, .dead, .dead, .dead, .dead, .dead, .dead, .dead, .dead, .dead, .dead, .dead, .dead, .dead, .dead, .dead, .dead, .dead, .dead, .dead, .dead, .dead, .dead]
def withylaw15_awake_c1_O (x0 x3 : V) : List V := [x0, .dead, .dead, x3, .dead, .dead, .dead, .dead, .dead, .dead, .dead, .dead, .dead, .dead, .dead, .dead, .dead, .dead, .dead, .dead, .dead, .dead, .dead, .dead, .dead, .dead, .dead, .dead, .dead, .dead, .dead, .dead, .dead, .dead, .dead, .dead, .dead]

def withylaw15_awake_K0 (M : Env) : AX → List V → H → Option (V × H) :=
  fun x env h => fin F.withylaw15_awake x env h

def withylaw15_awake_K1 (M : Env) : AX → List V → H → Option (V × H) :=
  fun x env h => match x with | .normal => evalC M F.withylaw15_awake_c0 env h (fun x env h => withylaw15_awake_K0 M x env h) | x => withylaw15_awake_K0 M x env h

def withylaw15_awake_K2 (M : Env) : AX → List V → H → Option (V × H) :=
  fun x env h => match x with | .exit j => (match Nat.beq j 0 with | true => withylaw15_awake_K1 M .normal env h | false => withylaw15_awake_K1 M (.exit j) env h) | x => withylaw15_awake_K1 M x env h

def withylaw15_awake (M : Env) (h : H) : Option (V × H) :=
  let h0 := h.new (.cells [(.int .i64 0), (.int .i64 0), (.int .i64 0), (.int .i64 0), (.int .i64 0), (.int .i64 0)] .rw)
  (h0.st 6 (.ptr h.next 0) (.agg [(.int .i64 3), (.int .i64 1), (.int .i64 1), (.int .i64 1), (.int .i64 9), (.int .i64 0)])).bind fun h1 =>
  (h1.ldN 6 (.ptr h.next 0)).bind fun v2 =>
  (M.call 213 [v2] h1).bind fun p3 =>
  (p3.2.ldN 6 (.ptr h.next 0)).bind fun v4 =>
  (M.call 214 [v4] p3.2).bind fun p5 =>
  (eqV .ptr p3.1 .nilp).bind fun b6 =>
  match b6 with
  | true => (
    some ((.bool false), p5.2))
  | false => (
    (eqV .ptr p5.1 .nilp).bind fun b7 =>
    match b7 with
    | true => (
      some ((.bool false), p5.2))
    | false => (
      (M.loop (withylaw15_awake_c1_B M) (withylaw15_awake_c1_E (.ptr h.next 0) p3.1 p5.1 (.int .i64 0)) p5.2).bind fun p8 => withylaw15_awake_K2 M p8.1 p8.2.1 p8.2.2))

def withylaw15_awake_c1_S (M : Env) (x1 : V) (x2 : V) (x3 : V) (x4 : Int) (h : H) : Option (AX × List V × H) :=
  (h.ldN 6 x1).bind fun v0 =>
  (M.call 210 [v0] h).bind fun p1 =>
  (asI .i64 p1.1).bind fun n2 =>
  match (decide (x4 < n2)) with
  | true => (
    (M.call 215 [x3, x2] p1.2).bind fun p3 =>
    (asB p3.1).bind fun b4 =>
    match b4 with
    | true => (
      some (.ret, (withylaw15_awake_c1_O (.bool false) x3), p3.2))
    | false => (
      some (.normal, (withylaw15_awake_c1_E x1 x2 x3 (.int .i64 (wr .i64 (x4 + 1)))), p3.2)))
  | false => (
    some ((.exit 0), (withylaw15_awake_c1_O .dead x3), p1.2))

def withylaw15_awake_c1_e0 (M : Env) (x0 : V) (x3 : V) (h : H) : Option (V × H) :=
  (nilc x3).bind fun v0 =>
  (ptrAt v0 1).bind fun v1 =>
  (h.ld1 v1).bind fun v2 =>
  (asI .i64 v2).bind fun n3 =>
  match (decide (1 ≤ n3)) with
  | true => (
    (nilc x3).bind fun v4 =>
    (ptrAt v4 0).bind fun v5 =>
    (h.ld1 v5).bind fun v6 =>
    (asI .u64 v6).bind fun n7 =>
    some ((.bool (decide (4 ≤ n7))), h))
  | false => (
    some ((.bool false), h))

def withylaw15_awake_c1_r (M : Env) (x0 : Bool) (x3 : V) (h : H) : Option (V × H) :=
  some ((.bool x0), h)

theorem withylaw15_awake_eq (M : Env) (h : H) : evalF M F.withylaw15_awake [] h = withylaw15_awake M h := by kernel_rfl

theorem withylaw15_awake_c1_eq (M : Env) (x1 : V) (x2 : V) (x3 : V) (x4 : Int) (h : H) : withylaw15_awake_c1_B M (withylaw15_awake_c1_E x1 x2 x3 (.int .i64 x4)) h = withylaw15_awake_c1_S M x1 x2 x3 x4 h := by kernel_rfl

theorem withylaw15_awake_c1_e0_eq (M : Env) (x0 : V) (x3 : V) (h : H) : withylaw15_awake_K2 M (.exit 0) (withylaw15_awake_c1_O x0 x3) h = withylaw15_awake_c1_e0 M x0 x3 h := by kernel_rfl

theorem withylaw15_awake_c1_r_eq (M : Env) (x0 : Bool) (x3 : V) (h : H) : withylaw15_awake_K2 M .ret (withylaw15_awake_c1_O (.bool x0) x3) h = withylaw15_awake_c1_r M x0 x3 h := by kernel_rfl

end Wm.S
end

section
/- PRINTED by my tool (wip/wm/tool/Gen.lean): what a function comes to, stretch by stretch. -/
namespace Wm.S
open Wm
set_option maxRecDepth 100000
set_option linter.unusedVariables false


def withylaw15_CollectBounds (M : Env) (a0_0 : Int) (a0_1 : Int) (a0_2 : Int) (a0_3 : Int) (a0_4 : Int) (a0_5 : Int) (h : H) : Option (V × H) :=
  let h0 := h.new (.cells [(.int .i64 a0_0), (.int .i64 a0_1), (.int .i64 a0_2), (.int .i64 a0_3), (.int .i64 a0_4), (.int .i64 a0_5)] .rw)
  (h0.ldN 6 (.ptr h.next 0)).bind fun v1 =>
  (h0.ldN 6 (.ptr h.next 0)).bind fun v2 =>
  (M.call 210 [v1] h0).bind fun p3 =>
  match ckB (p3.2.ldN 6 (.ptr h.next 0)) v2 with
  | true => (
  (M.call 211 [v2] p3.2).bind fun p4 =>
  (asI .i64 p3.1).bind fun n5 =>
  (asI .i64 p4.1).bind fun n6 =>
  match (decide (n5 = n6)) with
  | true => (
    (M.call 212 [] p4.2).bind fun p7 =>
    some (p7.1, p7.2))
  | false => (
    some ((.bool false), p4.2)))
  | false => none

theorem withylaw15_CollectBounds_eq (M : Env) (a0_0 : Int) (a0_1 : Int) (a0_2 : Int) (a0_3 : Int) (a0_4 : Int) (a0_5 : Int) (h : H) : evalF M F.withylaw15_CollectBounds [(.agg [(.int .i64 a0_0), (.int .i64 a0_1), (.int .i64 a0_2), (.int .i64 a0_3), (.int .i64 a0_4), (.int .i64 a0_5)])] h = withylaw15_CollectBounds M a0_0 a0_1 a0_2 a0_3 a0_4 a0_5 h := by kernel_rfl

end Wm.S
end

