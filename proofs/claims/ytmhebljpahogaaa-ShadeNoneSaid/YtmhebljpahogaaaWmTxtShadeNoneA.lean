/- PRINTED by my tool: what functions come to, stretch by stretch. -/
import Derived.KernelRfl
import Derived.Test.YtmhebljpahogaaaWmShal
import Derived.Test.YtmhebljpahogaaaWmFnsShadeNoneA
set_option linter.all false
section
/- PRINTED by my tool (wip/wm/tool/Gen.lean): what a function comes to, stretch by stretch. -/
namespace Wm.S
open Wm
set_option maxRecDepth 100000
set_option linter.unusedVariables false


def plan_between (M : Env) (a0 : Int) (a1 : Int) (a2 : Int) (h : H) : Option (V × H) :=
  match (decide (a1 ≤ a0)) with
  | true => (
    some ((.bool (decide (a0 ≤ a2))), h))
  | false => (
    some ((.bool false), h))

theorem plan_between_eq (M : Env) (a0 : Int) (a1 : Int) (a2 : Int) (h : H) : evalF M F.plan_between [(.int .i64 a0), (.int .i64 a1), (.int .i64 a2)] h = plan_between M a0 a1 a2 h := by kernel_rfl

end Wm.S
end

section
/- PRINTED by my tool (wip/wm/tool/Gen.lean): what a function comes to, stretch by stretch. -/
namespace Wm.S
open Wm
set_option maxRecDepth 100000
set_option linter.unusedVariables false


def plan_Right (M : Env) (a0_0 : Int) (a0_1 : Int) (a0_2 : Int) (a0_3 : Int) (a0_4 : Int) (a0_5 : Int) (h : H) : Option (V × H) :=
  let h0 := h.new (.cells [(.int .i64 a0_0), (.int .i64 a0_1), (.int .i64 a0_2), (.int .i64 a0_3), (.int .i64 a0_4), (.int .i64 a0_5)] .rw)
  (h0.ld1 (.ptr h.next 0)).bind fun v1 =>
  (M.call 376 [v1, (.int .i64 1), (.int .i64 64)] h0).bind fun p2 =>
  match p2.1 with
  | .bool true => (
    (p2.2.ld1 (.ptr h.next 1)).bind fun v3 =>
    (M.call 376 [v3, (.int .i64 0), (.int .i64 8)] p2.2).bind fun p4 =>
    match p4.1 with
    | .bool true => (
      (p4.2.ld1 (.ptr h.next 2)).bind fun v5 =>
      (M.call 376 [v5, (.int .i64 1), (.int .i64 8)] p4.2).bind fun p6 =>
      match p6.1 with
      | .bool true => (
        (p6.2.ld1 (.ptr h.next 3)).bind fun v7 =>
        (M.call 376 [v7, (.int .i64 1), (.int .i64 16)] p6.2).bind fun p8 =>
        match p8.1 with
        | .bool true => (
          (p8.2.ld1 (.ptr h.next 4)).bind fun v9 =>
          (M.call 376 [v9, (.int .i64 1), (.int .i64 1048576)] p8.2).bind fun p10 =>
          match p10.1 with
          | .bool true => (
            (p10.2.ld1 (.ptr h.next 5)).bind fun v11 =>
            (M.call 376 [v11, (.int .i64 0), (.int .i64 64)] p10.2).bind fun p12 =>
            some (p12.1, p12.2))
          | .bool false => (
            some ((.bool false), p10.2))
          | .tup [] => (
            (asB p10.1).bind fun b11 =>
            some ((match b11 with | true => (.tup []) | false => (.bool false) : V), p10.2))
          | _ => none)
        | .bool false => (
          some ((.bool false), p8.2))
        | .tup [] => (
          (asB p8.1).bind fun b9 =>
          match (match b9 with | true => (.tup []) | false => (.bool false) : V) with
          | .bool true => (
            (p8.2.ld1 (.ptr h.next 5)).bind fun v10 =>
            (M.call 376 [v10, (.int .i64 0), (.int .i64 64)] p8.2).bind fun p11 =>
            some (p11.1, p11.2))
          | .bool false => (
            some ((.bool false), p8.2))
          | .tup [] => (
            (asB (match b9 with | true => (.tup []) | false => (.bool false) : V)).bind fun b10 =>
            some ((match b10 with | true => (.tup []) | false => (.bool false) : V), p8.2))
          | _ => none)
        | _ => none)
      | .bool false => (
        some ((.bool false), p6.2))
      | .tup [] => (
        (asB p6.1).bind fun b7 =>
        match (match b7 with | true => (.tup []) | false => (.bool false) : V) with
        | .bool true => (
          (p6.2.ld1 (.ptr h.next 4)).bind fun v8 =>
          (M.call 376 [v8, (.int .i64 1), (.int .i64 1048576)] p6.2).bind fun p9 =>
          match p9.1 with
          | .bool true => (
            (p9.2.ld1 (.ptr h.next 5)).bind fun v10 =>
            (M.call 376 [v10, (.int .i64 0), (.int .i64 64)] p9.2).bind fun p11 =>
            some (p11.1, p11.2))
          | .bool false => (
            some ((.bool false), p9.2))
          | .tup [] => (
            (asB p9.1).bind fun b10 =>
            some ((match b10 with | true => (.tup []) | false => (.bool false) : V), p9.2))
          | _ => none)
        | .bool false => (
          some ((.bool false), p6.2))
        | .tup [] => (
          (asB (match b7 with | true => (.tup []) | false => (.bool false) : V)).bind fun b8 =>
          match (match b8 with | true => (.tup []) | false => (.bool false) : V) with
          | .bool true => (
            (p6.2.ld1 (.ptr h.next 5)).bind fun v9 =>
            (M.call 376 [v9, (.int .i64 0), (.int .i64 64)] p6.2).bind fun p10 =>
            some (p10.1, p10.2))
          | .bool false => (
            some ((.bool false), p6.2))
          | .tup [] => (
            (asB (match b8 with | true => (.tup []) | false => (.bool false) : V)).bind fun b9 =>
            some ((match b9 with | true => (.tup []) | false => (.bool false) : V), p6.2))
          | _ => none)
        | _ => none)
      | _ => none)
    | .bool false => (
      some ((.bool false), p4.2))
    | .tup [] => (
      (asB p4.1).bind fun b5 =>
      match (match b5 with | true => (.tup []) | false => (.bool false) : V) with
      | .bool true => (
        (p4.2.ld1 (.ptr h.next 3)).bind fun v6 =>
        (M.call 376 [v6, (.int .i64 1), (.int .i64 16)] p4.2).bind fun p7 =>
        match p7.1 with
        | .bool true => (
          (p7.2.ld1 (.ptr h.next 4)).bind fun v8 =>
          (M.call 376 [v8, (.int .i64 1), (.int .i64 1048576)] p7.2).bind fun p9 =>
          match p9.1 with
          | .bool true => (
            (p9.2.ld1 (.ptr h.next 5)).bind fun v10 =>
            (M.call 376 [v10, (.int .i64 0), (.int .i64 64)] p9.2).bind fun p11 =>
            some (p11.1, p11.2))
          | .bool false => (
            some ((.bool false), p9.2))
          | .tup [] => (
            (asB p9.1).bind fun b10 =>
            some ((match b10 with | true => (.tup []) | false => (.bool false) : V), p9.2))
          | _ => none)
        | .bool false => (
          some ((.bool false), p7.2))
        | .tup [] => (
          (asB p7.1).bind fun b8 =>
          match (match b8 with | true => (.tup []) | false => (.bool false) : V) with
          | .bool true => (
            (p7.2.ld1 (.ptr h.next 5)).bind fun v9 =>
            (M.call 376 [v9, (.int .i64 0), (.int .i64 64)] p7.2).bind fun p10 =>
            some (p10.1, p10.2))
          | .bool false => (
            some ((.bool false), p7.2))
          | .tup [] => (
            (asB (match b8 with | true => (.tup []) | false => (.bool false) : V)).bind fun b9 =>
            some ((match b9 with | true => (.tup []) | false => (.bool false) : V), p7.2))
          | _ => none)
        | _ => none)
      | .bool false => (
        some ((.bool false), p4.2))
      | .tup [] => (
        (asB (match b5 with | true => (.tup []) | false => (.bool false) : V)).bind fun b6 =>
        match (match b6 with | true => (.tup []) | false => (.bool false) : V) with
        | .bool true => (
          (p4.2.ld1 (.ptr h.next 4)).bind fun v7 =>
          (M.call 376 [v7, (.int .i64 1), (.int .i64 1048576)] p4.2).bind fun p8 =>
          match p8.1 with
          | .bool true => (
            (p8.2.ld1 (.ptr h.next 5)).bind fun v9 =>
            (M.call 376 [v9, (.int .i64 0), (.int .i64 64)] p8.2).bind fun p10 =>
            some (p10.1, p10.2))
          | .bool false => (
            some ((.bool false), p8.2))
          | .tup [] => (
            (asB p8.1).bind fun b9 =>
            some ((match b9 with | true => (.tup []) | false => (.bool false) : V), p8.2))
          | _ => none)
        | .bool false => (
          some ((.bool false), p4.2))
        | .tup [] => (
          (asB (match b6 with | true => (.tup []) | false => (.bool false) : V)).bind fun b7 =>
          match (match b7 with | true => (.tup []) | false => (.bool false) : V) with
          | .bool true => (
            (p4.2.ld1 (.ptr h.next 5)).bind fun v8 =>
            (M.call 376 [v8, (.int .i64 0), (.int .i64 64)] p4.2).bind fun p9 =>
            some (p9.1, p9.2))
          | .bool false => (
            some ((.bool false), p4.2))
          | .tup [] => (
            (asB (match b7 with | true => (.tup []) | false => (.bool false) : V)).bind fun b8 =>
            some ((match b8 with | true => (.tup []) | false => (.bool false) : V), p4.2))
          | _ => none)
        | _ => none)
      | _ => none)
    | _ => none)
  | .bool false => (
    some ((.bool false), p2.2))
  | .tup [] => (
    (asB p2.1).bind fun b3 =>
    match (match b3 with | true => (.tup []) | false => (.bool false) : V) with
    | .bool true => (
      (p2.2.ld1 (.ptr h.next 2)).bind fun v4 =>
      (M.call 376 [v4, (.int .i64 1), (.int .i64 8)] p2.2).bind fun p5 =>
      match p5.1 with
      | .bool true => (
        (p5.2.ld1 (.ptr h.next 3)).bind fun v6 =>
        (M.call 376 [v6, (.int .i64 1), (.int .i64 16)] p5.2).bind fun p7 =>
        match p7.1 with
        | .bool true => (
          (p7.2.ld1 (.ptr h.next 4)).bind fun v8 =>
          (M.call 376 [v8, (.int .i64 1), (.int .i64 1048576)] p7.2).bind fun p9 =>
          match p9.1 with
          | .bool true => (
            (p9.2.ld1 (.ptr h.next 5)).bind fun v10 =>
            (M.call 376 [v10, (.int .i64 0), (.int .i64 64)] p9.2).bind fun p11 =>
            some (p11.1, p11.2))
          | .bool false => (
            some ((.bool false), p9.2))
          | .tup [] => (
            (asB p9.1).bind fun b10 =>
            some ((match b10 with | true => (.tup []) | false => (.bool false) : V), p9.2))
          | _ => none)
        | .bool false => (
          some ((.bool false), p7.2))
        | .tup [] => (
          (asB p7.1).bind fun b8 =>
          match (match b8 with | true => (.tup []) | false => (.bool false) : V) with
          | .bool true => (
            (p7.2.ld1 (.ptr h.next 5)).bind fun v9 =>
            (M.call 376 [v9, (.int .i64 0), (.int .i64 64)] p7.2).bind fun p10 =>
            some (p10.1, p10.2))
          | .bool false => (
            some ((.bool false), p7.2))
          | .tup [] => (
            (asB (match b8 with | true => (.tup []) | false => (.bool false) : V)).bind fun b9 =>
            some ((match b9 with | true => (.tup []) | false => (.bool false) : V), p7.2))
          | _ => none)
        | _ => none)
      | .bool false => (
        some ((.bool false), p5.2))
      | .tup [] => (
        (asB p5.1).bind fun b6 =>
        match (match b6 with | true => (.tup []) | false => (.bool false) : V) with
        | .bool true => (
          (p5.2.ld1 (.ptr h.next 4)).bind fun v7 =>
          (M.call 376 [v7, (.int .i64 1), (.int .i64 1048576)] p5.2).bind fun p8 =>
          match p8.1 with
          | .bool true => (
            (p8.2.ld1 (.ptr h.next 5)).bind fun v9 =>
            (M.call 376 [v9, (.int .i64 0), (.int .i64 64)] p8.2).bind fun p10 =>
            some (p10.1, p10.2))
          | .bool false => (
            some ((.bool false), p8.2))
          | .tup [] => (
            (asB p8.1).bind fun b9 =>
            some ((match b9 with | true => (.tup []) | false => (.bool false) : V), p8.2))
          | _ => none)
        | .bool false => (
          some ((.bool false), p5.2))
        | .tup [] => (
          (asB (match b6 with | true => (.tup []) | false => (.bool false) : V)).bind fun b7 =>
          match (match b7 with | true => (.tup []) | false => (.bool false) : V) with
          | .bool true => (
            (p5.2.ld1 (.ptr h.next 5)).bind fun v8 =>
            (M.call 376 [v8, (.int .i64 0), (.int .i64 64)] p5.2).bind fun p9 =>
            some (p9.1, p9.2))
          | .bool false => (
            some ((.bool false), p5.2))
          | .tup [] => (
            (asB (match b7 with | true => (.tup []) | false => (.bool false) : V)).bind fun b8 =>
            some ((match b8 with | true => (.tup []) | false => (.bool false) : V), p5.2))
          | _ => none)
        | _ => none)
      | _ => none)
    | .bool false => (
      some ((.bool false), p2.2))
    | .tup [] => (
      (asB (match b3 with | true => (.tup []) | false => (.bool false) : V)).bind fun b4 =>
      match (match b4 with | true => (.tup []) | false => (.bool false) : V) with
      | .bool true => (
        (p2.2.ld1 (.ptr h.next 3)).bind fun v5 =>
        (M.call 376 [v5, (.int .i64 1), (.int .i64 16)] p2.2).bind fun p6 =>
        match p6.1 with
        | .bool true => (
          (p6.2.ld1 (.ptr h.next 4)).bind fun v7 =>
          (M.call 376 [v7, (.int .i64 1), (.int .i64 1048576)] p6.2).bind fun p8 =>
          match p8.1 with
          | .bool true => (
            (p8.2.ld1 (.ptr h.next 5)).bind fun v9 =>
            (M.call 376 [v9, (.int .i64 0), (.int .i64 64)] p8.2).bind fun p10 =>
            some (p10.1, p10.2))
          | .bool false => (
            some ((.bool false), p8.2))
          | .tup [] => (
            (asB p8.1).bind fun b9 =>
            some ((match b9 with | true => (.tup []) | false => (.bool false) : V), p8.2))
          | _ => none)
        | .bool false => (
          some ((.bool false), p6.2))
        | .tup [] => (
          (asB p6.1).bind fun b7 =>
          match (match b7 with | true => (.tup []) | false => (.bool false) : V) with
          | .bool true => (
            (p6.2.ld1 (.ptr h.next 5)).bind fun v8 =>
            (M.call 376 [v8, (.int .i64 0), (.int .i64 64)] p6.2).bind fun p9 =>
            some (p9.1, p9.2))
          | .bool false => (
            some ((.bool false), p6.2))
          | .tup [] => (
            (asB (match b7 with | true => (.tup []) | false => (.bool false) : V)).bind fun b8 =>
            some ((match b8 with | true => (.tup []) | false => (.bool false) : V), p6.2))
          | _ => none)
        | _ => none)
      | .bool false => (
        some ((.bool false), p2.2))
      | .tup [] => (
        (asB (match b4 with | true => (.tup []) | false => (.bool false) : V)).bind fun b5 =>
        match (match b5 with | true => (.tup []) | false => (.bool false) : V) with
        | .bool true => (
          (p2.2.ld1 (.ptr h.next 4)).bind fun v6 =>
          (M.call 376 [v6, (.int .i64 1), (.int .i64 1048576)] p2.2).bind fun p7 =>
          match p7.1 with
          | .bool true => (
            (p7.2.ld1 (.ptr h.next 5)).bind fun v8 =>
            (M.call 376 [v8, (.int .i64 0), (.int .i64 64)] p7.2).bind fun p9 =>
            some (p9.1, p9.2))
          | .bool false => (
            some ((.bool false), p7.2))
          | .tup [] => (
            (asB p7.1).bind fun b8 =>
            some ((match b8 with | true => (.tup []) | false => (.bool false) : V), p7.2))
          | _ => none)
        | .bool false => (
          some ((.bool false), p2.2))
        | .tup [] => (
          (asB (match b5 with | true => (.tup []) | false => (.bool false) : V)).bind fun b6 =>
          match (match b6 with | true => (.tup []) | false => (.bool false) : V) with
          | .bool true => (
            (p2.2.ld1 (.ptr h.next 5)).bind fun v7 =>
            (M.call 376 [v7, (.int .i64 0), (.int .i64 64)] p2.2).bind fun p8 =>
            some (p8.1, p8.2))
          | .bool false => (
            some ((.bool false), p2.2))
          | .tup [] => (
            (asB (match b6 with | true => (.tup []) | false => (.bool false) : V)).bind fun b7 =>
            some ((match b7 with | true => (.tup []) | false => (.bool false) : V), p2.2))
          | _ => none)
        | _ => none)
      | _ => none)
    | _ => none)
  | _ => none

theorem plan_Right_eq (M : Env) (a0_0 : Int) (a0_1 : Int) (a0_2 : Int) (a0_3 : Int) (a0_4 : Int) (a0_5 : Int) (h : H) : evalF M F.plan_Right [(.agg [(.int .i64 a0_0), (.int .i64 a0_1), (.int .i64 a0_2), (.int .i64 a0_3), (.int .i64 a0_4), (.int .i64 a0_5)])] h = plan_Right M a0_0 a0_1 a0_2 a0_3 a0_4 a0_5 h := by kernel_rfl

end Wm.S
end

section
/- PRINTED by my tool (wip/wm/tool/Gen.lean): what a function comes to, stretch by stretch. -/
namespace Wm.S
open Wm
set_option maxRecDepth 100000
set_option linter.unusedVariables false


def withyref06_Right (M : Env) (a0_0 : Int) (a0_1 : Int) (a0_2 : Int) (a0_3 : Int) (a0_4 : Int) (a0_5 : Int) (h : H) : Option (V × H) :=
  let h0 := h.new (.cells [(.int .i64 a0_0), (.int .i64 a0_1), (.int .i64 a0_2), (.int .i64 a0_3), (.int .i64 a0_4), (.int .i64 a0_5)] .rw)
  (h0.ld1 (.ptr h.next 0)).bind fun v1 =>
  (asI .i64 v1).bind fun n2 =>
  match (decide (1 ≤ n2)) with
  | true => (
    (h0.ld1 (.ptr h.next 0)).bind fun v3 =>
    (asI .i64 v3).bind fun n4 =>
    match (decide (n4 ≤ 64)) with
    | true => (
      (h0.ld1 (.ptr h.next 1)).bind fun v5 =>
      (asI .i64 v5).bind fun n6 =>
      match (decide (0 ≤ n6)) with
      | true => (
        (h0.ld1 (.ptr h.next 1)).bind fun v7 =>
        (asI .i64 v7).bind fun n8 =>
        match (decide (n8 ≤ 8)) with
        | true => (
          (h0.ld1 (.ptr h.next 2)).bind fun v9 =>
          (asI .i64 v9).bind fun n10 =>
          match (decide (1 ≤ n10)) with
          | true => (
            (h0.ld1 (.ptr h.next 2)).bind fun v11 =>
            (asI .i64 v11).bind fun n12 =>
            match (decide (n12 ≤ 8)) with
            | true => (
              (h0.ld1 (.ptr h.next 3)).bind fun v13 =>
              (asI .i64 v13).bind fun n14 =>
              match (decide (1 ≤ n14)) with
              | true => (
                (h0.ld1 (.ptr h.next 3)).bind fun v15 =>
                (asI .i64 v15).bind fun n16 =>
                match (decide (n16 ≤ 16)) with
                | true => (
                  (h0.ld1 (.ptr h.next 4)).bind fun v17 =>
                  (asI .i64 v17).bind fun n18 =>
                  match (decide (1 ≤ n18)) with
                  | true => (
                    (h0.ld1 (.ptr h.next 4)).bind fun v19 =>
                    (asI .i64 v19).bind fun n20 =>
                    match (decide (n20 ≤ 1048576)) with
                    | true => (
                      (h0.ld1 (.ptr h.next 5)).bind fun v21 =>
                      (asI .i64 v21).bind fun n22 =>
                      match (decide (0 ≤ n22)) with
                      | true => (
                        (h0.ld1 (.ptr h.next 5)).bind fun v23 =>
                        (asI .i64 v23).bind fun n24 =>
                        some ((.bool (decide (n24 ≤ 64))), h0))
                      | false => (
                        some ((.bool false), h0)))
                    | false => (
                      some ((.bool false), h0)))
                  | false => (
                    some ((.bool false), h0)))
                | false => (
                  some ((.bool false), h0)))
              | false => (
                some ((.bool false), h0)))
            | false => (
              some ((.bool false), h0)))
          | false => (
            some ((.bool false), h0)))
        | false => (
          some ((.bool false), h0)))
      | false => (
        some ((.bool false), h0)))
    | false => (
      some ((.bool false), h0)))
  | false => (
    some ((.bool false), h0))

theorem withyref06_Right_eq (M : Env) (a0_0 : Int) (a0_1 : Int) (a0_2 : Int) (a0_3 : Int) (a0_4 : Int) (a0_5 : Int) (h : H) : evalF M F.withyref06_Right [(.agg [(.int .i64 a0_0), (.int .i64 a0_1), (.int .i64 a0_2), (.int .i64 a0_3), (.int .i64 a0_4), (.int .i64 a0_5)])] h = withyref06_Right M a0_0 a0_1 a0_2 a0_3 a0_4 a0_5 h := by kernel_rfl

end Wm.S
end

section
/- PRINTED by my tool (wip/wm/tool/Gen.lean): what a function comes to, stretch by stretch. -/
namespace Wm.S
open Wm
set_option maxRecDepth 100000
set_option linter.unusedVariables false


def shade_Shade_Step (M : Env) (a0 : V) (a1 : V) (h : H) : Option (V × H) :=
  (eqV .ptr a0 .nilp).bind fun b0 =>
  match b0 with
  | true => (
    some ((.bool true), h))
  | false => (
    (nilc a0).bind fun v1 =>
    (ptrAt v1 3).bind fun v2 =>
    (h.ld1 v2).bind fun v3 =>
    (asI .i64 v3).bind fun n4 =>
    match (decide (n4 = 0)) with
    | true => (
      (nilc a0).bind fun v5 =>
      (ptrAt v5 1).bind fun v6 =>
      (h.ld1 v6).bind fun v7 =>
      (M.call 266 [a1, v7] h).bind fun p8 =>
      (nilc a0).bind fun v9 =>
      (ptrAt v9 4).bind fun v10 =>
      (p8.2.st 1 v10 p8.1).bind fun h11 =>
      (nilc a0).bind fun v12 =>
      (ptrAt v12 3).bind fun v13 =>
      (h11.st 1 v13 (.int .i64 1)).bind fun h14 =>
      (nilc a0).bind fun v15 =>
      (ptrAt v15 4).bind fun v16 =>
      (h14.ld1 v16).bind fun v17 =>
      (nilc a0).bind fun v18 =>
      (ptrAt v18 2).bind fun v19 =>
      (h14.ld1 v19).bind fun v20 =>
      (M.call 267 [v17, v20] h14).bind fun p21 =>
      match p21.1 with
      | .tup vs22 => ((vs22[0]?).bind fun v23 =>
      match p21.1 with
      | .tup vs24 => ((vs24[1]?).bind fun v25 =>
      (asB v25).bind fun b26 =>
      match (!b26) with
      | true => (
        (nilc a0).bind fun v27 =>
        (ptrAt v27 3).bind fun v28 =>
        (p21.2.st 1 v28 (.int .i64 4)).bind fun h29 =>
        (nilc a0).bind fun v30 =>
        (ptrAt v30 3).bind fun v31 =>
        (h29.ld1 v31).bind fun v32 =>
        (asI .i64 v32).bind fun n33 =>
        some ((.bool (decide (n33 = 4))), h29))
      | false => (
        (nilc a0).bind fun v27 =>
        (ptrAt v27 3).bind fun v28 =>
        (p21.2.ld1 v28).bind fun v29 =>
        (asI .i64 v29).bind fun n30 =>
        some ((.bool (decide (n30 = 4))), p21.2)))
      | _ => none)
      | _ => none)
    | false => (
      (asI .i64 v3).bind fun n5 =>
      match (decide (n5 = 1)) with
      | true => (
        (M.call 268 [a1, (.int .i64 2), (.int .u64 1)] h).bind fun p6 =>
        (nilc a0).bind fun v7 =>
        (ptrAt v7 3).bind fun v8 =>
        (p6.2.st 1 v8 (.int .i64 2)).bind fun h9 =>
        (nilc a0).bind fun v10 =>
        (ptrAt v10 3).bind fun v11 =>
        (h9.ld1 v11).bind fun v12 =>
        (asI .i64 v12).bind fun n13 =>
        some ((.bool (decide (n13 = 4))), h9))
      | false => (
        (asI .i64 v3).bind fun n6 =>
        match (decide (n6 = 2)) with
        | true => (
          (nilc a0).bind fun v7 =>
          (ptrAt v7 4).bind fun v8 =>
          (h.ld1 v8).bind fun v9 =>
          (nilc a0).bind fun v10 =>
          (ptrAt v10 2).bind fun v11 =>
          (h.ld1 v11).bind fun v12 =>
          (M.call 267 [v9, v12] h).bind fun p13 =>
          match p13.1 with
          | .tup vs14 => ((vs14[0]?).bind fun v15 =>
          match p13.1 with
          | .tup vs16 => ((vs16[1]?).bind fun v17 =>
          (nilc a0).bind fun v18 =>
          (ptrAt v18 3).bind fun v19 =>
          (p13.2.st 1 v19 (.int .i64 3)).bind fun h20 =>
          (nilc a0).bind fun v21 =>
          (ptrAt v21 1).bind fun v22 =>
          (h20.ld1 v22).bind fun v23 =>
          (nilc a0).bind fun v24 =>
          (ptrAt v24 4).bind fun v25 =>
          (h20.ld1 v25).bind fun v26 =>
          (M.call 269 [a1, v23, v26, v15] h20).bind fun p27 =>
          (asB p27.1).bind fun b28 =>
          match b28 with
          | true => (
            (nilc a0).bind fun v29 =>
            (ptrAt v29 0).bind fun v30 =>
            (p27.2.st 1 v30 (.bool true)).bind fun h31 =>
            (nilc a0).bind fun v32 =>
            (ptrAt v32 3).bind fun v33 =>
            (h31.st 1 v33 (.int .i64 4)).bind fun h34 =>
            (nilc a0).bind fun v35 =>
            (ptrAt v35 3).bind fun v36 =>
            (h34.ld1 v36).bind fun v37 =>
            (asI .i64 v37).bind fun n38 =>
            some ((.bool (decide (n38 = 4))), h34))
          | false => (
            (nilc a0).bind fun v29 =>
            (ptrAt v29 3).bind fun v30 =>
            (p27.2.ld1 v30).bind fun v31 =>
            (asI .i64 v31).bind fun n32 =>
            some ((.bool (decide (n32 = 4))), p27.2)))
          | _ => none)
          | _ => none)
        | false => (
          (asI .i64 v3).bind fun n7 =>
          match (decide (n7 = 3)) with
          | true => (
            (M.call 268 [a1, (.int .i64 2), (.int .u64 18446744073709551615)] h).bind fun p8 =>
            (nilc a0).bind fun v9 =>
            (ptrAt v9 3).bind fun v10 =>
            (p8.2.st 1 v10 (.int .i64 0)).bind fun h11 =>
            (nilc a0).bind fun v12 =>
            (ptrAt v12 3).bind fun v13 =>
            (h11.ld1 v13).bind fun v14 =>
            (asI .i64 v14).bind fun n15 =>
            some ((.bool (decide (n15 = 4))), h11))
          | false => (
            (nilc a0).bind fun v8 =>
            (ptrAt v8 3).bind fun v9 =>
            (h.ld1 v9).bind fun v10 =>
            (asI .i64 v10).bind fun n11 =>
            some ((.bool (decide (n11 = 4))), h))))))

theorem shade_Shade_Step_eq (M : Env) (a0 : V) (a1 : V) (h : H) : evalF M F.shade_Shade_Step [a0, a1] h = shade_Shade_Step M a0 a1 h := by kernel_rfl

end Wm.S
end

section
/- PRINTED by my tool (wip/wm/tool/Gen.lean): what a function comes to, stretch by stretch. -/
namespace Wm.S
open Wm
set_option maxRecDepth 100000
set_option linter.unusedVariables false


def plan_Header (M : Env) (a0_0 : Int) (a0_1 : Int) (a0_2 : Int) (a0_3 : Int) (a0_4 : Int) (a0_5 : Int) (a1 : Int) (h : H) : Option (V × H) :=
  let h0 := h.new (.cells [(.int .i64 a0_0), (.int .i64 a0_1), (.int .i64 a0_2), (.int .i64 a0_3), (.int .i64 a0_4), (.int .i64 a0_5)] .rw)
  (h0.ldN 6 (.ptr h.next 0)).bind fun v1 =>
  (M.call 375 [v1, (.int .i64 a1), (.int .i64 0)] h0).bind fun p2 =>
  some (p2.1, p2.2)

theorem plan_Header_eq (M : Env) (a0_0 : Int) (a0_1 : Int) (a0_2 : Int) (a0_3 : Int) (a0_4 : Int) (a0_5 : Int) (a1 : Int) (h : H) : evalF M F.plan_Header [(.agg [(.int .i64 a0_0), (.int .i64 a0_1), (.int .i64 a0_2), (.int .i64 a0_3), (.int .i64 a0_4), (.int .i64 a0_5)]), (.int .i64 a1)] h = plan_Header M a0_0 a0_1 a0_2 a0_3 a0_4 a0_5 a1 h := by kernel_rfl

end Wm.S
end

section
/- PRINTED by my tool (wip/wm/tool/Gen.lean): what a function comes to, stretch by stretch. -/
namespace Wm.S
open Wm
set_option maxRecDepth 100000
set_option linter.unusedVariables false


def plan_within (M : Env) (a0_0 : Int) (a0_1 : Int) (a0_2 : Int) (a0_3 : Int) (a0_4 : Int) (a0_5 : Int) (a1 : Int) (a2 : Int) (h : H) : Option (V × H) :=
  let h0 := h.new (.cells [(.int .i64 a0_0), (.int .i64 a0_1), (.int .i64 a0_2), (.int .i64 a0_3), (.int .i64 a0_4), (.int .i64 a0_5)] .rw)
  (h0.ldN 6 (.ptr h.next 0)).bind fun v1 =>
  (M.call 263 [v1] h0).bind fun p2 =>
  (asB p2.1).bind fun b3 =>
  match (!b3) with
  | true => (
    some ((.int .i64 (-1)), p2.2))
  | false => (
    (p2.2.ld1 (.ptr h.next 0)).bind fun v4 =>
    (asI .i64 v4).bind fun n5 =>
    (M.call 376 [(.int .i64 a1), (.int .i64 0), (.int .i64 (wr .i64 (n5 - 1)))] p2.2).bind fun p6 =>
    (asB p6.1).bind fun b7 =>
    match (!b7) with
    | true => (
      some ((.int .i64 (-1)), p6.2))
    | false => (
      (p6.2.ldN 6 (.ptr h.next 0)).bind fun v8 =>
      (M.call 378 [v8] p6.2).bind fun p9 =>
      (asI .i64 p9.1).bind fun n10 =>
      (M.call 376 [(.int .i64 a2), (.int .i64 0), (.int .i64 (wr .i64 (n10 - 1)))] p9.2).bind fun p11 =>
      (asB p11.1).bind fun b12 =>
      match (!b12) with
      | true => (
        some ((.int .i64 (-1)), p11.2))
      | false => (
        (p11.2.ldN 6 (.ptr h.next 0)).bind fun v13 =>
        (p11.2.ldN 6 (.ptr h.next 0)).bind fun v14 =>
        (M.call 377 [v13] p11.2).bind fun p15 =>
        match ckB (p15.2.ldN 6 (.ptr h.next 0)) v14 with
        | true => (
        (M.call 378 [v14] p15.2).bind fun p16 =>
        (asI .i64 p16.1).bind fun n17 =>
        (asI .i64 p15.1).bind fun n18 =>
        some ((.int .i64 (wr .i64 ((wr .i64 (n18 + (wr .i64 (a1 * n17)))) + a2))), p16.2))
        | false => none)))

theorem plan_within_eq (M : Env) (a0_0 : Int) (a0_1 : Int) (a0_2 : Int) (a0_3 : Int) (a0_4 : Int) (a0_5 : Int) (a1 : Int) (a2 : Int) (h : H) : evalF M F.plan_within [(.agg [(.int .i64 a0_0), (.int .i64 a0_1), (.int .i64 a0_2), (.int .i64 a0_3), (.int .i64 a0_4), (.int .i64 a0_5)]), (.int .i64 a1), (.int .i64 a2)] h = plan_within M a0_0 a0_1 a0_2 a0_3 a0_4 a0_5 a1 a2 h := by kernel_rfl

end Wm.S
end

section
/- PRINTED by my tool (wip/wm/tool/Gen.lean): what a function comes to, stretch by stretch. -/
namespace Wm.S
open Wm
set_option maxRecDepth 100000
set_option linter.unusedVariables false


def plan_slots (M : Env) (a0_0 : Int) (a0_1 : Int) (a0_2 : Int) (a0_3 : Int) (a0_4 : Int) (a0_5 : Int) (h : H) : Option (V × H) :=
  let h0 := h.new (.cells [(.int .i64 a0_0), (.int .i64 a0_1), (.int .i64 a0_2), (.int .i64 a0_3), (.int .i64 a0_4), (.int .i64 a0_5)] .rw)
  (h0.ld1 (.ptr h.next 2)).bind fun v1 =>
  (h0.ld1 (.ptr h.next 3)).bind fun v2 =>
  (asI .i64 v2).bind fun n3 =>
  (asI .i64 v1).bind fun n4 =>
  some ((.int .i64 (wr .i64 (4 + (wr .i64 (n4 * (wr .i64 ((wr .i64 (1 + n3)) + 2))))))), h0)

theorem plan_slots_eq (M : Env) (a0_0 : Int) (a0_1 : Int) (a0_2 : Int) (a0_3 : Int) (a0_4 : Int) (a0_5 : Int) (h : H) : evalF M F.plan_slots [(.agg [(.int .i64 a0_0), (.int .i64 a0_1), (.int .i64 a0_2), (.int .i64 a0_3), (.int .i64 a0_4), (.int .i64 a0_5)])] h = plan_slots M a0_0 a0_1 a0_2 a0_3 a0_4 a0_5 h := by kernel_rfl

end Wm.S
end

section
/- PRINTED by my tool (wip/wm/tool/Gen.lean): what a function comes to, stretch by stretch. -/
namespace Wm.S
open Wm
set_option maxRecDepth 100000
set_option linter.unusedVariables false


def plan_room (M : Env) (a0_0 : Int) (a0_1 : Int) (a0_2 : Int) (a0_3 : Int) (a0_4 : Int) (a0_5 : Int) (h : H) : Option (V × H) :=
  let h0 := h.new (.cells [(.int .i64 a0_0), (.int .i64 a0_1), (.int .i64 a0_2), (.int .i64 a0_3), (.int .i64 a0_4), (.int .i64 a0_5)] .rw)
  (h0.ld1 (.ptr h.next 1)).bind fun v1 =>
  (asI .i64 v1).bind fun n2 =>
  some ((.int .i64 (wr .i64 (2 + (max n2 3)))), h0)

theorem plan_room_eq (M : Env) (a0_0 : Int) (a0_1 : Int) (a0_2 : Int) (a0_3 : Int) (a0_4 : Int) (a0_5 : Int) (h : H) : evalF M F.plan_room [(.agg [(.int .i64 a0_0), (.int .i64 a0_1), (.int .i64 a0_2), (.int .i64 a0_3), (.int .i64 a0_4), (.int .i64 a0_5)])] h = plan_room M a0_0 a0_1 a0_2 a0_3 a0_4 a0_5 h := by kernel_rfl

end Wm.S
end

section
/- PRINTED by my tool (wip/wm/tool/Gen.lean): what a function comes to, stretch by stretch. -/
namespace Wm.S
open Wm
set_option maxRecDepth 100000
set_option linter.unusedVariables false


def shade_NewShade (M : Env) (a0_0 : Int) (a0_1 : Int) (a0_2 : Int) (a0_3 : Int) (a0_4 : Int) (a0_5 : Int) (a1 : Int) (a2 : Int) (h : H) : Option (V × H) :=
  let h0 := h.new (.cells [(.int .i64 a0_0), (.int .i64 a0_1), (.int .i64 a0_2), (.int .i64 a0_3), (.int .i64 a0_4), (.int .i64 a0_5)] .rw)
  (h0.ldN 6 (.ptr h.next 0)).bind fun v1 =>
  (M.call 261 [v1, (.int .i64 a1)] h0).bind fun p2 =>
  (asI .i64 p2.1).bind fun n3 =>
  match (decide (n3 < 0)) with
  | true => (
    some (.nilp, p2.2))
  | false => (
    (fill [(.bool false), (.int .i64 0), (.int .u64 0), (.int .i64 0), (.int .u64 0)] [] [(1, 1, .c p2.1), (2, 1, .c (.int .u64 a2))]).bind fun cs4 =>
    (boxc (.agg cs4)).bind fun cs5 =>
    let h6 := p2.2.new (.cells cs5 .rw)
    some ((.ptr p2.2.next 0), h6))

theorem shade_NewShade_eq (M : Env) (a0_0 : Int) (a0_1 : Int) (a0_2 : Int) (a0_3 : Int) (a0_4 : Int) (a0_5 : Int) (a1 : Int) (a2 : Int) (h : H) : evalF M F.shade_NewShade [(.agg [(.int .i64 a0_0), (.int .i64 a0_1), (.int .i64 a0_2), (.int .i64 a0_3), (.int .i64 a0_4), (.int .i64 a0_5)]), (.int .i64 a1), (.int .u64 a2)] h = shade_NewShade M a0_0 a0_1 a0_2 a0_3 a0_4 a0_5 a1 a2 h := by kernel_rfl

end Wm.S
end

section
/- PRINTED by my tool (wip/wm/tool/Gen.lean): what a function comes to, stretch by stretch. -/
namespace Wm.S
open Wm
set_option maxRecDepth 100000
set_option linter.unusedVariables false


def withylaw09_ShadeNone (M : Env) (a0_0 : Int) (a0_1 : Int) (a0_2 : Int) (a0_3 : Int) (a0_4 : Int) (a0_5 : Int) (a1 : Int) (a2 : Int) (h : H) : Option (V × H) :=
  let h0 := h.new (.cells [(.int .i64 a0_0), (.int .i64 a0_1), (.int .i64 a0_2), (.int .i64 a0_3), (.int .i64 a0_4), (.int .i64 a0_5)] .rw)
  (h0.ldN 6 (.ptr h.next 0)).bind fun v1 =>
  (h0.ldN 6 (.ptr h.next 0)).bind fun v2 =>
  (M.call 90 [v1, (.int .i64 a1), (.int .u64 a2)] h0).bind fun p3 =>
  match ckB (p3.2.ldN 6 (.ptr h.next 0)) v2 with
  | true => (
  (eqV .ptr p3.1 .nilp).bind fun b4 =>
  (M.call 85 [v2] p3.2).bind fun p5 =>
  match p5.1 with
  | .bool true => (
    match (decide (0 ≤ a1)) with
    | true => (
      (p5.2.ld1 (.ptr h.next 0)).bind fun v6 =>
      (asI .i64 v6).bind fun n7 =>
      (eqV .bool (.bool (!b4)) (.bool (decide (a1 < n7)))).bind fun b8 =>
      match b8 with
      | true => (
        (M.call 91 [.nilp, .nilp] p5.2).bind fun p9 =>
        match p9.1 with
        | .bool true => (
          (M.call 84 [] p9.2).bind fun p10 =>
          some (p10.1, p10.2))
        | .bool false => (
          some ((.bool false), p9.2))
        | .tup [] => (
          (asB p9.1).bind fun b10 =>
          some ((match b10 with | true => (.tup []) | false => (.bool false) : V), p9.2))
        | _ => none)
      | false => (
        some ((.bool false), p5.2)))
    | false => (
      (eqV .bool (.bool (!b4)) (.bool false)).bind fun b6 =>
      match b6 with
      | true => (
        (M.call 91 [.nilp, .nilp] p5.2).bind fun p7 =>
        match p7.1 with
        | .bool true => (
          (M.call 84 [] p7.2).bind fun p8 =>
          some (p8.1, p8.2))
        | .bool false => (
          some ((.bool false), p7.2))
        | .tup [] => (
          (asB p7.1).bind fun b8 =>
          some ((match b8 with | true => (.tup []) | false => (.bool false) : V), p7.2))
        | _ => none)
      | false => (
        some ((.bool false), p5.2))))
  | .bool false => (
    (eqV .bool (.bool (!b4)) (.bool false)).bind fun b6 =>
    match b6 with
    | true => (
      (M.call 91 [.nilp, .nilp] p5.2).bind fun p7 =>
      match p7.1 with
      | .bool true => (
        (M.call 84 [] p7.2).bind fun p8 =>
        some (p8.1, p8.2))
      | .bool false => (
        some ((.bool false), p7.2))
      | .tup [] => (
        (asB p7.1).bind fun b8 =>
        some ((match b8 with | true => (.tup []) | false => (.bool false) : V), p7.2))
      | _ => none)
    | false => (
      some ((.bool false), p5.2)))
  | .tup [] => (
    (asB p5.1).bind fun b6 =>
    match (match b6 with | true => (.tup []) | false => (.bool false) : V) with
    | .bool true => (
      (p5.2.ld1 (.ptr h.next 0)).bind fun v7 =>
      (asI .i64 v7).bind fun n8 =>
      (eqV .bool (.bool (!b4)) (.bool (decide (a1 < n8)))).bind fun b9 =>
      match b9 with
      | true => (
        (M.call 91 [.nilp, .nilp] p5.2).bind fun p10 =>
        match p10.1 with
        | .bool true => (
          (M.call 84 [] p10.2).bind fun p11 =>
          some (p11.1, p11.2))
        | .bool false => (
          some ((.bool false), p10.2))
        | .tup [] => (
          (asB p10.1).bind fun b11 =>
          some ((match b11 with | true => (.tup []) | false => (.bool false) : V), p10.2))
        | _ => none)
      | false => (
        some ((.bool false), p5.2)))
    | .bool false => (
      (eqV .bool (.bool (!b4)) (.bool false)).bind fun b7 =>
      match b7 with
      | true => (
        (M.call 91 [.nilp, .nilp] p5.2).bind fun p8 =>
        match p8.1 with
        | .bool true => (
          (M.call 84 [] p8.2).bind fun p9 =>
          some (p9.1, p9.2))
        | .bool false => (
          some ((.bool false), p8.2))
        | .tup [] => (
          (asB p8.1).bind fun b9 =>
          some ((match b9 with | true => (.tup []) | false => (.bool false) : V), p8.2))
        | _ => none)
      | false => (
        some ((.bool false), p5.2)))
    | .tup [] => (
      (asB (match b6 with | true => (.tup []) | false => (.bool false) : V)).bind fun b7 =>
      (eqV .bool (.bool (!b4)) (match b7 with | true => (.tup []) | false => (.bool false) : V)).bind fun b8 =>
      match b8 with
      | true => (
        (M.call 91 [.nilp, .nilp] p5.2).bind fun p9 =>
        match p9.1 with
        | .bool true => (
          (M.call 84 [] p9.2).bind fun p10 =>
          some (p10.1, p10.2))
        | .bool false => (
          some ((.bool false), p9.2))
        | .tup [] => (
          (asB p9.1).bind fun b10 =>
          some ((match b10 with | true => (.tup []) | false => (.bool false) : V), p9.2))
        | _ => none)
      | false => (
        some ((.bool false), p5.2)))
    | _ => none)
  | _ => none)
  | false => none

theorem withylaw09_ShadeNone_eq (M : Env) (a0_0 : Int) (a0_1 : Int) (a0_2 : Int) (a0_3 : Int) (a0_4 : Int) (a0_5 : Int) (a1 : Int) (a2 : Int) (h : H) : evalF M F.withylaw09_ShadeNone [(.agg [(.int .i64 a0_0), (.int .i64 a0_1), (.int .i64 a0_2), (.int .i64 a0_3), (.int .i64 a0_4), (.int .i64 a0_5)]), (.int .i64 a1), (.int .u64 a2)] h = withylaw09_ShadeNone M a0_0 a0_1 a0_2 a0_3 a0_4 a0_5 a1 a2 h := by kernel_rfl

end Wm.S
end

