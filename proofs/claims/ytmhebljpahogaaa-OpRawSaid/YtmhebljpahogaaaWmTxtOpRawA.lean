/- PRINTED by my tool: what functions come to, stretch by stretch. -/
import Derived.KernelRfl
import Derived.Test.YtmhebljpahogaaaWmShal
import Derived.Test.YtmhebljpahogaaaWmFnsOpRawA
set_option linter.all false
section
/- PRINTED by my tool (wip/wm/tool/Gen.lean): what a function comes to, stretch by stretch. -/
namespace Wm.S
open Wm
set_option maxRecDepth 100000
set_option linter.unusedVariables false


def op_Value (M : Env) (a0_0 : Int) (a0_1 : Int) (a0_2 : Int) (a1 : Int) (a2 : V) (h : H) : Option (V × H) :=
  let h0 := h.new (.cells [(.int .i64 a0_0), (.int .i64 a0_1), (.int .u64 a0_2)] .rw)
  (h0.ld1 (.ptr h.next 0)).bind fun v1 =>
  (asI .i64 v1).bind fun n2 =>
  match (decide (n2 < 0)) with
  | true => (
    (h0.ld1 (.ptr h.next 2)).bind fun v3 =>
    some (v3, h0))
  | false => (
    (h0.ld1 (.ptr h.next 1)).bind fun v3 =>
    (asI .i64 v3).bind fun n4 =>
    match (decide (n4 < 0)) with
    | true => (
      match (decide (a1 < 0)) with
      | true => (
        some ((.int .u64 0), h0))
      | false => (
        (lenSl a2).bind fun n5 =>
        match (decide (((n5 : Nat) : Int) ≤ a1)) with
        | true => (
          some ((.int .u64 0), h0))
        | false => (
          (h0.ld1 (.ptr h.next 0)).bind fun v6 =>
          (indexAV 1 a2 (.int .i64 a1)).bind fun v7 =>
          (h0.ld1 v7).bind fun v8 =>
          (lenSl v8).bind fun n9 =>
          (asI .i64 v6).bind fun n10 =>
          match (decide (((n9 : Nat) : Int) ≤ n10)) with
          | true => (
            some ((.int .u64 0), h0))
          | false => (
            (indexAV 1 a2 (.int .i64 a1)).bind fun v11 =>
            (h0.ld1 v11).bind fun v12 =>
            (h0.ld1 (.ptr h.next 0)).bind fun v13 =>
            (indexAV 1 v12 v13).bind fun v14 =>
            (h0.ld1 v14).bind fun v15 =>
            some (v15, h0)))))
    | false => (
      (asI .i64 v3).bind fun n5 =>
      match (decide (n5 < 0)) with
      | true => (
        some ((.int .u64 0), h0))
      | false => (
        (lenSl a2).bind fun n6 =>
        (asI .i64 v3).bind fun n7 =>
        match (decide (((n6 : Nat) : Int) ≤ n7)) with
        | true => (
          some ((.int .u64 0), h0))
        | false => (
          (h0.ld1 (.ptr h.next 0)).bind fun v8 =>
          (indexAV 1 a2 v3).bind fun v9 =>
          (h0.ld1 v9).bind fun v10 =>
          (lenSl v10).bind fun n11 =>
          (asI .i64 v8).bind fun n12 =>
          match (decide (((n11 : Nat) : Int) ≤ n12)) with
          | true => (
            some ((.int .u64 0), h0))
          | false => (
            (indexAV 1 a2 v3).bind fun v13 =>
            (h0.ld1 v13).bind fun v14 =>
            (h0.ld1 (.ptr h.next 0)).bind fun v15 =>
            (indexAV 1 v14 v15).bind fun v16 =>
            (h0.ld1 v16).bind fun v17 =>
            some (v17, h0))))))

theorem op_Value_eq (M : Env) (a0_0 : Int) (a0_1 : Int) (a0_2 : Int) (a1 : Int) (a2 : V) (h : H) : evalF M F.op_Value [(.agg [(.int .i64 a0_0), (.int .i64 a0_1), (.int .u64 a0_2)]), (.int .i64 a1), a2] h = op_Value M a0_0 a0_1 a0_2 a1 a2 h := by kernel_rfl

end Wm.S
end

section
/- PRINTED by my tool (wip/wm/tool/Gen.lean): what a function comes to, stretch by stretch. -/
namespace Wm.S
open Wm
set_option maxRecDepth 100000
set_option linter.unusedVariables false


def op_Call (M : Env) (a0_0 : Int) (a0_1 : Int) (a0_2 : Int) (a0_3 : Int) (a0_4 : Int) (a0_5 : Int) (a0_6 : Int) (a0_7 : Int) (a0_8 : Int) (a0_9 : Int) (a0_10 : Int) (a1 : Int) (a2 : V) (h : H) : Option (V × H) :=
  let h0 := h.new (.cells [(.int .i64 a0_0), (.int .i64 a0_1), (.int .i64 a0_2), (.int .i64 a0_3), (.int .u64 a0_4), (.int .i64 a0_5), (.int .i64 a0_6), (.int .u64 a0_7), (.int .i64 a0_8), (.int .i64 a0_9), (.int .u64 a0_10)] .rw)
  let h1 := h0.new (.cells [(.int .i64 0), (.int .i64 0), (.int .u64 0), (.int .u64 0), (.int .u64 0)] .rw)
  (h1.ld1 (.ptr h.next 0)).bind fun v2 =>
  (fill [(.int .i64 0), (.int .i64 0), (.int .u64 0), (.int .u64 0), (.int .u64 0)] [] [(0, 1, .c v2)]).bind fun cs3 =>
  let h4 := h1.new (.cells [(.int .i64 0), (.int .i64 0), (.int .u64 0), (.int .u64 0), (.int .u64 0)] .rw)
  (h4.st 5 (.ptr h1.next 0) (.agg cs3)).bind fun h5 =>
  (h5.ld1 (.ptr h.next 0)).bind fun v6 =>
  (M.call 260 [v6] h5).bind fun p7 =>
  (asB p7.1).bind fun b8 =>
  match b8 with
  | true => (
    (p7.2.ldN 5 (.ptr h1.next 0)).bind fun v9 =>
    (p7.2.st 5 (.ptr h0.next 0) v9).bind fun h10 =>
    finV h10 [.cell true 5 (.ptr h0.next 0)])
  | false => (
    (p7.2.ld1 (.ptr h.next 1)).bind fun v9 =>
    (p7.2.st 1 (.ptr h1.next 1) v9).bind fun h10 =>
    (h10.ld1 (.ptr h.next 0)).bind fun v11 =>
    (asI .i64 v11).bind fun n12 =>
    match (!decide (n12 = 1)) with
    | true => (
      (h10.ldN 3 (.ptr h.next 2)).bind fun v13 =>
      (M.call 78 [v13, (.int .i64 a1), a2] h10).bind fun p14 =>
      (p14.2.st 1 (.ptr h1.next 2) p14.1).bind fun h15 =>
      (h15.ld1 (.ptr h.next 0)).bind fun v16 =>
      (asI .i64 v16).bind fun n17 =>
      match (decide (n17 = 5)) with
      | true => (
        (h15.ldN 3 (.ptr h.next 8)).bind fun v18 =>
        (M.call 78 [v18, (.int .i64 a1), a2] h15).bind fun p19 =>
        (p19.2.st 1 (.ptr h1.next 4) p19.1).bind fun h20 =>
        (h20.ldN 3 (.ptr h.next 5)).bind fun v21 =>
        (M.call 78 [v21, (.int .i64 a1), a2] h20).bind fun p22 =>
        (p22.2.st 1 (.ptr h1.next 3) p22.1).bind fun h23 =>
        (h23.ldN 5 (.ptr h1.next 0)).bind fun v24 =>
        (h23.st 5 (.ptr h0.next 0) v24).bind fun h25 =>
        finV h25 [.cell true 5 (.ptr h0.next 0)])
      | false => (
        (asI .i64 v16).bind fun n18 =>
        match (decide (n18 = 3)) with
        | true => (
          match (decide (n18 = 3)) with
          | true => (
            (h15.ldN 3 (.ptr h.next 5)).bind fun v19 =>
            (M.call 78 [v19, (.int .i64 a1), a2] h15).bind fun p20 =>
            (p20.2.st 1 (.ptr h1.next 3) p20.1).bind fun h21 =>
            (h21.ldN 5 (.ptr h1.next 0)).bind fun v22 =>
            (h21.st 5 (.ptr h0.next 0) v22).bind fun h23 =>
            finV h23 [.cell true 5 (.ptr h0.next 0)])
          | false => (
            (h15.ldN 5 (.ptr h1.next 0)).bind fun v19 =>
            (h15.st 5 (.ptr h0.next 0) v19).bind fun h20 =>
            finV h20 [.cell true 5 (.ptr h0.next 0)]))
        | false => (
          (asI .i64 v16).bind fun n19 =>
          match (decide (n19 = 7)) with
          | true => (
            (h15.ldN 3 (.ptr h.next 5)).bind fun v20 =>
            (M.call 78 [v20, (.int .i64 a1), a2] h15).bind fun p21 =>
            (p21.2.st 1 (.ptr h1.next 3) p21.1).bind fun h22 =>
            (h22.ldN 5 (.ptr h1.next 0)).bind fun v23 =>
            (h22.st 5 (.ptr h0.next 0) v23).bind fun h24 =>
            finV h24 [.cell true 5 (.ptr h0.next 0)])
          | false => (
            (h15.ldN 5 (.ptr h1.next 0)).bind fun v20 =>
            (h15.st 5 (.ptr h0.next 0) v20).bind fun h21 =>
            finV h21 [.cell true 5 (.ptr h0.next 0)]))))
    | false => (
      (h10.ld1 (.ptr h.next 0)).bind fun v13 =>
      (asI .i64 v13).bind fun n14 =>
      match (decide (n14 = 5)) with
      | true => (
        (h10.ldN 3 (.ptr h.next 8)).bind fun v15 =>
        (M.call 78 [v15, (.int .i64 a1), a2] h10).bind fun p16 =>
        (p16.2.st 1 (.ptr h1.next 4) p16.1).bind fun h17 =>
        (h17.ldN 3 (.ptr h.next 5)).bind fun v18 =>
        (M.call 78 [v18, (.int .i64 a1), a2] h17).bind fun p19 =>
        (p19.2.st 1 (.ptr h1.next 3) p19.1).bind fun h20 =>
        (h20.ldN 5 (.ptr h1.next 0)).bind fun v21 =>
        (h20.st 5 (.ptr h0.next 0) v21).bind fun h22 =>
        finV h22 [.cell true 5 (.ptr h0.next 0)])
      | false => (
        (asI .i64 v13).bind fun n15 =>
        match (decide (n15 = 3)) with
        | true => (
          match (decide (n15 = 3)) with
          | true => (
            (h10.ldN 3 (.ptr h.next 5)).bind fun v16 =>
            (M.call 78 [v16, (.int .i64 a1), a2] h10).bind fun p17 =>
            (p17.2.st 1 (.ptr h1.next 3) p17.1).bind fun h18 =>
            (h18.ldN 5 (.ptr h1.next 0)).bind fun v19 =>
            (h18.st 5 (.ptr h0.next 0) v19).bind fun h20 =>
            finV h20 [.cell true 5 (.ptr h0.next 0)])
          | false => (
            (h10.ldN 5 (.ptr h1.next 0)).bind fun v16 =>
            (h10.st 5 (.ptr h0.next 0) v16).bind fun h17 =>
            finV h17 [.cell true 5 (.ptr h0.next 0)]))
        | false => (
          (asI .i64 v13).bind fun n16 =>
          match (decide (n16 = 7)) with
          | true => (
            (h10.ldN 3 (.ptr h.next 5)).bind fun v17 =>
            (M.call 78 [v17, (.int .i64 a1), a2] h10).bind fun p18 =>
            (p18.2.st 1 (.ptr h1.next 3) p18.1).bind fun h19 =>
            (h19.ldN 5 (.ptr h1.next 0)).bind fun v20 =>
            (h19.st 5 (.ptr h0.next 0) v20).bind fun h21 =>
            finV h21 [.cell true 5 (.ptr h0.next 0)])
          | false => (
            (h10.ldN 5 (.ptr h1.next 0)).bind fun v17 =>
            (h10.st 5 (.ptr h0.next 0) v17).bind fun h18 =>
            finV h18 [.cell true 5 (.ptr h0.next 0)])))))

theorem op_Call_eq (M : Env) (a0_0 : Int) (a0_1 : Int) (a0_2 : Int) (a0_3 : Int) (a0_4 : Int) (a0_5 : Int) (a0_6 : Int) (a0_7 : Int) (a0_8 : Int) (a0_9 : Int) (a0_10 : Int) (a1 : Int) (a2 : V) (h : H) : evalF M F.op_Call [(.agg [(.int .i64 a0_0), (.int .i64 a0_1), (.int .i64 a0_2), (.int .i64 a0_3), (.int .u64 a0_4), (.int .i64 a0_5), (.int .i64 a0_6), (.int .u64 a0_7), (.int .i64 a0_8), (.int .i64 a0_9), (.int .u64 a0_10)]), (.int .i64 a1), a2] h = op_Call M a0_0 a0_1 a0_2 a0_3 a0_4 a0_5 a0_6 a0_7 a0_8 a0_9 a0_10 a1 a2 h := by kernel_rfl

end Wm.S
end

section
/- PRINTED by my tool (wip/wm/tool/Gen.lean): what a function comes to, stretch by stretch. -/
namespace Wm.S
open Wm
set_option maxRecDepth 100000
set_option linter.unusedVariables false


def op_none (M : Env) (a0 : Int) (h : H) : Option (V × H) :=
  match (decide (a0 < 1)) with
  | true => (
    some ((.bool true), h))
  | false => (
    some ((.bool (decide (10 < a0))), h))

theorem op_none_eq (M : Env) (a0 : Int) (h : H) : evalF M F.op_none [(.int .i64 a0)] h = op_none M a0 h := by kernel_rfl

end Wm.S
end

section
/- PRINTED by my tool (wip/wm/tool/Gen.lean): what a function comes to, stretch by stretch. -/
namespace Wm.S
open Wm
set_option maxRecDepth 100000
set_option linter.unusedVariables false

def withylaw16_value_c1_B (M : Env) : List V → H → Option (AX × List V × H) :=
  fun env h => evalC M F.withylaw16_value_c1 env h fun x env h => match x with
    | .normal => some (.normal, keepOf [1, 2, 3, 7] 0 env, h)
    | x => some (x, keepOf [6] 0 env, h)

def withylaw16_value_c1_E (x1 x2 x3 x7 : V) : List V := [.dead, x1, x2, x3, .dead, .dead, .dead, x7, .dead, .dead, .dead, .dead, .dead, .dead, .dead, .dead, .dead, .dead, .dead, .dead, .dead, .dead, .dead, .dead, .dead, .dead, .dead, .dead, .dead, .dead, .dead, .dead, .dead, .dead, .dead, .dead, .dead, .dead, .dead, .dead, .dead, .dead, .dead, .dead, .dead, .dead, .dead, .dead, .dead, .dead, .dead, .dead, .dead, .dead]
def withylaw16_value_c1_O (x6 : V) : List V := [.dead, .dead, .dead, .dead, .dead, .dead, x6, .dead, .dead, .dead, .dead, .dead, .dead, .dead, .dead, .dead, .dead, .dead, .dead, .dead, .dead, .dead, .dead, .dead, .dead, .dead, .dead, .dead, .dead, .dead, .dead, .dead, .dead, .dead, .dead, .dead, .dead, .dead, .dead, .dead, .dead, .dead, .dead, .dead, .dead, .dead, .dead, .dead, .dead, .dead, .dead, .dead, .dead, .dead]

def withylaw16_value_c3_B (M : Env) : List V → H → Option (AX × List V × H) :=
  fun env h => evalC M F.withylaw16_value_c3 env h fun x env h => match x with
    | .normal => some (.normal, keepOf [1, 2, 3, 7, 8] 0 env, h)
    | x => some (x, keepOf [1, 2, 3, 6, 7] 0 env, h)

def withylaw16_value_c3_E (x1 x2 x3 x7 x8 : V) : List V := [.dead, x1, x2, x3, .dead, .dead, .dead, x7, x8, .dead, .dead, .dead, .dead, .dead, .dead, .dead, .dead, .dead, .dead, .dead, .dead, .dead, .dead, .dead, .dead, .dead, .dead, .dead, .dead, .dead, .dead, .dead, .dead, .dead, .dead, .dead, .dead, .dead, .dead, .dead, .dead, .dead, .dead, .dead, .dead, .dead, .dead, .dead, .dead, .dead, .dead, .dead, .dead, .dead]
def withylaw16_value_c3_O (x1 x2 x3 x6 x7 : V) : List V := [.dead, x1, x2, x3, .dead, .dead, x6, x7, .dead, .dead, .dead, .dead, .dead, .dead, .dead, .dead, .dead, .dead, .dead, .dead, .dead, .dead, .dead, .dead, .dead, .dead, .dead, .dead, .dead, .dead, .dead, .dead, .dead, .dead, .dead, .dead, .dead, .dead, .dead, .dead, .dead, .dead, .dead, .dead, .dead, .dead, .dead, .dead, .dead, .dead, .dead, .dead, .dead, .dead]

def withylaw16_value_K0 (M : Env) : AX → List V → H → Option (V × H) :=
  fun x env h => fin F.withylaw16_value x env h

def withylaw16_value_K1 (M : Env) : AX → List V → H → Option (V × H) :=
  fun x env h => match x with | .normal => evalC M F.withylaw16_value_c0 env h (fun x env h => withylaw16_value_K0 M x env h) | x => withylaw16_value_K0 M x env h

def withylaw16_value_K2 (M : Env) : AX → List V → H → Option (V × H) :=
  fun x env h => match x with | .exit j => (match Nat.beq j 0 with | true => withylaw16_value_K1 M .normal env h | false => withylaw16_value_K1 M (.exit j) env h) | x => withylaw16_value_K1 M x env h

def withylaw16_value_K3 (M : Env) : AX → List V → H → Option (AX × List V × H) :=
  fun x env h => match x with | .normal => some (.normal, keepOf [1, 2, 3, 7] 0 env, h) | x => some (x, keepOf [6] 0 env, h)

def withylaw16_value_K4 (M : Env) : AX → List V → H → Option (AX × List V × H) :=
  fun x env h => match x with | .normal => evalC M F.withylaw16_value_c2 env h (fun x env h => withylaw16_value_K3 M x env h) | x => withylaw16_value_K3 M x env h

def withylaw16_value_K5 (M : Env) : AX → List V → H → Option (AX × List V × H) :=
  fun x env h => match x with | .exit j => (match Nat.beq j 1 with | true => withylaw16_value_K4 M .normal env h | false => withylaw16_value_K4 M (.exit j) env h) | x => withylaw16_value_K4 M x env h

def withylaw16_value_K6 (M : Env) : AX → List V → H → Option (AX × List V × H) :=
  fun x env h => match x with | .exit j => (match Nat.beq j 2 with | true => withylaw16_value_K5 M .normal env h | false => withylaw16_value_K5 M (.exit j) env h) | x => withylaw16_value_K5 M x env h

def withylaw16_value (M : Env) (a0_0 : Int) (a0_1 : Int) (a0_2 : Int) (a1 : Int) (a2 : V) (h : H) : Option (V × H) :=
  let h0 := h.new (.cells [(.int .i64 a0_0), (.int .i64 a0_1), (.int .u64 a0_2)] .rw)
  (h0.ld1 (.ptr h.next 0)).bind fun v1 =>
  (asI .i64 v1).bind fun n2 =>
  match (decide (n2 < 0)) with
  | true => (
    (h0.ld1 (.ptr h.next 2)).bind fun v3 =>
    some (v3, h0))
  | false => (
    (M.loop (withylaw16_value_c1_B M) (withylaw16_value_c1_E (.int .i64 a1) a2 (.ptr h.next 0) (.int .i64 0)) h0).bind fun p3 => withylaw16_value_K2 M p3.1 p3.2.1 p3.2.2)

def withylaw16_value_c1_S (M : Env) (x1 : Int) (x2 : V) (x3 : V) (x7 : Int) (h : H) : Option (AX × List V × H) :=
  (lenSl x2).bind fun n0 =>
  match (decide (x7 < ((n0 : Nat) : Int))) with
  | true => (
    (ptrAt x3 1).bind fun v1 =>
    (h.ld1 v1).bind fun v2 =>
    (asI .i64 v2).bind fun n3 =>
    match (decide (x7 = n3)) with
    | true => (
      (M.loop (withylaw16_value_c3_B M) (withylaw16_value_c3_E (.int .i64 x1) x2 x3 (.int .i64 x7) (.int .i64 0)) h).bind fun p4 => withylaw16_value_K6 M p4.1 p4.2.1 p4.2.2)
    | false => (
      (ptrAt x3 1).bind fun v4 =>
      (h.ld1 v4).bind fun v5 =>
      (asI .i64 v5).bind fun n6 =>
      match (decide (n6 < 0)) with
      | true => (
        match (decide (x7 = x1)) with
        | true => (
          (M.loop (withylaw16_value_c3_B M) (withylaw16_value_c3_E (.int .i64 x1) x2 x3 (.int .i64 x7) (.int .i64 0)) h).bind fun p7 => withylaw16_value_K6 M p7.1 p7.2.1 p7.2.2)
        | false => (
          some (.normal, (withylaw16_value_c1_E (.int .i64 x1) x2 x3 (.int .i64 (wr .i64 (x7 + 1)))), h)))
      | false => (
        some (.normal, (withylaw16_value_c1_E (.int .i64 x1) x2 x3 (.int .i64 (wr .i64 (x7 + 1)))), h))))
  | false => (
    some ((.exit 0), (withylaw16_value_c1_O .dead), h))

def withylaw16_value_c1_e0 (M : Env) (x6 : V) (h : H) : Option (V × H) :=
  some ((.int .u64 0), h)

def withylaw16_value_c1_r (M : Env) (x6 : Int) (h : H) : Option (V × H) :=
  some ((.int .u64 x6), h)

def withylaw16_value_c3_S (M : Env) (x1 : Int) (x2 : V) (x3 : V) (x7 : Int) (x8 : Int) (h : H) : Option (AX × List V × H) :=
  (indexAV 1 x2 (.int .i64 x7)).bind fun v0 =>
  (h.ld1 v0).bind fun v1 =>
  (lenSl v1).bind fun n2 =>
  match (decide (x8 < ((n2 : Nat) : Int))) with
  | true => (
    (ptrAt x3 0).bind fun v3 =>
    (h.ld1 v3).bind fun v4 =>
    (asI .i64 v4).bind fun n5 =>
    match (decide (x8 = n5)) with
    | true => (
      (indexAV 1 x2 (.int .i64 x7)).bind fun v6 =>
      (h.ld1 v6).bind fun v7 =>
      (indexAV 1 v7 (.int .i64 x8)).bind fun v8 =>
      (h.ld1 v8).bind fun v9 =>
      some (.ret, (withylaw16_value_c3_O (.int .i64 x1) x2 x3 v9 (.int .i64 x7)), h))
    | false => (
      some (.normal, (withylaw16_value_c3_E (.int .i64 x1) x2 x3 (.int .i64 x7) (.int .i64 (wr .i64 (x8 + 1)))), h)))
  | false => (
    some ((.exit 2), (withylaw16_value_c3_O (.int .i64 x1) x2 x3 .dead (.int .i64 x7)), h))

def withylaw16_value_c3_e2 (M : Env) (x1 : Int) (x2 : V) (x3 : V) (x6 : V) (x7 : Int) (h : H) : Option (AX × List V × H) :=
  some (.normal, (withylaw16_value_c1_E (.int .i64 x1) x2 x3 (.int .i64 (wr .i64 (x7 + 1)))), h)

def withylaw16_value_c3_r (M : Env) (x1 : V) (x2 : V) (x3 : V) (x6 : Int) (x7 : V) (h : H) : Option (AX × List V × H) :=
  some (.ret, (withylaw16_value_c1_O (.int .u64 x6)), h)

theorem withylaw16_value_eq (M : Env) (a0_0 : Int) (a0_1 : Int) (a0_2 : Int) (a1 : Int) (a2 : V) (h : H) : evalF M F.withylaw16_value [(.agg [(.int .i64 a0_0), (.int .i64 a0_1), (.int .u64 a0_2)]), (.int .i64 a1), a2] h = withylaw16_value M a0_0 a0_1 a0_2 a1 a2 h := by kernel_rfl

theorem withylaw16_value_c1_eq (M : Env) (x1 : Int) (x2 : V) (x3 : V) (x7 : Int) (h : H) : withylaw16_value_c1_B M (withylaw16_value_c1_E (.int .i64 x1) x2 x3 (.int .i64 x7)) h = withylaw16_value_c1_S M x1 x2 x3 x7 h := by kernel_rfl

theorem withylaw16_value_c1_e0_eq (M : Env) (x6 : V) (h : H) : withylaw16_value_K2 M (.exit 0) (withylaw16_value_c1_O x6) h = withylaw16_value_c1_e0 M x6 h := by kernel_rfl

theorem withylaw16_value_c1_r_eq (M : Env) (x6 : Int) (h : H) : withylaw16_value_K2 M .ret (withylaw16_value_c1_O (.int .u64 x6)) h = withylaw16_value_c1_r M x6 h := by kernel_rfl

theorem withylaw16_value_c3_eq (M : Env) (x1 : Int) (x2 : V) (x3 : V) (x7 : Int) (x8 : Int) (h : H) : withylaw16_value_c3_B M (withylaw16_value_c3_E (.int .i64 x1) x2 x3 (.int .i64 x7) (.int .i64 x8)) h = withylaw16_value_c3_S M x1 x2 x3 x7 x8 h := by kernel_rfl

theorem withylaw16_value_c3_e2_eq (M : Env) (x1 : Int) (x2 : V) (x3 : V) (x6 : V) (x7 : Int) (h : H) : withylaw16_value_K6 M (.exit 2) (withylaw16_value_c3_O (.int .i64 x1) x2 x3 x6 (.int .i64 x7)) h = withylaw16_value_c3_e2 M x1 x2 x3 x6 x7 h := by kernel_rfl

theorem withylaw16_value_c3_r_eq (M : Env) (x1 : V) (x2 : V) (x3 : V) (x6 : Int) (x7 : V) (h : H) : withylaw16_value_K6 M .ret (withylaw16_value_c3_O x1 x2 x3 (.int .u64 x6) x7) h = withylaw16_value_c3_r M x1 x2 x3 x6 x7 h := by kernel_rfl

end Wm.S
end

section
/- PRINTED by my tool (wip/wm/tool/Gen.lean): what a function comes to, stretch by stretch. -/
namespace Wm.S
open Wm
set_option maxRecDepth 100000
set_option linter.unusedVariables false


def withylaw16_OpValues (M : Env) (a0_0 : Int) (a0_1 : Int) (a0_2 : Int) (a1 : Int) (a2 : V) (h : H) : Option (V × H) :=
  let h0 := h.new (.cells [(.int .i64 a0_0), (.int .i64 a0_1), (.int .u64 a0_2)] .rw)
  (h0.ldN 3 (.ptr h.next 0)).bind fun v1 =>
  (h0.ldN 3 (.ptr h.next 0)).bind fun v2 =>
  (M.call 78 [v1, (.int .i64 a1), a2] h0).bind fun p3 =>
  match ckB (p3.2.ldN 3 (.ptr h.next 0)) v2 with
  | true => (
  (M.call 79 [v2, (.int .i64 a1), a2] p3.2).bind fun p4 =>
  (asI .u64 p3.1).bind fun n5 =>
  (asI .u64 p4.1).bind fun n6 =>
  match (decide (n5 = n6)) with
  | true => (
    (M.call 80 [] p4.2).bind fun p7 =>
    some (p7.1, p7.2))
  | false => (
    some ((.bool false), p4.2)))
  | false => none

theorem withylaw16_OpValues_eq (M : Env) (a0_0 : Int) (a0_1 : Int) (a0_2 : Int) (a1 : Int) (a2 : V) (h : H) : evalF M F.withylaw16_OpValues [(.agg [(.int .i64 a0_0), (.int .i64 a0_1), (.int .u64 a0_2)]), (.int .i64 a1), a2] h = withylaw16_OpValues M a0_0 a0_1 a0_2 a1 a2 h := by kernel_rfl

end Wm.S
end

section
/- PRINTED by my tool (wip/wm/tool/Gen.lean): what a function comes to, stretch by stretch. -/
namespace Wm.S
open Wm
set_option maxRecDepth 100000
set_option linter.unusedVariables false


def withylaw16_OpCalls (M : Env) (a0_0 : Int) (a0_1 : Int) (a0_2 : Int) (a0_3 : Int) (a0_4 : Int) (a0_5 : Int) (a0_6 : Int) (a0_7 : Int) (a0_8 : Int) (a0_9 : Int) (a0_10 : Int) (a1 : Int) (a2 : V) (h : H) : Option (V × H) :=
  let h0 := h.new (.cells [(.int .i64 a0_0), (.int .i64 a0_1), (.int .i64 a0_2), (.int .i64 a0_3), (.int .u64 a0_4), (.int .i64 a0_5), (.int .i64 a0_6), (.int .u64 a0_7), (.int .i64 a0_8), (.int .i64 a0_9), (.int .u64 a0_10)] .rw)
  (h0.ld1 (.ptr h.next 0)).bind fun v1 =>
  (fill [(.int .i64 0), (.int .i64 0), (.int .u64 0), (.int .u64 0), (.int .u64 0)] [] [(0, 1, .c v1)]).bind fun cs2 =>
  let h3 := h0.new (.cells [(.int .i64 0), (.int .i64 0), (.int .u64 0), (.int .u64 0), (.int .u64 0)] .rw)
  (h3.st 5 (.ptr h0.next 0) (.agg cs2)).bind fun h4 =>
  (h4.ld1 (.ptr h.next 0)).bind fun v5 =>
  (asI .i64 v5).bind fun n6 =>
  match (decide (1 ≤ n6)) with
  | true => (
    (h4.ld1 (.ptr h.next 0)).bind fun v7 =>
    (asI .i64 v7).bind fun n8 =>
    match (decide (n8 ≤ 10)) with
    | true => (
      (h4.ld1 (.ptr h.next 1)).bind fun v9 =>
      (h4.st 1 (.ptr h0.next 1) v9).bind fun h10 =>
      (h10.ld1 (.ptr h.next 0)).bind fun v11 =>
      (asI .i64 v11).bind fun n12 =>
      match (decide (1 < n12)) with
      | true => (
        (h10.ldN 3 (.ptr h.next 2)).bind fun v13 =>
        (M.call 79 [v13, (.int .i64 a1), a2] h10).bind fun p14 =>
        (p14.2.st 1 (.ptr h0.next 2) p14.1).bind fun h15 =>
        (h15.ld1 (.ptr h.next 0)).bind fun v16 =>
        (asI .i64 v16).bind fun n17 =>
        match (decide (n17 = 3)) with
        | true => (
          (h15.ldN 3 (.ptr h.next 5)).bind fun v18 =>
          (M.call 79 [v18, (.int .i64 a1), a2] h15).bind fun p19 =>
          (p19.2.st 1 (.ptr h0.next 3) p19.1).bind fun h20 =>
          (h20.ld1 (.ptr h.next 0)).bind fun v21 =>
          (asI .i64 v21).bind fun n22 =>
          match (decide (n22 = 5)) with
          | true => (
            (h20.ldN 3 (.ptr h.next 8)).bind fun v23 =>
            (M.call 79 [v23, (.int .i64 a1), a2] h20).bind fun p24 =>
            (p24.2.st 1 (.ptr h0.next 4) p24.1).bind fun h25 =>
            (h25.ldN 11 (.ptr h.next 0)).bind fun v26 =>
            (h25.ldN 5 (.ptr h0.next 0)).bind fun v27 =>
            (M.call 81 [v26, (.int .i64 a1), a2] h25).bind fun p28 =>
            match ckB (p28.2.ldN 5 (.ptr h0.next 0)) v27 with
            | true => (
            (eqV (.agg [(0, .int), (1, .int), (2, .int), (3, .int), (4, .int)]) p28.1 v27).bind fun b29 =>
            match b29 with
            | true => (
              (M.call 80 [] p28.2).bind fun p30 =>
              some (p30.1, p30.2))
            | false => (
              some ((.bool false), p28.2)))
            | false => none)
          | false => (
            (h20.ldN 11 (.ptr h.next 0)).bind fun v23 =>
            (h20.ldN 5 (.ptr h0.next 0)).bind fun v24 =>
            (M.call 81 [v23, (.int .i64 a1), a2] h20).bind fun p25 =>
            match ckB (p25.2.ldN 5 (.ptr h0.next 0)) v24 with
            | true => (
            (eqV (.agg [(0, .int), (1, .int), (2, .int), (3, .int), (4, .int)]) p25.1 v24).bind fun b26 =>
            match b26 with
            | true => (
              (M.call 80 [] p25.2).bind fun p27 =>
              some (p27.1, p27.2))
            | false => (
              some ((.bool false), p25.2)))
            | false => none))
        | false => (
          (h15.ld1 (.ptr h.next 0)).bind fun v18 =>
          (asI .i64 v18).bind fun n19 =>
          match (decide (n19 = 5)) with
          | true => (
            (h15.ldN 3 (.ptr h.next 5)).bind fun v20 =>
            (M.call 79 [v20, (.int .i64 a1), a2] h15).bind fun p21 =>
            (p21.2.st 1 (.ptr h0.next 3) p21.1).bind fun h22 =>
            (h22.ld1 (.ptr h.next 0)).bind fun v23 =>
            (asI .i64 v23).bind fun n24 =>
            match (decide (n24 = 5)) with
            | true => (
              (h22.ldN 3 (.ptr h.next 8)).bind fun v25 =>
              (M.call 79 [v25, (.int .i64 a1), a2] h22).bind fun p26 =>
              (p26.2.st 1 (.ptr h0.next 4) p26.1).bind fun h27 =>
              (h27.ldN 11 (.ptr h.next 0)).bind fun v28 =>
              (h27.ldN 5 (.ptr h0.next 0)).bind fun v29 =>
              (M.call 81 [v28, (.int .i64 a1), a2] h27).bind fun p30 =>
              match ckB (p30.2.ldN 5 (.ptr h0.next 0)) v29 with
              | true => (
              (eqV (.agg [(0, .int), (1, .int), (2, .int), (3, .int), (4, .int)]) p30.1 v29).bind fun b31 =>
              match b31 with
              | true => (
                (M.call 80 [] p30.2).bind fun p32 =>
                some (p32.1, p32.2))
              | false => (
                some ((.bool false), p30.2)))
              | false => none)
            | false => (
              (h22.ldN 11 (.ptr h.next 0)).bind fun v25 =>
              (h22.ldN 5 (.ptr h0.next 0)).bind fun v26 =>
              (M.call 81 [v25, (.int .i64 a1), a2] h22).bind fun p27 =>
              match ckB (p27.2.ldN 5 (.ptr h0.next 0)) v26 with
              | true => (
              (eqV (.agg [(0, .int), (1, .int), (2, .int), (3, .int), (4, .int)]) p27.1 v26).bind fun b28 =>
              match b28 with
              | true => (
                (M.call 80 [] p27.2).bind fun p29 =>
                some (p29.1, p29.2))
              | false => (
                some ((.bool false), p27.2)))
              | false => none))
          | false => (
            (h15.ld1 (.ptr h.next 0)).bind fun v20 =>
            (asI .i64 v20).bind fun n21 =>
            match (decide (n21 = 7)) with
            | true => (
              (h15.ldN 3 (.ptr h.next 5)).bind fun v22 =>
              (M.call 79 [v22, (.int .i64 a1), a2] h15).bind fun p23 =>
              (p23.2.st 1 (.ptr h0.next 3) p23.1).bind fun h24 =>
              (h24.ld1 (.ptr h.next 0)).bind fun v25 =>
              (asI .i64 v25).bind fun n26 =>
              match (decide (n26 = 5)) with
              | true => (
                (h24.ldN 3 (.ptr h.next 8)).bind fun v27 =>
                (M.call 79 [v27, (.int .i64 a1), a2] h24).bind fun p28 =>
                (p28.2.st 1 (.ptr h0.next 4) p28.1).bind fun h29 =>
                (h29.ldN 11 (.ptr h.next 0)).bind fun v30 =>
                (h29.ldN 5 (.ptr h0.next 0)).bind fun v31 =>
                (M.call 81 [v30, (.int .i64 a1), a2] h29).bind fun p32 =>
                match ckB (p32.2.ldN 5 (.ptr h0.next 0)) v31 with
                | true => (
                (eqV (.agg [(0, .int), (1, .int), (2, .int), (3, .int), (4, .int)]) p32.1 v31).bind fun b33 =>
                match b33 with
                | true => (
                  (M.call 80 [] p32.2).bind fun p34 =>
                  some (p34.1, p34.2))
                | false => (
                  some ((.bool false), p32.2)))
                | false => none)
              | false => (
                (h24.ldN 11 (.ptr h.next 0)).bind fun v27 =>
                (h24.ldN 5 (.ptr h0.next 0)).bind fun v28 =>
                (M.call 81 [v27, (.int .i64 a1), a2] h24).bind fun p29 =>
                match ckB (p29.2.ldN 5 (.ptr h0.next 0)) v28 with
                | true => (
                (eqV (.agg [(0, .int), (1, .int), (2, .int), (3, .int), (4, .int)]) p29.1 v28).bind fun b30 =>
                match b30 with
                | true => (
                  (M.call 80 [] p29.2).bind fun p31 =>
                  some (p31.1, p31.2))
                | false => (
                  some ((.bool false), p29.2)))
                | false => none))
            | false => (
              (h15.ld1 (.ptr h.next 0)).bind fun v22 =>
              (asI .i64 v22).bind fun n23 =>
              match (decide (n23 = 5)) with
              | true => (
                (h15.ldN 3 (.ptr h.next 8)).bind fun v24 =>
                (M.call 79 [v24, (.int .i64 a1), a2] h15).bind fun p25 =>
                (p25.2.st 1 (.ptr h0.next 4) p25.1).bind fun h26 =>
                (h26.ldN 11 (.ptr h.next 0)).bind fun v27 =>
                (h26.ldN 5 (.ptr h0.next 0)).bind fun v28 =>
                (M.call 81 [v27, (.int .i64 a1), a2] h26).bind fun p29 =>
                match ckB (p29.2.ldN 5 (.ptr h0.next 0)) v28 with
                | true => (
                (eqV (.agg [(0, .int), (1, .int), (2, .int), (3, .int), (4, .int)]) p29.1 v28).bind fun b30 =>
                match b30 with
                | true => (
                  (M.call 80 [] p29.2).bind fun p31 =>
                  some (p31.1, p31.2))
                | false => (
                  some ((.bool false), p29.2)))
                | false => none)
              | false => (
                (h15.ldN 11 (.ptr h.next 0)).bind fun v24 =>
                (h15.ldN 5 (.ptr h0.next 0)).bind fun v25 =>
                (M.call 81 [v24, (.int .i64 a1), a2] h15).bind fun p26 =>
                match ckB (p26.2.ldN 5 (.ptr h0.next 0)) v25 with
                | true => (
                (eqV (.agg [(0, .int), (1, .int), (2, .int), (3, .int), (4, .int)]) p26.1 v25).bind fun b27 =>
                match b27 with
                | true => (
                  (M.call 80 [] p26.2).bind fun p28 =>
                  some (p28.1, p28.2))
                | false => (
                  some ((.bool false), p26.2)))
                | false => none)))))
      | false => (
        (h10.ld1 (.ptr h.next 0)).bind fun v13 =>
        (asI .i64 v13).bind fun n14 =>
        match (decide (n14 = 3)) with
        | true => (
          (h10.ldN 3 (.ptr h.next 5)).bind fun v15 =>
          (M.call 79 [v15, (.int .i64 a1), a2] h10).bind fun p16 =>
          (p16.2.st 1 (.ptr h0.next 3) p16.1).bind fun h17 =>
          (h17.ld1 (.ptr h.next 0)).bind fun v18 =>
          (asI .i64 v18).bind fun n19 =>
          match (decide (n19 = 5)) with
          | true => (
            (h17.ldN 3 (.ptr h.next 8)).bind fun v20 =>
            (M.call 79 [v20, (.int .i64 a1), a2] h17).bind fun p21 =>
            (p21.2.st 1 (.ptr h0.next 4) p21.1).bind fun h22 =>
            (h22.ldN 11 (.ptr h.next 0)).bind fun v23 =>
            (h22.ldN 5 (.ptr h0.next 0)).bind fun v24 =>
            (M.call 81 [v23, (.int .i64 a1), a2] h22).bind fun p25 =>
            match ckB (p25.2.ldN 5 (.ptr h0.next 0)) v24 with
            | true => (
            (eqV (.agg [(0, .int), (1, .int), (2, .int), (3, .int), (4, .int)]) p25.1 v24).bind fun b26 =>
            match b26 with
            | true => (
              (M.call 80 [] p25.2).bind fun p27 =>
              some (p27.1, p27.2))
            | false => (
              some ((.bool false), p25.2)))
            | false => none)
          | false => (
            (h17.ldN 11 (.ptr h.next 0)).bind fun v20 =>
            (h17.ldN 5 (.ptr h0.next 0)).bind fun v21 =>
            (M.call 81 [v20, (.int .i64 a1), a2] h17).bind fun p22 =>
            match ckB (p22.2.ldN 5 (.ptr h0.next 0)) v21 with
            | true => (
            (eqV (.agg [(0, .int), (1, .int), (2, .int), (3, .int), (4, .int)]) p22.1 v21).bind fun b23 =>
            match b23 with
            | true => (
              (M.call 80 [] p22.2).bind fun p24 =>
              some (p24.1, p24.2))
            | false => (
              some ((.bool false), p22.2)))
            | false => none))
        | false => (
          (h10.ld1 (.ptr h.next 0)).bind fun v15 =>
          (asI .i64 v15).bind fun n16 =>
          match (decide (n16 = 5)) with
          | true => (
            (h10.ldN 3 (.ptr h.next 5)).bind fun v17 =>
            (M.call 79 [v17, (.int .i64 a1), a2] h10).bind fun p18 =>
            (p18.2.st 1 (.ptr h0.next 3) p18.1).bind fun h19 =>
            (h19.ld1 (.ptr h.next 0)).bind fun v20 =>
            (asI .i64 v20).bind fun n21 =>
            match (decide (n21 = 5)) with
            | true => (
              (h19.ldN 3 (.ptr h.next 8)).bind fun v22 =>
              (M.call 79 [v22, (.int .i64 a1), a2] h19).bind fun p23 =>
              (p23.2.st 1 (.ptr h0.next 4) p23.1).bind fun h24 =>
              (h24.ldN 11 (.ptr h.next 0)).bind fun v25 =>
              (h24.ldN 5 (.ptr h0.next 0)).bind fun v26 =>
              (M.call 81 [v25, (.int .i64 a1), a2] h24).bind fun p27 =>
              match ckB (p27.2.ldN 5 (.ptr h0.next 0)) v26 with
              | true => (
              (eqV (.agg [(0, .int), (1, .int), (2, .int), (3, .int), (4, .int)]) p27.1 v26).bind fun b28 =>
              match b28 with
              | true => (
                (M.call 80 [] p27.2).bind fun p29 =>
                some (p29.1, p29.2))
              | false => (
                some ((.bool false), p27.2)))
              | false => none)
            | false => (
              (h19.ldN 11 (.ptr h.next 0)).bind fun v22 =>
              (h19.ldN 5 (.ptr h0.next 0)).bind fun v23 =>
              (M.call 81 [v22, (.int .i64 a1), a2] h19).bind fun p24 =>
              match ckB (p24.2.ldN 5 (.ptr h0.next 0)) v23 with
              | true => (
              (eqV (.agg [(0, .int), (1, .int), (2, .int), (3, .int), (4, .int)]) p24.1 v23).bind fun b25 =>
              match b25 with
              | true => (
                (M.call 80 [] p24.2).bind fun p26 =>
                some (p26.1, p26.2))
              | false => (
                some ((.bool false), p24.2)))
              | false => none))
          | false => (
            (h10.ld1 (.ptr h.next 0)).bind fun v17 =>
            (asI .i64 v17).bind fun n18 =>
            match (decide (n18 = 7)) with
            | true => (
              (h10.ldN 3 (.ptr h.next 5)).bind fun v19 =>
              (M.call 79 [v19, (.int .i64 a1), a2] h10).bind fun p20 =>
              (p20.2.st 1 (.ptr h0.next 3) p20.1).bind fun h21 =>
              (h21.ld1 (.ptr h.next 0)).bind fun v22 =>
              (asI .i64 v22).bind fun n23 =>
              match (decide (n23 = 5)) with
              | true => (
                (h21.ldN 3 (.ptr h.next 8)).bind fun v24 =>
                (M.call 79 [v24, (.int .i64 a1), a2] h21).bind fun p25 =>
                (p25.2.st 1 (.ptr h0.next 4) p25.1).bind fun h26 =>
                (h26.ldN 11 (.ptr h.next 0)).bind fun v27 =>
                (h26.ldN 5 (.ptr h0.next 0)).bind fun v28 =>
                (M.call 81 [v27, (.int .i64 a1), a2] h26).bind fun p29 =>
                match ckB (p29.2.ldN 5 (.ptr h0.next 0)) v28 with
                | true => (
                (eqV (.agg [(0, .int), (1, .int), (2, .int), (3, .int), (4, .int)]) p29.1 v28).bind fun b30 =>
                match b30 with
                | true => (
                  (M.call 80 [] p29.2).bind fun p31 =>
                  some (p31.1, p31.2))
                | false => (
                  some ((.bool false), p29.2)))
                | false => none)
              | false => (
                (h21.ldN 11 (.ptr h.next 0)).bind fun v24 =>
                (h21.ldN 5 (.ptr h0.next 0)).bind fun v25 =>
                (M.call 81 [v24, (.int .i64 a1), a2] h21).bind fun p26 =>
                match ckB (p26.2.ldN 5 (.ptr h0.next 0)) v25 with
                | true => (
                (eqV (.agg [(0, .int), (1, .int), (2, .int), (3, .int), (4, .int)]) p26.1 v25).bind fun b27 =>
                match b27 with
                | true => (
                  (M.call 80 [] p26.2).bind fun p28 =>
                  some (p28.1, p28.2))
                | false => (
                  some ((.bool false), p26.2)))
                | false => none))
            | false => (
              (h10.ld1 (.ptr h.next 0)).bind fun v19 =>
              (asI .i64 v19).bind fun n20 =>
              match (decide (n20 = 5)) with
              | true => (
                (h10.ldN 3 (.ptr h.next 8)).bind fun v21 =>
                (M.call 79 [v21, (.int .i64 a1), a2] h10).bind fun p22 =>
                (p22.2.st 1 (.ptr h0.next 4) p22.1).bind fun h23 =>
                (h23.ldN 11 (.ptr h.next 0)).bind fun v24 =>
                (h23.ldN 5 (.ptr h0.next 0)).bind fun v25 =>
                (M.call 81 [v24, (.int .i64 a1), a2] h23).bind fun p26 =>
                match ckB (p26.2.ldN 5 (.ptr h0.next 0)) v25 with
                | true => (
                (eqV (.agg [(0, .int), (1, .int), (2, .int), (3, .int), (4, .int)]) p26.1 v25).bind fun b27 =>
                match b27 with
                | true => (
                  (M.call 80 [] p26.2).bind fun p28 =>
                  some (p28.1, p28.2))
                | false => (
                  some ((.bool false), p26.2)))
                | false => none)
              | false => (
                (h10.ldN 11 (.ptr h.next 0)).bind fun v21 =>
                (h10.ldN 5 (.ptr h0.next 0)).bind fun v22 =>
                (M.call 81 [v21, (.int .i64 a1), a2] h10).bind fun p23 =>
                match ckB (p23.2.ldN 5 (.ptr h0.next 0)) v22 with
                | true => (
                (eqV (.agg [(0, .int), (1, .int), (2, .int), (3, .int), (4, .int)]) p23.1 v22).bind fun b24 =>
                match b24 with
                | true => (
                  (M.call 80 [] p23.2).bind fun p25 =>
                  some (p25.1, p25.2))
                | false => (
                  some ((.bool false), p23.2)))
                | false => none))))))
    | false => (
      (h4.ldN 11 (.ptr h.next 0)).bind fun v9 =>
      (h4.ldN 5 (.ptr h0.next 0)).bind fun v10 =>
      (M.call 81 [v9, (.int .i64 a1), a2] h4).bind fun p11 =>
      match ckB (p11.2.ldN 5 (.ptr h0.next 0)) v10 with
      | true => (
      (eqV (.agg [(0, .int), (1, .int), (2, .int), (3, .int), (4, .int)]) p11.1 v10).bind fun b12 =>
      match b12 with
      | true => (
        (M.call 80 [] p11.2).bind fun p13 =>
        some (p13.1, p13.2))
      | false => (
        some ((.bool false), p11.2)))
      | false => none))
  | false => (
    (h4.ldN 11 (.ptr h.next 0)).bind fun v7 =>
    (h4.ldN 5 (.ptr h0.next 0)).bind fun v8 =>
    (M.call 81 [v7, (.int .i64 a1), a2] h4).bind fun p9 =>
    match ckB (p9.2.ldN 5 (.ptr h0.next 0)) v8 with
    | true => (
    (eqV (.agg [(0, .int), (1, .int), (2, .int), (3, .int), (4, .int)]) p9.1 v8).bind fun b10 =>
    match b10 with
    | true => (
      (M.call 80 [] p9.2).bind fun p11 =>
      some (p11.1, p11.2))
    | false => (
      some ((.bool false), p9.2)))
    | false => none)

theorem withylaw16_OpCalls_eq (M : Env) (a0_0 : Int) (a0_1 : Int) (a0_2 : Int) (a0_3 : Int) (a0_4 : Int) (a0_5 : Int) (a0_6 : Int) (a0_7 : Int) (a0_8 : Int) (a0_9 : Int) (a0_10 : Int) (a1 : Int) (a2 : V) (h : H) : evalF M F.withylaw16_OpCalls [(.agg [(.int .i64 a0_0), (.int .i64 a0_1), (.int .i64 a0_2), (.int .i64 a0_3), (.int .u64 a0_4), (.int .i64 a0_5), (.int .i64 a0_6), (.int .u64 a0_7), (.int .i64 a0_8), (.int .i64 a0_9), (.int .u64 a0_10)]), (.int .i64 a1), a2] h = withylaw16_OpCalls M a0_0 a0_1 a0_2 a0_3 a0_4 a0_5 a0_6 a0_7 a0_8 a0_9 a0_10 a1 a2 h := by kernel_rfl

end Wm.S
end

section
/- PRINTED by my tool (wip/wm/tool/Gen.lean): what a function comes to, stretch by stretch. -/
namespace Wm.S
open Wm
set_option maxRecDepth 100000
set_option linter.unusedVariables false


def withylaw16_OpSelf (M : Env) (a0 : Int) (a1 : Int) (a2 : Int) (a3 : V) (h : H) : Option (V × H) :=
  match (decide (a1 < 0)) with
  | true => (
    (M.call 80 [] h).bind fun p0 =>
    some (p0.1, p0.2))
  | false => (
    (M.call 78 [(.agg [(.int .i64 a0), (.int .i64 (-1)), (.int .u64 0)]), (.int .i64 a1), a3] h).bind fun p0 =>
    (M.call 78 [(.agg [(.int .i64 a0), (.int .i64 a1), (.int .u64 0)]), (.int .i64 a2), a3] p0.2).bind fun p1 =>
    (asI .u64 p0.1).bind fun n2 =>
    (asI .u64 p1.1).bind fun n3 =>
    match (decide (n2 = n3)) with
    | true => (
      (M.call 80 [] p1.2).bind fun p4 =>
      some (p4.1, p4.2))
    | false => (
      some ((.bool false), p1.2)))

theorem withylaw16_OpSelf_eq (M : Env) (a0 : Int) (a1 : Int) (a2 : Int) (a3 : V) (h : H) : evalF M F.withylaw16_OpSelf [(.int .i64 a0), (.int .i64 a1), (.int .i64 a2), a3] h = withylaw16_OpSelf M a0 a1 a2 a3 h := by kernel_rfl

end Wm.S
end

section
/- PRINTED by my tool (wip/wm/tool/Gen.lean): what a function comes to, stretch by stretch. -/
namespace Wm.S
open Wm
set_option maxRecDepth 100000
set_option linter.unusedVariables false

def withylaw16_OpRaw_c1_B (M : Env) : List V → H → Option (AX × List V × H) :=
  fun env h => evalC M F.withylaw16_OpRaw_c1 env h fun x env h => match x with
    | .normal => some (.normal, keepOf [1, 2, 3, 4, 9, 10, 11, 12, 13] 0 env, h)
    | x => some (x, keepOf [1, 4, 9, 10, 11, 12] 0 env, h)

def withylaw16_OpRaw_c1_E (x1 x2 x3 x4 x9 x10 x11 x12 x13 : V) : List V := [.dead, x1, x2, x3, x4, .dead, .dead, .dead, .dead, x9, x10, x11, x12, x13, .dead, .dead, .dead, .dead, .dead, .dead, .dead, .dead, .dead, .dead, .dead, .dead, .dead, .dead, .dead, .dead, .dead, .dead, .dead, .dead, .dead, .dead, .dead, .dead, .dead, .dead, .dead, .dead, .dead, .dead, .dead, .dead, .dead, .dead, .dead, .dead, .dead, .dead, .dead, .dead, .dead, .dead, .dead, .dead, .dead, .dead, .dead, .dead, .dead, .dead, .dead, .dead, .dead, .dead, .dead, .dead, .dead, .dead, .dead, .dead, .dead, .dead, .dead, .dead, .dead, .dead, .dead, .dead, .dead, .dead, .dead, .dead, .dead, .dead, .dead, .dead, .dead, .dead, .dead, .dead, .dead, .dead, .dead, .dead, .dead, .dead, .dead, .dead, .dead, .dead]
def withylaw16_OpRaw_c1_O (x1 x4 x9 x10 x11 x12 : V) : List V := [.dead, x1, .dead, .dead, x4, .dead, .dead, .dead, .dead, x9, x10, x11, x12, .dead, .dead, .dead, .dead, .dead, .dead, .dead, .dead, .dead, .dead, .dead, .dead, .dead, .dead, .dead, .dead, .dead, .dead, .dead, .dead, .dead, .dead, .dead, .dead, .dead, .dead, .dead, .dead, .dead, .dead, .dead, .dead, .dead, .dead, .dead, .dead, .dead, .dead, .dead, .dead, .dead, .dead, .dead, .dead, .dead, .dead, .dead, .dead, .dead, .dead, .dead, .dead, .dead, .dead, .dead, .dead, .dead, .dead, .dead, .dead, .dead, .dead, .dead, .dead, .dead, .dead, .dead, .dead, .dead, .dead, .dead, .dead, .dead, .dead, .dead, .dead, .dead, .dead, .dead, .dead, .dead, .dead, .dead, .dead, .dead, .dead, .dead, .dead, .dead, .dead, .dead]

def withylaw16_OpRaw_K0 (M : Env) : AX → List V → H → Option (V × H) :=
  fun x env h => fin F.withylaw16_OpRaw x env h

def withylaw16_OpRaw_K1 (M : Env) : AX → List V → H → Option (V × H) :=
  fun x env h => match x with | .normal => evalC M F.withylaw16_OpRaw_c0 env h (fun x env h => withylaw16_OpRaw_K0 M x env h) | x => withylaw16_OpRaw_K0 M x env h

def withylaw16_OpRaw_K2 (M : Env) : AX → List V → H → Option (V × H) :=
  fun x env h => match x with | .exit j => (match Nat.beq j 0 with | true => withylaw16_OpRaw_K1 M .normal env h | false => withylaw16_OpRaw_K1 M (.exit j) env h) | x => withylaw16_OpRaw_K1 M x env h

def withylaw16_OpRaw (M : Env) (a0_0 : Int) (a0_1 : Int) (a0_2 : Int) (a1 : Int) (a2 : V) (a3 : Int) (h : H) : Option (V × H) :=
  let h0 := h.new (.cells [(.int .i64 a0_0), (.int .i64 a0_1), (.int .u64 a0_2)] .rw)
  (h0.ld1 (.ptr h.next 0)).bind fun v1 =>
  (asI .i64 v1).bind fun n2 =>
  match (decide (0 ≤ n2)) with
  | true => (
    (h0.ldN 3 (.ptr h.next 0)).bind fun v3 =>
    (M.call 78 [v3, (.int .i64 a1), a2] h0).bind fun p4 =>
    (M.loop (withylaw16_OpRaw_c1_B M) (withylaw16_OpRaw_c1_E (.int .i64 a1) a2 (.int .u64 a3) (.ptr h.next 0) (.bool true) p4.1 .nilsl (.bool false) (.int .i64 0)) p4.2).bind fun p5 => withylaw16_OpRaw_K2 M p5.1 p5.2.1 p5.2.2)
  | false => (
    (h0.ldN 3 (.ptr h.next 0)).bind fun v3 =>
    (h0.ld1 (.ptr h.next 2)).bind fun v4 =>
    (M.call 78 [v3, (.int .i64 a1), .nilsl] h0).bind fun p5 =>
    match ckB (p5.2.ld1 (.ptr h.next 2)) v4 with
    | true => (
    (asI .u64 p5.1).bind fun n6 =>
    (asI .u64 v4).bind fun n7 =>
    match (decide (n6 = n7)) with
    | true => (
      (p5.2.ldN 3 (.ptr h.next 0)).bind fun v8 =>
      (p5.2.ld1 (.ptr h.next 2)).bind fun v9 =>
      (M.call 78 [v8, (.int .i64 a1), a2] p5.2).bind fun p10 =>
      match ckB (p10.2.ld1 (.ptr h.next 2)) v9 with
      | true => (
      (asI .u64 p10.1).bind fun n11 =>
      (asI .u64 v9).bind fun n12 =>
      (p10.2.ldN 3 (.ptr h.next 0)).bind fun v13 =>
      (M.call 78 [v13, (.int .i64 a1), a2] p10.2).bind fun p14 =>
      (M.loop (withylaw16_OpRaw_c1_B M) (withylaw16_OpRaw_c1_E (.int .i64 a1) a2 (.int .u64 a3) (.ptr h.next 0) (.bool (decide (n11 = n12))) p14.1 .nilsl (.bool false) (.int .i64 0)) p14.2).bind fun p15 => withylaw16_OpRaw_K2 M p15.1 p15.2.1 p15.2.2)
      | false => none)
    | false => (
      (p5.2.ldN 3 (.ptr h.next 0)).bind fun v8 =>
      (M.call 78 [v8, (.int .i64 a1), a2] p5.2).bind fun p9 =>
      (M.loop (withylaw16_OpRaw_c1_B M) (withylaw16_OpRaw_c1_E (.int .i64 a1) a2 (.int .u64 a3) (.ptr h.next 0) (.bool false) p9.1 .nilsl (.bool false) (.int .i64 0)) p9.2).bind fun p10 => withylaw16_OpRaw_K2 M p10.1 p10.2.1 p10.2.2))
    | false => none)

def withylaw16_OpRaw_c1_S (M : Env) (x1 : Int) (x2 : V) (x3 : Int) (x4 : V) (x9 : Bool) (x10 : Int) (x11 : V) (x12 : Bool) (x13 : Int) (h : H) : Option (AX × List V × H) :=
  (lenSl x2).bind fun n0 =>
  match (decide (x13 < ((n0 : Nat) : Int))) with
  | true => (
    let h1 := h.new (.cells [] .rw)
    (indexAV 1 x2 (.int .i64 x13)).bind fun v2 =>
    (h1.ld1 v2).bind fun v3 =>
    (h1.append 1 8 (.sl h.next 0 0 (.ex 0)) v3).bind fun p4 =>
    let h5 := p4.2.new (.cells [(.int .u64 x3)] .rw)
    (h5.append 1 8 p4.1 (.sl p4.2.next 0 1 (.ex 1))).bind fun p6 =>
    (fill (repl [.nilsl] 1) [] [(0, 1, .c p6.1)]).bind fun cs7 =>
    let h8 := p6.2.new (.cells cs7 .rw)
    (h8.append 1 24 x11 (.sl p6.2.next 0 1 (.ex 1))).bind fun p9 =>
    match x12 with
    | true => (
      some (.normal, (withylaw16_OpRaw_c1_E (.int .i64 x1) x2 (.int .u64 x3) x4 (.bool x9) (.int .u64 x10) p9.1 (.bool true) (.int .i64 (wr .i64 (x13 + 1)))), p9.2))
    | false => (
      (ptrAt x4 0).bind fun v10 =>
      (p9.2.ld1 v10).bind fun v11 =>
      (asI .i64 v11).bind fun n12 =>
      match (decide (0 ≤ n12)) with
      | true => (
        (ptrAt x4 0).bind fun v13 =>
        (p9.2.ld1 v13).bind fun v14 =>
        (indexAV 1 x2 (.int .i64 x13)).bind fun v15 =>
        (p9.2.ld1 v15).bind fun v16 =>
        (lenSl v16).bind fun n17 =>
        (asI .i64 v14).bind fun n18 =>
        match (decide (n18 < ((n17 : Nat) : Int))) with
        | true => (
          (ptrAt x4 1).bind fun v19 =>
          (p9.2.ld1 v19).bind fun v20 =>
          (asI .i64 v20).bind fun n21 =>
          match (decide (x13 = n21)) with
          | true => (
            some (.normal, (withylaw16_OpRaw_c1_E (.int .i64 x1) x2 (.int .u64 x3) x4 (.bool x9) (.int .u64 x10) p9.1 (.bool true) (.int .i64 (wr .i64 (x13 + 1)))), p9.2))
          | false => (
            (ptrAt x4 1).bind fun v22 =>
            (p9.2.ld1 v22).bind fun v23 =>
            (asI .i64 v23).bind fun n24 =>
            match (decide (n24 < 0)) with
            | true => (
              some (.normal, (withylaw16_OpRaw_c1_E (.int .i64 x1) x2 (.int .u64 x3) x4 (.bool x9) (.int .u64 x10) p9.1 (.bool (decide (x13 = x1))) (.int .i64 (wr .i64 (x13 + 1)))), p9.2))
            | false => (
              some (.normal, (withylaw16_OpRaw_c1_E (.int .i64 x1) x2 (.int .u64 x3) x4 (.bool x9) (.int .u64 x10) p9.1 (.bool false) (.int .i64 (wr .i64 (x13 + 1)))), p9.2))))
        | false => (
          some (.normal, (withylaw16_OpRaw_c1_E (.int .i64 x1) x2 (.int .u64 x3) x4 (.bool x9) (.int .u64 x10) p9.1 (.bool false) (.int .i64 (wr .i64 (x13 + 1)))), p9.2)))
      | false => (
        some (.normal, (withylaw16_OpRaw_c1_E (.int .i64 x1) x2 (.int .u64 x3) x4 (.bool x9) (.int .u64 x10) p9.1 (.bool false) (.int .i64 (wr .i64 (x13 + 1)))), p9.2))))
  | false => (
    some ((.exit 0), (withylaw16_OpRaw_c1_O (.int .i64 x1) x4 (.bool x9) (.int .u64 x10) x11 (.bool x12)), h))

def withylaw16_OpRaw_c1_e0 (M : Env) (x1 : Int) (x4 : V) (x9 : Bool) (x10 : Int) (x11 : V) (x12 : Bool) (h : H) : Option (V × H) :=
  match x9 with
  | true => (
    match (!x12) with
    | true => (
      (M.call 80 [] h).bind fun p0 =>
      some (p0.1, p0.2))
    | false => (
      (h.ldN 3 x4).bind fun v0 =>
      (M.call 78 [v0, (.int .i64 x1), x11] h).bind fun p1 =>
      (asI .u64 p1.1).bind fun n2 =>
      match (decide (n2 = x10)) with
      | true => (
        (M.call 80 [] p1.2).bind fun p3 =>
        some (p3.1, p3.2))
      | false => (
        some ((.bool false), p1.2))))
  | false => (
    some ((.bool false), h))

theorem withylaw16_OpRaw_eq (M : Env) (a0_0 : Int) (a0_1 : Int) (a0_2 : Int) (a1 : Int) (a2 : V) (a3 : Int) (h : H) : evalF M F.withylaw16_OpRaw [(.agg [(.int .i64 a0_0), (.int .i64 a0_1), (.int .u64 a0_2)]), (.int .i64 a1), a2, (.int .u64 a3)] h = withylaw16_OpRaw M a0_0 a0_1 a0_2 a1 a2 a3 h := by kernel_rfl

theorem withylaw16_OpRaw_c1_eq (M : Env) (x1 : Int) (x2 : V) (x3 : Int) (x4 : V) (x9 : Bool) (x10 : Int) (x11 : V) (x12 : Bool) (x13 : Int) (h : H) : withylaw16_OpRaw_c1_B M (withylaw16_OpRaw_c1_E (.int .i64 x1) x2 (.int .u64 x3) x4 (.bool x9) (.int .u64 x10) x11 (.bool x12) (.int .i64 x13)) h = withylaw16_OpRaw_c1_S M x1 x2 x3 x4 x9 x10 x11 x12 x13 h := by kernel_rfl

theorem withylaw16_OpRaw_c1_e0_eq (M : Env) (x1 : Int) (x4 : V) (x9 : Bool) (x10 : Int) (x11 : V) (x12 : Bool) (h : H) : withylaw16_OpRaw_K2 M (.exit 0) (withylaw16_OpRaw_c1_O (.int .i64 x1) x4 (.bool x9) (.int .u64 x10) x11 (.bool x12)) h = withylaw16_OpRaw_c1_e0 M x1 x4 x9 x10 x11 x12 h := by kernel_rfl

end Wm.S
end

