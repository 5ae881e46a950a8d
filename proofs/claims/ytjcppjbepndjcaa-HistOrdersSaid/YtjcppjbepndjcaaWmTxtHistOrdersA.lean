/- PRINTED by my tool: what functions come to, stretch by stretch. -/
import Derived.KernelRfl
import Derived.Test.YtjcppjbepndjcaaWmShal
import Derived.Test.YtjcppjbepndjcaaWmFnc
import Derived.Test.YtjcppjbepndjcaaWmFnsHistOrdersA
set_option linter.all false
section
open Wm
namespace Wm.S
def dd : Nat → List V → List V
  | 0, l => l
  | n + 1, l => .dead :: dd n l
end Wm.S

end
section
namespace Wm.S
open Wm
set_option maxRecDepth 100000
set_option linter.unusedVariables false

def slices_insertionSortCmpFunc_int__c0_B (M : Env) : List V → H → Option (AX × List V × H) :=
 fun env h => evalC M F.slices_insertionSortCmpFunc_int__c0 env h fun x env h => match x with
 | .normal => some (.normal, keepOf [0, 1, 2, 3, 8] 0 env, h)
 | x => some (x, keepOf [] 0 env, h)

def slices_insertionSortCmpFunc_int__c0_E (x0 x1 x2 x3 x8 : V) : List V := x0 :: x1 :: x2 :: x3 :: dd 4 (x8 :: dd 44 [])
def slices_insertionSortCmpFunc_int__c0_O : List V := dd 53 []

def slices_insertionSortCmpFunc_int__c2_B (M : Env) : List V → H → Option (AX × List V × H) :=
 fun env h => evalC M F.slices_insertionSortCmpFunc_int__c2 env h fun x env h => match x with
 | .normal => some (.normal, keepOf [0, 1, 2, 3, 8, 9] 0 env, h)
 | x => some (x, keepOf [0, 1, 2, 3, 8] 0 env, h)

def slices_insertionSortCmpFunc_int__c2_E (x0 x1 x2 x3 x8 x9 : V) : List V := x0 :: x1 :: x2 :: x3 :: dd 4 (x8 :: x9 :: dd 43 [])
def slices_insertionSortCmpFunc_int__c2_O (x0 x1 x2 x3 x8 : V) : List V := x0 :: x1 :: x2 :: x3 :: dd 4 (x8 :: dd 44 [])

def slices_insertionSortCmpFunc_int__K0 (M : Env) : AX → List V → H → Option (V × H) :=
 fun x env h => fin F.slices_insertionSortCmpFunc_int_ x env h

def slices_insertionSortCmpFunc_int__K1 (M : Env) : AX → List V → H → Option (V × H) :=
 fun x env h => match x with | .exit j => (match Nat.beq j 0 with | true => slices_insertionSortCmpFunc_int__K0 M .normal env h | false => slices_insertionSortCmpFunc_int__K0 M (.exit j) env h) | x => slices_insertionSortCmpFunc_int__K0 M x env h

def slices_insertionSortCmpFunc_int__K2 (M : Env) : AX → List V → H → Option (AX × List V × H) :=
 fun x env h => match x with | .normal => some (.normal, keepOf [0, 1, 2, 3, 8] 0 env, h) | x => some (x, keepOf [] 0 env, h)

def slices_insertionSortCmpFunc_int__K3 (M : Env) : AX → List V → H → Option (AX × List V × H) :=
 fun x env h => match x with | .normal => evalC M F.slices_insertionSortCmpFunc_int__c1 env h (fun x env h => slices_insertionSortCmpFunc_int__K2 M x env h) | x => slices_insertionSortCmpFunc_int__K2 M x env h

def slices_insertionSortCmpFunc_int__K4 (M : Env) : AX → List V → H → Option (AX × List V × H) :=
 fun x env h => match x with | .exit j => (match Nat.beq j 1 with | true => slices_insertionSortCmpFunc_int__K3 M .normal env h | false => slices_insertionSortCmpFunc_int__K3 M (.exit j) env h) | x => slices_insertionSortCmpFunc_int__K3 M x env h

def slices_insertionSortCmpFunc_int__K5 (M : Env) : AX → List V → H → Option (AX × List V × H) :=
 fun x env h => match x with | .exit j => (match Nat.beq j 2 with | true => slices_insertionSortCmpFunc_int__K4 M .normal env h | false => slices_insertionSortCmpFunc_int__K4 M (.exit j) env h) | x => slices_insertionSortCmpFunc_int__K4 M x env h

def slices_insertionSortCmpFunc_int_ (M : Env) (a0 : V) (a1 : Int) (a2 : Int) (a3 : V) (h : H) : Option (V × H) :=
 (M.loop (slices_insertionSortCmpFunc_int__c0_B M) (slices_insertionSortCmpFunc_int__c0_E a0 (.int .i64 a1) (.int .i64 a2) a3 (.int .i64 (wr .i64 (a1 + 1)))) h).bind fun p0 => slices_insertionSortCmpFunc_int__K1 M p0.1 p0.2.1 p0.2.2

def slices_insertionSortCmpFunc_int__c0_S (M : Env) (x0 : V) (x1 : Int) (x2 : Int) (x3 : V) (x8 : Int) (h : H) : Option (AX × List V × H) :=
 match (decide (x8 < x2)) with
 | true => (
 (M.loop (slices_insertionSortCmpFunc_int__c2_B M) (slices_insertionSortCmpFunc_int__c2_E x0 (.int .i64 x1) (.int .i64 x2) x3 (.int .i64 x8) (.int .i64 x8)) h).bind fun p0 => slices_insertionSortCmpFunc_int__K5 M p0.1 p0.2.1 p0.2.2)
 | false => (
 some ((.exit 0), slices_insertionSortCmpFunc_int__c0_O, h))

def slices_insertionSortCmpFunc_int__c0_e0 (M : Env) (h : H) : Option (V × H) :=
 some ((.tup []), h)

def slices_insertionSortCmpFunc_int__c2_S (M : Env) (x0 : V) (x1 : Int) (x2 : Int) (x3 : V) (x8 : Int) (x9 : Int) (h : H) : Option (AX × List V × H) :=
 match (decide (x1 < x9)) with
 | true => (
 (indexAV 1 x0 (.int .i64 x9)).bind fun v0 =>
 (h.ld1 v0).bind fun v1 =>
 (indexAV 1 x0 (.int .i64 (wr .i64 (x9 - 1)))).bind fun v2 =>
 (h.ld1 v2).bind fun v3 =>
 callFn M x3 [v1, v3] h fun p4 =>
 (asI .i64 p4.1).bind fun n5 =>
 match (decide (n5 < 0)) with
 | true => (
 (indexAV 1 x0 (.int .i64 (wr .i64 (x9 - 1)))).bind fun v6 =>
 (p4.2.ld1 v6).bind fun v7 =>
 (indexAV 1 x0 (.int .i64 x9)).bind fun v8 =>
 (p4.2.ld1 v8).bind fun v9 =>
 (indexAV 1 x0 (.int .i64 x9)).bind fun v10 =>
 (p4.2.st 1 v10 v7).bind fun h11 =>
 (indexAV 1 x0 (.int .i64 (wr .i64 (x9 - 1)))).bind fun v12 =>
 (h11.st 1 v12 v9).bind fun h13 =>
 some (.normal, (slices_insertionSortCmpFunc_int__c2_E x0 (.int .i64 x1) (.int .i64 x2) x3 (.int .i64 x8) (.int .i64 (wr .i64 (x9 - 1)))), h13))
 | false => (
 some ((.exit 2), (slices_insertionSortCmpFunc_int__c2_O x0 (.int .i64 x1) (.int .i64 x2) x3 (.int .i64 x8)), p4.2)))
 | false => (
 some ((.exit 2), (slices_insertionSortCmpFunc_int__c2_O x0 (.int .i64 x1) (.int .i64 x2) x3 (.int .i64 x8)), h))

def slices_insertionSortCmpFunc_int__c2_e2 (M : Env) (x0 : V) (x1 : Int) (x2 : Int) (x3 : V) (x8 : Int) (h : H) : Option (AX × List V × H) :=
 some (.normal, (slices_insertionSortCmpFunc_int__c0_E x0 (.int .i64 x1) (.int .i64 x2) x3 (.int .i64 (wr .i64 (x8 + 1)))), h)

theorem slices_insertionSortCmpFunc_int__eq (M : Env) (a0 : V) (a1 : Int) (a2 : Int) (a3 : V) (h : H) : evalF M F.slices_insertionSortCmpFunc_int_ [a0, (.int .i64 a1), (.int .i64 a2), a3] h = slices_insertionSortCmpFunc_int_ M a0 a1 a2 a3 h := by kernel_rfl

theorem slices_insertionSortCmpFunc_int__c0_eq (M : Env) (x0 : V) (x1 : Int) (x2 : Int) (x3 : V) (x8 : Int) (h : H) : slices_insertionSortCmpFunc_int__c0_B M (slices_insertionSortCmpFunc_int__c0_E x0 (.int .i64 x1) (.int .i64 x2) x3 (.int .i64 x8)) h = slices_insertionSortCmpFunc_int__c0_S M x0 x1 x2 x3 x8 h := by kernel_rfl

theorem slices_insertionSortCmpFunc_int__c0_e0_eq (M : Env) (h : H) : slices_insertionSortCmpFunc_int__K1 M (.exit 0) slices_insertionSortCmpFunc_int__c0_O h = slices_insertionSortCmpFunc_int__c0_e0 M h := by kernel_rfl

theorem slices_insertionSortCmpFunc_int__c2_eq (M : Env) (x0 : V) (x1 : Int) (x2 : Int) (x3 : V) (x8 : Int) (x9 : Int) (h : H) : slices_insertionSortCmpFunc_int__c2_B M (slices_insertionSortCmpFunc_int__c2_E x0 (.int .i64 x1) (.int .i64 x2) x3 (.int .i64 x8) (.int .i64 x9)) h = slices_insertionSortCmpFunc_int__c2_S M x0 x1 x2 x3 x8 x9 h := by kernel_rfl

theorem slices_insertionSortCmpFunc_int__c2_e2_eq (M : Env) (x0 : V) (x1 : Int) (x2 : Int) (x3 : V) (x8 : Int) (h : H) : slices_insertionSortCmpFunc_int__K5 M (.exit 2) (slices_insertionSortCmpFunc_int__c2_O x0 (.int .i64 x1) (.int .i64 x2) x3 (.int .i64 x8)) h = slices_insertionSortCmpFunc_int__c2_e2 M x0 x1 x2 x3 x8 h := by kernel_rfl

end Wm.S
end

section
namespace Wm.S
open Wm
set_option maxRecDepth 100000
set_option linter.unusedVariables false

def slices_swapRangeCmpFunc_int__c0_B (M : Env) : List V → H → Option (AX × List V × H) :=
 fun env h => evalC M F.slices_swapRangeCmpFunc_int__c0 env h fun x env h => match x with
 | .normal => some (.normal, keepOf [0, 1, 2, 3, 10] 0 env, h)
 | x => some (x, keepOf [] 0 env, h)

def slices_swapRangeCmpFunc_int__c0_E (x0 x1 x2 x3 x10 : V) : List V := x0 :: x1 :: x2 :: x3 :: dd 6 (x10 :: dd 27 [])
def slices_swapRangeCmpFunc_int__c0_O : List V := dd 38 []

def slices_swapRangeCmpFunc_int__K0 (M : Env) : AX → List V → H → Option (V × H) :=
 fun x env h => fin F.slices_swapRangeCmpFunc_int_ x env h

def slices_swapRangeCmpFunc_int__K1 (M : Env) : AX → List V → H → Option (V × H) :=
 fun x env h => match x with | .exit j => (match Nat.beq j 0 with | true => slices_swapRangeCmpFunc_int__K0 M .normal env h | false => slices_swapRangeCmpFunc_int__K0 M (.exit j) env h) | x => slices_swapRangeCmpFunc_int__K0 M x env h

def slices_swapRangeCmpFunc_int_ (M : Env) (a0 : V) (a1 : Int) (a2 : Int) (a3 : Int) (a4 : V) (h : H) : Option (V × H) :=
 (M.loop (slices_swapRangeCmpFunc_int__c0_B M) (slices_swapRangeCmpFunc_int__c0_E a0 (.int .i64 a1) (.int .i64 a2) (.int .i64 a3) (.int .i64 0)) h).bind fun p0 => slices_swapRangeCmpFunc_int__K1 M p0.1 p0.2.1 p0.2.2

def slices_swapRangeCmpFunc_int__c0_S (M : Env) (x0 : V) (x1 : Int) (x2 : Int) (x3 : Int) (x10 : Int) (h : H) : Option (AX × List V × H) :=
 match (decide (x10 < x3)) with
 | true => (
 (indexAV 1 x0 (.int .i64 (wr .i64 (x2 + x10)))).bind fun v0 =>
 (h.ld1 v0).bind fun v1 =>
 (indexAV 1 x0 (.int .i64 (wr .i64 (x1 + x10)))).bind fun v2 =>
 (h.ld1 v2).bind fun v3 =>
 (indexAV 1 x0 (.int .i64 (wr .i64 (x1 + x10)))).bind fun v4 =>
 (h.st 1 v4 v1).bind fun h5 =>
 (indexAV 1 x0 (.int .i64 (wr .i64 (x2 + x10)))).bind fun v6 =>
 (h5.st 1 v6 v3).bind fun h7 =>
 some (.normal, (slices_swapRangeCmpFunc_int__c0_E x0 (.int .i64 x1) (.int .i64 x2) (.int .i64 x3) (.int .i64 (wr .i64 (x10 + 1)))), h7))
 | false => (
 some ((.exit 0), slices_swapRangeCmpFunc_int__c0_O, h))

def slices_swapRangeCmpFunc_int__c0_e0 (M : Env) (h : H) : Option (V × H) :=
 some ((.tup []), h)

theorem slices_swapRangeCmpFunc_int__eq (M : Env) (a0 : V) (a1 : Int) (a2 : Int) (a3 : Int) (a4 : V) (h : H) : evalF M F.slices_swapRangeCmpFunc_int_ [a0, (.int .i64 a1), (.int .i64 a2), (.int .i64 a3), a4] h = slices_swapRangeCmpFunc_int_ M a0 a1 a2 a3 a4 h := by kernel_rfl

theorem slices_swapRangeCmpFunc_int__c0_eq (M : Env) (x0 : V) (x1 : Int) (x2 : Int) (x3 : Int) (x10 : Int) (h : H) : slices_swapRangeCmpFunc_int__c0_B M (slices_swapRangeCmpFunc_int__c0_E x0 (.int .i64 x1) (.int .i64 x2) (.int .i64 x3) (.int .i64 x10)) h = slices_swapRangeCmpFunc_int__c0_S M x0 x1 x2 x3 x10 h := by kernel_rfl

theorem slices_swapRangeCmpFunc_int__c0_e0_eq (M : Env) (h : H) : slices_swapRangeCmpFunc_int__K1 M (.exit 0) slices_swapRangeCmpFunc_int__c0_O h = slices_swapRangeCmpFunc_int__c0_e0 M h := by kernel_rfl

end Wm.S
end

section
namespace Wm.S
open Wm
set_option maxRecDepth 100000
set_option linter.unusedVariables false

def slices_rotateCmpFunc_int__c1_B (M : Env) : List V → H → Option (AX × List V × H) :=
 fun env h => evalC M F.slices_rotateCmpFunc_int__c1 env h fun x env h => match x with
 | .normal => some (.normal, keepOf [0, 2, 4, 10, 11] 0 env, h)
 | x => some (x, keepOf [0, 2, 4, 10] 0 env, h)

def slices_rotateCmpFunc_int__c1_E (x0 x2 x4 x10 x11 : V) : List V := x0 :: dd 1 (x2 :: dd 1 (x4 :: dd 5 (x10 :: x11 :: dd 46 [])))
def slices_rotateCmpFunc_int__c1_O (x0 x2 x4 x10 : V) : List V := x0 :: dd 1 (x2 :: dd 1 (x4 :: dd 5 (x10 :: dd 47 [])))

def slices_rotateCmpFunc_int__K0 (M : Env) : AX → List V → H → Option (V × H) :=
 fun x env h => fin F.slices_rotateCmpFunc_int_ x env h

def slices_rotateCmpFunc_int__K1 (M : Env) : AX → List V → H → Option (V × H) :=
 fun x env h => match x with | .normal => evalC M F.slices_rotateCmpFunc_int__c0 env h (fun x env h => slices_rotateCmpFunc_int__K0 M x env h) | x => slices_rotateCmpFunc_int__K0 M x env h

def slices_rotateCmpFunc_int__K2 (M : Env) : AX → List V → H → Option (V × H) :=
 fun x env h => match x with | .exit j => (match Nat.beq j 0 with | true => slices_rotateCmpFunc_int__K1 M .normal env h | false => slices_rotateCmpFunc_int__K1 M (.exit j) env h) | x => slices_rotateCmpFunc_int__K1 M x env h

def slices_rotateCmpFunc_int_ (M : Env) (a0 : V) (a1 : Int) (a2 : Int) (a3 : Int) (a4 : V) (h : H) : Option (V × H) :=
 (M.loop (slices_rotateCmpFunc_int__c1_B M) (slices_rotateCmpFunc_int__c1_E a0 (.int .i64 a2) a4 (.int .i64 (wr .i64 (a2 - a1))) (.int .i64 (wr .i64 (a3 - a2)))) h).bind fun p0 => slices_rotateCmpFunc_int__K2 M p0.1 p0.2.1 p0.2.2

def slices_rotateCmpFunc_int__c1_S (M : Env) (x0 : V) (x2 : Int) (x4 : V) (x10 : Int) (x11 : Int) (h : H) : Option (AX × List V × H) :=
 match (!decide (x10 = x11)) with
 | true => (
 match (decide (x11 < x10)) with
 | true => (
 (M.call 513 [x0, (.int .i64 (wr .i64 (x2 - x10))), (.int .i64 x2), (.int .i64 x11), x4] h).bind fun p0 =>
 some (.normal, (slices_rotateCmpFunc_int__c1_E x0 (.int .i64 x2) x4 (.int .i64 (wr .i64 (x10 - x11))) (.int .i64 x11)), p0.2))
 | false => (
 (M.call 513 [x0, (.int .i64 (wr .i64 (x2 - x10))), (.int .i64 (wr .i64 ((wr .i64 (x2 + x11)) - x10))), (.int .i64 x10), x4] h).bind fun p0 =>
 some (.normal, (slices_rotateCmpFunc_int__c1_E x0 (.int .i64 x2) x4 (.int .i64 x10) (.int .i64 (wr .i64 (x11 - x10)))), p0.2)))
 | false => (
 some ((.exit 0), (slices_rotateCmpFunc_int__c1_O x0 (.int .i64 x2) x4 (.int .i64 x10)), h))

def slices_rotateCmpFunc_int__c1_e0 (M : Env) (x0 : V) (x2 : Int) (x4 : V) (x10 : Int) (h : H) : Option (V × H) :=
 (M.call 513 [x0, (.int .i64 (wr .i64 (x2 - x10))), (.int .i64 x2), (.int .i64 x10), x4] h).bind fun p0 =>
 some ((.tup []), p0.2)

theorem slices_rotateCmpFunc_int__eq (M : Env) (a0 : V) (a1 : Int) (a2 : Int) (a3 : Int) (a4 : V) (h : H) : evalF M F.slices_rotateCmpFunc_int_ [a0, (.int .i64 a1), (.int .i64 a2), (.int .i64 a3), a4] h = slices_rotateCmpFunc_int_ M a0 a1 a2 a3 a4 h := by kernel_rfl

theorem slices_rotateCmpFunc_int__c1_eq (M : Env) (x0 : V) (x2 : Int) (x4 : V) (x10 : Int) (x11 : Int) (h : H) : slices_rotateCmpFunc_int__c1_B M (slices_rotateCmpFunc_int__c1_E x0 (.int .i64 x2) x4 (.int .i64 x10) (.int .i64 x11)) h = slices_rotateCmpFunc_int__c1_S M x0 x2 x4 x10 x11 h := by kernel_rfl

theorem slices_rotateCmpFunc_int__c1_e0_eq (M : Env) (x0 : V) (x2 : Int) (x4 : V) (x10 : Int) (h : H) : slices_rotateCmpFunc_int__K2 M (.exit 0) (slices_rotateCmpFunc_int__c1_O x0 (.int .i64 x2) x4 (.int .i64 x10)) h = slices_rotateCmpFunc_int__c1_e0 M x0 x2 x4 x10 h := by kernel_rfl

end Wm.S
end

section
namespace Wm.S
open Wm
set_option maxRecDepth 100000
set_option linter.unusedVariables false

def slices_symMergeCmpFunc_int__c2_B (M : Env) : List V → H → Option (AX × List V × H) :=
 fun env h => evalC M F.slices_symMergeCmpFunc_int__c2 env h fun x env h => match x with
 | .normal => some (.normal, keepOf [0, 1, 4, 10, 11] 0 env, h)
 | x => some (x, keepOf [0, 1, 10] 0 env, h)

def slices_symMergeCmpFunc_int__c2_E (x0 x1 x4 x10 x11 : V) : List V := x0 :: x1 :: dd 2 (x4 :: dd 5 (x10 :: x11 :: dd 208 []))
def slices_symMergeCmpFunc_int__c2_O (x0 x1 x10 : V) : List V := x0 :: x1 :: dd 8 (x10 :: dd 209 [])

def slices_symMergeCmpFunc_int__c4_B (M : Env) : List V → H → Option (AX × List V × H) :=
 fun env h => evalC M F.slices_symMergeCmpFunc_int__c4 env h fun x env h => match x with
 | .normal => some (.normal, keepOf [0, 10, 13] 0 env, h)
 | x => some (x, keepOf [] 0 env, h)

def slices_symMergeCmpFunc_int__c4_E (x0 x10 x13 : V) : List V := x0 :: dd 9 (x10 :: dd 2 (x13 :: dd 206 []))
def slices_symMergeCmpFunc_int__c4_O : List V := dd 220 []

def slices_symMergeCmpFunc_int__c7_B (M : Env) : List V → H → Option (AX × List V × H) :=
 fun env h => evalC M F.slices_symMergeCmpFunc_int__c7 env h fun x env h => match x with
 | .normal => some (.normal, keepOf [0, 2, 4, 14, 15] 0 env, h)
 | x => some (x, keepOf [0, 2, 14] 0 env, h)

def slices_symMergeCmpFunc_int__c7_E (x0 x2 x4 x14 x15 : V) : List V := x0 :: dd 1 (x2 :: dd 1 (x4 :: dd 9 (x14 :: x15 :: dd 204 [])))
def slices_symMergeCmpFunc_int__c7_O (x0 x2 x14 : V) : List V := x0 :: dd 1 (x2 :: dd 11 (x14 :: dd 205 []))

def slices_symMergeCmpFunc_int__c9_B (M : Env) : List V → H → Option (AX × List V × H) :=
 fun env h => evalC M F.slices_symMergeCmpFunc_int__c9 env h fun x env h => match x with
 | .normal => some (.normal, keepOf [0, 14, 17] 0 env, h)
 | x => some (x, keepOf [] 0 env, h)

def slices_symMergeCmpFunc_int__c9_E (x0 x14 x17 : V) : List V := x0 :: dd 13 (x14 :: dd 2 (x17 :: dd 202 []))
def slices_symMergeCmpFunc_int__c9_O : List V := dd 220 []

def slices_symMergeCmpFunc_int__c11_B (M : Env) : List V → H → Option (AX × List V × H) :=
 fun env h => evalC M F.slices_symMergeCmpFunc_int__c11 env h fun x env h => some (x, keepOf [0, 1, 2, 3, 4, 18, 19, 20, 21] 0 env, h)

def slices_symMergeCmpFunc_int__c11_E (x0 x1 x2 x3 x4 x18 x19 : V) : List V := x0 :: x1 :: x2 :: x3 :: x4 :: dd 13 (x18 :: x19 :: dd 200 [])
def slices_symMergeCmpFunc_int__c11_O (x0 x1 x2 x3 x4 x18 x19 x20 x21 : V) : List V := x0 :: x1 :: x2 :: x3 :: x4 :: dd 13 (x18 :: x19 :: x20 :: x21 :: dd 198 [])

def slices_symMergeCmpFunc_int__c13_B (M : Env) : List V → H → Option (AX × List V × H) :=
 fun env h => evalC M F.slices_symMergeCmpFunc_int__c13 env h fun x env h => match x with
 | .normal => some (.normal, keepOf [0, 1, 2, 3, 4, 18, 19, 20, 21, 22] 0 env, h)
 | x => some (x, keepOf [0, 1, 2, 3, 4, 18, 19, 20] 0 env, h)

def slices_symMergeCmpFunc_int__c13_E (x0 x1 x2 x3 x4 x18 x19 x20 x21 x22 : V) : List V := x0 :: x1 :: x2 :: x3 :: x4 :: dd 13 (x18 :: x19 :: x20 :: x21 :: x22 :: dd 197 [])
def slices_symMergeCmpFunc_int__c13_O (x0 x1 x2 x3 x4 x18 x19 x20 : V) : List V := x0 :: x1 :: x2 :: x3 :: x4 :: dd 13 (x18 :: x19 :: x20 :: dd 199 [])

def slices_symMergeCmpFunc_int__c15_B (M : Env) : List V → H → Option (AX × List V × H) :=
 fun env h => evalC M F.slices_symMergeCmpFunc_int__c15 env h fun x env h => some (x, keepOf [0, 1, 3, 4, 18, 20, 24] 0 env, h)

def slices_symMergeCmpFunc_int__c15_E (x0 x1 x2 x3 x4 x18 x20 x24 : V) : List V := x0 :: x1 :: x2 :: x3 :: x4 :: dd 13 (x18 :: dd 1 (x20 :: dd 3 (x24 :: dd 195 [])))
def slices_symMergeCmpFunc_int__c15_O (x0 x1 x3 x4 x18 x20 x24 : V) : List V := x0 :: x1 :: dd 1 (x3 :: x4 :: dd 13 (x18 :: dd 1 (x20 :: dd 3 (x24 :: dd 195 []))))

def slices_symMergeCmpFunc_int__c17_B (M : Env) : List V → H → Option (AX × List V × H) :=
 fun env h => evalC M F.slices_symMergeCmpFunc_int__c17 env h fun x env h => some (x, keepOf [0, 3, 4, 18, 24] 0 env, h)

def slices_symMergeCmpFunc_int__c17_E (x0 x1 x3 x4 x18 x20 x24 : V) : List V := x0 :: x1 :: dd 1 (x3 :: x4 :: dd 13 (x18 :: dd 1 (x20 :: dd 3 (x24 :: dd 195 []))))
def slices_symMergeCmpFunc_int__c17_O (x0 x3 x4 x18 x24 : V) : List V := x0 :: dd 2 (x3 :: x4 :: dd 13 (x18 :: dd 5 (x24 :: dd 195 [])))

def slices_symMergeCmpFunc_int__K0 (M : Env) : AX → List V → H → Option (V × H) :=
 fun x env h => fin F.slices_symMergeCmpFunc_int_ x env h

def slices_symMergeCmpFunc_int__K1 (M : Env) : AX → List V → H → Option (V × H) :=
 fun x env h => match x with | .normal => evalC M F.slices_symMergeCmpFunc_int__c0 env h (fun x env h => slices_symMergeCmpFunc_int__K0 M x env h) | x => slices_symMergeCmpFunc_int__K0 M x env h

def slices_symMergeCmpFunc_int__K2 (M : Env) : AX → List V → H → Option (V × H) :=
 fun x env h => match x with | .normal => evalC M F.slices_symMergeCmpFunc_int__c1 env h (fun x env h => slices_symMergeCmpFunc_int__K1 M x env h) | x => slices_symMergeCmpFunc_int__K1 M x env h

def slices_symMergeCmpFunc_int__K3 (M : Env) : AX → List V → H → Option (V × H) :=
 fun x env h => match x with | .exit j => (match Nat.beq j 0 with | true => slices_symMergeCmpFunc_int__K2 M .normal env h | false => slices_symMergeCmpFunc_int__K2 M (.exit j) env h) | x => slices_symMergeCmpFunc_int__K2 M x env h

def slices_symMergeCmpFunc_int__K4 (M : Env) : AX → List V → H → Option (V × H) :=
 fun x env h => match x with | .normal => evalC M F.slices_symMergeCmpFunc_int__c5 env h (fun x env h => slices_symMergeCmpFunc_int__K0 M x env h) | x => slices_symMergeCmpFunc_int__K0 M x env h

def slices_symMergeCmpFunc_int__K5 (M : Env) : AX → List V → H → Option (V × H) :=
 fun x env h => match x with | .normal => evalC M F.slices_symMergeCmpFunc_int__c6 env h (fun x env h => slices_symMergeCmpFunc_int__K4 M x env h) | x => slices_symMergeCmpFunc_int__K4 M x env h

def slices_symMergeCmpFunc_int__K6 (M : Env) : AX → List V → H → Option (V × H) :=
 fun x env h => match x with | .exit j => (match Nat.beq j 4 with | true => slices_symMergeCmpFunc_int__K5 M .normal env h | false => slices_symMergeCmpFunc_int__K5 M (.exit j) env h) | x => slices_symMergeCmpFunc_int__K5 M x env h

def slices_symMergeCmpFunc_int__K7 (M : Env) : AX → List V → H → Option (V × H) :=
 fun x env h => match x with | .normal => evalC M F.slices_symMergeCmpFunc_int__c10 env h (fun x env h => slices_symMergeCmpFunc_int__K0 M x env h) | x => slices_symMergeCmpFunc_int__K0 M x env h

def slices_symMergeCmpFunc_int__K8 (M : Env) : AX → List V → H → Option (V × H) :=
 fun x env h => match x with | .normal => evalC M F.slices_symMergeCmpFunc_int__c3 env h (fun x env h => slices_symMergeCmpFunc_int__K1 M x env h) | x => slices_symMergeCmpFunc_int__K1 M x env h

def slices_symMergeCmpFunc_int__K9 (M : Env) : AX → List V → H → Option (V × H) :=
 fun x env h => match x with | .exit j => (match Nat.beq j 2 with | true => slices_symMergeCmpFunc_int__K8 M .normal env h | false => slices_symMergeCmpFunc_int__K8 M (.exit j) env h) | x => slices_symMergeCmpFunc_int__K8 M x env h

def slices_symMergeCmpFunc_int__K10 (M : Env) : AX → List V → H → Option (V × H) :=
 fun x env h => match x with | .normal => evalC M F.slices_symMergeCmpFunc_int__c8 env h (fun x env h => slices_symMergeCmpFunc_int__K4 M x env h) | x => slices_symMergeCmpFunc_int__K4 M x env h

def slices_symMergeCmpFunc_int__K11 (M : Env) : AX → List V → H → Option (V × H) :=
 fun x env h => match x with | .exit j => (match Nat.beq j 6 with | true => slices_symMergeCmpFunc_int__K10 M .normal env h | false => slices_symMergeCmpFunc_int__K10 M (.exit j) env h) | x => slices_symMergeCmpFunc_int__K10 M x env h

def slices_symMergeCmpFunc_int__K12 (M : Env) : AX → List V → H → Option (V × H) :=
 fun x env h => match x with | .normal => evalC M F.slices_symMergeCmpFunc_int__c12 env h (fun x env h => slices_symMergeCmpFunc_int__K0 M x env h) | x => slices_symMergeCmpFunc_int__K0 M x env h

def slices_symMergeCmpFunc_int__K13 (M : Env) : AX → List V → H → Option (V × H) :=
 fun x env h => match x with | .exit j => (match Nat.beq j 8 with | true => slices_symMergeCmpFunc_int__K12 M .normal env h | false => slices_symMergeCmpFunc_int__K12 M (.exit j) env h) | x => slices_symMergeCmpFunc_int__K12 M x env h

def slices_symMergeCmpFunc_int__K14 (M : Env) : AX → List V → H → Option (V × H) :=
 fun x env h => match x with | .normal => evalC M F.slices_symMergeCmpFunc_int__c14 env h (fun x env h => slices_symMergeCmpFunc_int__K0 M x env h) | x => slices_symMergeCmpFunc_int__K0 M x env h

def slices_symMergeCmpFunc_int__K15 (M : Env) : AX → List V → H → Option (V × H) :=
 fun x env h => match x with | .normal => evalC M F.slices_symMergeCmpFunc_int__c16 env h (fun x env h => slices_symMergeCmpFunc_int__K0 M x env h) | x => slices_symMergeCmpFunc_int__K0 M x env h

def slices_symMergeCmpFunc_int_ (M : Env) (a0 : V) (a1 : Int) (a2 : Int) (a3 : Int) (a4 : V) (h : H) : Option (V × H) :=
 match (decide ((wr .i64 (a2 - a1)) = 1)) with
 | true => (
 (M.loop (slices_symMergeCmpFunc_int__c2_B M) (slices_symMergeCmpFunc_int__c2_E a0 (.int .i64 a1) a4 (.int .i64 a2) (.int .i64 a3)) h).bind fun p0 => slices_symMergeCmpFunc_int__K3 M p0.1 p0.2.1 p0.2.2)
 | false => (
 match (decide ((wr .i64 (a3 - a2)) = 1)) with
 | true => (
 (M.loop (slices_symMergeCmpFunc_int__c7_B M) (slices_symMergeCmpFunc_int__c7_E a0 (.int .i64 a2) a4 (.int .i64 a1) (.int .i64 a2)) h).bind fun p0 => slices_symMergeCmpFunc_int__K6 M p0.1 p0.2.1 p0.2.2)
 | false => (
 (slices_symMergeCmpFunc_int__c11_B M (slices_symMergeCmpFunc_int__c11_E a0 (.int .i64 a1) (.int .i64 a2) (.int .i64 a3) a4 (.int .i64 (wr .i64 ((wr .u64 (wr .i64 (a1 + a3))) / 2 ^ (min (Int.toNat 1) (Go.IntKind.bits .u64))))) (.int .i64 (wr .i64 ((wr .i64 ((wr .u64 (wr .i64 (a1 + a3))) / 2 ^ (min (Int.toNat 1) (Go.IntKind.bits .u64)))) + a2)))) h).bind fun p0 => slices_symMergeCmpFunc_int__K7 M p0.1 p0.2.1 p0.2.2))

def slices_symMergeCmpFunc_int__c2_S (M : Env) (x0 : V) (x1 : Int) (x4 : V) (x10 : Int) (x11 : Int) (h : H) : Option (AX × List V × H) :=
 match (decide (x10 < x11)) with
 | true => (
 (indexAV 1 x0 (.int .i64 (wr .i64 ((wr .u64 (wr .i64 (x10 + x11))) / 2 ^ (min (Int.toNat 1) (Go.IntKind.bits .u64)))))).bind fun v0 =>
 (h.ld1 v0).bind fun v1 =>
 (indexAV 1 x0 (.int .i64 x1)).bind fun v2 =>
 (h.ld1 v2).bind fun v3 =>
 callFn M x4 [v1, v3] h fun p4 =>
 (asI .i64 p4.1).bind fun n5 =>
 match (decide (n5 < 0)) with
 | true => (
 some (.normal, (slices_symMergeCmpFunc_int__c2_E x0 (.int .i64 x1) x4 (.int .i64 (wr .i64 ((wr .i64 ((wr .u64 (wr .i64 (x10 + x11))) / 2 ^ (min (Int.toNat 1) (Go.IntKind.bits .u64)))) + 1))) (.int .i64 x11)), p4.2))
 | false => (
 some (.normal, (slices_symMergeCmpFunc_int__c2_E x0 (.int .i64 x1) x4 (.int .i64 x10) (.int .i64 (wr .i64 ((wr .u64 (wr .i64 (x10 + x11))) / 2 ^ (min (Int.toNat 1) (Go.IntKind.bits .u64)))))), p4.2)))
 | false => (
 some ((.exit 0), (slices_symMergeCmpFunc_int__c2_O x0 (.int .i64 x1) (.int .i64 x10)), h))

def slices_symMergeCmpFunc_int__c2_e0 (M : Env) (x0 : V) (x1 : Int) (x10 : Int) (h : H) : Option (V × H) :=
 (M.loop (slices_symMergeCmpFunc_int__c4_B M) (slices_symMergeCmpFunc_int__c4_E x0 (.int .i64 x10) (.int .i64 x1)) h).bind fun p0 => slices_symMergeCmpFunc_int__K9 M p0.1 p0.2.1 p0.2.2

def slices_symMergeCmpFunc_int__c4_S (M : Env) (x0 : V) (x10 : Int) (x13 : Int) (h : H) : Option (AX × List V × H) :=
 match (decide (x13 < (wr .i64 (x10 - 1)))) with
 | true => (
 (indexAV 1 x0 (.int .i64 (wr .i64 (x13 + 1)))).bind fun v0 =>
 (h.ld1 v0).bind fun v1 =>
 (indexAV 1 x0 (.int .i64 x13)).bind fun v2 =>
 (h.ld1 v2).bind fun v3 =>
 (indexAV 1 x0 (.int .i64 x13)).bind fun v4 =>
 (h.st 1 v4 v1).bind fun h5 =>
 (indexAV 1 x0 (.int .i64 (wr .i64 (x13 + 1)))).bind fun v6 =>
 (h5.st 1 v6 v3).bind fun h7 =>
 some (.normal, (slices_symMergeCmpFunc_int__c4_E x0 (.int .i64 x10) (.int .i64 (wr .i64 (x13 + 1)))), h7))
 | false => (
 some ((.exit 2), slices_symMergeCmpFunc_int__c4_O, h))

def slices_symMergeCmpFunc_int__c4_e2 (M : Env) (h : H) : Option (V × H) :=
 some ((.tup []), h)

def slices_symMergeCmpFunc_int__c7_S (M : Env) (x0 : V) (x2 : Int) (x4 : V) (x14 : Int) (x15 : Int) (h : H) : Option (AX × List V × H) :=
 match (decide (x14 < x15)) with
 | true => (
 (indexAV 1 x0 (.int .i64 x2)).bind fun v0 =>
 (h.ld1 v0).bind fun v1 =>
 (indexAV 1 x0 (.int .i64 (wr .i64 ((wr .u64 (wr .i64 (x14 + x15))) / 2 ^ (min (Int.toNat 1) (Go.IntKind.bits .u64)))))).bind fun v2 =>
 (h.ld1 v2).bind fun v3 =>
 callFn M x4 [v1, v3] h fun p4 =>
 (asI .i64 p4.1).bind fun n5 =>
 match (!(decide (n5 < 0))) with
 | true => (
 some (.normal, (slices_symMergeCmpFunc_int__c7_E x0 (.int .i64 x2) x4 (.int .i64 (wr .i64 ((wr .i64 ((wr .u64 (wr .i64 (x14 + x15))) / 2 ^ (min (Int.toNat 1) (Go.IntKind.bits .u64)))) + 1))) (.int .i64 x15)), p4.2))
 | false => (
 some (.normal, (slices_symMergeCmpFunc_int__c7_E x0 (.int .i64 x2) x4 (.int .i64 x14) (.int .i64 (wr .i64 ((wr .u64 (wr .i64 (x14 + x15))) / 2 ^ (min (Int.toNat 1) (Go.IntKind.bits .u64)))))), p4.2)))
 | false => (
 some ((.exit 4), (slices_symMergeCmpFunc_int__c7_O x0 (.int .i64 x2) (.int .i64 x14)), h))

def slices_symMergeCmpFunc_int__c7_e4 (M : Env) (x0 : V) (x2 : Int) (x14 : Int) (h : H) : Option (V × H) :=
 (M.loop (slices_symMergeCmpFunc_int__c9_B M) (slices_symMergeCmpFunc_int__c9_E x0 (.int .i64 x14) (.int .i64 x2)) h).bind fun p0 => slices_symMergeCmpFunc_int__K11 M p0.1 p0.2.1 p0.2.2

def slices_symMergeCmpFunc_int__c9_S (M : Env) (x0 : V) (x14 : Int) (x17 : Int) (h : H) : Option (AX × List V × H) :=
 match (decide (x14 < x17)) with
 | true => (
 (indexAV 1 x0 (.int .i64 (wr .i64 (x17 - 1)))).bind fun v0 =>
 (h.ld1 v0).bind fun v1 =>
 (indexAV 1 x0 (.int .i64 x17)).bind fun v2 =>
 (h.ld1 v2).bind fun v3 =>
 (indexAV 1 x0 (.int .i64 x17)).bind fun v4 =>
 (h.st 1 v4 v1).bind fun h5 =>
 (indexAV 1 x0 (.int .i64 (wr .i64 (x17 - 1)))).bind fun v6 =>
 (h5.st 1 v6 v3).bind fun h7 =>
 some (.normal, (slices_symMergeCmpFunc_int__c9_E x0 (.int .i64 x14) (.int .i64 (wr .i64 (x17 - 1)))), h7))
 | false => (
 some ((.exit 6), slices_symMergeCmpFunc_int__c9_O, h))

def slices_symMergeCmpFunc_int__c9_e6 (M : Env) (h : H) : Option (V × H) :=
 some ((.tup []), h)

def slices_symMergeCmpFunc_int__c11_S (M : Env) (x0 : V) (x1 : Int) (x2 : Int) (x3 : Int) (x4 : V) (x18 : Int) (x19 : Int) (h : H) : Option (AX × List V × H) :=
 match (decide (x18 < x2)) with
 | true => (
 some (.normal, (slices_symMergeCmpFunc_int__c11_O x0 (.int .i64 x1) (.int .i64 x2) (.int .i64 x3) x4 (.int .i64 x18) (.int .i64 x19) (.int .i64 (wr .i64 (x19 - x3))) (.int .i64 x18)), h))
 | false => (
 some (.normal, (slices_symMergeCmpFunc_int__c11_O x0 (.int .i64 x1) (.int .i64 x2) (.int .i64 x3) x4 (.int .i64 x18) (.int .i64 x19) (.int .i64 x1) (.int .i64 x2)), h))

def slices_symMergeCmpFunc_int__c11_n (M : Env) (x0 : V) (x1 : Int) (x2 : Int) (x3 : Int) (x4 : V) (x18 : Int) (x19 : Int) (x20 : Int) (x21 : Int) (h : H) : Option (V × H) :=
 (M.loop (slices_symMergeCmpFunc_int__c13_B M) (slices_symMergeCmpFunc_int__c13_E x0 (.int .i64 x1) (.int .i64 x2) (.int .i64 x3) x4 (.int .i64 x18) (.int .i64 x19) (.int .i64 x20) (.int .i64 x21) (.int .i64 (wr .i64 (x19 - 1)))) h).bind fun p0 => slices_symMergeCmpFunc_int__K13 M p0.1 p0.2.1 p0.2.2

def slices_symMergeCmpFunc_int__c13_S (M : Env) (x0 : V) (x1 : Int) (x2 : Int) (x3 : Int) (x4 : V) (x18 : Int) (x19 : Int) (x20 : Int) (x21 : Int) (x22 : Int) (h : H) : Option (AX × List V × H) :=
 match (decide (x20 < x21)) with
 | true => (
 (indexAV 1 x0 (.int .i64 (wr .i64 (x22 - (wr .i64 ((wr .u64 (wr .i64 (x20 + x21))) / 2 ^ (min (Int.toNat 1) (Go.IntKind.bits .u64)))))))).bind fun v0 =>
 (h.ld1 v0).bind fun v1 =>
 (indexAV 1 x0 (.int .i64 (wr .i64 ((wr .u64 (wr .i64 (x20 + x21))) / 2 ^ (min (Int.toNat 1) (Go.IntKind.bits .u64)))))).bind fun v2 =>
 (h.ld1 v2).bind fun v3 =>
 callFn M x4 [v1, v3] h fun p4 =>
 (asI .i64 p4.1).bind fun n5 =>
 match (!(decide (n5 < 0))) with
 | true => (
 some (.normal, (slices_symMergeCmpFunc_int__c13_E x0 (.int .i64 x1) (.int .i64 x2) (.int .i64 x3) x4 (.int .i64 x18) (.int .i64 x19) (.int .i64 (wr .i64 ((wr .i64 ((wr .u64 (wr .i64 (x20 + x21))) / 2 ^ (min (Int.toNat 1) (Go.IntKind.bits .u64)))) + 1))) (.int .i64 x21) (.int .i64 x22)), p4.2))
 | false => (
 some (.normal, (slices_symMergeCmpFunc_int__c13_E x0 (.int .i64 x1) (.int .i64 x2) (.int .i64 x3) x4 (.int .i64 x18) (.int .i64 x19) (.int .i64 x20) (.int .i64 (wr .i64 ((wr .u64 (wr .i64 (x20 + x21))) / 2 ^ (min (Int.toNat 1) (Go.IntKind.bits .u64))))) (.int .i64 x22)), p4.2)))
 | false => (
 some ((.exit 8), (slices_symMergeCmpFunc_int__c13_O x0 (.int .i64 x1) (.int .i64 x2) (.int .i64 x3) x4 (.int .i64 x18) (.int .i64 x19) (.int .i64 x20)), h))

def slices_symMergeCmpFunc_int__c13_e8 (M : Env) (x0 : V) (x1 : Int) (x2 : Int) (x3 : Int) (x4 : V) (x18 : Int) (x19 : Int) (x20 : Int) (h : H) : Option (V × H) :=
 (slices_symMergeCmpFunc_int__c15_B M (slices_symMergeCmpFunc_int__c15_E x0 (.int .i64 x1) (.int .i64 x2) (.int .i64 x3) x4 (.int .i64 x18) (.int .i64 x20) (.int .i64 (wr .i64 (x19 - x20)))) h).bind fun p0 => slices_symMergeCmpFunc_int__K14 M p0.1 p0.2.1 p0.2.2

def slices_symMergeCmpFunc_int__c15_S (M : Env) (x0 : V) (x1 : Int) (x2 : Int) (x3 : Int) (x4 : V) (x18 : Int) (x20 : Int) (x24 : Int) (h : H) : Option (AX × List V × H) :=
 match (decide (x20 < x2)) with
 | true => (
 match (decide (x2 < x24)) with
 | true => (
 (M.call 492 [x0, (.int .i64 x20), (.int .i64 x2), (.int .i64 x24), x4] h).bind fun p0 =>
 some (.normal, (slices_symMergeCmpFunc_int__c15_O x0 (.int .i64 x1) (.int .i64 x3) x4 (.int .i64 x18) (.int .i64 x20) (.int .i64 x24)), p0.2))
 | false => (
 some (.normal, (slices_symMergeCmpFunc_int__c15_O x0 (.int .i64 x1) (.int .i64 x3) x4 (.int .i64 x18) (.int .i64 x20) (.int .i64 x24)), h)))
 | false => (
 some (.normal, (slices_symMergeCmpFunc_int__c15_O x0 (.int .i64 x1) (.int .i64 x3) x4 (.int .i64 x18) (.int .i64 x20) (.int .i64 x24)), h))

def slices_symMergeCmpFunc_int__c15_n (M : Env) (x0 : V) (x1 : Int) (x3 : Int) (x4 : V) (x18 : Int) (x20 : Int) (x24 : Int) (h : H) : Option (V × H) :=
 (slices_symMergeCmpFunc_int__c17_B M (slices_symMergeCmpFunc_int__c17_E x0 (.int .i64 x1) (.int .i64 x3) x4 (.int .i64 x18) (.int .i64 x20) (.int .i64 x24)) h).bind fun p0 => slices_symMergeCmpFunc_int__K15 M p0.1 p0.2.1 p0.2.2

def slices_symMergeCmpFunc_int__c17_S (M : Env) (x0 : V) (x1 : Int) (x3 : Int) (x4 : V) (x18 : Int) (x20 : Int) (x24 : Int) (h : H) : Option (AX × List V × H) :=
 match (decide (x1 < x20)) with
 | true => (
 match (decide (x20 < x18)) with
 | true => (
 (M.call 460 [x0, (.int .i64 x1), (.int .i64 x20), (.int .i64 x18), x4] h).bind fun p0 =>
 some (.normal, (slices_symMergeCmpFunc_int__c17_O x0 (.int .i64 x3) x4 (.int .i64 x18) (.int .i64 x24)), p0.2))
 | false => (
 some (.normal, (slices_symMergeCmpFunc_int__c17_O x0 (.int .i64 x3) x4 (.int .i64 x18) (.int .i64 x24)), h)))
 | false => (
 some (.normal, (slices_symMergeCmpFunc_int__c17_O x0 (.int .i64 x3) x4 (.int .i64 x18) (.int .i64 x24)), h))

def slices_symMergeCmpFunc_int__c17_n (M : Env) (x0 : V) (x3 : Int) (x4 : V) (x18 : Int) (x24 : Int) (h : H) : Option (V × H) :=
 match (decide (x18 < x24)) with
 | true => (
 match (decide (x24 < x3)) with
 | true => (
 (M.call 460 [x0, (.int .i64 x18), (.int .i64 x24), (.int .i64 x3), x4] h).bind fun p0 =>
 some ((.tup []), p0.2))
 | false => (
 some ((.tup []), h)))
 | false => (
 some ((.tup []), h))

theorem slices_symMergeCmpFunc_int__eq (M : Env) (a0 : V) (a1 : Int) (a2 : Int) (a3 : Int) (a4 : V) (h : H) : evalF M F.slices_symMergeCmpFunc_int_ [a0, (.int .i64 a1), (.int .i64 a2), (.int .i64 a3), a4] h = slices_symMergeCmpFunc_int_ M a0 a1 a2 a3 a4 h := by kernel_rfl

theorem slices_symMergeCmpFunc_int__c2_eq (M : Env) (x0 : V) (x1 : Int) (x4 : V) (x10 : Int) (x11 : Int) (h : H) : slices_symMergeCmpFunc_int__c2_B M (slices_symMergeCmpFunc_int__c2_E x0 (.int .i64 x1) x4 (.int .i64 x10) (.int .i64 x11)) h = slices_symMergeCmpFunc_int__c2_S M x0 x1 x4 x10 x11 h := by kernel_rfl

theorem slices_symMergeCmpFunc_int__c2_e0_eq (M : Env) (x0 : V) (x1 : Int) (x10 : Int) (h : H) : slices_symMergeCmpFunc_int__K3 M (.exit 0) (slices_symMergeCmpFunc_int__c2_O x0 (.int .i64 x1) (.int .i64 x10)) h = slices_symMergeCmpFunc_int__c2_e0 M x0 x1 x10 h := by kernel_rfl

theorem slices_symMergeCmpFunc_int__c4_eq (M : Env) (x0 : V) (x10 : Int) (x13 : Int) (h : H) : slices_symMergeCmpFunc_int__c4_B M (slices_symMergeCmpFunc_int__c4_E x0 (.int .i64 x10) (.int .i64 x13)) h = slices_symMergeCmpFunc_int__c4_S M x0 x10 x13 h := by kernel_rfl

theorem slices_symMergeCmpFunc_int__c4_e2_eq (M : Env) (h : H) : slices_symMergeCmpFunc_int__K9 M (.exit 2) slices_symMergeCmpFunc_int__c4_O h = slices_symMergeCmpFunc_int__c4_e2 M h := by kernel_rfl

theorem slices_symMergeCmpFunc_int__c7_eq (M : Env) (x0 : V) (x2 : Int) (x4 : V) (x14 : Int) (x15 : Int) (h : H) : slices_symMergeCmpFunc_int__c7_B M (slices_symMergeCmpFunc_int__c7_E x0 (.int .i64 x2) x4 (.int .i64 x14) (.int .i64 x15)) h = slices_symMergeCmpFunc_int__c7_S M x0 x2 x4 x14 x15 h := by kernel_rfl

theorem slices_symMergeCmpFunc_int__c7_e4_eq (M : Env) (x0 : V) (x2 : Int) (x14 : Int) (h : H) : slices_symMergeCmpFunc_int__K6 M (.exit 4) (slices_symMergeCmpFunc_int__c7_O x0 (.int .i64 x2) (.int .i64 x14)) h = slices_symMergeCmpFunc_int__c7_e4 M x0 x2 x14 h := by kernel_rfl

theorem slices_symMergeCmpFunc_int__c9_eq (M : Env) (x0 : V) (x14 : Int) (x17 : Int) (h : H) : slices_symMergeCmpFunc_int__c9_B M (slices_symMergeCmpFunc_int__c9_E x0 (.int .i64 x14) (.int .i64 x17)) h = slices_symMergeCmpFunc_int__c9_S M x0 x14 x17 h := by kernel_rfl

theorem slices_symMergeCmpFunc_int__c9_e6_eq (M : Env) (h : H) : slices_symMergeCmpFunc_int__K11 M (.exit 6) slices_symMergeCmpFunc_int__c9_O h = slices_symMergeCmpFunc_int__c9_e6 M h := by kernel_rfl

theorem slices_symMergeCmpFunc_int__c11_eq (M : Env) (x0 : V) (x1 : Int) (x2 : Int) (x3 : Int) (x4 : V) (x18 : Int) (x19 : Int) (h : H) : slices_symMergeCmpFunc_int__c11_B M (slices_symMergeCmpFunc_int__c11_E x0 (.int .i64 x1) (.int .i64 x2) (.int .i64 x3) x4 (.int .i64 x18) (.int .i64 x19)) h = slices_symMergeCmpFunc_int__c11_S M x0 x1 x2 x3 x4 x18 x19 h := by kernel_rfl

theorem slices_symMergeCmpFunc_int__c11_n_eq (M : Env) (x0 : V) (x1 : Int) (x2 : Int) (x3 : Int) (x4 : V) (x18 : Int) (x19 : Int) (x20 : Int) (x21 : Int) (h : H) : slices_symMergeCmpFunc_int__K7 M .normal (slices_symMergeCmpFunc_int__c11_O x0 (.int .i64 x1) (.int .i64 x2) (.int .i64 x3) x4 (.int .i64 x18) (.int .i64 x19) (.int .i64 x20) (.int .i64 x21)) h = slices_symMergeCmpFunc_int__c11_n M x0 x1 x2 x3 x4 x18 x19 x20 x21 h := by kernel_rfl

theorem slices_symMergeCmpFunc_int__c13_eq (M : Env) (x0 : V) (x1 : Int) (x2 : Int) (x3 : Int) (x4 : V) (x18 : Int) (x19 : Int) (x20 : Int) (x21 : Int) (x22 : Int) (h : H) : slices_symMergeCmpFunc_int__c13_B M (slices_symMergeCmpFunc_int__c13_E x0 (.int .i64 x1) (.int .i64 x2) (.int .i64 x3) x4 (.int .i64 x18) (.int .i64 x19) (.int .i64 x20) (.int .i64 x21) (.int .i64 x22)) h = slices_symMergeCmpFunc_int__c13_S M x0 x1 x2 x3 x4 x18 x19 x20 x21 x22 h := by kernel_rfl

theorem slices_symMergeCmpFunc_int__c13_e8_eq (M : Env) (x0 : V) (x1 : Int) (x2 : Int) (x3 : Int) (x4 : V) (x18 : Int) (x19 : Int) (x20 : Int) (h : H) : slices_symMergeCmpFunc_int__K13 M (.exit 8) (slices_symMergeCmpFunc_int__c13_O x0 (.int .i64 x1) (.int .i64 x2) (.int .i64 x3) x4 (.int .i64 x18) (.int .i64 x19) (.int .i64 x20)) h = slices_symMergeCmpFunc_int__c13_e8 M x0 x1 x2 x3 x4 x18 x19 x20 h := by kernel_rfl

theorem slices_symMergeCmpFunc_int__c15_eq (M : Env) (x0 : V) (x1 : Int) (x2 : Int) (x3 : Int) (x4 : V) (x18 : Int) (x20 : Int) (x24 : Int) (h : H) : slices_symMergeCmpFunc_int__c15_B M (slices_symMergeCmpFunc_int__c15_E x0 (.int .i64 x1) (.int .i64 x2) (.int .i64 x3) x4 (.int .i64 x18) (.int .i64 x20) (.int .i64 x24)) h = slices_symMergeCmpFunc_int__c15_S M x0 x1 x2 x3 x4 x18 x20 x24 h := by kernel_rfl

theorem slices_symMergeCmpFunc_int__c15_n_eq (M : Env) (x0 : V) (x1 : Int) (x3 : Int) (x4 : V) (x18 : Int) (x20 : Int) (x24 : Int) (h : H) : slices_symMergeCmpFunc_int__K14 M .normal (slices_symMergeCmpFunc_int__c15_O x0 (.int .i64 x1) (.int .i64 x3) x4 (.int .i64 x18) (.int .i64 x20) (.int .i64 x24)) h = slices_symMergeCmpFunc_int__c15_n M x0 x1 x3 x4 x18 x20 x24 h := by kernel_rfl

theorem slices_symMergeCmpFunc_int__c17_eq (M : Env) (x0 : V) (x1 : Int) (x3 : Int) (x4 : V) (x18 : Int) (x20 : Int) (x24 : Int) (h : H) : slices_symMergeCmpFunc_int__c17_B M (slices_symMergeCmpFunc_int__c17_E x0 (.int .i64 x1) (.int .i64 x3) x4 (.int .i64 x18) (.int .i64 x20) (.int .i64 x24)) h = slices_symMergeCmpFunc_int__c17_S M x0 x1 x3 x4 x18 x20 x24 h := by kernel_rfl

theorem slices_symMergeCmpFunc_int__c17_n_eq (M : Env) (x0 : V) (x3 : Int) (x4 : V) (x18 : Int) (x24 : Int) (h : H) : slices_symMergeCmpFunc_int__K15 M .normal (slices_symMergeCmpFunc_int__c17_O x0 (.int .i64 x3) x4 (.int .i64 x18) (.int .i64 x24)) h = slices_symMergeCmpFunc_int__c17_n M x0 x3 x4 x18 x24 h := by kernel_rfl

end Wm.S
end

section
namespace Wm.S
open Wm
set_option maxRecDepth 100000
set_option linter.unusedVariables false


def cmp_Compare_int_ (M : Env) (a0 : Int) (a1 : Int) (h : H) : Option (V × H) :=
 (M.call 407 [(.int .i64 a0)] h).bind fun p0 =>
 (M.call 407 [(.int .i64 a1)] p0.2).bind fun p1 =>
 (asB p0.1).bind fun b2 =>
 match b2 with
 | true => (
 (asB p1.1).bind fun b3 =>
 match b3 with
 | true => (
 some ((.int .i64 0), p1.2))
 | false => (
 some ((.int .i64 (-1)), p1.2)))
 | false => (
 (asB p1.1).bind fun b3 =>
 match b3 with
 | true => (
 some ((.int .i64 1), p1.2))
 | false => (
 match (decide (a0 < a1)) with
 | true => (
 some ((.int .i64 (-1)), p1.2))
 | false => (
 match (decide (a1 < a0)) with
 | true => (
 some ((.int .i64 1), p1.2))
 | false => (
 some ((.int .i64 0), p1.2)))))

theorem cmp_Compare_int__eq (M : Env) (a0 : Int) (a1 : Int) (h : H) : evalF M F.cmp_Compare_int_ [(.int .i64 a0), (.int .i64 a1)] h = cmp_Compare_int_ M a0 a1 h := by kernel_rfl

end Wm.S
end

section
namespace Wm.S
open Wm
set_option maxRecDepth 100000
set_option linter.unusedVariables false


def cmp_isNaN_int_ (M : Env) (a0 : Int) (h : H) : Option (V × H) :=
 some ((.bool (!decide (a0 = a0))), h)

theorem cmp_isNaN_int__eq (M : Env) (a0 : Int) (h : H) : evalF M F.cmp_isNaN_int_ [(.int .i64 a0)] h = cmp_isNaN_int_ M a0 h := by kernel_rfl

end Wm.S
end

section
namespace Wm.S
open Wm
set_option maxRecDepth 100000
set_option linter.unusedVariables false

def slices_stableCmpFunc_int__c1_B (M : Env) : List V → H → Option (AX × List V × H) :=
 fun env h => evalC M F.slices_stableCmpFunc_int__c1 env h fun x env h => match x with
 | .normal => some (.normal, keepOf [0, 1, 2, 6, 7, 8] 0 env, h)
 | x => some (x, keepOf [0, 1, 2, 6, 7] 0 env, h)

def slices_stableCmpFunc_int__c1_E (x0 x1 x2 x6 x7 x8 : V) : List V := x0 :: x1 :: x2 :: dd 3 (x6 :: x7 :: x8 :: dd 54 [])
def slices_stableCmpFunc_int__c1_O (x0 x1 x2 x6 x7 : V) : List V := x0 :: x1 :: x2 :: dd 3 (x6 :: x7 :: dd 55 [])

def slices_stableCmpFunc_int__c2_B (M : Env) : List V → H → Option (AX × List V × H) :=
 fun env h => evalC M F.slices_stableCmpFunc_int__c2 env h fun x env h => match x with
 | .normal => some (.normal, keepOf [0, 1, 2, 6] 0 env, h)
 | x => some (x, keepOf [] 0 env, h)

def slices_stableCmpFunc_int__c2_E (x0 x1 x2 x6 : V) : List V := x0 :: x1 :: x2 :: dd 3 (x6 :: dd 56 [])
def slices_stableCmpFunc_int__c2_O : List V := dd 63 []

def slices_stableCmpFunc_int__c4_B (M : Env) : List V → H → Option (AX × List V × H) :=
 fun env h => evalC M F.slices_stableCmpFunc_int__c4 env h fun x env h => match x with
 | .normal => some (.normal, keepOf [0, 1, 2, 6, 7, 8] 0 env, h)
 | x => some (x, keepOf [0, 1, 2, 6, 7] 0 env, h)

def slices_stableCmpFunc_int__c4_E (x0 x1 x2 x6 x7 x8 : V) : List V := x0 :: x1 :: x2 :: dd 3 (x6 :: x7 :: x8 :: dd 54 [])
def slices_stableCmpFunc_int__c4_O (x0 x1 x2 x6 x7 : V) : List V := x0 :: x1 :: x2 :: dd 3 (x6 :: x7 :: dd 55 [])

def slices_stableCmpFunc_int__K0 (M : Env) : AX → List V → H → Option (V × H) :=
 fun x env h => fin F.slices_stableCmpFunc_int_ x env h

def slices_stableCmpFunc_int__K1 (M : Env) : AX → List V → H → Option (V × H) :=
 fun x env h => match x with | .normal => evalC M F.slices_stableCmpFunc_int__c0 env h (fun x env h => slices_stableCmpFunc_int__K0 M x env h) | x => slices_stableCmpFunc_int__K0 M x env h

def slices_stableCmpFunc_int__K2 (M : Env) : AX → List V → H → Option (V × H) :=
 fun x env h => match x with | .exit j => (match Nat.beq j 0 with | true => slices_stableCmpFunc_int__K1 M .normal env h | false => slices_stableCmpFunc_int__K1 M (.exit j) env h) | x => slices_stableCmpFunc_int__K1 M x env h

def slices_stableCmpFunc_int__K3 (M : Env) : AX → List V → H → Option (V × H) :=
 fun x env h => match x with | .exit j => (match Nat.beq j 2 with | true => slices_stableCmpFunc_int__K0 M .normal env h | false => slices_stableCmpFunc_int__K0 M (.exit j) env h) | x => slices_stableCmpFunc_int__K0 M x env h

def slices_stableCmpFunc_int__K4 (M : Env) : AX → List V → H → Option (AX × List V × H) :=
 fun x env h => match x with | .normal => some (.normal, keepOf [0, 1, 2, 6] 0 env, h) | x => some (x, keepOf [] 0 env, h)

def slices_stableCmpFunc_int__K5 (M : Env) : AX → List V → H → Option (AX × List V × H) :=
 fun x env h => match x with | .exit j => (match Nat.beq j 3 with | true => slices_stableCmpFunc_int__K4 M .normal env h | false => slices_stableCmpFunc_int__K4 M (.exit j) env h) | x => slices_stableCmpFunc_int__K4 M x env h

def slices_stableCmpFunc_int__K6 (M : Env) : AX → List V → H → Option (AX × List V × H) :=
 fun x env h => match x with | .normal => evalC M F.slices_stableCmpFunc_int__c3 env h (fun x env h => slices_stableCmpFunc_int__K5 M x env h) | x => slices_stableCmpFunc_int__K5 M x env h

def slices_stableCmpFunc_int__K7 (M : Env) : AX → List V → H → Option (AX × List V × H) :=
 fun x env h => match x with | .exit j => (match Nat.beq j 4 with | true => slices_stableCmpFunc_int__K6 M .normal env h | false => slices_stableCmpFunc_int__K6 M (.exit j) env h) | x => slices_stableCmpFunc_int__K6 M x env h

def slices_stableCmpFunc_int_ (M : Env) (a0 : V) (a1 : Int) (a2 : V) (h : H) : Option (V × H) :=
 (M.loop (slices_stableCmpFunc_int__c1_B M) (slices_stableCmpFunc_int__c1_E a0 (.int .i64 a1) a2 (.int .i64 20) (.int .i64 0) (.int .i64 20)) h).bind fun p0 => slices_stableCmpFunc_int__K2 M p0.1 p0.2.1 p0.2.2

def slices_stableCmpFunc_int__c1_S (M : Env) (x0 : V) (x1 : Int) (x2 : V) (x6 : Int) (x7 : Int) (x8 : Int) (h : H) : Option (AX × List V × H) :=
 match (decide (x8 ≤ x1)) with
 | true => (
 (M.call 450 [x0, (.int .i64 x7), (.int .i64 x8), x2] h).bind fun p0 =>
 some (.normal, (slices_stableCmpFunc_int__c1_E x0 (.int .i64 x1) x2 (.int .i64 x6) (.int .i64 x8) (.int .i64 (wr .i64 (x8 + x6)))), p0.2))
 | false => (
 some ((.exit 0), (slices_stableCmpFunc_int__c1_O x0 (.int .i64 x1) x2 (.int .i64 x6) (.int .i64 x7)), h))

def slices_stableCmpFunc_int__c1_e0 (M : Env) (x0 : V) (x1 : Int) (x2 : V) (x6 : Int) (x7 : Int) (h : H) : Option (V × H) :=
 (M.call 450 [x0, (.int .i64 x7), (.int .i64 x1), x2] h).bind fun p0 =>
 (M.loop (slices_stableCmpFunc_int__c2_B M) (slices_stableCmpFunc_int__c2_E x0 (.int .i64 x1) x2 (.int .i64 x6)) p0.2).bind fun p1 => slices_stableCmpFunc_int__K3 M p1.1 p1.2.1 p1.2.2

def slices_stableCmpFunc_int__c2_S (M : Env) (x0 : V) (x1 : Int) (x2 : V) (x6 : Int) (h : H) : Option (AX × List V × H) :=
 match (decide (x6 < x1)) with
 | true => (
 (M.loop (slices_stableCmpFunc_int__c4_B M) (slices_stableCmpFunc_int__c4_E x0 (.int .i64 x1) x2 (.int .i64 x6) (.int .i64 0) (.int .i64 (wr .i64 (2 * x6)))) h).bind fun p0 => slices_stableCmpFunc_int__K7 M p0.1 p0.2.1 p0.2.2)
 | false => (
 some ((.exit 2), slices_stableCmpFunc_int__c2_O, h))

def slices_stableCmpFunc_int__c2_e2 (M : Env) (h : H) : Option (V × H) :=
 some ((.tup []), h)

def slices_stableCmpFunc_int__c4_S (M : Env) (x0 : V) (x1 : Int) (x2 : V) (x6 : Int) (x7 : Int) (x8 : Int) (h : H) : Option (AX × List V × H) :=
 match (decide (x8 ≤ x1)) with
 | true => (
 (M.call 460 [x0, (.int .i64 x7), (.int .i64 (wr .i64 (x7 + x6))), (.int .i64 x8), x2] h).bind fun p0 =>
 some (.normal, (slices_stableCmpFunc_int__c4_E x0 (.int .i64 x1) x2 (.int .i64 x6) (.int .i64 x8) (.int .i64 (wr .i64 (x8 + (wr .i64 (2 * x6)))))), p0.2))
 | false => (
 some ((.exit 4), (slices_stableCmpFunc_int__c4_O x0 (.int .i64 x1) x2 (.int .i64 x6) (.int .i64 x7)), h))

def slices_stableCmpFunc_int__c4_e4 (M : Env) (x0 : V) (x1 : Int) (x2 : V) (x6 : Int) (x7 : Int) (h : H) : Option (AX × List V × H) :=
 match (decide ((wr .i64 (x7 + x6)) < x1)) with
 | true => (
 (M.call 460 [x0, (.int .i64 x7), (.int .i64 (wr .i64 (x7 + x6))), (.int .i64 x1), x2] h).bind fun p0 =>
 some (.normal, (slices_stableCmpFunc_int__c2_E x0 (.int .i64 x1) x2 (.int .i64 (wr .i64 (x6 * 2)))), p0.2))
 | false => (
 some (.normal, (slices_stableCmpFunc_int__c2_E x0 (.int .i64 x1) x2 (.int .i64 (wr .i64 (x6 * 2)))), h))

theorem slices_stableCmpFunc_int__eq (M : Env) (a0 : V) (a1 : Int) (a2 : V) (h : H) : evalF M F.slices_stableCmpFunc_int_ [a0, (.int .i64 a1), a2] h = slices_stableCmpFunc_int_ M a0 a1 a2 h := by kernel_rfl

theorem slices_stableCmpFunc_int__c1_eq (M : Env) (x0 : V) (x1 : Int) (x2 : V) (x6 : Int) (x7 : Int) (x8 : Int) (h : H) : slices_stableCmpFunc_int__c1_B M (slices_stableCmpFunc_int__c1_E x0 (.int .i64 x1) x2 (.int .i64 x6) (.int .i64 x7) (.int .i64 x8)) h = slices_stableCmpFunc_int__c1_S M x0 x1 x2 x6 x7 x8 h := by kernel_rfl

theorem slices_stableCmpFunc_int__c1_e0_eq (M : Env) (x0 : V) (x1 : Int) (x2 : V) (x6 : Int) (x7 : Int) (h : H) : slices_stableCmpFunc_int__K2 M (.exit 0) (slices_stableCmpFunc_int__c1_O x0 (.int .i64 x1) x2 (.int .i64 x6) (.int .i64 x7)) h = slices_stableCmpFunc_int__c1_e0 M x0 x1 x2 x6 x7 h := by kernel_rfl

theorem slices_stableCmpFunc_int__c2_eq (M : Env) (x0 : V) (x1 : Int) (x2 : V) (x6 : Int) (h : H) : slices_stableCmpFunc_int__c2_B M (slices_stableCmpFunc_int__c2_E x0 (.int .i64 x1) x2 (.int .i64 x6)) h = slices_stableCmpFunc_int__c2_S M x0 x1 x2 x6 h := by kernel_rfl

theorem slices_stableCmpFunc_int__c2_e2_eq (M : Env) (h : H) : slices_stableCmpFunc_int__K3 M (.exit 2) slices_stableCmpFunc_int__c2_O h = slices_stableCmpFunc_int__c2_e2 M h := by kernel_rfl

theorem slices_stableCmpFunc_int__c4_eq (M : Env) (x0 : V) (x1 : Int) (x2 : V) (x6 : Int) (x7 : Int) (x8 : Int) (h : H) : slices_stableCmpFunc_int__c4_B M (slices_stableCmpFunc_int__c4_E x0 (.int .i64 x1) x2 (.int .i64 x6) (.int .i64 x7) (.int .i64 x8)) h = slices_stableCmpFunc_int__c4_S M x0 x1 x2 x6 x7 x8 h := by kernel_rfl

theorem slices_stableCmpFunc_int__c4_e4_eq (M : Env) (x0 : V) (x1 : Int) (x2 : V) (x6 : Int) (x7 : Int) (h : H) : slices_stableCmpFunc_int__K7 M (.exit 4) (slices_stableCmpFunc_int__c4_O x0 (.int .i64 x1) x2 (.int .i64 x6) (.int .i64 x7)) h = slices_stableCmpFunc_int__c4_e4 M x0 x1 x2 x6 x7 h := by kernel_rfl

end Wm.S
end

section
namespace Wm.S
open Wm
set_option maxRecDepth 100000
set_option linter.unusedVariables false


def slices_SortStableFunc___int_int_ (M : Env) (a0 : V) (a1 : V) (h : H) : Option (V × H) :=
 (lenSl a0).bind fun n0 =>
 (M.call 408 [a0, (.int .i64 ((n0 : Nat) : Int)), a1] h).bind fun p1 =>
 some ((.tup []), p1.2)

theorem slices_SortStableFunc___int_int__eq (M : Env) (a0 : V) (a1 : V) (h : H) : evalF M F.slices_SortStableFunc___int_int_ [a0, a1] h = slices_SortStableFunc___int_int_ M a0 a1 h := by kernel_rfl

end Wm.S
end

section
namespace Wm.S
open Wm
set_option maxRecDepth 100000
set_option linter.unusedVariables false


def hist_Order_1 (M : Env) (a0 : Int) (a1 : Int) (f0 : V) (h : H) : Option (V × H) :=
 (h.ld1 f0).bind fun v0 =>
 (indexAV 14 v0 (.int .i64 a0)).bind fun v1 =>
 (h.ldN 14 v1).bind fun v2 =>
 (h.ld1 f0).bind fun v3 =>
 (indexAV 14 v3 (.int .i64 a1)).bind fun v4 =>
 (h.ldN 14 v4).bind fun v5 =>
 let h6 := h.new (.cells [(.int .i64 0), (.int .i64 0), (.int .i64 0), (.int .i64 0), (.int .i64 0), (.bool false), (.int .i64 0), (.int .i64 0), (.int .u64 0), (.int .u64 0), (.int .u64 0), (.int .i64 0), (.int .u64 0), (.bool false)] .rw)
 let h7 := h6.new (.cells [(.int .i64 0), (.int .i64 0), (.int .i64 0), (.int .i64 0), (.int .i64 0), (.bool false), (.int .i64 0), (.int .i64 0), (.int .u64 0), (.int .u64 0), (.int .u64 0), (.int .i64 0), (.int .u64 0), (.bool false)] .rw)
 (h7.st 14 (.ptr h.next 0) v2).bind fun h8 =>
 match ckB (h8.ldN 14 v4) v5 with
 | true => (
 match ckB (h8.ld1 f0) v3 with
 | true => (
 (h8.st 14 (.ptr h6.next 0) v5).bind fun h9 =>
 (h9.ld1 (.ptr h.next 3)).bind fun v10 =>
 (h9.ld1 (.ptr h6.next 3)).bind fun v11 =>
 (h9.ldN 14 (.ptr h.next 0)).bind fun v12 =>
 (h9.ldN 14 (.ptr h6.next 0)).bind fun v13 =>
 (h9.ld1 (.ptr h.next 0)).bind fun v14 =>
 (h9.ld1 (.ptr h6.next 0)).bind fun v15 =>
 (h9.ld1 (.ptr h.next 1)).bind fun v16 =>
 (h9.ld1 (.ptr h6.next 1)).bind fun v17 =>
 (M.call 334 [v10, v11] h9).bind fun p18 =>
 match ckB (p18.2.ld1 (.ptr h6.next 1)) v17 with
 | true => (
 match ckB (p18.2.ld1 (.ptr h.next 1)) v16 with
 | true => (
 match ckB (p18.2.ld1 (.ptr h6.next 0)) v15 with
 | true => (
 match ckB (p18.2.ld1 (.ptr h.next 0)) v14 with
 | true => (
 match ckB (p18.2.ldN 14 (.ptr h6.next 0)) v13 with
 | true => (
 match ckB (p18.2.ldN 14 (.ptr h.next 0)) v12 with
 | true => (
 (M.call 338 [v12] p18.2).bind fun p19 =>
 match ckB (p19.2.ld1 (.ptr h6.next 1)) v17 with
 | true => (
 match ckB (p19.2.ld1 (.ptr h.next 1)) v16 with
 | true => (
 match ckB (p19.2.ld1 (.ptr h6.next 0)) v15 with
 | true => (
 match ckB (p19.2.ld1 (.ptr h.next 0)) v14 with
 | true => (
 match ckB (p19.2.ldN 14 (.ptr h6.next 0)) v13 with
 | true => (
 (M.call 338 [v13] p19.2).bind fun p20 =>
 match ckB (p20.2.ld1 (.ptr h6.next 1)) v17 with
 | true => (
 match ckB (p20.2.ld1 (.ptr h.next 1)) v16 with
 | true => (
 match ckB (p20.2.ld1 (.ptr h6.next 0)) v15 with
 | true => (
 match ckB (p20.2.ld1 (.ptr h.next 0)) v14 with
 | true => (
 (M.call 334 [p19.1, p20.1] p20.2).bind fun p21 =>
 match ckB (p21.2.ld1 (.ptr h6.next 1)) v17 with
 | true => (
 match ckB (p21.2.ld1 (.ptr h.next 1)) v16 with
 | true => (
 match ckB (p21.2.ld1 (.ptr h6.next 0)) v15 with
 | true => (
 match ckB (p21.2.ld1 (.ptr h.next 0)) v14 with
 | true => (
 (M.call 334 [v14, v15] p21.2).bind fun p22 =>
 match ckB (p22.2.ld1 (.ptr h6.next 1)) v17 with
 | true => (
 match ckB (p22.2.ld1 (.ptr h.next 1)) v16 with
 | true => (
 (M.call 334 [v16, v17] p22.2).bind fun p23 =>
 (fill (repl [(.int .i64 0)] 4) [] [(0, 1, .c p18.1), (1, 1, .c p21.1), (2, 1, .c p22.1), (3, 1, .c p23.1)]).bind fun cs24 =>
 let h25 := p23.2.new (.cells cs24 .rw)
 (M.call 337 [(.sl p23.2.next 0 4 (.ex 4))] h25).bind fun p26 =>
 some (p26.1, p26.2))
 | false => none)
 | false => none)
 | false => none)
 | false => none)
 | false => none)
 | false => none)
 | false => none)
 | false => none)
 | false => none)
 | false => none)
 | false => none)
 | false => none)
 | false => none)
 | false => none)
 | false => none)
 | false => none)
 | false => none)
 | false => none)
 | false => none)
 | false => none)
 | false => none)
 | false => none)
 | false => none

theorem hist_Order_1_eq (M : Env) (a0 : Int) (a1 : Int) (f0 : V) (h : H) : evalF M F.hist_Order_1 [(.int .i64 a0), (.int .i64 a1), f0] h = hist_Order_1 M a0 a1 f0 h := by kernel_rfl

end Wm.S
end

section
namespace Wm.S
open Wm
set_option maxRecDepth 100000
set_option linter.unusedVariables false

def cmp_Or_int__c1_B (M : Env) : List V → H → Option (AX × List V × H) :=
 fun env h => evalC M F.cmp_Or_int__c1 env h fun x env h => match x with
 | .normal => some (.normal, keepOf [3, 6, 7, 8] 0 env, h)
 | x => some (x, keepOf [2, 3] 0 env, h)

def cmp_Or_int__c1_E (x3 x6 x7 x8 : V) : List V := dd 3 (x3 :: dd 2 (x6 :: x7 :: x8 :: dd 9 []))
def cmp_Or_int__c1_O (x2 x3 : V) : List V := dd 2 (x2 :: x3 :: dd 14 [])

def cmp_Or_int__K0 (M : Env) : AX → List V → H → Option (V × H) :=
 fun x env h => fin F.cmp_Or_int_ x env h

def cmp_Or_int__K1 (M : Env) : AX → List V → H → Option (V × H) :=
 fun x env h => match x with | .normal => evalC M F.cmp_Or_int__c0 env h (fun x env h => cmp_Or_int__K0 M x env h) | x => cmp_Or_int__K0 M x env h

def cmp_Or_int__K2 (M : Env) : AX → List V → H → Option (V × H) :=
 fun x env h => match x with | .exit j => (match Nat.beq j 0 with | true => cmp_Or_int__K1 M .normal env h | false => cmp_Or_int__K1 M (.exit j) env h) | x => cmp_Or_int__K1 M x env h

def cmp_Or_int_ (M : Env) (a0 : V) (h : H) : Option (V × H) :=
 (lenSl a0).bind fun n0 =>
 (M.loop (cmp_Or_int__c1_B M) (cmp_Or_int__c1_E (.int .i64 0) a0 (.int .i64 ((n0 : Nat) : Int)) (.int .i64 0)) h).bind fun p1 => cmp_Or_int__K2 M p1.1 p1.2.1 p1.2.2

def cmp_Or_int__c1_S (M : Env) (x3 : Int) (x6 : V) (x7 : Int) (x8 : Int) (h : H) : Option (AX × List V × H) :=
 match (decide (x8 < x7)) with
 | true => (
 (indexAV 1 x6 (.int .i64 x8)).bind fun v0 =>
 (h.ld1 v0).bind fun v1 =>
 (asI .i64 v1).bind fun n2 =>
 match (!decide (n2 = x3)) with
 | true => (
 some (.ret, (cmp_Or_int__c1_O v1 (.int .i64 x3)), h))
 | false => (
 some (.normal, (cmp_Or_int__c1_E (.int .i64 x3) x6 (.int .i64 x7) (.int .i64 (wr .i64 (x8 + 1)))), h)))
 | false => (
 some ((.exit 0), (cmp_Or_int__c1_O .dead (.int .i64 x3)), h))

def cmp_Or_int__c1_e0 (M : Env) (x2 : V) (x3 : Int) (h : H) : Option (V × H) :=
 some ((.int .i64 x3), h)

def cmp_Or_int__c1_r (M : Env) (x2 : Int) (x3 : V) (h : H) : Option (V × H) :=
 some ((.int .i64 x2), h)

theorem cmp_Or_int__eq (M : Env) (a0 : V) (h : H) : evalF M F.cmp_Or_int_ [a0] h = cmp_Or_int_ M a0 h := by kernel_rfl

theorem cmp_Or_int__c1_eq (M : Env) (x3 : Int) (x6 : V) (x7 : Int) (x8 : Int) (h : H) : cmp_Or_int__c1_B M (cmp_Or_int__c1_E (.int .i64 x3) x6 (.int .i64 x7) (.int .i64 x8)) h = cmp_Or_int__c1_S M x3 x6 x7 x8 h := by kernel_rfl

theorem cmp_Or_int__c1_e0_eq (M : Env) (x2 : V) (x3 : Int) (h : H) : cmp_Or_int__K2 M (.exit 0) (cmp_Or_int__c1_O x2 (.int .i64 x3)) h = cmp_Or_int__c1_e0 M x2 x3 h := by kernel_rfl

theorem cmp_Or_int__c1_r_eq (M : Env) (x2 : Int) (x3 : V) (h : H) : cmp_Or_int__K2 M .ret (cmp_Or_int__c1_O (.int .i64 x2) x3) h = cmp_Or_int__c1_r M x2 x3 h := by kernel_rfl

end Wm.S
end

section
namespace Wm.S
open Wm
set_option maxRecDepth 100000
set_option linter.unusedVariables false


def hist_behind (M : Env) (a0_0 : Int) (a0_1 : Int) (a0_2 : Int) (a0_3 : Int) (a0_4 : Int) (a0_5 : Bool) (a0_6 : Int) (a0_7 : Int) (a0_8 : Int) (a0_9 : Int) (a0_10 : Int) (a0_11 : Int) (a0_12 : Int) (a0_13 : Bool) (h : H) : Option (V × H) :=
 let h0 := h.new (.cells [(.int .i64 a0_0), (.int .i64 a0_1), (.int .i64 a0_2), (.int .i64 a0_3), (.int .i64 a0_4), (.bool a0_5), (.int .i64 a0_6), (.int .i64 a0_7), (.int .u64 a0_8), (.int .u64 a0_9), (.int .u64 a0_10), (.int .i64 a0_11), (.int .u64 a0_12), (.bool a0_13)] .rw)
 (h0.ld1 (.ptr h.next 5)).bind fun v1 =>
 (asB v1).bind fun b2 =>
 match b2 with
 | true => (
 some ((.int .i64 1), h0))
 | false => (
 some ((.int .i64 0), h0))

theorem hist_behind_eq (M : Env) (a0_0 : Int) (a0_1 : Int) (a0_2 : Int) (a0_3 : Int) (a0_4 : Int) (a0_5 : Bool) (a0_6 : Int) (a0_7 : Int) (a0_8 : Int) (a0_9 : Int) (a0_10 : Int) (a0_11 : Int) (a0_12 : Int) (a0_13 : Bool) (h : H) : evalF M F.hist_behind [(.agg [(.int .i64 a0_0), (.int .i64 a0_1), (.int .i64 a0_2), (.int .i64 a0_3), (.int .i64 a0_4), (.bool a0_5), (.int .i64 a0_6), (.int .i64 a0_7), (.int .u64 a0_8), (.int .u64 a0_9), (.int .u64 a0_10), (.int .i64 a0_11), (.int .u64 a0_12), (.bool a0_13)])] h = hist_behind M a0_0 a0_1 a0_2 a0_3 a0_4 a0_5 a0_6 a0_7 a0_8 a0_9 a0_10 a0_11 a0_12 a0_13 h := by kernel_rfl

end Wm.S
end

section
namespace Wm.S
open Wm
set_option maxRecDepth 100000
set_option linter.unusedVariables false


def withyref18_Less (M : Env) (a0_0 : Int) (a0_1 : Int) (a0_2 : Int) (a0_3 : Int) (a0_4 : Int) (a0_5 : Bool) (a0_6 : Int) (a0_7 : Int) (a0_8 : Int) (a0_9 : Int) (a0_10 : Int) (a0_11 : Int) (a0_12 : Int) (a0_13 : Bool) (a1_0 : Int) (a1_1 : Int) (a1_2 : Int) (a1_3 : Int) (a1_4 : Int) (a1_5 : Bool) (a1_6 : Int) (a1_7 : Int) (a1_8 : Int) (a1_9 : Int) (a1_10 : Int) (a1_11 : Int) (a1_12 : Int) (a1_13 : Bool) (h : H) : Option (V × H) :=
 let h0 := h.new (.cells [(.int .i64 a0_0), (.int .i64 a0_1), (.int .i64 a0_2), (.int .i64 a0_3), (.int .i64 a0_4), (.bool a0_5), (.int .i64 a0_6), (.int .i64 a0_7), (.int .u64 a0_8), (.int .u64 a0_9), (.int .u64 a0_10), (.int .i64 a0_11), (.int .u64 a0_12), (.bool a0_13)] .rw)
 let h1 := h0.new (.cells [(.int .i64 a1_0), (.int .i64 a1_1), (.int .i64 a1_2), (.int .i64 a1_3), (.int .i64 a1_4), (.bool a1_5), (.int .i64 a1_6), (.int .i64 a1_7), (.int .u64 a1_8), (.int .u64 a1_9), (.int .u64 a1_10), (.int .i64 a1_11), (.int .u64 a1_12), (.bool a1_13)] .rw)
 (h1.ld1 (.ptr h.next 3)).bind fun v2 =>
 (h1.ld1 (.ptr h0.next 3)).bind fun v3 =>
 (asI .i64 v2).bind fun n4 =>
 (asI .i64 v3).bind fun n5 =>
 match (!decide (n4 = n5)) with
 | true => (
 (h1.ld1 (.ptr h.next 3)).bind fun v6 =>
 (h1.ld1 (.ptr h0.next 3)).bind fun v7 =>
 (asI .i64 v6).bind fun n8 =>
 (asI .i64 v7).bind fun n9 =>
 some ((.bool (decide (n8 < n9))), h1))
 | false => (
 (h1.ld1 (.ptr h.next 5)).bind fun v6 =>
 (h1.ld1 (.ptr h0.next 5)).bind fun v7 =>
 (eqV .bool v6 v7).bind fun b8 =>
 match (!b8) with
 | true => (
 (h1.ld1 (.ptr h0.next 5)).bind fun v9 =>
 some (v9, h1))
 | false => (
 (h1.ld1 (.ptr h.next 0)).bind fun v9 =>
 (h1.ld1 (.ptr h0.next 0)).bind fun v10 =>
 (asI .i64 v9).bind fun n11 =>
 (asI .i64 v10).bind fun n12 =>
 match (!decide (n11 = n12)) with
 | true => (
 (h1.ld1 (.ptr h.next 0)).bind fun v13 =>
 (h1.ld1 (.ptr h0.next 0)).bind fun v14 =>
 (asI .i64 v13).bind fun n15 =>
 (asI .i64 v14).bind fun n16 =>
 some ((.bool (decide (n15 < n16))), h1))
 | false => (
 (h1.ld1 (.ptr h.next 1)).bind fun v13 =>
 (h1.ld1 (.ptr h0.next 1)).bind fun v14 =>
 (asI .i64 v13).bind fun n15 =>
 (asI .i64 v14).bind fun n16 =>
 some ((.bool (decide (n15 < n16))), h1))))

theorem withyref18_Less_eq (M : Env) (a0_0 : Int) (a0_1 : Int) (a0_2 : Int) (a0_3 : Int) (a0_4 : Int) (a0_5 : Bool) (a0_6 : Int) (a0_7 : Int) (a0_8 : Int) (a0_9 : Int) (a0_10 : Int) (a0_11 : Int) (a0_12 : Int) (a0_13 : Bool) (a1_0 : Int) (a1_1 : Int) (a1_2 : Int) (a1_3 : Int) (a1_4 : Int) (a1_5 : Bool) (a1_6 : Int) (a1_7 : Int) (a1_8 : Int) (a1_9 : Int) (a1_10 : Int) (a1_11 : Int) (a1_12 : Int) (a1_13 : Bool) (h : H) : evalF M F.withyref18_Less [(.agg [(.int .i64 a0_0), (.int .i64 a0_1), (.int .i64 a0_2), (.int .i64 a0_3), (.int .i64 a0_4), (.bool a0_5), (.int .i64 a0_6), (.int .i64 a0_7), (.int .u64 a0_8), (.int .u64 a0_9), (.int .u64 a0_10), (.int .i64 a0_11), (.int .u64 a0_12), (.bool a0_13)]), (.agg [(.int .i64 a1_0), (.int .i64 a1_1), (.int .i64 a1_2), (.int .i64 a1_3), (.int .i64 a1_4), (.bool a1_5), (.int .i64 a1_6), (.int .i64 a1_7), (.int .u64 a1_8), (.int .u64 a1_9), (.int .u64 a1_10), (.int .i64 a1_11), (.int .u64 a1_12), (.bool a1_13)])] h = withyref18_Less M a0_0 a0_1 a0_2 a0_3 a0_4 a0_5 a0_6 a0_7 a0_8 a0_9 a0_10 a0_11 a0_12 a0_13 a1_0 a1_1 a1_2 a1_3 a1_4 a1_5 a1_6 a1_7 a1_8 a1_9 a1_10 a1_11 a1_12 a1_13 h := by kernel_rfl

end Wm.S
end

section
namespace Wm.S
open Wm
set_option maxRecDepth 100000
set_option linter.unusedVariables false

def hist_Order_c1_B (M : Env) : List V → H → Option (AX × List V × H) :=
 fun env h => evalC M F.hist_Order_c1 env h fun x env h => match x with
 | .normal => some (.normal, keepOf [1, 3, 9, 10] 0 env, h)
 | x => some (x, keepOf [1, 3] 0 env, h)

def hist_Order_c1_E (x1 x3 x9 x10 : V) : List V := dd 1 (x1 :: dd 1 (x3 :: dd 5 (x9 :: x10 :: dd 11 [])))
def hist_Order_c1_O (x1 x3 : V) : List V := dd 1 (x1 :: dd 1 (x3 :: dd 18 []))

def hist_Order_K0 (M : Env) : AX → List V → H → Option (V × H) :=
 fun x env h => fin F.hist_Order x env h

def hist_Order_K1 (M : Env) : AX → List V → H → Option (V × H) :=
 fun x env h => match x with | .normal => evalC M F.hist_Order_c0 env h (fun x env h => hist_Order_K0 M x env h) | x => hist_Order_K0 M x env h

def hist_Order_K2 (M : Env) : AX → List V → H → Option (V × H) :=
 fun x env h => match x with | .exit j => (match Nat.beq j 0 with | true => hist_Order_K1 M .normal env h | false => hist_Order_K1 M (.exit j) env h) | x => hist_Order_K1 M x env h

def hist_Order (M : Env) (a0 : V) (h : H) : Option (V × H) :=
 (boxc a0).bind fun cs0 =>
 let h1 := h.new (.cells cs0 .rw)
 (h1.ld1 (.ptr h.next 0)).bind fun v2 =>
 (lenSl v2).bind fun n3 =>
 (h1.mkSl 1 8 [(.int .i64 0)] ((n3 : Nat) : Int) ((n3 : Nat) : Int)).bind fun p4 =>
 (lenSl p4.1).bind fun n5 =>
 (M.loop (hist_Order_c1_B M) (hist_Order_c1_E (.ptr h.next 0) p4.1 (.int .i64 ((n5 : Nat) : Int)) (.int .i64 0)) p4.2).bind fun p6 => hist_Order_K2 M p6.1 p6.2.1 p6.2.2

def hist_Order_c1_S (M : Env) (x1 : V) (x3 : V) (x9 : Int) (x10 : Int) (h : H) : Option (AX × List V × H) :=
 match (decide (x10 < x9)) with
 | true => (
 (indexAV 1 x3 (.int .i64 x10)).bind fun v0 =>
 (h.st 1 v0 (.int .i64 x10)).bind fun h1 =>
 some (.normal, (hist_Order_c1_E x1 x3 (.int .i64 x9) (.int .i64 (wr .i64 (x10 + 1)))), h1))
 | false => (
 some ((.exit 0), (hist_Order_c1_O x1 x3), h))

def hist_Order_c1_e0 (M : Env) (x1 : V) (x3 : V) (h : H) : Option (V × H) :=
 (M.call 335 [x3, (.fn 336 [x1])] h).bind fun p0 =>
 some (x3, p0.2)

theorem hist_Order_eq (M : Env) (a0 : V) (h : H) : evalF M F.hist_Order [a0] h = hist_Order M a0 h := by kernel_rfl

theorem hist_Order_c1_eq (M : Env) (x1 : V) (x3 : V) (x9 : Int) (x10 : Int) (h : H) : hist_Order_c1_B M (hist_Order_c1_E x1 x3 (.int .i64 x9) (.int .i64 x10)) h = hist_Order_c1_S M x1 x3 x9 x10 h := by kernel_rfl

theorem hist_Order_c1_e0_eq (M : Env) (x1 : V) (x3 : V) (h : H) : hist_Order_K2 M (.exit 0) (hist_Order_c1_O x1 x3) h = hist_Order_c1_e0 M x1 x3 h := by kernel_rfl

end Wm.S
end

section
namespace Wm.S
open Wm
set_option maxRecDepth 100000
set_option linter.unusedVariables false

def withyref18_Order_c1_B (M : Env) : List V → H → Option (AX × List V × H) :=
 fun env h => evalC M F.withyref18_Order_c1 env h fun x env h => match x with
 | .normal => some (.normal, keepOf [0, 3, 4, 5] 0 env, h)
 | x => some (x, keepOf [3] 0 env, h)

def withyref18_Order_c1_E (x0 x3 x4 x5 : V) : List V := x0 :: dd 2 (x3 :: x4 :: x5 :: dd 46 [])
def withyref18_Order_c1_O (x3 : V) : List V := dd 3 (x3 :: dd 48 [])

def withyref18_Order_c4_B (M : Env) : List V → H → Option (AX × List V × H) :=
 fun env h => evalC M F.withyref18_Order_c4 env h fun x env h => match x with
 | .normal => some (.normal, keepOf [0, 3, 4, 5, 6, 7] 0 env, h)
 | x => some (x, keepOf [0, 3, 4, 5, 6] 0 env, h)

def withyref18_Order_c4_E (x0 x3 x4 x5 x6 x7 : V) : List V := x0 :: dd 2 (x3 :: x4 :: x5 :: x6 :: x7 :: dd 44 [])
def withyref18_Order_c4_O (x0 x3 x4 x5 x6 : V) : List V := x0 :: dd 2 (x3 :: x4 :: x5 :: x6 :: dd 45 [])

def withyref18_Order_K0 (M : Env) : AX → List V → H → Option (V × H) :=
 fun x env h => fin F.withyref18_Order x env h

def withyref18_Order_K1 (M : Env) : AX → List V → H → Option (V × H) :=
 fun x env h => match x with | .normal => evalC M F.withyref18_Order_c0 env h (fun x env h => withyref18_Order_K0 M x env h) | x => withyref18_Order_K0 M x env h

def withyref18_Order_K2 (M : Env) : AX → List V → H → Option (V × H) :=
 fun x env h => match x with | .exit j => (match Nat.beq j 0 with | true => withyref18_Order_K1 M .normal env h | false => withyref18_Order_K1 M (.exit j) env h) | x => withyref18_Order_K1 M x env h

def withyref18_Order_K3 (M : Env) : AX → List V → H → Option (AX × List V × H) :=
 fun x env h => match x with | .normal => some (.normal, keepOf [0, 3, 4, 5] 0 env, h) | x => some (x, keepOf [3] 0 env, h)

def withyref18_Order_K4 (M : Env) : AX → List V → H → Option (AX × List V × H) :=
 fun x env h => match x with | .normal => evalC M F.withyref18_Order_c2 env h (fun x env h => withyref18_Order_K3 M x env h) | x => withyref18_Order_K3 M x env h

def withyref18_Order_K5 (M : Env) : AX → List V → H → Option (AX × List V × H) :=
 fun x env h => match x with | .exit j => (match Nat.beq j 1 with | true => withyref18_Order_K4 M .normal env h | false => withyref18_Order_K4 M (.exit j) env h) | x => withyref18_Order_K4 M x env h

def withyref18_Order_K6 (M : Env) : AX → List V → H → Option (AX × List V × H) :=
 fun x env h => match x with | .normal => evalC M F.withyref18_Order_c3 env h (fun x env h => withyref18_Order_K5 M x env h) | x => withyref18_Order_K5 M x env h

def withyref18_Order_K7 (M : Env) : AX → List V → H → Option (AX × List V × H) :=
 fun x env h => match x with | .exit j => (match Nat.beq j 2 with | true => withyref18_Order_K6 M .normal env h | false => withyref18_Order_K6 M (.exit j) env h) | x => withyref18_Order_K6 M x env h

def withyref18_Order (M : Env) (a0 : V) (h : H) : Option (V × H) :=
 (lenSl a0).bind fun n0 =>
 (h.mkSl 1 1 [(.bool false)] ((n0 : Nat) : Int) ((n0 : Nat) : Int)).bind fun p1 =>
 (M.loop (withyref18_Order_c1_B M) (withyref18_Order_c1_E a0 .nilsl p1.1 (.int .i64 0)) p1.2).bind fun p2 => withyref18_Order_K2 M p2.1 p2.2.1 p2.2.2

def withyref18_Order_c1_S (M : Env) (x0 : V) (x3 : V) (x4 : V) (x5 : Int) (h : H) : Option (AX × List V × H) :=
 (lenSl x0).bind fun n0 =>
 match (decide (x5 < ((n0 : Nat) : Int))) with
 | true => (
 (M.loop (withyref18_Order_c4_B M) (withyref18_Order_c4_E x0 x3 x4 (.int .i64 x5) (.int .i64 (-1)) (.int .i64 0)) h).bind fun p1 => withyref18_Order_K7 M p1.1 p1.2.1 p1.2.2)
 | false => (
 some ((.exit 0), (withyref18_Order_c1_O x3), h))

def withyref18_Order_c1_e0 (M : Env) (x3 : V) (h : H) : Option (V × H) :=
 some (x3, h)

def withyref18_Order_c4_S (M : Env) (x0 : V) (x3 : V) (x4 : V) (x5 : Int) (x6 : Int) (x7 : Int) (h : H) : Option (AX × List V × H) :=
 (lenSl x0).bind fun n0 =>
 match (decide (x7 < ((n0 : Nat) : Int))) with
 | true => (
 (indexAV 1 x4 (.int .i64 x7)).bind fun v1 =>
 (h.ld1 v1).bind fun v2 =>
 (asB v2).bind fun b3 =>
 match (!b3) with
 | true => (
 match (decide (x6 < 0)) with
 | true => (
 some (.normal, (withyref18_Order_c4_E x0 x3 x4 (.int .i64 x5) (.int .i64 x7) (.int .i64 (wr .i64 (x7 + 1)))), h))
 | false => (
 (indexAV 14 x0 (.int .i64 x7)).bind fun v4 =>
 (h.ldN 14 v4).bind fun v5 =>
 (indexAV 14 x0 (.int .i64 x6)).bind fun v6 =>
 (h.ldN 14 v6).bind fun v7 =>
 (M.call 339 [v5, v7] h).bind fun p8 =>
 (asB p8.1).bind fun b9 =>
 match b9 with
 | true => (
 some (.normal, (withyref18_Order_c4_E x0 x3 x4 (.int .i64 x5) (.int .i64 x7) (.int .i64 (wr .i64 (x7 + 1)))), p8.2))
 | false => (
 some (.normal, (withyref18_Order_c4_E x0 x3 x4 (.int .i64 x5) (.int .i64 x6) (.int .i64 (wr .i64 (x7 + 1)))), p8.2))))
 | false => (
 some (.normal, (withyref18_Order_c4_E x0 x3 x4 (.int .i64 x5) (.int .i64 x6) (.int .i64 (wr .i64 (x7 + 1)))), h)))
 | false => (
 some ((.exit 2), (withyref18_Order_c4_O x0 x3 x4 (.int .i64 x5) (.int .i64 x6)), h))

def withyref18_Order_c4_e2 (M : Env) (x0 : V) (x3 : V) (x4 : V) (x5 : Int) (x6 : Int) (h : H) : Option (AX × List V × H) :=
 (indexAV 1 x4 (.int .i64 x6)).bind fun v0 =>
 (h.st 1 v0 (.bool true)).bind fun h1 =>
 let h2 := h1.new (.cells [(.int .i64 x6)] .rw)
 (h2.append 1 8 x3 (.sl h1.next 0 1 (.ex 1))).bind fun p3 =>
 some (.normal, (withyref18_Order_c1_E x0 p3.1 x4 (.int .i64 (wr .i64 (x5 + 1)))), p3.2)

theorem withyref18_Order_eq (M : Env) (a0 : V) (h : H) : evalF M F.withyref18_Order [a0] h = withyref18_Order M a0 h := by kernel_rfl

theorem withyref18_Order_c1_eq (M : Env) (x0 : V) (x3 : V) (x4 : V) (x5 : Int) (h : H) : withyref18_Order_c1_B M (withyref18_Order_c1_E x0 x3 x4 (.int .i64 x5)) h = withyref18_Order_c1_S M x0 x3 x4 x5 h := by kernel_rfl

theorem withyref18_Order_c1_e0_eq (M : Env) (x3 : V) (h : H) : withyref18_Order_K2 M (.exit 0) (withyref18_Order_c1_O x3) h = withyref18_Order_c1_e0 M x3 h := by kernel_rfl

theorem withyref18_Order_c4_eq (M : Env) (x0 : V) (x3 : V) (x4 : V) (x5 : Int) (x6 : Int) (x7 : Int) (h : H) : withyref18_Order_c4_B M (withyref18_Order_c4_E x0 x3 x4 (.int .i64 x5) (.int .i64 x6) (.int .i64 x7)) h = withyref18_Order_c4_S M x0 x3 x4 x5 x6 x7 h := by kernel_rfl

theorem withyref18_Order_c4_e2_eq (M : Env) (x0 : V) (x3 : V) (x4 : V) (x5 : Int) (x6 : Int) (h : H) : withyref18_Order_K7 M (.exit 2) (withyref18_Order_c4_O x0 x3 x4 (.int .i64 x5) (.int .i64 x6)) h = withyref18_Order_c4_e2 M x0 x3 x4 x5 x6 h := by kernel_rfl

end Wm.S
end

section
namespace Wm.S
open Wm
set_option maxRecDepth 100000
set_option linter.unusedVariables false

def withylaw18_HistOrders_c1_B (M : Env) : List V → H → Option (AX × List V × H) :=
 fun env h => evalC M F.withylaw18_HistOrders_c1 env h fun x env h => match x with
 | .normal => some (.normal, keepOf [3, 4, 5] 0 env, h)
 | x => some (x, keepOf [2] 0 env, h)

def withylaw18_HistOrders_c1_E (x3 x4 x5 : V) : List V := dd 3 (x3 :: x4 :: x5 :: dd 29 [])
def withylaw18_HistOrders_c1_O (x2 : V) : List V := dd 2 (x2 :: dd 32 [])

def withylaw18_HistOrders_K0 (M : Env) : AX → List V → H → Option (V × H) :=
 fun x env h => fin F.withylaw18_HistOrders x env h

def withylaw18_HistOrders_K1 (M : Env) : AX → List V → H → Option (V × H) :=
 fun x env h => match x with | .normal => evalC M F.withylaw18_HistOrders_c0 env h (fun x env h => withylaw18_HistOrders_K0 M x env h) | x => withylaw18_HistOrders_K0 M x env h

def withylaw18_HistOrders_K2 (M : Env) : AX → List V → H → Option (V × H) :=
 fun x env h => match x with | .exit j => (match Nat.beq j 0 with | true => withylaw18_HistOrders_K1 M .normal env h | false => withylaw18_HistOrders_K1 M (.exit j) env h) | x => withylaw18_HistOrders_K1 M x env h

def withylaw18_HistOrders (M : Env) (a0 : V) (h : H) : Option (V × H) :=
 (lenSl a0).bind fun n0 =>
 match (decide (60 < ((n0 : Nat) : Int))) with
 | true => (
 (M.call 180 [] h).bind fun p1 =>
 some (p1.1, p1.2))
 | false => (
 (M.call 181 [a0] h).bind fun p1 =>
 (M.call 182 [a0] p1.2).bind fun p2 =>
 (lenSl p1.1).bind fun n3 =>
 (lenSl p2.1).bind fun n4 =>
 match (!decide (((n3 : Nat) : Int) = ((n4 : Nat) : Int))) with
 | true => (
 some ((.bool false), p2.2))
 | false => (
 (M.loop (withylaw18_HistOrders_c1_B M) (withylaw18_HistOrders_c1_E p1.1 p2.1 (.int .i64 0)) p2.2).bind fun p5 => withylaw18_HistOrders_K2 M p5.1 p5.2.1 p5.2.2))

def withylaw18_HistOrders_c1_S (M : Env) (x3 : V) (x4 : V) (x5 : Int) (h : H) : Option (AX × List V × H) :=
 (lenSl x3).bind fun n0 =>
 match (decide (x5 < ((n0 : Nat) : Int))) with
 | true => (
 (indexAV 1 x3 (.int .i64 x5)).bind fun v1 =>
 (h.ld1 v1).bind fun v2 =>
 (indexAV 1 x4 (.int .i64 x5)).bind fun v3 =>
 (h.ld1 v3).bind fun v4 =>
 (asI .i64 v2).bind fun n5 =>
 (asI .i64 v4).bind fun n6 =>
 match (!decide (n5 = n6)) with
 | true => (
 some (.ret, (withylaw18_HistOrders_c1_O (.bool false)), h))
 | false => (
 some (.normal, (withylaw18_HistOrders_c1_E x3 x4 (.int .i64 (wr .i64 (x5 + 1)))), h)))
 | false => (
 some ((.exit 0), (withylaw18_HistOrders_c1_O .dead), h))

def withylaw18_HistOrders_c1_e0 (M : Env) (x2 : V) (h : H) : Option (V × H) :=
 (M.call 180 [] h).bind fun p0 =>
 some (p0.1, p0.2)

theorem withylaw18_HistOrders_eq (M : Env) (a0 : V) (h : H) : evalF M F.withylaw18_HistOrders [a0] h = withylaw18_HistOrders M a0 h := by kernel_rfl

theorem withylaw18_HistOrders_c1_eq (M : Env) (x3 : V) (x4 : V) (x5 : Int) (h : H) : withylaw18_HistOrders_c1_B M (withylaw18_HistOrders_c1_E x3 x4 (.int .i64 x5)) h = withylaw18_HistOrders_c1_S M x3 x4 x5 h := by kernel_rfl

theorem withylaw18_HistOrders_c1_e0_eq (M : Env) (x2 : V) (h : H) : withylaw18_HistOrders_K2 M (.exit 0) (withylaw18_HistOrders_c1_O x2) h = withylaw18_HistOrders_c1_e0 M x2 h := by kernel_rfl

end Wm.S
end

