/- PRINTED by my tool: what functions come to, stretch by stretch. -/
import Derived.KernelRfl
import Derived.Test.YtjcppjbepndjcaaWmShal
import Derived.Test.YtjcppjbepndjcaaWmFnc
import Derived.Test.YtjcppjbepndjcaaWmFnsHistMovesA
set_option linter.all false
section
open Wm
namespace Wm.S
def dd : Nat → List V → List V
  | 0, l => l
  | n + 1, l => .dead :: dd n l
end Wm.S

end
section
namespace Wm.S
open Wm
set_option maxRecDepth 100000
set_option linter.unusedVariables false

def slices_insertionSortCmpFunc_int__c0_B (M : Env) : List V → H → Option (AX × List V × H) :=
 fun env h => evalC M F.slices_insertionSortCmpFunc_int__c0 env h fun x env h => match x with
 | .normal => some (.normal, keepOf [0, 1, 2, 3, 8] 0 env, h)
 | x => some (x, keepOf [] 0 env, h)

def slices_insertionSortCmpFunc_int__c0_E (x0 x1 x2 x3 x8 : V) : List V := x0 :: x1 :: x2 :: x3 :: dd 4 (x8 :: dd 44 [])
def slices_insertionSortCmpFunc_int__c0_O : List V := dd 53 []

def slices_insertionSortCmpFunc_int__c2_B (M : Env) : List V → H → Option (AX × List V × H) :=
 fun env h => evalC M F.slices_insertionSortCmpFunc_int__c2 env h fun x env h => match x with
 | .normal => some (.normal, keepOf [0, 1, 2, 3, 8, 9] 0 env, h)
 | x => some (x, keepOf [0, 1, 2, 3, 8] 0 env, h)

def slices_insertionSortCmpFunc_int__c2_E (x0 x1 x2 x3 x8 x9 : V) : List V := x0 :: x1 :: x2 :: x3 :: dd 4 (x8 :: x9 :: dd 43 [])
def slices_insertionSortCmpFunc_int__c2_O (x0 x1 x2 x3 x8 : V) : List V := x0 :: x1 :: x2 :: x3 :: dd 4 (x8 :: dd 44 [])

def slices_insertionSortCmpFunc_int__K0 (M : Env) : AX → List V → H → Option (V × H) :=
 fun x env h => fin F.slices_insertionSortCmpFunc_int_ x env h

def slices_insertionSortCmpFunc_int__K1 (M : Env) : AX → List V → H → Option (V × H) :=
 fun x env h => match x with | .exit j => (match Nat.beq j 0 with | true => slices_insertionSortCmpFunc_int__K0 M .normal env h | false => slices_insertionSortCmpFunc_int__K0 M (.exit j) env h) | x => slices_insertionSortCmpFunc_int__K0 M x env h

def slices_insertionSortCmpFunc_int__K2 (M : Env) : AX → List V → H → Option (AX × List V × H) :=
 fun x env h => match x with | .normal => some (.normal, keepOf [0, 1, 2, 3, 8] 0 env, h) | x => some (x, keepOf [] 0 env, h)

def slices_insertionSortCmpFunc_int__K3 (M : Env) : AX → List V → H → Option (AX × List V × H) :=
 fun x env h => match x with | .normal => evalC M F.slices_insertionSortCmpFunc_int__c1 env h (fun x env h => slices_insertionSortCmpFunc_int__K2 M x env h) | x => slices_insertionSortCmpFunc_int__K2 M x env h

def slices_insertionSortCmpFunc_int__K4 (M : Env) : AX → List V → H → Option (AX × List V × H) :=
 fun x env h => match x with | .exit j => (match Nat.beq j 1 with | true => slices_insertionSortCmpFunc_int__K3 M .normal env h | false => slices_insertionSortCmpFunc_int__K3 M (.exit j) env h) | x => slices_insertionSortCmpFunc_int__K3 M x env h

def slices_insertionSortCmpFunc_int__K5 (M : Env) : AX → List V → H → Option (AX × List V × H) :=
 fun x env h => match x with | .exit j => (match Nat.beq j 2 with | true => slices_insertionSortCmpFunc_int__K4 M .normal env h | false => slices_insertionSortCmpFunc_int__K4 M (.exit j) env h) | x => slices_insertionSortCmpFunc_int__K4 M x env h

def slices_insertionSortCmpFunc_int_ (M : Env) (a0 : V) (a1 : Int) (a2 : Int) (a3 : V) (h : H) : Option (V × H) :=
 (M.loop (slices_insertionSortCmpFunc_int__c0_B M) (slices_insertionSortCmpFunc_int__c0_E a0 (.int .i64 a1) (.int .i64 a2) a3 (.int .i64 (wr .i64 (a1 + 1)))) h).bind fun p0 => slices_insertionSortCmpFunc_int__K1 M p0.1 p0.2.1 p0.2.2

def slices_insertionSortCmpFunc_int__c0_S (M : Env) (x0 : V) (x1 : Int) (x2 : Int) (x3 : V) (x8 : Int) (h : H) : Option (AX × List V × H) :=
 match (decide (x8 < x2)) with
 | true => (
 (M.loop (slices_insertionSortCmpFunc_int__c2_B M) (slices_insertionSortCmpFunc_int__c2_E x0 (.int .i64 x1) (.int .i64 x2) x3 (.int .i64 x8) (.int .i64 x8)) h).bind fun p0 => slices_insertionSortCmpFunc_int__K5 M p0.1 p0.2.1 p0.2.2)
 | false => (
 some ((.exit 0), slices_insertionSortCmpFunc_int__c0_O, h))

def slices_insertionSortCmpFunc_int__c0_e0 (M : Env) (h : H) : Option (V × H) :=
 some ((.tup []), h)

def slices_insertionSortCmpFunc_int__c2_S (M : Env) (x0 : V) (x1 : Int) (x2 : Int) (x3 : V) (x8 : Int) (x9 : Int) (h : H) : Option (AX × List V × H) :=
 match (decide (x1 < x9)) with
 | true => (
 (indexAV 1 x0 (.int .i64 x9)).bind fun v0 =>
 (h.ld1 v0).bind fun v1 =>
 (indexAV 1 x0 (.int .i64 (wr .i64 (x9 - 1)))).bind fun v2 =>
 (h.ld1 v2).bind fun v3 =>
 callFn M x3 [v1, v3] h fun p4 =>
 (asI .i64 p4.1).bind fun n5 =>
 match (decide (n5 < 0)) with
 | true => (
 (indexAV 1 x0 (.int .i64 (wr .i64 (x9 - 1)))).bind fun v6 =>
 (p4.2.ld1 v6).bind fun v7 =>
 (indexAV 1 x0 (.int .i64 x9)).bind fun v8 =>
 (p4.2.ld1 v8).bind fun v9 =>
 (indexAV 1 x0 (.int .i64 x9)).bind fun v10 =>
 (p4.2.st 1 v10 v7).bind fun h11 =>
 (indexAV 1 x0 (.int .i64 (wr .i64 (x9 - 1)))).bind fun v12 =>
 (h11.st 1 v12 v9).bind fun h13 =>
 some (.normal, (slices_insertionSortCmpFunc_int__c2_E x0 (.int .i64 x1) (.int .i64 x2) x3 (.int .i64 x8) (.int .i64 (wr .i64 (x9 - 1)))), h13))
 | false => (
 some ((.exit 2), (slices_insertionSortCmpFunc_int__c2_O x0 (.int .i64 x1) (.int .i64 x2) x3 (.int .i64 x8)), p4.2)))
 | false => (
 some ((.exit 2), (slices_insertionSortCmpFunc_int__c2_O x0 (.int .i64 x1) (.int .i64 x2) x3 (.int .i64 x8)), h))

def slices_insertionSortCmpFunc_int__c2_e2 (M : Env) (x0 : V) (x1 : Int) (x2 : Int) (x3 : V) (x8 : Int) (h : H) : Option (AX × List V × H) :=
 some (.normal, (slices_insertionSortCmpFunc_int__c0_E x0 (.int .i64 x1) (.int .i64 x2) x3 (.int .i64 (wr .i64 (x8 + 1)))), h)

theorem slices_insertionSortCmpFunc_int__eq (M : Env) (a0 : V) (a1 : Int) (a2 : Int) (a3 : V) (h : H) : evalF M F.slices_insertionSortCmpFunc_int_ [a0, (.int .i64 a1), (.int .i64 a2), a3] h = slices_insertionSortCmpFunc_int_ M a0 a1 a2 a3 h := by kernel_rfl

theorem slices_insertionSortCmpFunc_int__c0_eq (M : Env) (x0 : V) (x1 : Int) (x2 : Int) (x3 : V) (x8 : Int) (h : H) : slices_insertionSortCmpFunc_int__c0_B M (slices_insertionSortCmpFunc_int__c0_E x0 (.int .i64 x1) (.int .i64 x2) x3 (.int .i64 x8)) h = slices_insertionSortCmpFunc_int__c0_S M x0 x1 x2 x3 x8 h := by kernel_rfl

theorem slices_insertionSortCmpFunc_int__c0_e0_eq (M : Env) (h : H) : slices_insertionSortCmpFunc_int__K1 M (.exit 0) slices_insertionSortCmpFunc_int__c0_O h = slices_insertionSortCmpFunc_int__c0_e0 M h := by kernel_rfl

theorem slices_insertionSortCmpFunc_int__c2_eq (M : Env) (x0 : V) (x1 : Int) (x2 : Int) (x3 : V) (x8 : Int) (x9 : Int) (h : H) : slices_insertionSortCmpFunc_int__c2_B M (slices_insertionSortCmpFunc_int__c2_E x0 (.int .i64 x1) (.int .i64 x2) x3 (.int .i64 x8) (.int .i64 x9)) h = slices_insertionSortCmpFunc_int__c2_S M x0 x1 x2 x3 x8 x9 h := by kernel_rfl

theorem slices_insertionSortCmpFunc_int__c2_e2_eq (M : Env) (x0 : V) (x1 : Int) (x2 : Int) (x3 : V) (x8 : Int) (h : H) : slices_insertionSortCmpFunc_int__K5 M (.exit 2) (slices_insertionSortCmpFunc_int__c2_O x0 (.int .i64 x1) (.int .i64 x2) x3 (.int .i64 x8)) h = slices_insertionSortCmpFunc_int__c2_e2 M x0 x1 x2 x3 x8 h := by kernel_rfl

end Wm.S
end

section
namespace Wm.S
open Wm
set_option maxRecDepth 100000
set_option linter.unusedVariables false

def slices_siftDownCmpFunc_int__c0_B (M : Env) : List V → H → Option (AX × List V × H) :=
 fun env h => evalC M F.slices_siftDownCmpFunc_int__c0 env h fun x env h => match x with
 | .normal => some (.normal, keepOf [0, 2, 3, 4, 10] 0 env, h)
 | x => some (x, keepOf [] 0 env, h)

def slices_siftDownCmpFunc_int__c0_E (x0 x2 x3 x4 x10 : V) : List V := x0 :: dd 1 (x2 :: x3 :: x4 :: dd 5 (x10 :: dd 71 []))
def slices_siftDownCmpFunc_int__c0_O : List V := dd 82 []

def slices_siftDownCmpFunc_int__K0 (M : Env) : AX → List V → H → Option (V × H) :=
 fun x env h => fin F.slices_siftDownCmpFunc_int_ x env h

def slices_siftDownCmpFunc_int__K1 (M : Env) : AX → List V → H → Option (V × H) :=
 fun x env h => match x with | .exit j => (match Nat.beq j 0 with | true => slices_siftDownCmpFunc_int__K0 M .normal env h | false => slices_siftDownCmpFunc_int__K0 M (.exit j) env h) | x => slices_siftDownCmpFunc_int__K0 M x env h

def slices_siftDownCmpFunc_int_ (M : Env) (a0 : V) (a1 : Int) (a2 : Int) (a3 : Int) (a4 : V) (h : H) : Option (V × H) :=
 (M.loop (slices_siftDownCmpFunc_int__c0_B M) (slices_siftDownCmpFunc_int__c0_E a0 (.int .i64 a2) (.int .i64 a3) a4 (.int .i64 a1)) h).bind fun p0 => slices_siftDownCmpFunc_int__K1 M p0.1 p0.2.1 p0.2.2

def slices_siftDownCmpFunc_int__c0_S (M : Env) (x0 : V) (x2 : Int) (x3 : Int) (x4 : V) (x10 : Int) (h : H) : Option (AX × List V × H) :=
 match (decide (x2 ≤ (wr .i64 ((wr .i64 (2 * x10)) + 1)))) with
 | true => (
 some ((.exit 0), slices_siftDownCmpFunc_int__c0_O, h))
 | false => (
 match (decide ((wr .i64 ((wr .i64 ((wr .i64 (2 * x10)) + 1)) + 1)) < x2)) with
 | true => (
 (indexAV 1 x0 (.int .i64 (wr .i64 (x3 + (wr .i64 ((wr .i64 (2 * x10)) + 1)))))).bind fun v0 =>
 (h.ld1 v0).bind fun v1 =>
 (indexAV 1 x0 (.int .i64 (wr .i64 ((wr .i64 (x3 + (wr .i64 ((wr .i64 (2 * x10)) + 1)))) + 1)))).bind fun v2 =>
 (h.ld1 v2).bind fun v3 =>
 callFn M x4 [v1, v3] h fun p4 =>
 (asI .i64 p4.1).bind fun n5 =>
 match (decide (n5 < 0)) with
 | true => (
 (indexAV 1 x0 (.int .i64 (wr .i64 (x3 + x10)))).bind fun v6 =>
 (p4.2.ld1 v6).bind fun v7 =>
 (indexAV 1 x0 (.int .i64 (wr .i64 (x3 + (wr .i64 ((wr .i64 ((wr .i64 (2 * x10)) + 1)) + 1)))))).bind fun v8 =>
 (p4.2.ld1 v8).bind fun v9 =>
 callFn M x4 [v7, v9] p4.2 fun p10 =>
 (asI .i64 p10.1).bind fun n11 =>
 match (!(decide (n11 < 0))) with
 | true => (
 some (.ret, slices_siftDownCmpFunc_int__c0_O, p10.2))
 | false => (
 (indexAV 1 x0 (.int .i64 (wr .i64 (x3 + (wr .i64 ((wr .i64 ((wr .i64 (2 * x10)) + 1)) + 1)))))).bind fun v12 =>
 (p10.2.ld1 v12).bind fun v13 =>
 (indexAV 1 x0 (.int .i64 (wr .i64 (x3 + x10)))).bind fun v14 =>
 (p10.2.ld1 v14).bind fun v15 =>
 (indexAV 1 x0 (.int .i64 (wr .i64 (x3 + x10)))).bind fun v16 =>
 (p10.2.st 1 v16 v13).bind fun h17 =>
 (indexAV 1 x0 (.int .i64 (wr .i64 (x3 + (wr .i64 ((wr .i64 ((wr .i64 (2 * x10)) + 1)) + 1)))))).bind fun v18 =>
 (h17.st 1 v18 v15).bind fun h19 =>
 some (.normal, (slices_siftDownCmpFunc_int__c0_E x0 (.int .i64 x2) (.int .i64 x3) x4 (.int .i64 (wr .i64 ((wr .i64 ((wr .i64 (2 * x10)) + 1)) + 1)))), h19)))
 | false => (
 (indexAV 1 x0 (.int .i64 (wr .i64 (x3 + x10)))).bind fun v6 =>
 (p4.2.ld1 v6).bind fun v7 =>
 (indexAV 1 x0 (.int .i64 (wr .i64 (x3 + (wr .i64 ((wr .i64 (2 * x10)) + 1)))))).bind fun v8 =>
 (p4.2.ld1 v8).bind fun v9 =>
 callFn M x4 [v7, v9] p4.2 fun p10 =>
 (asI .i64 p10.1).bind fun n11 =>
 match (!(decide (n11 < 0))) with
 | true => (
 some (.ret, slices_siftDownCmpFunc_int__c0_O, p10.2))
 | false => (
 (indexAV 1 x0 (.int .i64 (wr .i64 (x3 + (wr .i64 ((wr .i64 (2 * x10)) + 1)))))).bind fun v12 =>
 (p10.2.ld1 v12).bind fun v13 =>
 (indexAV 1 x0 (.int .i64 (wr .i64 (x3 + x10)))).bind fun v14 =>
 (p10.2.ld1 v14).bind fun v15 =>
 (indexAV 1 x0 (.int .i64 (wr .i64 (x3 + x10)))).bind fun v16 =>
 (p10.2.st 1 v16 v13).bind fun h17 =>
 (indexAV 1 x0 (.int .i64 (wr .i64 (x3 + (wr .i64 ((wr .i64 (2 * x10)) + 1)))))).bind fun v18 =>
 (h17.st 1 v18 v15).bind fun h19 =>
 some (.normal, (slices_siftDownCmpFunc_int__c0_E x0 (.int .i64 x2) (.int .i64 x3) x4 (.int .i64 (wr .i64 ((wr .i64 (2 * x10)) + 1)))), h19))))
 | false => (
 (indexAV 1 x0 (.int .i64 (wr .i64 (x3 + x10)))).bind fun v0 =>
 (h.ld1 v0).bind fun v1 =>
 (indexAV 1 x0 (.int .i64 (wr .i64 (x3 + (wr .i64 ((wr .i64 (2 * x10)) + 1)))))).bind fun v2 =>
 (h.ld1 v2).bind fun v3 =>
 callFn M x4 [v1, v3] h fun p4 =>
 (asI .i64 p4.1).bind fun n5 =>
 match (!(decide (n5 < 0))) with
 | true => (
 some (.ret, slices_siftDownCmpFunc_int__c0_O, p4.2))
 | false => (
 (indexAV 1 x0 (.int .i64 (wr .i64 (x3 + (wr .i64 ((wr .i64 (2 * x10)) + 1)))))).bind fun v6 =>
 (p4.2.ld1 v6).bind fun v7 =>
 (indexAV 1 x0 (.int .i64 (wr .i64 (x3 + x10)))).bind fun v8 =>
 (p4.2.ld1 v8).bind fun v9 =>
 (indexAV 1 x0 (.int .i64 (wr .i64 (x3 + x10)))).bind fun v10 =>
 (p4.2.st 1 v10 v7).bind fun h11 =>
 (indexAV 1 x0 (.int .i64 (wr .i64 (x3 + (wr .i64 ((wr .i64 (2 * x10)) + 1)))))).bind fun v12 =>
 (h11.st 1 v12 v9).bind fun h13 =>
 some (.normal, (slices_siftDownCmpFunc_int__c0_E x0 (.int .i64 x2) (.int .i64 x3) x4 (.int .i64 (wr .i64 ((wr .i64 (2 * x10)) + 1)))), h13))))

def slices_siftDownCmpFunc_int__c0_e0 (M : Env) (h : H) : Option (V × H) :=
 some ((.tup []), h)

def slices_siftDownCmpFunc_int__c0_r (M : Env) (h : H) : Option (V × H) :=
 some ((.tup []), h)

theorem slices_siftDownCmpFunc_int__eq (M : Env) (a0 : V) (a1 : Int) (a2 : Int) (a3 : Int) (a4 : V) (h : H) : evalF M F.slices_siftDownCmpFunc_int_ [a0, (.int .i64 a1), (.int .i64 a2), (.int .i64 a3), a4] h = slices_siftDownCmpFunc_int_ M a0 a1 a2 a3 a4 h := by kernel_rfl

theorem slices_siftDownCmpFunc_int__c0_eq (M : Env) (x0 : V) (x2 : Int) (x3 : Int) (x4 : V) (x10 : Int) (h : H) : slices_siftDownCmpFunc_int__c0_B M (slices_siftDownCmpFunc_int__c0_E x0 (.int .i64 x2) (.int .i64 x3) x4 (.int .i64 x10)) h = slices_siftDownCmpFunc_int__c0_S M x0 x2 x3 x4 x10 h := by kernel_rfl

theorem slices_siftDownCmpFunc_int__c0_e0_eq (M : Env) (h : H) : slices_siftDownCmpFunc_int__K1 M (.exit 0) slices_siftDownCmpFunc_int__c0_O h = slices_siftDownCmpFunc_int__c0_e0 M h := by kernel_rfl

theorem slices_siftDownCmpFunc_int__c0_r_eq (M : Env) (h : H) : slices_siftDownCmpFunc_int__K1 M .ret slices_siftDownCmpFunc_int__c0_O h = slices_siftDownCmpFunc_int__c0_r M h := by kernel_rfl

end Wm.S
end

section
namespace Wm.S
open Wm
set_option maxRecDepth 100000
set_option linter.unusedVariables false

def slices_heapSortCmpFunc_int__c1_B (M : Env) : List V → H → Option (AX × List V × H) :=
 fun env h => evalC M F.slices_heapSortCmpFunc_int__c1 env h fun x env h => match x with
 | .normal => some (.normal, keepOf [0, 3, 8, 9, 10, 11] 0 env, h)
 | x => some (x, keepOf [0, 3, 8, 9, 10] 0 env, h)

def slices_heapSortCmpFunc_int__c1_E (x0 x3 x8 x9 x10 x11 : V) : List V := x0 :: dd 2 (x3 :: dd 4 (x8 :: x9 :: x10 :: x11 :: dd 48 []))
def slices_heapSortCmpFunc_int__c1_O (x0 x3 x8 x9 x10 : V) : List V := x0 :: dd 2 (x3 :: dd 4 (x8 :: x9 :: x10 :: dd 49 []))

def slices_heapSortCmpFunc_int__c2_B (M : Env) : List V → H → Option (AX × List V × H) :=
 fun env h => evalC M F.slices_heapSortCmpFunc_int__c2 env h fun x env h => match x with
 | .normal => some (.normal, keepOf [0, 3, 8, 9, 12] 0 env, h)
 | x => some (x, keepOf [] 0 env, h)

def slices_heapSortCmpFunc_int__c2_E (x0 x3 x8 x9 x12 : V) : List V := x0 :: dd 2 (x3 :: dd 4 (x8 :: x9 :: dd 2 (x12 :: dd 47 [])))
def slices_heapSortCmpFunc_int__c2_O : List V := dd 60 []

def slices_heapSortCmpFunc_int__K0 (M : Env) : AX → List V → H → Option (V × H) :=
 fun x env h => fin F.slices_heapSortCmpFunc_int_ x env h

def slices_heapSortCmpFunc_int__K1 (M : Env) : AX → List V → H → Option (V × H) :=
 fun x env h => match x with | .normal => evalC M F.slices_heapSortCmpFunc_int__c0 env h (fun x env h => slices_heapSortCmpFunc_int__K0 M x env h) | x => slices_heapSortCmpFunc_int__K0 M x env h

def slices_heapSortCmpFunc_int__K2 (M : Env) : AX → List V → H → Option (V × H) :=
 fun x env h => match x with | .exit j => (match Nat.beq j 0 with | true => slices_heapSortCmpFunc_int__K1 M .normal env h | false => slices_heapSortCmpFunc_int__K1 M (.exit j) env h) | x => slices_heapSortCmpFunc_int__K1 M x env h

def slices_heapSortCmpFunc_int__K3 (M : Env) : AX → List V → H → Option (V × H) :=
 fun x env h => match x with | .exit j => (match Nat.beq j 2 with | true => slices_heapSortCmpFunc_int__K0 M .normal env h | false => slices_heapSortCmpFunc_int__K0 M (.exit j) env h) | x => slices_heapSortCmpFunc_int__K0 M x env h

def slices_heapSortCmpFunc_int_ (M : Env) (a0 : V) (a1 : Int) (a2 : Int) (a3 : V) (h : H) : Option (V × H) :=
 (M.loop (slices_heapSortCmpFunc_int__c1_B M) (slices_heapSortCmpFunc_int__c1_E a0 a3 (.int .i64 a1) (.int .i64 0) (.int .i64 (wr .i64 (a2 - a1))) (.int .i64 (wr .i64 (Int.tdiv (wr .i64 ((wr .i64 (a2 - a1)) - 1)) 2)))) h).bind fun p0 => slices_heapSortCmpFunc_int__K2 M p0.1 p0.2.1 p0.2.2

def slices_heapSortCmpFunc_int__c1_S (M : Env) (x0 : V) (x3 : V) (x8 : Int) (x9 : Int) (x10 : Int) (x11 : Int) (h : H) : Option (AX × List V × H) :=
 match (decide (0 ≤ x11)) with
 | true => (
 (M.call 487 [x0, (.int .i64 x11), (.int .i64 x10), (.int .i64 x8), x3] h).bind fun p0 =>
 some (.normal, (slices_heapSortCmpFunc_int__c1_E x0 x3 (.int .i64 x8) (.int .i64 x9) (.int .i64 x10) (.int .i64 (wr .i64 (x11 - 1)))), p0.2))
 | false => (
 some ((.exit 0), (slices_heapSortCmpFunc_int__c1_O x0 x3 (.int .i64 x8) (.int .i64 x9) (.int .i64 x10)), h))

def slices_heapSortCmpFunc_int__c1_e0 (M : Env) (x0 : V) (x3 : V) (x8 : Int) (x9 : Int) (x10 : Int) (h : H) : Option (V × H) :=
 (M.loop (slices_heapSortCmpFunc_int__c2_B M) (slices_heapSortCmpFunc_int__c2_E x0 x3 (.int .i64 x8) (.int .i64 x9) (.int .i64 (wr .i64 (x10 - 1)))) h).bind fun p0 => slices_heapSortCmpFunc_int__K3 M p0.1 p0.2.1 p0.2.2

def slices_heapSortCmpFunc_int__c2_S (M : Env) (x0 : V) (x3 : V) (x8 : Int) (x9 : Int) (x12 : Int) (h : H) : Option (AX × List V × H) :=
 match (decide (0 ≤ x12)) with
 | true => (
 (indexAV 1 x0 (.int .i64 (wr .i64 (x8 + x12)))).bind fun v0 =>
 (h.ld1 v0).bind fun v1 =>
 (indexAV 1 x0 (.int .i64 x8)).bind fun v2 =>
 (h.ld1 v2).bind fun v3 =>
 (indexAV 1 x0 (.int .i64 x8)).bind fun v4 =>
 (h.st 1 v4 v1).bind fun h5 =>
 (indexAV 1 x0 (.int .i64 (wr .i64 (x8 + x12)))).bind fun v6 =>
 (h5.st 1 v6 v3).bind fun h7 =>
 (M.call 487 [x0, (.int .i64 x9), (.int .i64 x12), (.int .i64 x8), x3] h7).bind fun p8 =>
 some (.normal, (slices_heapSortCmpFunc_int__c2_E x0 x3 (.int .i64 x8) (.int .i64 x9) (.int .i64 (wr .i64 (x12 - 1)))), p8.2))
 | false => (
 some ((.exit 2), slices_heapSortCmpFunc_int__c2_O, h))

def slices_heapSortCmpFunc_int__c2_e2 (M : Env) (h : H) : Option (V × H) :=
 some ((.tup []), h)

theorem slices_heapSortCmpFunc_int__eq (M : Env) (a0 : V) (a1 : Int) (a2 : Int) (a3 : V) (h : H) : evalF M F.slices_heapSortCmpFunc_int_ [a0, (.int .i64 a1), (.int .i64 a2), a3] h = slices_heapSortCmpFunc_int_ M a0 a1 a2 a3 h := by kernel_rfl

theorem slices_heapSortCmpFunc_int__c1_eq (M : Env) (x0 : V) (x3 : V) (x8 : Int) (x9 : Int) (x10 : Int) (x11 : Int) (h : H) : slices_heapSortCmpFunc_int__c1_B M (slices_heapSortCmpFunc_int__c1_E x0 x3 (.int .i64 x8) (.int .i64 x9) (.int .i64 x10) (.int .i64 x11)) h = slices_heapSortCmpFunc_int__c1_S M x0 x3 x8 x9 x10 x11 h := by kernel_rfl

theorem slices_heapSortCmpFunc_int__c1_e0_eq (M : Env) (x0 : V) (x3 : V) (x8 : Int) (x9 : Int) (x10 : Int) (h : H) : slices_heapSortCmpFunc_int__K2 M (.exit 0) (slices_heapSortCmpFunc_int__c1_O x0 x3 (.int .i64 x8) (.int .i64 x9) (.int .i64 x10)) h = slices_heapSortCmpFunc_int__c1_e0 M x0 x3 x8 x9 x10 h := by kernel_rfl

theorem slices_heapSortCmpFunc_int__c2_eq (M : Env) (x0 : V) (x3 : V) (x8 : Int) (x9 : Int) (x12 : Int) (h : H) : slices_heapSortCmpFunc_int__c2_B M (slices_heapSortCmpFunc_int__c2_E x0 x3 (.int .i64 x8) (.int .i64 x9) (.int .i64 x12)) h = slices_heapSortCmpFunc_int__c2_S M x0 x3 x8 x9 x12 h := by kernel_rfl

theorem slices_heapSortCmpFunc_int__c2_e2_eq (M : Env) (h : H) : slices_heapSortCmpFunc_int__K3 M (.exit 2) slices_heapSortCmpFunc_int__c2_O h = slices_heapSortCmpFunc_int__c2_e2 M h := by kernel_rfl

end Wm.S
end

section
namespace Wm.S
open Wm
set_option maxRecDepth 100000
set_option linter.unusedVariables false

def slices_reverseRangeCmpFunc_int__c0_B (M : Env) : List V → H → Option (AX × List V × H) :=
 fun env h => evalC M F.slices_reverseRangeCmpFunc_int__c0 env h fun x env h => match x with
 | .normal => some (.normal, keepOf [0, 8, 9] 0 env, h)
 | x => some (x, keepOf [] 0 env, h)

def slices_reverseRangeCmpFunc_int__c0_E (x0 x8 x9 : V) : List V := x0 :: dd 7 (x8 :: x9 :: dd 24 [])
def slices_reverseRangeCmpFunc_int__c0_O : List V := dd 34 []

def slices_reverseRangeCmpFunc_int__K0 (M : Env) : AX → List V → H → Option (V × H) :=
 fun x env h => fin F.slices_reverseRangeCmpFunc_int_ x env h

def slices_reverseRangeCmpFunc_int__K1 (M : Env) : AX → List V → H → Option (V × H) :=
 fun x env h => match x with | .exit j => (match Nat.beq j 0 with | true => slices_reverseRangeCmpFunc_int__K0 M .normal env h | false => slices_reverseRangeCmpFunc_int__K0 M (.exit j) env h) | x => slices_reverseRangeCmpFunc_int__K0 M x env h

def slices_reverseRangeCmpFunc_int_ (M : Env) (a0 : V) (a1 : Int) (a2 : Int) (a3 : V) (h : H) : Option (V × H) :=
 (M.loop (slices_reverseRangeCmpFunc_int__c0_B M) (slices_reverseRangeCmpFunc_int__c0_E a0 (.int .i64 a1) (.int .i64 (wr .i64 (a2 - 1)))) h).bind fun p0 => slices_reverseRangeCmpFunc_int__K1 M p0.1 p0.2.1 p0.2.2

def slices_reverseRangeCmpFunc_int__c0_S (M : Env) (x0 : V) (x8 : Int) (x9 : Int) (h : H) : Option (AX × List V × H) :=
 match (decide (x8 < x9)) with
 | true => (
 (indexAV 1 x0 (.int .i64 x9)).bind fun v0 =>
 (h.ld1 v0).bind fun v1 =>
 (indexAV 1 x0 (.int .i64 x8)).bind fun v2 =>
 (h.ld1 v2).bind fun v3 =>
 (indexAV 1 x0 (.int .i64 x8)).bind fun v4 =>
 (h.st 1 v4 v1).bind fun h5 =>
 (indexAV 1 x0 (.int .i64 x9)).bind fun v6 =>
 (h5.st 1 v6 v3).bind fun h7 =>
 some (.normal, (slices_reverseRangeCmpFunc_int__c0_E x0 (.int .i64 (wr .i64 (x8 + 1))) (.int .i64 (wr .i64 (x9 - 1)))), h7))
 | false => (
 some ((.exit 0), slices_reverseRangeCmpFunc_int__c0_O, h))

def slices_reverseRangeCmpFunc_int__c0_e0 (M : Env) (h : H) : Option (V × H) :=
 some ((.tup []), h)

theorem slices_reverseRangeCmpFunc_int__eq (M : Env) (a0 : V) (a1 : Int) (a2 : Int) (a3 : V) (h : H) : evalF M F.slices_reverseRangeCmpFunc_int_ [a0, (.int .i64 a1), (.int .i64 a2), a3] h = slices_reverseRangeCmpFunc_int_ M a0 a1 a2 a3 h := by kernel_rfl

theorem slices_reverseRangeCmpFunc_int__c0_eq (M : Env) (x0 : V) (x8 : Int) (x9 : Int) (h : H) : slices_reverseRangeCmpFunc_int__c0_B M (slices_reverseRangeCmpFunc_int__c0_E x0 (.int .i64 x8) (.int .i64 x9)) h = slices_reverseRangeCmpFunc_int__c0_S M x0 x8 x9 h := by kernel_rfl

theorem slices_reverseRangeCmpFunc_int__c0_e0_eq (M : Env) (h : H) : slices_reverseRangeCmpFunc_int__K1 M (.exit 0) slices_reverseRangeCmpFunc_int__c0_O h = slices_reverseRangeCmpFunc_int__c0_e0 M h := by kernel_rfl

end Wm.S
end

section
namespace Wm.S
open Wm
set_option maxRecDepth 100000
set_option linter.unusedVariables false

def slices_partitionEqualCmpFunc_int__c1_B (M : Env) : List V → H → Option (AX × List V × H) :=
 fun env h => evalC M F.slices_partitionEqualCmpFunc_int__c1 env h fun x env h => match x with
 | .normal => some (.normal, keepOf [0, 1, 4, 11, 12] 0 env, h)
 | x => some (x, keepOf [11] 0 env, h)

def slices_partitionEqualCmpFunc_int__c1_E (x0 x1 x4 x11 x12 : V) : List V := x0 :: x1 :: dd 2 (x4 :: dd 6 (x11 :: x12 :: dd 77 []))
def slices_partitionEqualCmpFunc_int__c1_O (x11 : V) : List V := dd 11 (x11 :: dd 78 [])

def slices_partitionEqualCmpFunc_int__c3_B (M : Env) : List V → H → Option (AX × List V × H) :=
 fun env h => evalC M F.slices_partitionEqualCmpFunc_int__c3 env h fun x env h => match x with
 | .normal => some (.normal, keepOf [0, 1, 4, 11, 12] 0 env, h)
 | x => some (x, keepOf [0, 1, 4, 11, 12] 0 env, h)

def slices_partitionEqualCmpFunc_int__c3_E (x0 x1 x4 x11 x12 : V) : List V := x0 :: x1 :: dd 2 (x4 :: dd 6 (x11 :: x12 :: dd 77 []))
def slices_partitionEqualCmpFunc_int__c3_O (x0 x1 x4 x11 x12 : V) : List V := x0 :: x1 :: dd 2 (x4 :: dd 6 (x11 :: x12 :: dd 77 []))

def slices_partitionEqualCmpFunc_int__c5_B (M : Env) : List V → H → Option (AX × List V × H) :=
 fun env h => evalC M F.slices_partitionEqualCmpFunc_int__c5 env h fun x env h => match x with
 | .normal => some (.normal, keepOf [0, 1, 4, 11, 12] 0 env, h)
 | x => some (x, keepOf [0, 1, 4, 11, 12] 0 env, h)

def slices_partitionEqualCmpFunc_int__c5_E (x0 x1 x4 x11 x12 : V) : List V := x0 :: x1 :: dd 2 (x4 :: dd 6 (x11 :: x12 :: dd 77 []))
def slices_partitionEqualCmpFunc_int__c5_O (x0 x1 x4 x11 x12 : V) : List V := x0 :: x1 :: dd 2 (x4 :: dd 6 (x11 :: x12 :: dd 77 []))

def slices_partitionEqualCmpFunc_int__K0 (M : Env) : AX → List V → H → Option (V × H) :=
 fun x env h => fin F.slices_partitionEqualCmpFunc_int_ x env h

def slices_partitionEqualCmpFunc_int__K1 (M : Env) : AX → List V → H → Option (V × H) :=
 fun x env h => match x with | .normal => evalC M F.slices_partitionEqualCmpFunc_int__c0 env h (fun x env h => slices_partitionEqualCmpFunc_int__K0 M x env h) | x => slices_partitionEqualCmpFunc_int__K0 M x env h

def slices_partitionEqualCmpFunc_int__K2 (M : Env) : AX → List V → H → Option (V × H) :=
 fun x env h => match x with | .exit j => (match Nat.beq j 0 with | true => slices_partitionEqualCmpFunc_int__K1 M .normal env h | false => slices_partitionEqualCmpFunc_int__K1 M (.exit j) env h) | x => slices_partitionEqualCmpFunc_int__K1 M x env h

def slices_partitionEqualCmpFunc_int__K3 (M : Env) : AX → List V → H → Option (AX × List V × H) :=
 fun x env h => match x with | .normal => some (.normal, keepOf [0, 1, 4, 11, 12] 0 env, h) | x => some (x, keepOf [11] 0 env, h)

def slices_partitionEqualCmpFunc_int__K4 (M : Env) : AX → List V → H → Option (AX × List V × H) :=
 fun x env h => match x with | .exit j => (match Nat.beq j 1 with | true => slices_partitionEqualCmpFunc_int__K3 M .normal env h | false => slices_partitionEqualCmpFunc_int__K3 M (.exit j) env h) | x => slices_partitionEqualCmpFunc_int__K3 M x env h

def slices_partitionEqualCmpFunc_int__K5 (M : Env) : AX → List V → H → Option (AX × List V × H) :=
 fun x env h => match x with | .normal => evalC M F.slices_partitionEqualCmpFunc_int__c2 env h (fun x env h => slices_partitionEqualCmpFunc_int__K4 M x env h) | x => slices_partitionEqualCmpFunc_int__K4 M x env h

def slices_partitionEqualCmpFunc_int__K6 (M : Env) : AX → List V → H → Option (AX × List V × H) :=
 fun x env h => match x with | .exit j => (match Nat.beq j 2 with | true => slices_partitionEqualCmpFunc_int__K5 M .normal env h | false => slices_partitionEqualCmpFunc_int__K5 M (.exit j) env h) | x => slices_partitionEqualCmpFunc_int__K5 M x env h

def slices_partitionEqualCmpFunc_int__K7 (M : Env) : AX → List V → H → Option (AX × List V × H) :=
 fun x env h => match x with | .normal => evalC M F.slices_partitionEqualCmpFunc_int__c4 env h (fun x env h => slices_partitionEqualCmpFunc_int__K4 M x env h) | x => slices_partitionEqualCmpFunc_int__K4 M x env h

def slices_partitionEqualCmpFunc_int__K8 (M : Env) : AX → List V → H → Option (AX × List V × H) :=
 fun x env h => match x with | .exit j => (match Nat.beq j 4 with | true => slices_partitionEqualCmpFunc_int__K7 M .normal env h | false => slices_partitionEqualCmpFunc_int__K7 M (.exit j) env h) | x => slices_partitionEqualCmpFunc_int__K7 M x env h

def slices_partitionEqualCmpFunc_int_ (M : Env) (a0 : V) (a1 : Int) (a2 : Int) (a3 : Int) (a4 : V) (h : H) : Option (V × H) :=
 (indexAV 1 a0 (.int .i64 a3)).bind fun v0 =>
 (h.ld1 v0).bind fun v1 =>
 (indexAV 1 a0 (.int .i64 a1)).bind fun v2 =>
 (h.ld1 v2).bind fun v3 =>
 (indexAV 1 a0 (.int .i64 a1)).bind fun v4 =>
 (h.st 1 v4 v1).bind fun h5 =>
 (indexAV 1 a0 (.int .i64 a3)).bind fun v6 =>
 (h5.st 1 v6 v3).bind fun h7 =>
 (M.loop (slices_partitionEqualCmpFunc_int__c1_B M) (slices_partitionEqualCmpFunc_int__c1_E a0 (.int .i64 a1) a4 (.int .i64 (wr .i64 (a1 + 1))) (.int .i64 (wr .i64 (a2 - 1)))) h7).bind fun p8 => slices_partitionEqualCmpFunc_int__K2 M p8.1 p8.2.1 p8.2.2

def slices_partitionEqualCmpFunc_int__c1_S (M : Env) (x0 : V) (x1 : Int) (x4 : V) (x11 : Int) (x12 : Int) (h : H) : Option (AX × List V × H) :=
 (M.loop (slices_partitionEqualCmpFunc_int__c3_B M) (slices_partitionEqualCmpFunc_int__c3_E x0 (.int .i64 x1) x4 (.int .i64 x11) (.int .i64 x12)) h).bind fun p0 => slices_partitionEqualCmpFunc_int__K6 M p0.1 p0.2.1 p0.2.2

def slices_partitionEqualCmpFunc_int__c1_e0 (M : Env) (x11 : Int) (h : H) : Option (V × H) :=
 some ((.int .i64 x11), h)

def slices_partitionEqualCmpFunc_int__c3_S (M : Env) (x0 : V) (x1 : Int) (x4 : V) (x11 : Int) (x12 : Int) (h : H) : Option (AX × List V × H) :=
 match (decide (x11 ≤ x12)) with
 | true => (
 (indexAV 1 x0 (.int .i64 x1)).bind fun v0 =>
 (h.ld1 v0).bind fun v1 =>
 (indexAV 1 x0 (.int .i64 x11)).bind fun v2 =>
 (h.ld1 v2).bind fun v3 =>
 callFn M x4 [v1, v3] h fun p4 =>
 (asI .i64 p4.1).bind fun n5 =>
 match (!(decide (n5 < 0))) with
 | true => (
 some (.normal, (slices_partitionEqualCmpFunc_int__c3_E x0 (.int .i64 x1) x4 (.int .i64 (wr .i64 (x11 + 1))) (.int .i64 x12)), p4.2))
 | false => (
 some ((.exit 2), (slices_partitionEqualCmpFunc_int__c3_O x0 (.int .i64 x1) x4 (.int .i64 x11) (.int .i64 x12)), p4.2)))
 | false => (
 some ((.exit 2), (slices_partitionEqualCmpFunc_int__c3_O x0 (.int .i64 x1) x4 (.int .i64 x11) (.int .i64 x12)), h))

def slices_partitionEqualCmpFunc_int__c3_e2 (M : Env) (x0 : V) (x1 : Int) (x4 : V) (x11 : Int) (x12 : Int) (h : H) : Option (AX × List V × H) :=
 (M.loop (slices_partitionEqualCmpFunc_int__c5_B M) (slices_partitionEqualCmpFunc_int__c5_E x0 (.int .i64 x1) x4 (.int .i64 x11) (.int .i64 x12)) h).bind fun p0 => slices_partitionEqualCmpFunc_int__K8 M p0.1 p0.2.1 p0.2.2

def slices_partitionEqualCmpFunc_int__c5_S (M : Env) (x0 : V) (x1 : Int) (x4 : V) (x11 : Int) (x12 : Int) (h : H) : Option (AX × List V × H) :=
 match (decide (x11 ≤ x12)) with
 | true => (
 (indexAV 1 x0 (.int .i64 x1)).bind fun v0 =>
 (h.ld1 v0).bind fun v1 =>
 (indexAV 1 x0 (.int .i64 x12)).bind fun v2 =>
 (h.ld1 v2).bind fun v3 =>
 callFn M x4 [v1, v3] h fun p4 =>
 (asI .i64 p4.1).bind fun n5 =>
 match (decide (n5 < 0)) with
 | true => (
 some (.normal, (slices_partitionEqualCmpFunc_int__c5_E x0 (.int .i64 x1) x4 (.int .i64 x11) (.int .i64 (wr .i64 (x12 - 1)))), p4.2))
 | false => (
 some ((.exit 4), (slices_partitionEqualCmpFunc_int__c5_O x0 (.int .i64 x1) x4 (.int .i64 x11) (.int .i64 x12)), p4.2)))
 | false => (
 some ((.exit 4), (slices_partitionEqualCmpFunc_int__c5_O x0 (.int .i64 x1) x4 (.int .i64 x11) (.int .i64 x12)), h))

def slices_partitionEqualCmpFunc_int__c5_e4 (M : Env) (x0 : V) (x1 : Int) (x4 : V) (x11 : Int) (x12 : Int) (h : H) : Option (AX × List V × H) :=
 match (decide (x12 < x11)) with
 | true => (
 some ((.exit 0), (slices_partitionEqualCmpFunc_int__c1_O (.int .i64 x11)), h))
 | false => (
 (indexAV 1 x0 (.int .i64 x12)).bind fun v0 =>
 (h.ld1 v0).bind fun v1 =>
 (indexAV 1 x0 (.int .i64 x11)).bind fun v2 =>
 (h.ld1 v2).bind fun v3 =>
 (indexAV 1 x0 (.int .i64 x11)).bind fun v4 =>
 (h.st 1 v4 v1).bind fun h5 =>
 (indexAV 1 x0 (.int .i64 x12)).bind fun v6 =>
 (h5.st 1 v6 v3).bind fun h7 =>
 some (.normal, (slices_partitionEqualCmpFunc_int__c1_E x0 (.int .i64 x1) x4 (.int .i64 (wr .i64 (x11 + 1))) (.int .i64 (wr .i64 (x12 - 1)))), h7))

theorem slices_partitionEqualCmpFunc_int__eq (M : Env) (a0 : V) (a1 : Int) (a2 : Int) (a3 : Int) (a4 : V) (h : H) : evalF M F.slices_partitionEqualCmpFunc_int_ [a0, (.int .i64 a1), (.int .i64 a2), (.int .i64 a3), a4] h = slices_partitionEqualCmpFunc_int_ M a0 a1 a2 a3 a4 h := by kernel_rfl

theorem slices_partitionEqualCmpFunc_int__c1_eq (M : Env) (x0 : V) (x1 : Int) (x4 : V) (x11 : Int) (x12 : Int) (h : H) : slices_partitionEqualCmpFunc_int__c1_B M (slices_partitionEqualCmpFunc_int__c1_E x0 (.int .i64 x1) x4 (.int .i64 x11) (.int .i64 x12)) h = slices_partitionEqualCmpFunc_int__c1_S M x0 x1 x4 x11 x12 h := by kernel_rfl

theorem slices_partitionEqualCmpFunc_int__c1_e0_eq (M : Env) (x11 : Int) (h : H) : slices_partitionEqualCmpFunc_int__K2 M (.exit 0) (slices_partitionEqualCmpFunc_int__c1_O (.int .i64 x11)) h = slices_partitionEqualCmpFunc_int__c1_e0 M x11 h := by kernel_rfl

theorem slices_partitionEqualCmpFunc_int__c3_eq (M : Env) (x0 : V) (x1 : Int) (x4 : V) (x11 : Int) (x12 : Int) (h : H) : slices_partitionEqualCmpFunc_int__c3_B M (slices_partitionEqualCmpFunc_int__c3_E x0 (.int .i64 x1) x4 (.int .i64 x11) (.int .i64 x12)) h = slices_partitionEqualCmpFunc_int__c3_S M x0 x1 x4 x11 x12 h := by kernel_rfl

theorem slices_partitionEqualCmpFunc_int__c3_e2_eq (M : Env) (x0 : V) (x1 : Int) (x4 : V) (x11 : Int) (x12 : Int) (h : H) : slices_partitionEqualCmpFunc_int__K6 M (.exit 2) (slices_partitionEqualCmpFunc_int__c3_O x0 (.int .i64 x1) x4 (.int .i64 x11) (.int .i64 x12)) h = slices_partitionEqualCmpFunc_int__c3_e2 M x0 x1 x4 x11 x12 h := by kernel_rfl

theorem slices_partitionEqualCmpFunc_int__c5_eq (M : Env) (x0 : V) (x1 : Int) (x4 : V) (x11 : Int) (x12 : Int) (h : H) : slices_partitionEqualCmpFunc_int__c5_B M (slices_partitionEqualCmpFunc_int__c5_E x0 (.int .i64 x1) x4 (.int .i64 x11) (.int .i64 x12)) h = slices_partitionEqualCmpFunc_int__c5_S M x0 x1 x4 x11 x12 h := by kernel_rfl

theorem slices_partitionEqualCmpFunc_int__c5_e4_eq (M : Env) (x0 : V) (x1 : Int) (x4 : V) (x11 : Int) (x12 : Int) (h : H) : slices_partitionEqualCmpFunc_int__K8 M (.exit 4) (slices_partitionEqualCmpFunc_int__c5_O x0 (.int .i64 x1) x4 (.int .i64 x11) (.int .i64 x12)) h = slices_partitionEqualCmpFunc_int__c5_e4 M x0 x1 x4 x11 x12 h := by kernel_rfl

end Wm.S
end

section
namespace Wm.S
open Wm
set_option maxRecDepth 100000
set_option linter.unusedVariables false

def slices_partitionCmpFunc_int__c1_B (M : Env) : List V → H → Option (AX × List V × H) :=
 fun env h => evalC M F.slices_partitionCmpFunc_int__c1 env h fun x env h => match x with
 | .normal => some (.normal, keepOf [0, 1, 4, 12, 13] 0 env, h)
 | x => some (x, keepOf [0, 1, 4, 12, 13] 0 env, h)

def slices_partitionCmpFunc_int__c1_E (x0 x1 x4 x12 x13 : V) : List V := x0 :: x1 :: dd 2 (x4 :: dd 7 (x12 :: x13 :: dd 164 []))
def slices_partitionCmpFunc_int__c1_O (x0 x1 x4 x12 x13 : V) : List V := x0 :: x1 :: dd 2 (x4 :: dd 7 (x12 :: x13 :: dd 164 []))

def slices_partitionCmpFunc_int__c3_B (M : Env) : List V → H → Option (AX × List V × H) :=
 fun env h => evalC M F.slices_partitionCmpFunc_int__c3 env h fun x env h => match x with
 | .normal => some (.normal, keepOf [0, 1, 4, 12, 13] 0 env, h)
 | x => some (x, keepOf [0, 1, 4, 12, 13] 0 env, h)

def slices_partitionCmpFunc_int__c3_E (x0 x1 x4 x12 x13 : V) : List V := x0 :: x1 :: dd 2 (x4 :: dd 7 (x12 :: x13 :: dd 164 []))
def slices_partitionCmpFunc_int__c3_O (x0 x1 x4 x12 x13 : V) : List V := x0 :: x1 :: dd 2 (x4 :: dd 7 (x12 :: x13 :: dd 164 []))

def slices_partitionCmpFunc_int__c5_B (M : Env) : List V → H → Option (AX × List V × H) :=
 fun env h => evalC M F.slices_partitionCmpFunc_int__c5 env h fun x env h => match x with
 | .normal => some (.normal, keepOf [0, 1, 4, 12, 13] 0 env, h)
 | x => some (x, keepOf [0, 1, 13] 0 env, h)

def slices_partitionCmpFunc_int__c5_E (x0 x1 x4 x12 x13 : V) : List V := x0 :: x1 :: dd 2 (x4 :: dd 7 (x12 :: x13 :: dd 164 []))
def slices_partitionCmpFunc_int__c5_O (x0 x1 x13 : V) : List V := x0 :: x1 :: dd 11 (x13 :: dd 164 [])

def slices_partitionCmpFunc_int__c7_B (M : Env) : List V → H → Option (AX × List V × H) :=
 fun env h => evalC M F.slices_partitionCmpFunc_int__c7 env h fun x env h => match x with
 | .normal => some (.normal, keepOf [0, 1, 4, 12, 13] 0 env, h)
 | x => some (x, keepOf [0, 1, 4, 12, 13] 0 env, h)

def slices_partitionCmpFunc_int__c7_E (x0 x1 x4 x12 x13 : V) : List V := x0 :: x1 :: dd 2 (x4 :: dd 7 (x12 :: x13 :: dd 164 []))
def slices_partitionCmpFunc_int__c7_O (x0 x1 x4 x12 x13 : V) : List V := x0 :: x1 :: dd 2 (x4 :: dd 7 (x12 :: x13 :: dd 164 []))

def slices_partitionCmpFunc_int__c9_B (M : Env) : List V → H → Option (AX × List V × H) :=
 fun env h => evalC M F.slices_partitionCmpFunc_int__c9 env h fun x env h => match x with
 | .normal => some (.normal, keepOf [0, 1, 4, 12, 13] 0 env, h)
 | x => some (x, keepOf [0, 1, 4, 12, 13] 0 env, h)

def slices_partitionCmpFunc_int__c9_E (x0 x1 x4 x12 x13 : V) : List V := x0 :: x1 :: dd 2 (x4 :: dd 7 (x12 :: x13 :: dd 164 []))
def slices_partitionCmpFunc_int__c9_O (x0 x1 x4 x12 x13 : V) : List V := x0 :: x1 :: dd 2 (x4 :: dd 7 (x12 :: x13 :: dd 164 []))

def slices_partitionCmpFunc_int__K0 (M : Env) : AX → List V → H → Option (V × H) :=
 fun x env h => fin F.slices_partitionCmpFunc_int_ x env h

def slices_partitionCmpFunc_int__K1 (M : Env) : AX → List V → H → Option (V × H) :=
 fun x env h => match x with | .normal => evalC M F.slices_partitionCmpFunc_int__c0 env h (fun x env h => slices_partitionCmpFunc_int__K0 M x env h) | x => slices_partitionCmpFunc_int__K0 M x env h

def slices_partitionCmpFunc_int__K2 (M : Env) : AX → List V → H → Option (V × H) :=
 fun x env h => match x with | .exit j => (match Nat.beq j 0 with | true => slices_partitionCmpFunc_int__K1 M .normal env h | false => slices_partitionCmpFunc_int__K1 M (.exit j) env h) | x => slices_partitionCmpFunc_int__K1 M x env h

def slices_partitionCmpFunc_int__K3 (M : Env) : AX → List V → H → Option (V × H) :=
 fun x env h => match x with | .normal => evalC M F.slices_partitionCmpFunc_int__c2 env h (fun x env h => slices_partitionCmpFunc_int__K0 M x env h) | x => slices_partitionCmpFunc_int__K0 M x env h

def slices_partitionCmpFunc_int__K4 (M : Env) : AX → List V → H → Option (V × H) :=
 fun x env h => match x with | .exit j => (match Nat.beq j 2 with | true => slices_partitionCmpFunc_int__K3 M .normal env h | false => slices_partitionCmpFunc_int__K3 M (.exit j) env h) | x => slices_partitionCmpFunc_int__K3 M x env h

def slices_partitionCmpFunc_int__K5 (M : Env) : AX → List V → H → Option (V × H) :=
 fun x env h => match x with | .normal => evalC M F.slices_partitionCmpFunc_int__c4 env h (fun x env h => slices_partitionCmpFunc_int__K0 M x env h) | x => slices_partitionCmpFunc_int__K0 M x env h

def slices_partitionCmpFunc_int__K6 (M : Env) : AX → List V → H → Option (V × H) :=
 fun x env h => match x with | .exit j => (match Nat.beq j 4 with | true => slices_partitionCmpFunc_int__K5 M .normal env h | false => slices_partitionCmpFunc_int__K5 M (.exit j) env h) | x => slices_partitionCmpFunc_int__K5 M x env h

def slices_partitionCmpFunc_int__K7 (M : Env) : AX → List V → H → Option (AX × List V × H) :=
 fun x env h => match x with | .normal => some (.normal, keepOf [0, 1, 4, 12, 13] 0 env, h) | x => some (x, keepOf [0, 1, 13] 0 env, h)

def slices_partitionCmpFunc_int__K8 (M : Env) : AX → List V → H → Option (AX × List V × H) :=
 fun x env h => match x with | .exit j => (match Nat.beq j 5 with | true => slices_partitionCmpFunc_int__K7 M .normal env h | false => slices_partitionCmpFunc_int__K7 M (.exit j) env h) | x => slices_partitionCmpFunc_int__K7 M x env h

def slices_partitionCmpFunc_int__K9 (M : Env) : AX → List V → H → Option (AX × List V × H) :=
 fun x env h => match x with | .normal => evalC M F.slices_partitionCmpFunc_int__c6 env h (fun x env h => slices_partitionCmpFunc_int__K8 M x env h) | x => slices_partitionCmpFunc_int__K8 M x env h

def slices_partitionCmpFunc_int__K10 (M : Env) : AX → List V → H → Option (AX × List V × H) :=
 fun x env h => match x with | .exit j => (match Nat.beq j 6 with | true => slices_partitionCmpFunc_int__K9 M .normal env h | false => slices_partitionCmpFunc_int__K9 M (.exit j) env h) | x => slices_partitionCmpFunc_int__K9 M x env h

def slices_partitionCmpFunc_int__K11 (M : Env) : AX → List V → H → Option (AX × List V × H) :=
 fun x env h => match x with | .normal => evalC M F.slices_partitionCmpFunc_int__c8 env h (fun x env h => slices_partitionCmpFunc_int__K8 M x env h) | x => slices_partitionCmpFunc_int__K8 M x env h

def slices_partitionCmpFunc_int__K12 (M : Env) : AX → List V → H → Option (AX × List V × H) :=
 fun x env h => match x with | .exit j => (match Nat.beq j 8 with | true => slices_partitionCmpFunc_int__K11 M .normal env h | false => slices_partitionCmpFunc_int__K11 M (.exit j) env h) | x => slices_partitionCmpFunc_int__K11 M x env h

def slices_partitionCmpFunc_int_ (M : Env) (a0 : V) (a1 : Int) (a2 : Int) (a3 : Int) (a4 : V) (h : H) : Option (V × H) :=
 (indexAV 1 a0 (.int .i64 a3)).bind fun v0 =>
 (h.ld1 v0).bind fun v1 =>
 (indexAV 1 a0 (.int .i64 a1)).bind fun v2 =>
 (h.ld1 v2).bind fun v3 =>
 (indexAV 1 a0 (.int .i64 a1)).bind fun v4 =>
 (h.st 1 v4 v1).bind fun h5 =>
 (indexAV 1 a0 (.int .i64 a3)).bind fun v6 =>
 (h5.st 1 v6 v3).bind fun h7 =>
 (M.loop (slices_partitionCmpFunc_int__c1_B M) (slices_partitionCmpFunc_int__c1_E a0 (.int .i64 a1) a4 (.int .i64 (wr .i64 (a1 + 1))) (.int .i64 (wr .i64 (a2 - 1)))) h7).bind fun p8 => slices_partitionCmpFunc_int__K2 M p8.1 p8.2.1 p8.2.2

def slices_partitionCmpFunc_int__c1_S (M : Env) (x0 : V) (x1 : Int) (x4 : V) (x12 : Int) (x13 : Int) (h : H) : Option (AX × List V × H) :=
 match (decide (x12 ≤ x13)) with
 | true => (
 (indexAV 1 x0 (.int .i64 x12)).bind fun v0 =>
 (h.ld1 v0).bind fun v1 =>
 (indexAV 1 x0 (.int .i64 x1)).bind fun v2 =>
 (h.ld1 v2).bind fun v3 =>
 callFn M x4 [v1, v3] h fun p4 =>
 (asI .i64 p4.1).bind fun n5 =>
 match (decide (n5 < 0)) with
 | true => (
 some (.normal, (slices_partitionCmpFunc_int__c1_E x0 (.int .i64 x1) x4 (.int .i64 (wr .i64 (x12 + 1))) (.int .i64 x13)), p4.2))
 | false => (
 some ((.exit 0), (slices_partitionCmpFunc_int__c1_O x0 (.int .i64 x1) x4 (.int .i64 x12) (.int .i64 x13)), p4.2)))
 | false => (
 some ((.exit 0), (slices_partitionCmpFunc_int__c1_O x0 (.int .i64 x1) x4 (.int .i64 x12) (.int .i64 x13)), h))

def slices_partitionCmpFunc_int__c1_e0 (M : Env) (x0 : V) (x1 : Int) (x4 : V) (x12 : Int) (x13 : Int) (h : H) : Option (V × H) :=
 (M.loop (slices_partitionCmpFunc_int__c3_B M) (slices_partitionCmpFunc_int__c3_E x0 (.int .i64 x1) x4 (.int .i64 x12) (.int .i64 x13)) h).bind fun p0 => slices_partitionCmpFunc_int__K4 M p0.1 p0.2.1 p0.2.2

def slices_partitionCmpFunc_int__c3_S (M : Env) (x0 : V) (x1 : Int) (x4 : V) (x12 : Int) (x13 : Int) (h : H) : Option (AX × List V × H) :=
 match (decide (x12 ≤ x13)) with
 | true => (
 (indexAV 1 x0 (.int .i64 x13)).bind fun v0 =>
 (h.ld1 v0).bind fun v1 =>
 (indexAV 1 x0 (.int .i64 x1)).bind fun v2 =>
 (h.ld1 v2).bind fun v3 =>
 callFn M x4 [v1, v3] h fun p4 =>
 (asI .i64 p4.1).bind fun n5 =>
 match (!(decide (n5 < 0))) with
 | true => (
 some (.normal, (slices_partitionCmpFunc_int__c3_E x0 (.int .i64 x1) x4 (.int .i64 x12) (.int .i64 (wr .i64 (x13 - 1)))), p4.2))
 | false => (
 some ((.exit 2), (slices_partitionCmpFunc_int__c3_O x0 (.int .i64 x1) x4 (.int .i64 x12) (.int .i64 x13)), p4.2)))
 | false => (
 some ((.exit 2), (slices_partitionCmpFunc_int__c3_O x0 (.int .i64 x1) x4 (.int .i64 x12) (.int .i64 x13)), h))

def slices_partitionCmpFunc_int__c3_e2 (M : Env) (x0 : V) (x1 : Int) (x4 : V) (x12 : Int) (x13 : Int) (h : H) : Option (V × H) :=
 match (decide (x13 < x12)) with
 | true => (
 (indexAV 1 x0 (.int .i64 x1)).bind fun v0 =>
 (h.ld1 v0).bind fun v1 =>
 (indexAV 1 x0 (.int .i64 x13)).bind fun v2 =>
 (h.ld1 v2).bind fun v3 =>
 (indexAV 1 x0 (.int .i64 x13)).bind fun v4 =>
 (h.st 1 v4 v1).bind fun h5 =>
 (indexAV 1 x0 (.int .i64 x1)).bind fun v6 =>
 (h5.st 1 v6 v3).bind fun h7 =>
 some ((.tup [(.int .i64 x13), (.bool true)]), h7))
 | false => (
 (indexAV 1 x0 (.int .i64 x13)).bind fun v0 =>
 (h.ld1 v0).bind fun v1 =>
 (indexAV 1 x0 (.int .i64 x12)).bind fun v2 =>
 (h.ld1 v2).bind fun v3 =>
 (indexAV 1 x0 (.int .i64 x12)).bind fun v4 =>
 (h.st 1 v4 v1).bind fun h5 =>
 (indexAV 1 x0 (.int .i64 x13)).bind fun v6 =>
 (h5.st 1 v6 v3).bind fun h7 =>
 (M.loop (slices_partitionCmpFunc_int__c5_B M) (slices_partitionCmpFunc_int__c5_E x0 (.int .i64 x1) x4 (.int .i64 (wr .i64 (x12 + 1))) (.int .i64 (wr .i64 (x13 - 1)))) h7).bind fun p8 => slices_partitionCmpFunc_int__K6 M p8.1 p8.2.1 p8.2.2)

def slices_partitionCmpFunc_int__c5_S (M : Env) (x0 : V) (x1 : Int) (x4 : V) (x12 : Int) (x13 : Int) (h : H) : Option (AX × List V × H) :=
 (M.loop (slices_partitionCmpFunc_int__c7_B M) (slices_partitionCmpFunc_int__c7_E x0 (.int .i64 x1) x4 (.int .i64 x12) (.int .i64 x13)) h).bind fun p0 => slices_partitionCmpFunc_int__K10 M p0.1 p0.2.1 p0.2.2

def slices_partitionCmpFunc_int__c5_e4 (M : Env) (x0 : V) (x1 : Int) (x13 : Int) (h : H) : Option (V × H) :=
 (indexAV 1 x0 (.int .i64 x1)).bind fun v0 =>
 (h.ld1 v0).bind fun v1 =>
 (indexAV 1 x0 (.int .i64 x13)).bind fun v2 =>
 (h.ld1 v2).bind fun v3 =>
 (indexAV 1 x0 (.int .i64 x13)).bind fun v4 =>
 (h.st 1 v4 v1).bind fun h5 =>
 (indexAV 1 x0 (.int .i64 x1)).bind fun v6 =>
 (h5.st 1 v6 v3).bind fun h7 =>
 some ((.tup [(.int .i64 x13), (.bool false)]), h7)

def slices_partitionCmpFunc_int__c7_S (M : Env) (x0 : V) (x1 : Int) (x4 : V) (x12 : Int) (x13 : Int) (h : H) : Option (AX × List V × H) :=
 match (decide (x12 ≤ x13)) with
 | true => (
 (indexAV 1 x0 (.int .i64 x12)).bind fun v0 =>
 (h.ld1 v0).bind fun v1 =>
 (indexAV 1 x0 (.int .i64 x1)).bind fun v2 =>
 (h.ld1 v2).bind fun v3 =>
 callFn M x4 [v1, v3] h fun p4 =>
 (asI .i64 p4.1).bind fun n5 =>
 match (decide (n5 < 0)) with
 | true => (
 some (.normal, (slices_partitionCmpFunc_int__c7_E x0 (.int .i64 x1) x4 (.int .i64 (wr .i64 (x12 + 1))) (.int .i64 x13)), p4.2))
 | false => (
 some ((.exit 6), (slices_partitionCmpFunc_int__c7_O x0 (.int .i64 x1) x4 (.int .i64 x12) (.int .i64 x13)), p4.2)))
 | false => (
 some ((.exit 6), (slices_partitionCmpFunc_int__c7_O x0 (.int .i64 x1) x4 (.int .i64 x12) (.int .i64 x13)), h))

def slices_partitionCmpFunc_int__c7_e6 (M : Env) (x0 : V) (x1 : Int) (x4 : V) (x12 : Int) (x13 : Int) (h : H) : Option (AX × List V × H) :=
 (M.loop (slices_partitionCmpFunc_int__c9_B M) (slices_partitionCmpFunc_int__c9_E x0 (.int .i64 x1) x4 (.int .i64 x12) (.int .i64 x13)) h).bind fun p0 => slices_partitionCmpFunc_int__K12 M p0.1 p0.2.1 p0.2.2

def slices_partitionCmpFunc_int__c9_S (M : Env) (x0 : V) (x1 : Int) (x4 : V) (x12 : Int) (x13 : Int) (h : H) : Option (AX × List V × H) :=
 match (decide (x12 ≤ x13)) with
 | true => (
 (indexAV 1 x0 (.int .i64 x13)).bind fun v0 =>
 (h.ld1 v0).bind fun v1 =>
 (indexAV 1 x0 (.int .i64 x1)).bind fun v2 =>
 (h.ld1 v2).bind fun v3 =>
 callFn M x4 [v1, v3] h fun p4 =>
 (asI .i64 p4.1).bind fun n5 =>
 match (!(decide (n5 < 0))) with
 | true => (
 some (.normal, (slices_partitionCmpFunc_int__c9_E x0 (.int .i64 x1) x4 (.int .i64 x12) (.int .i64 (wr .i64 (x13 - 1)))), p4.2))
 | false => (
 some ((.exit 8), (slices_partitionCmpFunc_int__c9_O x0 (.int .i64 x1) x4 (.int .i64 x12) (.int .i64 x13)), p4.2)))
 | false => (
 some ((.exit 8), (slices_partitionCmpFunc_int__c9_O x0 (.int .i64 x1) x4 (.int .i64 x12) (.int .i64 x13)), h))

def slices_partitionCmpFunc_int__c9_e8 (M : Env) (x0 : V) (x1 : Int) (x4 : V) (x12 : Int) (x13 : Int) (h : H) : Option (AX × List V × H) :=
 match (decide (x13 < x12)) with
 | true => (
 some ((.exit 4), (slices_partitionCmpFunc_int__c5_O x0 (.int .i64 x1) (.int .i64 x13)), h))
 | false => (
 (indexAV 1 x0 (.int .i64 x13)).bind fun v0 =>
 (h.ld1 v0).bind fun v1 =>
 (indexAV 1 x0 (.int .i64 x12)).bind fun v2 =>
 (h.ld1 v2).bind fun v3 =>
 (indexAV 1 x0 (.int .i64 x12)).bind fun v4 =>
 (h.st 1 v4 v1).bind fun h5 =>
 (indexAV 1 x0 (.int .i64 x13)).bind fun v6 =>
 (h5.st 1 v6 v3).bind fun h7 =>
 some (.normal, (slices_partitionCmpFunc_int__c5_E x0 (.int .i64 x1) x4 (.int .i64 (wr .i64 (x12 + 1))) (.int .i64 (wr .i64 (x13 - 1)))), h7))

theorem slices_partitionCmpFunc_int__eq (M : Env) (a0 : V) (a1 : Int) (a2 : Int) (a3 : Int) (a4 : V) (h : H) : evalF M F.slices_partitionCmpFunc_int_ [a0, (.int .i64 a1), (.int .i64 a2), (.int .i64 a3), a4] h = slices_partitionCmpFunc_int_ M a0 a1 a2 a3 a4 h := by kernel_rfl

theorem slices_partitionCmpFunc_int__c1_eq (M : Env) (x0 : V) (x1 : Int) (x4 : V) (x12 : Int) (x13 : Int) (h : H) : slices_partitionCmpFunc_int__c1_B M (slices_partitionCmpFunc_int__c1_E x0 (.int .i64 x1) x4 (.int .i64 x12) (.int .i64 x13)) h = slices_partitionCmpFunc_int__c1_S M x0 x1 x4 x12 x13 h := by kernel_rfl

theorem slices_partitionCmpFunc_int__c1_e0_eq (M : Env) (x0 : V) (x1 : Int) (x4 : V) (x12 : Int) (x13 : Int) (h : H) : slices_partitionCmpFunc_int__K2 M (.exit 0) (slices_partitionCmpFunc_int__c1_O x0 (.int .i64 x1) x4 (.int .i64 x12) (.int .i64 x13)) h = slices_partitionCmpFunc_int__c1_e0 M x0 x1 x4 x12 x13 h := by kernel_rfl

theorem slices_partitionCmpFunc_int__c3_eq (M : Env) (x0 : V) (x1 : Int) (x4 : V) (x12 : Int) (x13 : Int) (h : H) : slices_partitionCmpFunc_int__c3_B M (slices_partitionCmpFunc_int__c3_E x0 (.int .i64 x1) x4 (.int .i64 x12) (.int .i64 x13)) h = slices_partitionCmpFunc_int__c3_S M x0 x1 x4 x12 x13 h := by kernel_rfl

theorem slices_partitionCmpFunc_int__c3_e2_eq (M : Env) (x0 : V) (x1 : Int) (x4 : V) (x12 : Int) (x13 : Int) (h : H) : slices_partitionCmpFunc_int__K4 M (.exit 2) (slices_partitionCmpFunc_int__c3_O x0 (.int .i64 x1) x4 (.int .i64 x12) (.int .i64 x13)) h = slices_partitionCmpFunc_int__c3_e2 M x0 x1 x4 x12 x13 h := by kernel_rfl

theorem slices_partitionCmpFunc_int__c5_eq (M : Env) (x0 : V) (x1 : Int) (x4 : V) (x12 : Int) (x13 : Int) (h : H) : slices_partitionCmpFunc_int__c5_B M (slices_partitionCmpFunc_int__c5_E x0 (.int .i64 x1) x4 (.int .i64 x12) (.int .i64 x13)) h = slices_partitionCmpFunc_int__c5_S M x0 x1 x4 x12 x13 h := by kernel_rfl

theorem slices_partitionCmpFunc_int__c5_e4_eq (M : Env) (x0 : V) (x1 : Int) (x13 : Int) (h : H) : slices_partitionCmpFunc_int__K6 M (.exit 4) (slices_partitionCmpFunc_int__c5_O x0 (.int .i64 x1) (.int .i64 x13)) h = slices_partitionCmpFunc_int__c5_e4 M x0 x1 x13 h := by kernel_rfl

theorem slices_partitionCmpFunc_int__c7_eq (M : Env) (x0 : V) (x1 : Int) (x4 : V) (x12 : Int) (x13 : Int) (h : H) : slices_partitionCmpFunc_int__c7_B M (slices_partitionCmpFunc_int__c7_E x0 (.int .i64 x1) x4 (.int .i64 x12) (.int .i64 x13)) h = slices_partitionCmpFunc_int__c7_S M x0 x1 x4 x12 x13 h := by kernel_rfl

theorem slices_partitionCmpFunc_int__c7_e6_eq (M : Env) (x0 : V) (x1 : Int) (x4 : V) (x12 : Int) (x13 : Int) (h : H) : slices_partitionCmpFunc_int__K10 M (.exit 6) (slices_partitionCmpFunc_int__c7_O x0 (.int .i64 x1) x4 (.int .i64 x12) (.int .i64 x13)) h = slices_partitionCmpFunc_int__c7_e6 M x0 x1 x4 x12 x13 h := by kernel_rfl

theorem slices_partitionCmpFunc_int__c9_eq (M : Env) (x0 : V) (x1 : Int) (x4 : V) (x12 : Int) (x13 : Int) (h : H) : slices_partitionCmpFunc_int__c9_B M (slices_partitionCmpFunc_int__c9_E x0 (.int .i64 x1) x4 (.int .i64 x12) (.int .i64 x13)) h = slices_partitionCmpFunc_int__c9_S M x0 x1 x4 x12 x13 h := by kernel_rfl

theorem slices_partitionCmpFunc_int__c9_e8_eq (M : Env) (x0 : V) (x1 : Int) (x4 : V) (x12 : Int) (x13 : Int) (h : H) : slices_partitionCmpFunc_int__K12 M (.exit 8) (slices_partitionCmpFunc_int__c9_O x0 (.int .i64 x1) x4 (.int .i64 x12) (.int .i64 x13)) h = slices_partitionCmpFunc_int__c9_e8 M x0 x1 x4 x12 x13 h := by kernel_rfl

end Wm.S
end

section
namespace Wm.S
open Wm
set_option maxRecDepth 100000
set_option linter.unusedVariables false

def slices_swapRangeCmpFunc_int__c0_B (M : Env) : List V → H → Option (AX × List V × H) :=
 fun env h => evalC M F.slices_swapRangeCmpFunc_int__c0 env h fun x env h => match x with
 | .normal => some (.normal, keepOf [0, 1, 2, 3, 10] 0 env, h)
 | x => some (x, keepOf [] 0 env, h)

def slices_swapRangeCmpFunc_int__c0_E (x0 x1 x2 x3 x10 : V) : List V := x0 :: x1 :: x2 :: x3 :: dd 6 (x10 :: dd 27 [])
def slices_swapRangeCmpFunc_int__c0_O : List V := dd 38 []

def slices_swapRangeCmpFunc_int__K0 (M : Env) : AX → List V → H → Option (V × H) :=
 fun x env h => fin F.slices_swapRangeCmpFunc_int_ x env h

def slices_swapRangeCmpFunc_int__K1 (M : Env) : AX → List V → H → Option (V × H) :=
 fun x env h => match x with | .exit j => (match Nat.beq j 0 with | true => slices_swapRangeCmpFunc_int__K0 M .normal env h | false => slices_swapRangeCmpFunc_int__K0 M (.exit j) env h) | x => slices_swapRangeCmpFunc_int__K0 M x env h

def slices_swapRangeCmpFunc_int_ (M : Env) (a0 : V) (a1 : Int) (a2 : Int) (a3 : Int) (a4 : V) (h : H) : Option (V × H) :=
 (M.loop (slices_swapRangeCmpFunc_int__c0_B M) (slices_swapRangeCmpFunc_int__c0_E a0 (.int .i64 a1) (.int .i64 a2) (.int .i64 a3) (.int .i64 0)) h).bind fun p0 => slices_swapRangeCmpFunc_int__K1 M p0.1 p0.2.1 p0.2.2

def slices_swapRangeCmpFunc_int__c0_S (M : Env) (x0 : V) (x1 : Int) (x2 : Int) (x3 : Int) (x10 : Int) (h : H) : Option (AX × List V × H) :=
 match (decide (x10 < x3)) with
 | true => (
 (indexAV 1 x0 (.int .i64 (wr .i64 (x2 + x10)))).bind fun v0 =>
 (h.ld1 v0).bind fun v1 =>
 (indexAV 1 x0 (.int .i64 (wr .i64 (x1 + x10)))).bind fun v2 =>
 (h.ld1 v2).bind fun v3 =>
 (indexAV 1 x0 (.int .i64 (wr .i64 (x1 + x10)))).bind fun v4 =>
 (h.st 1 v4 v1).bind fun h5 =>
 (indexAV 1 x0 (.int .i64 (wr .i64 (x2 + x10)))).bind fun v6 =>
 (h5.st 1 v6 v3).bind fun h7 =>
 some (.normal, (slices_swapRangeCmpFunc_int__c0_E x0 (.int .i64 x1) (.int .i64 x2) (.int .i64 x3) (.int .i64 (wr .i64 (x10 + 1)))), h7))
 | false => (
 some ((.exit 0), slices_swapRangeCmpFunc_int__c0_O, h))

def slices_swapRangeCmpFunc_int__c0_e0 (M : Env) (h : H) : Option (V × H) :=
 some ((.tup []), h)

theorem slices_swapRangeCmpFunc_int__eq (M : Env) (a0 : V) (a1 : Int) (a2 : Int) (a3 : Int) (a4 : V) (h : H) : evalF M F.slices_swapRangeCmpFunc_int_ [a0, (.int .i64 a1), (.int .i64 a2), (.int .i64 a3), a4] h = slices_swapRangeCmpFunc_int_ M a0 a1 a2 a3 a4 h := by kernel_rfl

theorem slices_swapRangeCmpFunc_int__c0_eq (M : Env) (x0 : V) (x1 : Int) (x2 : Int) (x3 : Int) (x10 : Int) (h : H) : slices_swapRangeCmpFunc_int__c0_B M (slices_swapRangeCmpFunc_int__c0_E x0 (.int .i64 x1) (.int .i64 x2) (.int .i64 x3) (.int .i64 x10)) h = slices_swapRangeCmpFunc_int__c0_S M x0 x1 x2 x3 x10 h := by kernel_rfl

theorem slices_swapRangeCmpFunc_int__c0_e0_eq (M : Env) (h : H) : slices_swapRangeCmpFunc_int__K1 M (.exit 0) slices_swapRangeCmpFunc_int__c0_O h = slices_swapRangeCmpFunc_int__c0_e0 M h := by kernel_rfl

end Wm.S
end

section
namespace Wm.S
open Wm
set_option maxRecDepth 100000
set_option linter.unusedVariables false

def slices_rotateCmpFunc_int__c1_B (M : Env) : List V → H → Option (AX × List V × H) :=
 fun env h => evalC M F.slices_rotateCmpFunc_int__c1 env h fun x env h => match x with
 | .normal => some (.normal, keepOf [0, 2, 4, 10, 11] 0 env, h)
 | x => some (x, keepOf [0, 2, 4, 10] 0 env, h)

def slices_rotateCmpFunc_int__c1_E (x0 x2 x4 x10 x11 : V) : List V := x0 :: dd 1 (x2 :: dd 1 (x4 :: dd 5 (x10 :: x11 :: dd 46 [])))
def slices_rotateCmpFunc_int__c1_O (x0 x2 x4 x10 : V) : List V := x0 :: dd 1 (x2 :: dd 1 (x4 :: dd 5 (x10 :: dd 47 [])))

def slices_rotateCmpFunc_int__K0 (M : Env) : AX → List V → H → Option (V × H) :=
 fun x env h => fin F.slices_rotateCmpFunc_int_ x env h

def slices_rotateCmpFunc_int__K1 (M : Env) : AX → List V → H → Option (V × H) :=
 fun x env h => match x with | .normal => evalC M F.slices_rotateCmpFunc_int__c0 env h (fun x env h => slices_rotateCmpFunc_int__K0 M x env h) | x => slices_rotateCmpFunc_int__K0 M x env h

def slices_rotateCmpFunc_int__K2 (M : Env) : AX → List V → H → Option (V × H) :=
 fun x env h => match x with | .exit j => (match Nat.beq j 0 with | true => slices_rotateCmpFunc_int__K1 M .normal env h | false => slices_rotateCmpFunc_int__K1 M (.exit j) env h) | x => slices_rotateCmpFunc_int__K1 M x env h

def slices_rotateCmpFunc_int_ (M : Env) (a0 : V) (a1 : Int) (a2 : Int) (a3 : Int) (a4 : V) (h : H) : Option (V × H) :=
 (M.loop (slices_rotateCmpFunc_int__c1_B M) (slices_rotateCmpFunc_int__c1_E a0 (.int .i64 a2) a4 (.int .i64 (wr .i64 (a2 - a1))) (.int .i64 (wr .i64 (a3 - a2)))) h).bind fun p0 => slices_rotateCmpFunc_int__K2 M p0.1 p0.2.1 p0.2.2

def slices_rotateCmpFunc_int__c1_S (M : Env) (x0 : V) (x2 : Int) (x4 : V) (x10 : Int) (x11 : Int) (h : H) : Option (AX × List V × H) :=
 match (!decide (x10 = x11)) with
 | true => (
 match (decide (x11 < x10)) with
 | true => (
 (M.call 513 [x0, (.int .i64 (wr .i64 (x2 - x10))), (.int .i64 x2), (.int .i64 x11), x4] h).bind fun p0 =>
 some (.normal, (slices_rotateCmpFunc_int__c1_E x0 (.int .i64 x2) x4 (.int .i64 (wr .i64 (x10 - x11))) (.int .i64 x11)), p0.2))
 | false => (
 (M.call 513 [x0, (.int .i64 (wr .i64 (x2 - x10))), (.int .i64 (wr .i64 ((wr .i64 (x2 + x11)) - x10))), (.int .i64 x10), x4] h).bind fun p0 =>
 some (.normal, (slices_rotateCmpFunc_int__c1_E x0 (.int .i64 x2) x4 (.int .i64 x10) (.int .i64 (wr .i64 (x11 - x10)))), p0.2)))
 | false => (
 some ((.exit 0), (slices_rotateCmpFunc_int__c1_O x0 (.int .i64 x2) x4 (.int .i64 x10)), h))

def slices_rotateCmpFunc_int__c1_e0 (M : Env) (x0 : V) (x2 : Int) (x4 : V) (x10 : Int) (h : H) : Option (V × H) :=
 (M.call 513 [x0, (.int .i64 (wr .i64 (x2 - x10))), (.int .i64 x2), (.int .i64 x10), x4] h).bind fun p0 =>
 some ((.tup []), p0.2)

theorem slices_rotateCmpFunc_int__eq (M : Env) (a0 : V) (a1 : Int) (a2 : Int) (a3 : Int) (a4 : V) (h : H) : evalF M F.slices_rotateCmpFunc_int_ [a0, (.int .i64 a1), (.int .i64 a2), (.int .i64 a3), a4] h = slices_rotateCmpFunc_int_ M a0 a1 a2 a3 a4 h := by kernel_rfl

theorem slices_rotateCmpFunc_int__c1_eq (M : Env) (x0 : V) (x2 : Int) (x4 : V) (x10 : Int) (x11 : Int) (h : H) : slices_rotateCmpFunc_int__c1_B M (slices_rotateCmpFunc_int__c1_E x0 (.int .i64 x2) x4 (.int .i64 x10) (.int .i64 x11)) h = slices_rotateCmpFunc_int__c1_S M x0 x2 x4 x10 x11 h := by kernel_rfl

theorem slices_rotateCmpFunc_int__c1_e0_eq (M : Env) (x0 : V) (x2 : Int) (x4 : V) (x10 : Int) (h : H) : slices_rotateCmpFunc_int__K2 M (.exit 0) (slices_rotateCmpFunc_int__c1_O x0 (.int .i64 x2) x4 (.int .i64 x10)) h = slices_rotateCmpFunc_int__c1_e0 M x0 x2 x4 x10 h := by kernel_rfl

end Wm.S
end

section
namespace Wm.S
open Wm
set_option maxRecDepth 100000
set_option linter.unusedVariables false

def slices_symMergeCmpFunc_int__c2_B (M : Env) : List V → H → Option (AX × List V × H) :=
 fun env h => evalC M F.slices_symMergeCmpFunc_int__c2 env h fun x env h => match x with
 | .normal => some (.normal, keepOf [0, 1, 4, 10, 11] 0 env, h)
 | x => some (x, keepOf [0, 1, 10] 0 env, h)

def slices_symMergeCmpFunc_int__c2_E (x0 x1 x4 x10 x11 : V) : List V := x0 :: x1 :: dd 2 (x4 :: dd 5 (x10 :: x11 :: dd 208 []))
def slices_symMergeCmpFunc_int__c2_O (x0 x1 x10 : V) : List V := x0 :: x1 :: dd 8 (x10 :: dd 209 [])

def slices_symMergeCmpFunc_int__c4_B (M : Env) : List V → H → Option (AX × List V × H) :=
 fun env h => evalC M F.slices_symMergeCmpFunc_int__c4 env h fun x env h => match x with
 | .normal => some (.normal, keepOf [0, 10, 13] 0 env, h)
 | x => some (x, keepOf [] 0 env, h)

def slices_symMergeCmpFunc_int__c4_E (x0 x10 x13 : V) : List V := x0 :: dd 9 (x10 :: dd 2 (x13 :: dd 206 []))
def slices_symMergeCmpFunc_int__c4_O : List V := dd 220 []

def slices_symMergeCmpFunc_int__c7_B (M : Env) : List V → H → Option (AX × List V × H) :=
 fun env h => evalC M F.slices_symMergeCmpFunc_int__c7 env h fun x env h => match x with
 | .normal => some (.normal, keepOf [0, 2, 4, 14, 15] 0 env, h)
 | x => some (x, keepOf [0, 2, 14] 0 env, h)

def slices_symMergeCmpFunc_int__c7_E (x0 x2 x4 x14 x15 : V) : List V := x0 :: dd 1 (x2 :: dd 1 (x4 :: dd 9 (x14 :: x15 :: dd 204 [])))
def slices_symMergeCmpFunc_int__c7_O (x0 x2 x14 : V) : List V := x0 :: dd 1 (x2 :: dd 11 (x14 :: dd 205 []))

def slices_symMergeCmpFunc_int__c9_B (M : Env) : List V → H → Option (AX × List V × H) :=
 fun env h => evalC M F.slices_symMergeCmpFunc_int__c9 env h fun x env h => match x with
 | .normal => some (.normal, keepOf [0, 14, 17] 0 env, h)
 | x => some (x, keepOf [] 0 env, h)

def slices_symMergeCmpFunc_int__c9_E (x0 x14 x17 : V) : List V := x0 :: dd 13 (x14 :: dd 2 (x17 :: dd 202 []))
def slices_symMergeCmpFunc_int__c9_O : List V := dd 220 []

def slices_symMergeCmpFunc_int__c11_B (M : Env) : List V → H → Option (AX × List V × H) :=
 fun env h => evalC M F.slices_symMergeCmpFunc_int__c11 env h fun x env h => some (x, keepOf [0, 1, 2, 3, 4, 18, 19, 20, 21] 0 env, h)

def slices_symMergeCmpFunc_int__c11_E (x0 x1 x2 x3 x4 x18 x19 : V) : List V := x0 :: x1 :: x2 :: x3 :: x4 :: dd 13 (x18 :: x19 :: dd 200 [])
def slices_symMergeCmpFunc_int__c11_O (x0 x1 x2 x3 x4 x18 x19 x20 x21 : V) : List V := x0 :: x1 :: x2 :: x3 :: x4 :: dd 13 (x18 :: x19 :: x20 :: x21 :: dd 198 [])

def slices_symMergeCmpFunc_int__c13_B (M : Env) : List V → H → Option (AX × List V × H) :=
 fun env h => evalC M F.slices_symMergeCmpFunc_int__c13 env h fun x env h => match x with
 | .normal => some (.normal, keepOf [0, 1, 2, 3, 4, 18, 19, 20, 21, 22] 0 env, h)
 | x => some (x, keepOf [0, 1, 2, 3, 4, 18, 19, 20] 0 env, h)

def slices_symMergeCmpFunc_int__c13_E (x0 x1 x2 x3 x4 x18 x19 x20 x21 x22 : V) : List V := x0 :: x1 :: x2 :: x3 :: x4 :: dd 13 (x18 :: x19 :: x20 :: x21 :: x22 :: dd 197 [])
def slices_symMergeCmpFunc_int__c13_O (x0 x1 x2 x3 x4 x18 x19 x20 : V) : List V := x0 :: x1 :: x2 :: x3 :: x4 :: dd 13 (x18 :: x19 :: x20 :: dd 199 [])

def slices_symMergeCmpFunc_int__c15_B (M : Env) : List V → H → Option (AX × List V × H) :=
 fun env h => evalC M F.slices_symMergeCmpFunc_int__c15 env h fun x env h => some (x, keepOf [0, 1, 3, 4, 18, 20, 24] 0 env, h)

def slices_symMergeCmpFunc_int__c15_E (x0 x1 x2 x3 x4 x18 x20 x24 : V) : List V := x0 :: x1 :: x2 :: x3 :: x4 :: dd 13 (x18 :: dd 1 (x20 :: dd 3 (x24 :: dd 195 [])))
def slices_symMergeCmpFunc_int__c15_O (x0 x1 x3 x4 x18 x20 x24 : V) : List V := x0 :: x1 :: dd 1 (x3 :: x4 :: dd 13 (x18 :: dd 1 (x20 :: dd 3 (x24 :: dd 195 []))))

def slices_symMergeCmpFunc_int__c17_B (M : Env) : List V → H → Option (AX × List V × H) :=
 fun env h => evalC M F.slices_symMergeCmpFunc_int__c17 env h fun x env h => some (x, keepOf [0, 3, 4, 18, 24] 0 env, h)

def slices_symMergeCmpFunc_int__c17_E (x0 x1 x3 x4 x18 x20 x24 : V) : List V := x0 :: x1 :: dd 1 (x3 :: x4 :: dd 13 (x18 :: dd 1 (x20 :: dd 3 (x24 :: dd 195 []))))
def slices_symMergeCmpFunc_int__c17_O (x0 x3 x4 x18 x24 : V) : List V := x0 :: dd 2 (x3 :: x4 :: dd 13 (x18 :: dd 5 (x24 :: dd 195 [])))

def slices_symMergeCmpFunc_int__K0 (M : Env) : AX → List V → H → Option (V × H) :=
 fun x env h => fin F.slices_symMergeCmpFunc_int_ x env h

def slices_symMergeCmpFunc_int__K1 (M : Env) : AX → List V → H → Option (V × H) :=
 fun x env h => match x with | .normal => evalC M F.slices_symMergeCmpFunc_int__c0 env h (fun x env h => slices_symMergeCmpFunc_int__K0 M x env h) | x => slices_symMergeCmpFunc_int__K0 M x env h

def slices_symMergeCmpFunc_int__K2 (M : Env) : AX → List V → H → Option (V × H) :=
 fun x env h => match x with | .normal => evalC M F.slices_symMergeCmpFunc_int__c1 env h (fun x env h => slices_symMergeCmpFunc_int__K1 M x env h) | x => slices_symMergeCmpFunc_int__K1 M x env h

def slices_symMergeCmpFunc_int__K3 (M : Env) : AX → List V → H → Option (V × H) :=
 fun x env h => match x with | .exit j => (match Nat.beq j 0 with | true => slices_symMergeCmpFunc_int__K2 M .normal env h | false => slices_symMergeCmpFunc_int__K2 M (.exit j) env h) | x => slices_symMergeCmpFunc_int__K2 M x env h

def slices_symMergeCmpFunc_int__K4 (M : Env) : AX → List V → H → Option (V × H) :=
 fun x env h => match x with | .normal => evalC M F.slices_symMergeCmpFunc_int__c5 env h (fun x env h => slices_symMergeCmpFunc_int__K0 M x env h) | x => slices_symMergeCmpFunc_int__K0 M x env h

def slices_symMergeCmpFunc_int__K5 (M : Env) : AX → List V → H → Option (V × H) :=
 fun x env h => match x with | .normal => evalC M F.slices_symMergeCmpFunc_int__c6 env h (fun x env h => slices_symMergeCmpFunc_int__K4 M x env h) | x => slices_symMergeCmpFunc_int__K4 M x env h

def slices_symMergeCmpFunc_int__K6 (M : Env) : AX → List V → H → Option (V × H) :=
 fun x env h => match x with | .exit j => (match Nat.beq j 4 with | true => slices_symMergeCmpFunc_int__K5 M .normal env h | false => slices_symMergeCmpFunc_int__K5 M (.exit j) env h) | x => slices_symMergeCmpFunc_int__K5 M x env h

def slices_symMergeCmpFunc_int__K7 (M : Env) : AX → List V → H → Option (V × H) :=
 fun x env h => match x with | .normal => evalC M F.slices_symMergeCmpFunc_int__c10 env h (fun x env h => slices_symMergeCmpFunc_int__K0 M x env h) | x => slices_symMergeCmpFunc_int__K0 M x env h

def slices_symMergeCmpFunc_int__K8 (M : Env) : AX → List V → H → Option (V × H) :=
 fun x env h => match x with | .normal => evalC M F.slices_symMergeCmpFunc_int__c3 env h (fun x env h => slices_symMergeCmpFunc_int__K1 M x env h) | x => slices_symMergeCmpFunc_int__K1 M x env h

def slices_symMergeCmpFunc_int__K9 (M : Env) : AX → List V → H → Option (V × H) :=
 fun x env h => match x with | .exit j => (match Nat.beq j 2 with | true => slices_symMergeCmpFunc_int__K8 M .normal env h | false => slices_symMergeCmpFunc_int__K8 M (.exit j) env h) | x => slices_symMergeCmpFunc_int__K8 M x env h

def slices_symMergeCmpFunc_int__K10 (M : Env) : AX → List V → H → Option (V × H) :=
 fun x env h => match x with | .normal => evalC M F.slices_symMergeCmpFunc_int__c8 env h (fun x env h => slices_symMergeCmpFunc_int__K4 M x env h) | x => slices_symMergeCmpFunc_int__K4 M x env h

def slices_symMergeCmpFunc_int__K11 (M : Env) : AX → List V → H → Option (V × H) :=
 fun x env h => match x with | .exit j => (match Nat.beq j 6 with | true => slices_symMergeCmpFunc_int__K10 M .normal env h | false => slices_symMergeCmpFunc_int__K10 M (.exit j) env h) | x => slices_symMergeCmpFunc_int__K10 M x env h

def slices_symMergeCmpFunc_int__K12 (M : Env) : AX → List V → H → Option (V × H) :=
 fun x env h => match x with | .normal => evalC M F.slices_symMergeCmpFunc_int__c12 env h (fun x env h => slices_symMergeCmpFunc_int__K0 M x env h) | x => slices_symMergeCmpFunc_int__K0 M x env h

def slices_symMergeCmpFunc_int__K13 (M : Env) : AX → List V → H → Option (V × H) :=
 fun x env h => match x with | .exit j => (match Nat.beq j 8 with | true => slices_symMergeCmpFunc_int__K12 M .normal env h | false => slices_symMergeCmpFunc_int__K12 M (.exit j) env h) | x => slices_symMergeCmpFunc_int__K12 M x env h

def slices_symMergeCmpFunc_int__K14 (M : Env) : AX → List V → H → Option (V × H) :=
 fun x env h => match x with | .normal => evalC M F.slices_symMergeCmpFunc_int__c14 env h (fun x env h => slices_symMergeCmpFunc_int__K0 M x env h) | x => slices_symMergeCmpFunc_int__K0 M x env h

def slices_symMergeCmpFunc_int__K15 (M : Env) : AX → List V → H → Option (V × H) :=
 fun x env h => match x with | .normal => evalC M F.slices_symMergeCmpFunc_int__c16 env h (fun x env h => slices_symMergeCmpFunc_int__K0 M x env h) | x => slices_symMergeCmpFunc_int__K0 M x env h

def slices_symMergeCmpFunc_int_ (M : Env) (a0 : V) (a1 : Int) (a2 : Int) (a3 : Int) (a4 : V) (h : H) : Option (V × H) :=
 match (decide ((wr .i64 (a2 - a1)) = 1)) with
 | true => (
 (M.loop (slices_symMergeCmpFunc_int__c2_B M) (slices_symMergeCmpFunc_int__c2_E a0 (.int .i64 a1) a4 (.int .i64 a2) (.int .i64 a3)) h).bind fun p0 => slices_symMergeCmpFunc_int__K3 M p0.1 p0.2.1 p0.2.2)
 | false => (
 match (decide ((wr .i64 (a3 - a2)) = 1)) with
 | true => (
 (M.loop (slices_symMergeCmpFunc_int__c7_B M) (slices_symMergeCmpFunc_int__c7_E a0 (.int .i64 a2) a4 (.int .i64 a1) (.int .i64 a2)) h).bind fun p0 => slices_symMergeCmpFunc_int__K6 M p0.1 p0.2.1 p0.2.2)
 | false => (
 (slices_symMergeCmpFunc_int__c11_B M (slices_symMergeCmpFunc_int__c11_E a0 (.int .i64 a1) (.int .i64 a2) (.int .i64 a3) a4 (.int .i64 (wr .i64 ((wr .u64 (wr .i64 (a1 + a3))) / 2 ^ (min (Int.toNat 1) (Go.IntKind.bits .u64))))) (.int .i64 (wr .i64 ((wr .i64 ((wr .u64 (wr .i64 (a1 + a3))) / 2 ^ (min (Int.toNat 1) (Go.IntKind.bits .u64)))) + a2)))) h).bind fun p0 => slices_symMergeCmpFunc_int__K7 M p0.1 p0.2.1 p0.2.2))

def slices_symMergeCmpFunc_int__c2_S (M : Env) (x0 : V) (x1 : Int) (x4 : V) (x10 : Int) (x11 : Int) (h : H) : Option (AX × List V × H) :=
 match (decide (x10 < x11)) with
 | true => (
 (indexAV 1 x0 (.int .i64 (wr .i64 ((wr .u64 (wr .i64 (x10 + x11))) / 2 ^ (min (Int.toNat 1) (Go.IntKind.bits .u64)))))).bind fun v0 =>
 (h.ld1 v0).bind fun v1 =>
 (indexAV 1 x0 (.int .i64 x1)).bind fun v2 =>
 (h.ld1 v2).bind fun v3 =>
 callFn M x4 [v1, v3] h fun p4 =>
 (asI .i64 p4.1).bind fun n5 =>
 match (decide (n5 < 0)) with
 | true => (
 some (.normal, (slices_symMergeCmpFunc_int__c2_E x0 (.int .i64 x1) x4 (.int .i64 (wr .i64 ((wr .i64 ((wr .u64 (wr .i64 (x10 + x11))) / 2 ^ (min (Int.toNat 1) (Go.IntKind.bits .u64)))) + 1))) (.int .i64 x11)), p4.2))
 | false => (
 some (.normal, (slices_symMergeCmpFunc_int__c2_E x0 (.int .i64 x1) x4 (.int .i64 x10) (.int .i64 (wr .i64 ((wr .u64 (wr .i64 (x10 + x11))) / 2 ^ (min (Int.toNat 1) (Go.IntKind.bits .u64)))))), p4.2)))
 | false => (
 some ((.exit 0), (slices_symMergeCmpFunc_int__c2_O x0 (.int .i64 x1) (.int .i64 x10)), h))

def slices_symMergeCmpFunc_int__c2_e0 (M : Env) (x0 : V) (x1 : Int) (x10 : Int) (h : H) : Option (V × H) :=
 (M.loop (slices_symMergeCmpFunc_int__c4_B M) (slices_symMergeCmpFunc_int__c4_E x0 (.int .i64 x10) (.int .i64 x1)) h).bind fun p0 => slices_symMergeCmpFunc_int__K9 M p0.1 p0.2.1 p0.2.2

def slices_symMergeCmpFunc_int__c4_S (M : Env) (x0 : V) (x10 : Int) (x13 : Int) (h : H) : Option (AX × List V × H) :=
 match (decide (x13 < (wr .i64 (x10 - 1)))) with
 | true => (
 (indexAV 1 x0 (.int .i64 (wr .i64 (x13 + 1)))).bind fun v0 =>
 (h.ld1 v0).bind fun v1 =>
 (indexAV 1 x0 (.int .i64 x13)).bind fun v2 =>
 (h.ld1 v2).bind fun v3 =>
 (indexAV 1 x0 (.int .i64 x13)).bind fun v4 =>
 (h.st 1 v4 v1).bind fun h5 =>
 (indexAV 1 x0 (.int .i64 (wr .i64 (x13 + 1)))).bind fun v6 =>
 (h5.st 1 v6 v3).bind fun h7 =>
 some (.normal, (slices_symMergeCmpFunc_int__c4_E x0 (.int .i64 x10) (.int .i64 (wr .i64 (x13 + 1)))), h7))
 | false => (
 some ((.exit 2), slices_symMergeCmpFunc_int__c4_O, h))

def slices_symMergeCmpFunc_int__c4_e2 (M : Env) (h : H) : Option (V × H) :=
 some ((.tup []), h)

def slices_symMergeCmpFunc_int__c7_S (M : Env) (x0 : V) (x2 : Int) (x4 : V) (x14 : Int) (x15 : Int) (h : H) : Option (AX × List V × H) :=
 match (decide (x14 < x15)) with
 | true => (
 (indexAV 1 x0 (.int .i64 x2)).bind fun v0 =>
 (h.ld1 v0).bind fun v1 =>
 (indexAV 1 x0 (.int .i64 (wr .i64 ((wr .u64 (wr .i64 (x14 + x15))) / 2 ^ (min (Int.toNat 1) (Go.IntKind.bits .u64)))))).bind fun v2 =>
 (h.ld1 v2).bind fun v3 =>
 callFn M x4 [v1, v3] h fun p4 =>
 (asI .i64 p4.1).bind fun n5 =>
 match (!(decide (n5 < 0))) with
 | true => (
 some (.normal, (slices_symMergeCmpFunc_int__c7_E x0 (.int .i64 x2) x4 (.int .i64 (wr .i64 ((wr .i64 ((wr .u64 (wr .i64 (x14 + x15))) / 2 ^ (min (Int.toNat 1) (Go.IntKind.bits .u64)))) + 1))) (.int .i64 x15)), p4.2))
 | false => (
 some (.normal, (slices_symMergeCmpFunc_int__c7_E x0 (.int .i64 x2) x4 (.int .i64 x14) (.int .i64 (wr .i64 ((wr .u64 (wr .i64 (x14 + x15))) / 2 ^ (min (Int.toNat 1) (Go.IntKind.bits .u64)))))), p4.2)))
 | false => (
 some ((.exit 4), (slices_symMergeCmpFunc_int__c7_O x0 (.int .i64 x2) (.int .i64 x14)), h))

def slices_symMergeCmpFunc_int__c7_e4 (M : Env) (x0 : V) (x2 : Int) (x14 : Int) (h : H) : Option (V × H) :=
 (M.loop (slices_symMergeCmpFunc_int__c9_B M) (slices_symMergeCmpFunc_int__c9_E x0 (.int .i64 x14) (.int .i64 x2)) h).bind fun p0 => slices_symMergeCmpFunc_int__K11 M p0.1 p0.2.1 p0.2.2

def slices_symMergeCmpFunc_int__c9_S (M : Env) (x0 : V) (x14 : Int) (x17 : Int) (h : H) : Option (AX × List V × H) :=
 match (decide (x14 < x17)) with
 | true => (
 (indexAV 1 x0 (.int .i64 (wr .i64 (x17 - 1)))).bind fun v0 =>
 (h.ld1 v0).bind fun v1 =>
 (indexAV 1 x0 (.int .i64 x17)).bind fun v2 =>
 (h.ld1 v2).bind fun v3 =>
 (indexAV 1 x0 (.int .i64 x17)).bind fun v4 =>
 (h.st 1 v4 v1).bind fun h5 =>
 (indexAV 1 x0 (.int .i64 (wr .i64 (x17 - 1)))).bind fun v6 =>
 (h5.st 1 v6 v3).bind fun h7 =>
 some (.normal, (slices_symMergeCmpFunc_int__c9_E x0 (.int .i64 x14) (.int .i64 (wr .i64 (x17 - 1)))), h7))
 | false => (
 some ((.exit 6), slices_symMergeCmpFunc_int__c9_O, h))

def slices_symMergeCmpFunc_int__c9_e6 (M : Env) (h : H) : Option (V × H) :=
 some ((.tup []), h)

def slices_symMergeCmpFunc_int__c11_S (M : Env) (x0 : V) (x1 : Int) (x2 : Int) (x3 : Int) (x4 : V) (x18 : Int) (x19 : Int) (h : H) : Option (AX × List V × H) :=
 match (decide (x18 < x2)) with
 | true => (
 some (.normal, (slices_symMergeCmpFunc_int__c11_O x0 (.int .i64 x1) (.int .i64 x2) (.int .i64 x3) x4 (.int .i64 x18) (.int .i64 x19) (.int .i64 (wr .i64 (x19 - x3))) (.int .i64 x18)), h))
 | false => (
 some (.normal, (slices_symMergeCmpFunc_int__c11_O x0 (.int .i64 x1) (.int .i64 x2) (.int .i64 x3) x4 (.int .i64 x18) (.int .i64 x19) (.int .i64 x1) (.int .i64 x2)), h))

def slices_symMergeCmpFunc_int__c11_n (M : Env) (x0 : V) (x1 : Int) (x2 : Int) (x3 : Int) (x4 : V) (x18 : Int) (x19 : Int) (x20 : Int) (x21 : Int) (h : H) : Option (V × H) :=
 (M.loop (slices_symMergeCmpFunc_int__c13_B M) (slices_symMergeCmpFunc_int__c13_E x0 (.int .i64 x1) (.int .i64 x2) (.int .i64 x3) x4 (.int .i64 x18) (.int .i64 x19) (.int .i64 x20) (.int .i64 x21) (.int .i64 (wr .i64 (x19 - 1)))) h).bind fun p0 => slices_symMergeCmpFunc_int__K13 M p0.1 p0.2.1 p0.2.2

def slices_symMergeCmpFunc_int__c13_S (M : Env) (x0 : V) (x1 : Int) (x2 : Int) (x3 : Int) (x4 : V) (x18 : Int) (x19 : Int) (x20 : Int) (x21 : Int) (x22 : Int) (h : H) : Option (AX × List V × H) :=
 match (decide (x20 < x21)) with
 | true => (
 (indexAV 1 x0 (.int .i64 (wr .i64 (x22 - (wr .i64 ((wr .u64 (wr .i64 (x20 + x21))) / 2 ^ (min (Int.toNat 1) (Go.IntKind.bits .u64)))))))).bind fun v0 =>
 (h.ld1 v0).bind fun v1 =>
 (indexAV 1 x0 (.int .i64 (wr .i64 ((wr .u64 (wr .i64 (x20 + x21))) / 2 ^ (min (Int.toNat 1) (Go.IntKind.bits .u64)))))).bind fun v2 =>
 (h.ld1 v2).bind fun v3 =>
 callFn M x4 [v1, v3] h fun p4 =>
 (asI .i64 p4.1).bind fun n5 =>
 match (!(decide (n5 < 0))) with
 | true => (
 some (.normal, (slices_symMergeCmpFunc_int__c13_E x0 (.int .i64 x1) (.int .i64 x2) (.int .i64 x3) x4 (.int .i64 x18) (.int .i64 x19) (.int .i64 (wr .i64 ((wr .i64 ((wr .u64 (wr .i64 (x20 + x21))) / 2 ^ (min (Int.toNat 1) (Go.IntKind.bits .u64)))) + 1))) (.int .i64 x21) (.int .i64 x22)), p4.2))
 | false => (
 some (.normal, (slices_symMergeCmpFunc_int__c13_E x0 (.int .i64 x1) (.int .i64 x2) (.int .i64 x3) x4 (.int .i64 x18) (.int .i64 x19) (.int .i64 x20) (.int .i64 (wr .i64 ((wr .u64 (wr .i64 (x20 + x21))) / 2 ^ (min (Int.toNat 1) (Go.IntKind.bits .u64))))) (.int .i64 x22)), p4.2)))
 | false => (
 some ((.exit 8), (slices_symMergeCmpFunc_int__c13_O x0 (.int .i64 x1) (.int .i64 x2) (.int .i64 x3) x4 (.int .i64 x18) (.int .i64 x19) (.int .i64 x20)), h))

def slices_symMergeCmpFunc_int__c13_e8 (M : Env) (x0 : V) (x1 : Int) (x2 : Int) (x3 : Int) (x4 : V) (x18 : Int) (x19 : Int) (x20 : Int) (h : H) : Option (V × H) :=
 (slices_symMergeCmpFunc_int__c15_B M (slices_symMergeCmpFunc_int__c15_E x0 (.int .i64 x1) (.int .i64 x2) (.int .i64 x3) x4 (.int .i64 x18) (.int .i64 x20) (.int .i64 (wr .i64 (x19 - x20)))) h).bind fun p0 => slices_symMergeCmpFunc_int__K14 M p0.1 p0.2.1 p0.2.2

def slices_symMergeCmpFunc_int__c15_S (M : Env) (x0 : V) (x1 : Int) (x2 : Int) (x3 : Int) (x4 : V) (x18 : Int) (x20 : Int) (x24 : Int) (h : H) : Option (AX × List V × H) :=
 match (decide (x20 < x2)) with
 | true => (
 match (decide (x2 < x24)) with
 | true => (
 (M.call 492 [x0, (.int .i64 x20), (.int .i64 x2), (.int .i64 x24), x4] h).bind fun p0 =>
 some (.normal, (slices_symMergeCmpFunc_int__c15_O x0 (.int .i64 x1) (.int .i64 x3) x4 (.int .i64 x18) (.int .i64 x20) (.int .i64 x24)), p0.2))
 | false => (
 some (.normal, (slices_symMergeCmpFunc_int__c15_O x0 (.int .i64 x1) (.int .i64 x3) x4 (.int .i64 x18) (.int .i64 x20) (.int .i64 x24)), h)))
 | false => (
 some (.normal, (slices_symMergeCmpFunc_int__c15_O x0 (.int .i64 x1) (.int .i64 x3) x4 (.int .i64 x18) (.int .i64 x20) (.int .i64 x24)), h))

def slices_symMergeCmpFunc_int__c15_n (M : Env) (x0 : V) (x1 : Int) (x3 : Int) (x4 : V) (x18 : Int) (x20 : Int) (x24 : Int) (h : H) : Option (V × H) :=
 (slices_symMergeCmpFunc_int__c17_B M (slices_symMergeCmpFunc_int__c17_E x0 (.int .i64 x1) (.int .i64 x3) x4 (.int .i64 x18) (.int .i64 x20) (.int .i64 x24)) h).bind fun p0 => slices_symMergeCmpFunc_int__K15 M p0.1 p0.2.1 p0.2.2

def slices_symMergeCmpFunc_int__c17_S (M : Env) (x0 : V) (x1 : Int) (x3 : Int) (x4 : V) (x18 : Int) (x20 : Int) (x24 : Int) (h : H) : Option (AX × List V × H) :=
 match (decide (x1 < x20)) with
 | true => (
 match (decide (x20 < x18)) with
 | true => (
 (M.call 460 [x0, (.int .i64 x1), (.int .i64 x20), (.int .i64 x18), x4] h).bind fun p0 =>
 some (.normal, (slices_symMergeCmpFunc_int__c17_O x0 (.int .i64 x3) x4 (.int .i64 x18) (.int .i64 x24)), p0.2))
 | false => (
 some (.normal, (slices_symMergeCmpFunc_int__c17_O x0 (.int .i64 x3) x4 (.int .i64 x18) (.int .i64 x24)), h)))
 | false => (
 some (.normal, (slices_symMergeCmpFunc_int__c17_O x0 (.int .i64 x3) x4 (.int .i64 x18) (.int .i64 x24)), h))

def slices_symMergeCmpFunc_int__c17_n (M : Env) (x0 : V) (x3 : Int) (x4 : V) (x18 : Int) (x24 : Int) (h : H) : Option (V × H) :=
 match (decide (x18 < x24)) with
 | true => (
 match (decide (x24 < x3)) with
 | true => (
 (M.call 460 [x0, (.int .i64 x18), (.int .i64 x24), (.int .i64 x3), x4] h).bind fun p0 =>
 some ((.tup []), p0.2))
 | false => (
 some ((.tup []), h)))
 | false => (
 some ((.tup []), h))

theorem slices_symMergeCmpFunc_int__eq (M : Env) (a0 : V) (a1 : Int) (a2 : Int) (a3 : Int) (a4 : V) (h : H) : evalF M F.slices_symMergeCmpFunc_int_ [a0, (.int .i64 a1), (.int .i64 a2), (.int .i64 a3), a4] h = slices_symMergeCmpFunc_int_ M a0 a1 a2 a3 a4 h := by kernel_rfl

theorem slices_symMergeCmpFunc_int__c2_eq (M : Env) (x0 : V) (x1 : Int) (x4 : V) (x10 : Int) (x11 : Int) (h : H) : slices_symMergeCmpFunc_int__c2_B M (slices_symMergeCmpFunc_int__c2_E x0 (.int .i64 x1) x4 (.int .i64 x10) (.int .i64 x11)) h = slices_symMergeCmpFunc_int__c2_S M x0 x1 x4 x10 x11 h := by kernel_rfl

theorem slices_symMergeCmpFunc_int__c2_e0_eq (M : Env) (x0 : V) (x1 : Int) (x10 : Int) (h : H) : slices_symMergeCmpFunc_int__K3 M (.exit 0) (slices_symMergeCmpFunc_int__c2_O x0 (.int .i64 x1) (.int .i64 x10)) h = slices_symMergeCmpFunc_int__c2_e0 M x0 x1 x10 h := by kernel_rfl

theorem slices_symMergeCmpFunc_int__c4_eq (M : Env) (x0 : V) (x10 : Int) (x13 : Int) (h : H) : slices_symMergeCmpFunc_int__c4_B M (slices_symMergeCmpFunc_int__c4_E x0 (.int .i64 x10) (.int .i64 x13)) h = slices_symMergeCmpFunc_int__c4_S M x0 x10 x13 h := by kernel_rfl

theorem slices_symMergeCmpFunc_int__c4_e2_eq (M : Env) (h : H) : slices_symMergeCmpFunc_int__K9 M (.exit 2) slices_symMergeCmpFunc_int__c4_O h = slices_symMergeCmpFunc_int__c4_e2 M h := by kernel_rfl

theorem slices_symMergeCmpFunc_int__c7_eq (M : Env) (x0 : V) (x2 : Int) (x4 : V) (x14 : Int) (x15 : Int) (h : H) : slices_symMergeCmpFunc_int__c7_B M (slices_symMergeCmpFunc_int__c7_E x0 (.int .i64 x2) x4 (.int .i64 x14) (.int .i64 x15)) h = slices_symMergeCmpFunc_int__c7_S M x0 x2 x4 x14 x15 h := by kernel_rfl

theorem slices_symMergeCmpFunc_int__c7_e4_eq (M : Env) (x0 : V) (x2 : Int) (x14 : Int) (h : H) : slices_symMergeCmpFunc_int__K6 M (.exit 4) (slices_symMergeCmpFunc_int__c7_O x0 (.int .i64 x2) (.int .i64 x14)) h = slices_symMergeCmpFunc_int__c7_e4 M x0 x2 x14 h := by kernel_rfl

theorem slices_symMergeCmpFunc_int__c9_eq (M : Env) (x0 : V) (x14 : Int) (x17 : Int) (h : H) : slices_symMergeCmpFunc_int__c9_B M (slices_symMergeCmpFunc_int__c9_E x0 (.int .i64 x14) (.int .i64 x17)) h = slices_symMergeCmpFunc_int__c9_S M x0 x14 x17 h := by kernel_rfl

theorem slices_symMergeCmpFunc_int__c9_e6_eq (M : Env) (h : H) : slices_symMergeCmpFunc_int__K11 M (.exit 6) slices_symMergeCmpFunc_int__c9_O h = slices_symMergeCmpFunc_int__c9_e6 M h := by kernel_rfl

theorem slices_symMergeCmpFunc_int__c11_eq (M : Env) (x0 : V) (x1 : Int) (x2 : Int) (x3 : Int) (x4 : V) (x18 : Int) (x19 : Int) (h : H) : slices_symMergeCmpFunc_int__c11_B M (slices_symMergeCmpFunc_int__c11_E x0 (.int .i64 x1) (.int .i64 x2) (.int .i64 x3) x4 (.int .i64 x18) (.int .i64 x19)) h = slices_symMergeCmpFunc_int__c11_S M x0 x1 x2 x3 x4 x18 x19 h := by kernel_rfl

theorem slices_symMergeCmpFunc_int__c11_n_eq (M : Env) (x0 : V) (x1 : Int) (x2 : Int) (x3 : Int) (x4 : V) (x18 : Int) (x19 : Int) (x20 : Int) (x21 : Int) (h : H) : slices_symMergeCmpFunc_int__K7 M .normal (slices_symMergeCmpFunc_int__c11_O x0 (.int .i64 x1) (.int .i64 x2) (.int .i64 x3) x4 (.int .i64 x18) (.int .i64 x19) (.int .i64 x20) (.int .i64 x21)) h = slices_symMergeCmpFunc_int__c11_n M x0 x1 x2 x3 x4 x18 x19 x20 x21 h := by kernel_rfl

theorem slices_symMergeCmpFunc_int__c13_eq (M : Env) (x0 : V) (x1 : Int) (x2 : Int) (x3 : Int) (x4 : V) (x18 : Int) (x19 : Int) (x20 : Int) (x21 : Int) (x22 : Int) (h : H) : slices_symMergeCmpFunc_int__c13_B M (slices_symMergeCmpFunc_int__c13_E x0 (.int .i64 x1) (.int .i64 x2) (.int .i64 x3) x4 (.int .i64 x18) (.int .i64 x19) (.int .i64 x20) (.int .i64 x21) (.int .i64 x22)) h = slices_symMergeCmpFunc_int__c13_S M x0 x1 x2 x3 x4 x18 x19 x20 x21 x22 h := by kernel_rfl

theorem slices_symMergeCmpFunc_int__c13_e8_eq (M : Env) (x0 : V) (x1 : Int) (x2 : Int) (x3 : Int) (x4 : V) (x18 : Int) (x19 : Int) (x20 : Int) (h : H) : slices_symMergeCmpFunc_int__K13 M (.exit 8) (slices_symMergeCmpFunc_int__c13_O x0 (.int .i64 x1) (.int .i64 x2) (.int .i64 x3) x4 (.int .i64 x18) (.int .i64 x19) (.int .i64 x20)) h = slices_symMergeCmpFunc_int__c13_e8 M x0 x1 x2 x3 x4 x18 x19 x20 h := by kernel_rfl

theorem slices_symMergeCmpFunc_int__c15_eq (M : Env) (x0 : V) (x1 : Int) (x2 : Int) (x3 : Int) (x4 : V) (x18 : Int) (x20 : Int) (x24 : Int) (h : H) : slices_symMergeCmpFunc_int__c15_B M (slices_symMergeCmpFunc_int__c15_E x0 (.int .i64 x1) (.int .i64 x2) (.int .i64 x3) x4 (.int .i64 x18) (.int .i64 x20) (.int .i64 x24)) h = slices_symMergeCmpFunc_int__c15_S M x0 x1 x2 x3 x4 x18 x20 x24 h := by kernel_rfl

theorem slices_symMergeCmpFunc_int__c15_n_eq (M : Env) (x0 : V) (x1 : Int) (x3 : Int) (x4 : V) (x18 : Int) (x20 : Int) (x24 : Int) (h : H) : slices_symMergeCmpFunc_int__K14 M .normal (slices_symMergeCmpFunc_int__c15_O x0 (.int .i64 x1) (.int .i64 x3) x4 (.int .i64 x18) (.int .i64 x20) (.int .i64 x24)) h = slices_symMergeCmpFunc_int__c15_n M x0 x1 x3 x4 x18 x20 x24 h := by kernel_rfl

theorem slices_symMergeCmpFunc_int__c17_eq (M : Env) (x0 : V) (x1 : Int) (x3 : Int) (x4 : V) (x18 : Int) (x20 : Int) (x24 : Int) (h : H) : slices_symMergeCmpFunc_int__c17_B M (slices_symMergeCmpFunc_int__c17_E x0 (.int .i64 x1) (.int .i64 x3) x4 (.int .i64 x18) (.int .i64 x20) (.int .i64 x24)) h = slices_symMergeCmpFunc_int__c17_S M x0 x1 x3 x4 x18 x20 x24 h := by kernel_rfl

theorem slices_symMergeCmpFunc_int__c17_n_eq (M : Env) (x0 : V) (x3 : Int) (x4 : V) (x18 : Int) (x24 : Int) (h : H) : slices_symMergeCmpFunc_int__K15 M .normal (slices_symMergeCmpFunc_int__c17_O x0 (.int .i64 x3) x4 (.int .i64 x18) (.int .i64 x24)) h = slices_symMergeCmpFunc_int__c17_n M x0 x3 x4 x18 x24 h := by kernel_rfl

end Wm.S
end

section
namespace Wm.S
open Wm
set_option maxRecDepth 100000
set_option linter.unusedVariables false

def slices_partialInsertionSortCmpFunc_int__c1_B (M : Env) : List V → H → Option (AX × List V × H) :=
 fun env h => evalC M F.slices_partialInsertionSortCmpFunc_int__c1 env h fun x env h => match x with
 | .normal => some (.normal, keepOf [0, 1, 2, 3, 9, 10] 0 env, h)
 | x => some (x, keepOf [8] 0 env, h)

def slices_partialInsertionSortCmpFunc_int__c1_E (x0 x1 x2 x3 x9 x10 : V) : List V := x0 :: x1 :: x2 :: x3 :: dd 5 (x9 :: x10 :: dd 130 [])
def slices_partialInsertionSortCmpFunc_int__c1_O (x8 : V) : List V := dd 8 (x8 :: dd 132 [])

def slices_partialInsertionSortCmpFunc_int__c4_B (M : Env) : List V → H → Option (AX × List V × H) :=
 fun env h => evalC M F.slices_partialInsertionSortCmpFunc_int__c4 env h fun x env h => match x with
 | .normal => some (.normal, keepOf [0, 1, 2, 3, 9, 10] 0 env, h)
 | x => some (x, keepOf [0, 1, 2, 3, 9, 10] 0 env, h)

def slices_partialInsertionSortCmpFunc_int__c4_E (x0 x1 x2 x3 x9 x10 : V) : List V := x0 :: x1 :: x2 :: x3 :: dd 5 (x9 :: x10 :: dd 130 [])
def slices_partialInsertionSortCmpFunc_int__c4_O (x0 x1 x2 x3 x9 x10 : V) : List V := x0 :: x1 :: x2 :: x3 :: dd 5 (x9 :: x10 :: dd 130 [])

def slices_partialInsertionSortCmpFunc_int__c6_B (M : Env) : List V → H → Option (AX × List V × H) :=
 fun env h => evalC M F.slices_partialInsertionSortCmpFunc_int__c6 env h fun x env h => match x with
 | .normal => some (.normal, keepOf [0, 1, 2, 3, 9, 10, 11] 0 env, h)
 | x => some (x, keepOf [0, 1, 2, 3, 9, 10] 0 env, h)

def slices_partialInsertionSortCmpFunc_int__c6_E (x0 x1 x2 x3 x9 x10 x11 : V) : List V := x0 :: x1 :: x2 :: x3 :: dd 5 (x9 :: x10 :: x11 :: dd 129 [])
def slices_partialInsertionSortCmpFunc_int__c6_O (x0 x1 x2 x3 x9 x10 : V) : List V := x0 :: x1 :: x2 :: x3 :: dd 5 (x9 :: x10 :: dd 130 [])

def slices_partialInsertionSortCmpFunc_int__c7_B (M : Env) : List V → H → Option (AX × List V × H) :=
 fun env h => evalC M F.slices_partialInsertionSortCmpFunc_int__c7 env h fun x env h => match x with
 | .normal => some (.normal, keepOf [0, 1, 2, 3, 9, 10, 12] 0 env, h)
 | x => some (x, keepOf [0, 1, 2, 3, 9, 10] 0 env, h)

def slices_partialInsertionSortCmpFunc_int__c7_E (x0 x1 x2 x3 x9 x10 x12 : V) : List V := x0 :: x1 :: x2 :: x3 :: dd 5 (x9 :: x10 :: dd 1 (x12 :: dd 128 []))
def slices_partialInsertionSortCmpFunc_int__c7_O (x0 x1 x2 x3 x9 x10 : V) : List V := x0 :: x1 :: x2 :: x3 :: dd 5 (x9 :: x10 :: dd 130 [])

def slices_partialInsertionSortCmpFunc_int__K0 (M : Env) : AX → List V → H → Option (V × H) :=
 fun x env h => fin F.slices_partialInsertionSortCmpFunc_int_ x env h

def slices_partialInsertionSortCmpFunc_int__K1 (M : Env) : AX → List V → H → Option (V × H) :=
 fun x env h => match x with | .normal => evalC M F.slices_partialInsertionSortCmpFunc_int__c0 env h (fun x env h => slices_partialInsertionSortCmpFunc_int__K0 M x env h) | x => slices_partialInsertionSortCmpFunc_int__K0 M x env h

def slices_partialInsertionSortCmpFunc_int__K2 (M : Env) : AX → List V → H → Option (V × H) :=
 fun x env h => match x with | .exit j => (match Nat.beq j 0 with | true => slices_partialInsertionSortCmpFunc_int__K1 M .normal env h | false => slices_partialInsertionSortCmpFunc_int__K1 M (.exit j) env h) | x => slices_partialInsertionSortCmpFunc_int__K1 M x env h

def slices_partialInsertionSortCmpFunc_int__K3 (M : Env) : AX → List V → H → Option (AX × List V × H) :=
 fun x env h => match x with | .normal => some (.normal, keepOf [0, 1, 2, 3, 9, 10] 0 env, h) | x => some (x, keepOf [8] 0 env, h)

def slices_partialInsertionSortCmpFunc_int__K4 (M : Env) : AX → List V → H → Option (AX × List V × H) :=
 fun x env h => match x with | .normal => evalC M F.slices_partialInsertionSortCmpFunc_int__c2 env h (fun x env h => slices_partialInsertionSortCmpFunc_int__K3 M x env h) | x => slices_partialInsertionSortCmpFunc_int__K3 M x env h

def slices_partialInsertionSortCmpFunc_int__K5 (M : Env) : AX → List V → H → Option (AX × List V × H) :=
 fun x env h => match x with | .exit j => (match Nat.beq j 1 with | true => slices_partialInsertionSortCmpFunc_int__K4 M .normal env h | false => slices_partialInsertionSortCmpFunc_int__K4 M (.exit j) env h) | x => slices_partialInsertionSortCmpFunc_int__K4 M x env h

def slices_partialInsertionSortCmpFunc_int__K6 (M : Env) : AX → List V → H → Option (AX × List V × H) :=
 fun x env h => match x with | .normal => evalC M F.slices_partialInsertionSortCmpFunc_int__c3 env h (fun x env h => slices_partialInsertionSortCmpFunc_int__K5 M x env h) | x => slices_partialInsertionSortCmpFunc_int__K5 M x env h

def slices_partialInsertionSortCmpFunc_int__K7 (M : Env) : AX → List V → H → Option (AX × List V × H) :=
 fun x env h => match x with | .exit j => (match Nat.beq j 2 with | true => slices_partialInsertionSortCmpFunc_int__K6 M .normal env h | false => slices_partialInsertionSortCmpFunc_int__K6 M (.exit j) env h) | x => slices_partialInsertionSortCmpFunc_int__K6 M x env h

def slices_partialInsertionSortCmpFunc_int__K8 (M : Env) : AX → List V → H → Option (AX × List V × H) :=
 fun x env h => match x with | .normal => evalC M F.slices_partialInsertionSortCmpFunc_int__c5 env h (fun x env h => slices_partialInsertionSortCmpFunc_int__K5 M x env h) | x => slices_partialInsertionSortCmpFunc_int__K5 M x env h

def slices_partialInsertionSortCmpFunc_int__K9 (M : Env) : AX → List V → H → Option (AX × List V × H) :=
 fun x env h => match x with | .exit j => (match Nat.beq j 4 with | true => slices_partialInsertionSortCmpFunc_int__K8 M .normal env h | false => slices_partialInsertionSortCmpFunc_int__K8 M (.exit j) env h) | x => slices_partialInsertionSortCmpFunc_int__K8 M x env h

def slices_partialInsertionSortCmpFunc_int__K10 (M : Env) : AX → List V → H → Option (AX × List V × H) :=
 fun x env h => match x with | .exit j => (match Nat.beq j 6 with | true => slices_partialInsertionSortCmpFunc_int__K5 M .normal env h | false => slices_partialInsertionSortCmpFunc_int__K5 M (.exit j) env h) | x => slices_partialInsertionSortCmpFunc_int__K5 M x env h

def slices_partialInsertionSortCmpFunc_int_ (M : Env) (a0 : V) (a1 : Int) (a2 : Int) (a3 : V) (h : H) : Option (V × H) :=
 (M.loop (slices_partialInsertionSortCmpFunc_int__c1_B M) (slices_partialInsertionSortCmpFunc_int__c1_E a0 (.int .i64 a1) (.int .i64 a2) a3 (.int .i64 (wr .i64 (a1 + 1))) (.int .i64 0)) h).bind fun p0 => slices_partialInsertionSortCmpFunc_int__K2 M p0.1 p0.2.1 p0.2.2

def slices_partialInsertionSortCmpFunc_int__c1_S (M : Env) (x0 : V) (x1 : Int) (x2 : Int) (x3 : V) (x9 : Int) (x10 : Int) (h : H) : Option (AX × List V × H) :=
 match (decide (x10 < 5)) with
 | true => (
 (M.loop (slices_partialInsertionSortCmpFunc_int__c4_B M) (slices_partialInsertionSortCmpFunc_int__c4_E x0 (.int .i64 x1) (.int .i64 x2) x3 (.int .i64 x9) (.int .i64 x10)) h).bind fun p0 => slices_partialInsertionSortCmpFunc_int__K7 M p0.1 p0.2.1 p0.2.2)
 | false => (
 some ((.exit 0), (slices_partialInsertionSortCmpFunc_int__c1_O .dead), h))

def slices_partialInsertionSortCmpFunc_int__c1_e0 (M : Env) (x8 : V) (h : H) : Option (V × H) :=
 some ((.bool false), h)

def slices_partialInsertionSortCmpFunc_int__c1_r (M : Env) (x8 : Bool) (h : H) : Option (V × H) :=
 some ((.bool x8), h)

def slices_partialInsertionSortCmpFunc_int__c4_S (M : Env) (x0 : V) (x1 : Int) (x2 : Int) (x3 : V) (x9 : Int) (x10 : Int) (h : H) : Option (AX × List V × H) :=
 match (decide (x9 < x2)) with
 | true => (
 (indexAV 1 x0 (.int .i64 x9)).bind fun v0 =>
 (h.ld1 v0).bind fun v1 =>
 (indexAV 1 x0 (.int .i64 (wr .i64 (x9 - 1)))).bind fun v2 =>
 (h.ld1 v2).bind fun v3 =>
 callFn M x3 [v1, v3] h fun p4 =>
 (asI .i64 p4.1).bind fun n5 =>
 match (!(decide (n5 < 0))) with
 | true => (
 some (.normal, (slices_partialInsertionSortCmpFunc_int__c4_E x0 (.int .i64 x1) (.int .i64 x2) x3 (.int .i64 (wr .i64 (x9 + 1))) (.int .i64 x10)), p4.2))
 | false => (
 some ((.exit 2), (slices_partialInsertionSortCmpFunc_int__c4_O x0 (.int .i64 x1) (.int .i64 x2) x3 (.int .i64 x9) (.int .i64 x10)), p4.2)))
 | false => (
 some ((.exit 2), (slices_partialInsertionSortCmpFunc_int__c4_O x0 (.int .i64 x1) (.int .i64 x2) x3 (.int .i64 x9) (.int .i64 x10)), h))

def slices_partialInsertionSortCmpFunc_int__c4_e2 (M : Env) (x0 : V) (x1 : Int) (x2 : Int) (x3 : V) (x9 : Int) (x10 : Int) (h : H) : Option (AX × List V × H) :=
 match (decide (x9 = x2)) with
 | true => (
 some (.ret, (slices_partialInsertionSortCmpFunc_int__c1_O (.bool true)), h))
 | false => (
 match (decide ((wr .i64 (x2 - x1)) < 50)) with
 | true => (
 some (.ret, (slices_partialInsertionSortCmpFunc_int__c1_O (.bool false)), h))
 | false => (
 (indexAV 1 x0 (.int .i64 (wr .i64 (x9 - 1)))).bind fun v0 =>
 (h.ld1 v0).bind fun v1 =>
 (indexAV 1 x0 (.int .i64 x9)).bind fun v2 =>
 (h.ld1 v2).bind fun v3 =>
 (indexAV 1 x0 (.int .i64 x9)).bind fun v4 =>
 (h.st 1 v4 v1).bind fun h5 =>
 (indexAV 1 x0 (.int .i64 (wr .i64 (x9 - 1)))).bind fun v6 =>
 (h5.st 1 v6 v3).bind fun h7 =>
 match (decide (2 ≤ (wr .i64 (x9 - x1)))) with
 | true => (
 (M.loop (slices_partialInsertionSortCmpFunc_int__c6_B M) (slices_partialInsertionSortCmpFunc_int__c6_E x0 (.int .i64 x1) (.int .i64 x2) x3 (.int .i64 x9) (.int .i64 x10) (.int .i64 (wr .i64 (x9 - 1)))) h7).bind fun p8 => slices_partialInsertionSortCmpFunc_int__K9 M p8.1 p8.2.1 p8.2.2)
 | false => (
 match (decide (2 ≤ (wr .i64 (x2 - x9)))) with
 | true => (
 (M.loop (slices_partialInsertionSortCmpFunc_int__c7_B M) (slices_partialInsertionSortCmpFunc_int__c7_E x0 (.int .i64 x1) (.int .i64 x2) x3 (.int .i64 x9) (.int .i64 x10) (.int .i64 (wr .i64 (x9 + 1)))) h7).bind fun p8 => slices_partialInsertionSortCmpFunc_int__K10 M p8.1 p8.2.1 p8.2.2)
 | false => (
 some (.normal, (slices_partialInsertionSortCmpFunc_int__c1_E x0 (.int .i64 x1) (.int .i64 x2) x3 (.int .i64 x9) (.int .i64 (wr .i64 (x10 + 1)))), h7)))))

def slices_partialInsertionSortCmpFunc_int__c6_S (M : Env) (x0 : V) (x1 : Int) (x2 : Int) (x3 : V) (x9 : Int) (x10 : Int) (x11 : Int) (h : H) : Option (AX × List V × H) :=
 match (decide (1 ≤ x11)) with
 | true => (
 (indexAV 1 x0 (.int .i64 x11)).bind fun v0 =>
 (h.ld1 v0).bind fun v1 =>
 (indexAV 1 x0 (.int .i64 (wr .i64 (x11 - 1)))).bind fun v2 =>
 (h.ld1 v2).bind fun v3 =>
 callFn M x3 [v1, v3] h fun p4 =>
 (asI .i64 p4.1).bind fun n5 =>
 match (!(decide (n5 < 0))) with
 | true => (
 some ((.exit 4), (slices_partialInsertionSortCmpFunc_int__c6_O x0 (.int .i64 x1) (.int .i64 x2) x3 (.int .i64 x9) (.int .i64 x10)), p4.2))
 | false => (
 (indexAV 1 x0 (.int .i64 (wr .i64 (x11 - 1)))).bind fun v6 =>
 (p4.2.ld1 v6).bind fun v7 =>
 (indexAV 1 x0 (.int .i64 x11)).bind fun v8 =>
 (p4.2.ld1 v8).bind fun v9 =>
 (indexAV 1 x0 (.int .i64 x11)).bind fun v10 =>
 (p4.2.st 1 v10 v7).bind fun h11 =>
 (indexAV 1 x0 (.int .i64 (wr .i64 (x11 - 1)))).bind fun v12 =>
 (h11.st 1 v12 v9).bind fun h13 =>
 some (.normal, (slices_partialInsertionSortCmpFunc_int__c6_E x0 (.int .i64 x1) (.int .i64 x2) x3 (.int .i64 x9) (.int .i64 x10) (.int .i64 (wr .i64 (x11 - 1)))), h13)))
 | false => (
 some ((.exit 4), (slices_partialInsertionSortCmpFunc_int__c6_O x0 (.int .i64 x1) (.int .i64 x2) x3 (.int .i64 x9) (.int .i64 x10)), h))

def slices_partialInsertionSortCmpFunc_int__c6_e4 (M : Env) (x0 : V) (x1 : Int) (x2 : Int) (x3 : V) (x9 : Int) (x10 : Int) (h : H) : Option (AX × List V × H) :=
 match (decide (2 ≤ (wr .i64 (x2 - x9)))) with
 | true => (
 (M.loop (slices_partialInsertionSortCmpFunc_int__c7_B M) (slices_partialInsertionSortCmpFunc_int__c7_E x0 (.int .i64 x1) (.int .i64 x2) x3 (.int .i64 x9) (.int .i64 x10) (.int .i64 (wr .i64 (x9 + 1)))) h).bind fun p0 => slices_partialInsertionSortCmpFunc_int__K10 M p0.1 p0.2.1 p0.2.2)
 | false => (
 some (.normal, (slices_partialInsertionSortCmpFunc_int__c1_E x0 (.int .i64 x1) (.int .i64 x2) x3 (.int .i64 x9) (.int .i64 (wr .i64 (x10 + 1)))), h))

def slices_partialInsertionSortCmpFunc_int__c7_S (M : Env) (x0 : V) (x1 : Int) (x2 : Int) (x3 : V) (x9 : Int) (x10 : Int) (x12 : Int) (h : H) : Option (AX × List V × H) :=
 match (decide (x12 < x2)) with
 | true => (
 (indexAV 1 x0 (.int .i64 x12)).bind fun v0 =>
 (h.ld1 v0).bind fun v1 =>
 (indexAV 1 x0 (.int .i64 (wr .i64 (x12 - 1)))).bind fun v2 =>
 (h.ld1 v2).bind fun v3 =>
 callFn M x3 [v1, v3] h fun p4 =>
 (asI .i64 p4.1).bind fun n5 =>
 match (!(decide (n5 < 0))) with
 | true => (
 some ((.exit 6), (slices_partialInsertionSortCmpFunc_int__c7_O x0 (.int .i64 x1) (.int .i64 x2) x3 (.int .i64 x9) (.int .i64 x10)), p4.2))
 | false => (
 (indexAV 1 x0 (.int .i64 (wr .i64 (x12 - 1)))).bind fun v6 =>
 (p4.2.ld1 v6).bind fun v7 =>
 (indexAV 1 x0 (.int .i64 x12)).bind fun v8 =>
 (p4.2.ld1 v8).bind fun v9 =>
 (indexAV 1 x0 (.int .i64 x12)).bind fun v10 =>
 (p4.2.st 1 v10 v7).bind fun h11 =>
 (indexAV 1 x0 (.int .i64 (wr .i64 (x12 - 1)))).bind fun v12 =>
 (h11.st 1 v12 v9).bind fun h13 =>
 some (.normal, (slices_partialInsertionSortCmpFunc_int__c7_E x0 (.int .i64 x1) (.int .i64 x2) x3 (.int .i64 x9) (.int .i64 x10) (.int .i64 (wr .i64 (x12 + 1)))), h13)))
 | false => (
 some ((.exit 6), (slices_partialInsertionSortCmpFunc_int__c7_O x0 (.int .i64 x1) (.int .i64 x2) x3 (.int .i64 x9) (.int .i64 x10)), h))

def slices_partialInsertionSortCmpFunc_int__c7_e6 (M : Env) (x0 : V) (x1 : Int) (x2 : Int) (x3 : V) (x9 : Int) (x10 : Int) (h : H) : Option (AX × List V × H) :=
 some (.normal, (slices_partialInsertionSortCmpFunc_int__c1_E x0 (.int .i64 x1) (.int .i64 x2) x3 (.int .i64 x9) (.int .i64 (wr .i64 (x10 + 1)))), h)

theorem slices_partialInsertionSortCmpFunc_int__eq (M : Env) (a0 : V) (a1 : Int) (a2 : Int) (a3 : V) (h : H) : evalF M F.slices_partialInsertionSortCmpFunc_int_ [a0, (.int .i64 a1), (.int .i64 a2), a3] h = slices_partialInsertionSortCmpFunc_int_ M a0 a1 a2 a3 h := by kernel_rfl

theorem slices_partialInsertionSortCmpFunc_int__c1_eq (M : Env) (x0 : V) (x1 : Int) (x2 : Int) (x3 : V) (x9 : Int) (x10 : Int) (h : H) : slices_partialInsertionSortCmpFunc_int__c1_B M (slices_partialInsertionSortCmpFunc_int__c1_E x0 (.int .i64 x1) (.int .i64 x2) x3 (.int .i64 x9) (.int .i64 x10)) h = slices_partialInsertionSortCmpFunc_int__c1_S M x0 x1 x2 x3 x9 x10 h := by kernel_rfl

theorem slices_partialInsertionSortCmpFunc_int__c1_e0_eq (M : Env) (x8 : V) (h : H) : slices_partialInsertionSortCmpFunc_int__K2 M (.exit 0) (slices_partialInsertionSortCmpFunc_int__c1_O x8) h = slices_partialInsertionSortCmpFunc_int__c1_e0 M x8 h := by kernel_rfl

theorem slices_partialInsertionSortCmpFunc_int__c1_r_eq (M : Env) (x8 : Bool) (h : H) : slices_partialInsertionSortCmpFunc_int__K2 M .ret (slices_partialInsertionSortCmpFunc_int__c1_O (.bool x8)) h = slices_partialInsertionSortCmpFunc_int__c1_r M x8 h := by kernel_rfl

theorem slices_partialInsertionSortCmpFunc_int__c4_eq (M : Env) (x0 : V) (x1 : Int) (x2 : Int) (x3 : V) (x9 : Int) (x10 : Int) (h : H) : slices_partialInsertionSortCmpFunc_int__c4_B M (slices_partialInsertionSortCmpFunc_int__c4_E x0 (.int .i64 x1) (.int .i64 x2) x3 (.int .i64 x9) (.int .i64 x10)) h = slices_partialInsertionSortCmpFunc_int__c4_S M x0 x1 x2 x3 x9 x10 h := by kernel_rfl

theorem slices_partialInsertionSortCmpFunc_int__c4_e2_eq (M : Env) (x0 : V) (x1 : Int) (x2 : Int) (x3 : V) (x9 : Int) (x10 : Int) (h : H) : slices_partialInsertionSortCmpFunc_int__K7 M (.exit 2) (slices_partialInsertionSortCmpFunc_int__c4_O x0 (.int .i64 x1) (.int .i64 x2) x3 (.int .i64 x9) (.int .i64 x10)) h = slices_partialInsertionSortCmpFunc_int__c4_e2 M x0 x1 x2 x3 x9 x10 h := by kernel_rfl

theorem slices_partialInsertionSortCmpFunc_int__c6_eq (M : Env) (x0 : V) (x1 : Int) (x2 : Int) (x3 : V) (x9 : Int) (x10 : Int) (x11 : Int) (h : H) : slices_partialInsertionSortCmpFunc_int__c6_B M (slices_partialInsertionSortCmpFunc_int__c6_E x0 (.int .i64 x1) (.int .i64 x2) x3 (.int .i64 x9) (.int .i64 x10) (.int .i64 x11)) h = slices_partialInsertionSortCmpFunc_int__c6_S M x0 x1 x2 x3 x9 x10 x11 h := by kernel_rfl

theorem slices_partialInsertionSortCmpFunc_int__c6_e4_eq (M : Env) (x0 : V) (x1 : Int) (x2 : Int) (x3 : V) (x9 : Int) (x10 : Int) (h : H) : slices_partialInsertionSortCmpFunc_int__K9 M (.exit 4) (slices_partialInsertionSortCmpFunc_int__c6_O x0 (.int .i64 x1) (.int .i64 x2) x3 (.int .i64 x9) (.int .i64 x10)) h = slices_partialInsertionSortCmpFunc_int__c6_e4 M x0 x1 x2 x3 x9 x10 h := by kernel_rfl

theorem slices_partialInsertionSortCmpFunc_int__c7_eq (M : Env) (x0 : V) (x1 : Int) (x2 : Int) (x3 : V) (x9 : Int) (x10 : Int) (x12 : Int) (h : H) : slices_partialInsertionSortCmpFunc_int__c7_B M (slices_partialInsertionSortCmpFunc_int__c7_E x0 (.int .i64 x1) (.int .i64 x2) x3 (.int .i64 x9) (.int .i64 x10) (.int .i64 x12)) h = slices_partialInsertionSortCmpFunc_int__c7_S M x0 x1 x2 x3 x9 x10 x12 h := by kernel_rfl

theorem slices_partialInsertionSortCmpFunc_int__c7_e6_eq (M : Env) (x0 : V) (x1 : Int) (x2 : Int) (x3 : V) (x9 : Int) (x10 : Int) (h : H) : slices_partialInsertionSortCmpFunc_int__K10 M (.exit 6) (slices_partialInsertionSortCmpFunc_int__c7_O x0 (.int .i64 x1) (.int .i64 x2) x3 (.int .i64 x9) (.int .i64 x10)) h = slices_partialInsertionSortCmpFunc_int__c7_e6 M x0 x1 x2 x3 x9 x10 h := by kernel_rfl

end Wm.S
end

section
namespace Wm.S
open Wm
set_option maxRecDepth 100000
set_option linter.unusedVariables false

def slices_breakPatternsCmpFunc_int__c0_B (M : Env) : List V → H → Option (AX × List V × H) :=
 fun env h => evalC M F.slices_breakPatternsCmpFunc_int__c0 env h fun x env h => match x with
 | .normal => some (.normal, keepOf [0, 1, 8, 9, 10, 11] 0 env, h)
 | x => some (x, keepOf [] 0 env, h)

def slices_breakPatternsCmpFunc_int__c0_E (x0 x1 x8 x9 x10 x11 : V) : List V := x0 :: x1 :: dd 6 (x8 :: x9 :: x10 :: x11 :: dd 55 [])
def slices_breakPatternsCmpFunc_int__c0_O : List V := dd 67 []

def slices_breakPatternsCmpFunc_int__c3_B (M : Env) : List V → H → Option (AX × List V × H) :=
 fun env h => evalC M F.slices_breakPatternsCmpFunc_int__c3 env h fun x env h => some (x, keepOf [0, 1, 8, 9, 10, 11, 35] 0 env, h)

def slices_breakPatternsCmpFunc_int__c3_E (x0 x1 x8 x9 x10 x11 : V) : List V := x0 :: x1 :: dd 6 (x8 :: x9 :: x10 :: x11 :: dd 55 [])
def slices_breakPatternsCmpFunc_int__c3_O (x0 x1 x8 x9 x10 x11 x35 : V) : List V := x0 :: x1 :: dd 6 (x8 :: x9 :: x10 :: x11 :: dd 23 (x35 :: dd 31 []))

def slices_breakPatternsCmpFunc_int__c6_B (M : Env) : List V → H → Option (AX × List V × H) :=
 fun env h => evalC M F.slices_breakPatternsCmpFunc_int__c6 env h fun x env h => some (x, keepOf [0, 1, 8, 9, 10, 11, 12] 0 env, h)

def slices_breakPatternsCmpFunc_int__c6_E (x0 x1 x8 x9 x10 x11 : V) : List V := x0 :: x1 :: dd 6 (x8 :: x9 :: x10 :: x11 :: dd 55 [])
def slices_breakPatternsCmpFunc_int__c6_O (x0 x1 x8 x9 x10 x11 x12 : V) : List V := x0 :: x1 :: dd 6 (x8 :: x9 :: x10 :: x11 :: x12 :: dd 54 [])

def slices_breakPatternsCmpFunc_int__c8_B (M : Env) : List V → H → Option (AX × List V × H) :=
 fun env h => evalC M F.slices_breakPatternsCmpFunc_int__c8 env h fun x env h => some (x, keepOf [0, 1, 8, 9, 10, 11, 12] 0 env, h)

def slices_breakPatternsCmpFunc_int__c8_E (x0 x1 x8 x9 x10 x11 x12 : V) : List V := x0 :: x1 :: dd 6 (x8 :: x9 :: x10 :: x11 :: x12 :: dd 54 [])
def slices_breakPatternsCmpFunc_int__c8_O (x0 x1 x8 x9 x10 x11 x12 : V) : List V := x0 :: x1 :: dd 6 (x8 :: x9 :: x10 :: x11 :: x12 :: dd 54 [])

def slices_breakPatternsCmpFunc_int__K0 (M : Env) : AX → List V → H → Option (V × H) :=
 fun x env h => fin F.slices_breakPatternsCmpFunc_int_ x env h

def slices_breakPatternsCmpFunc_int__K1 (M : Env) : AX → List V → H → Option (V × H) :=
 fun x env h => match x with | .exit j => (match Nat.beq j 0 with | true => slices_breakPatternsCmpFunc_int__K0 M .normal env h | false => slices_breakPatternsCmpFunc_int__K0 M (.exit j) env h) | x => slices_breakPatternsCmpFunc_int__K0 M x env h

def slices_breakPatternsCmpFunc_int__K2 (M : Env) : AX → List V → H → Option (AX × List V × H) :=
 fun x env h => match x with | .normal => some (.normal, keepOf [0, 1, 8, 9, 10, 11] 0 env, h) | x => some (x, keepOf [] 0 env, h)

def slices_breakPatternsCmpFunc_int__K3 (M : Env) : AX → List V → H → Option (AX × List V × H) :=
 fun x env h => match x with | .normal => evalC M F.slices_breakPatternsCmpFunc_int__c1 env h (fun x env h => slices_breakPatternsCmpFunc_int__K2 M x env h) | x => slices_breakPatternsCmpFunc_int__K2 M x env h

def slices_breakPatternsCmpFunc_int__K4 (M : Env) : AX → List V → H → Option (AX × List V × H) :=
 fun x env h => match x with | .normal => evalC M F.slices_breakPatternsCmpFunc_int__c2 env h (fun x env h => slices_breakPatternsCmpFunc_int__K3 M x env h) | x => slices_breakPatternsCmpFunc_int__K3 M x env h

def slices_breakPatternsCmpFunc_int__K5 (M : Env) : AX → List V → H → Option (AX × List V × H) :=
 fun x env h => match x with | .normal => evalC M F.slices_breakPatternsCmpFunc_int__c4 env h (fun x env h => slices_breakPatternsCmpFunc_int__K2 M x env h) | x => slices_breakPatternsCmpFunc_int__K2 M x env h

def slices_breakPatternsCmpFunc_int__K6 (M : Env) : AX → List V → H → Option (AX × List V × H) :=
 fun x env h => match x with | .exit j => (match Nat.beq j 1 with | true => slices_breakPatternsCmpFunc_int__K5 M .normal env h | false => slices_breakPatternsCmpFunc_int__K5 M (.exit j) env h) | x => slices_breakPatternsCmpFunc_int__K5 M x env h

def slices_breakPatternsCmpFunc_int__K7 (M : Env) : AX → List V → H → Option (AX × List V × H) :=
 fun x env h => match x with | .normal => evalC M F.slices_breakPatternsCmpFunc_int__c5 env h (fun x env h => slices_breakPatternsCmpFunc_int__K6 M x env h) | x => slices_breakPatternsCmpFunc_int__K6 M x env h

def slices_breakPatternsCmpFunc_int__K8 (M : Env) : AX → List V → H → Option (AX × List V × H) :=
 fun x env h => match x with | .normal => evalC M F.slices_breakPatternsCmpFunc_int__c7 env h (fun x env h => slices_breakPatternsCmpFunc_int__K6 M x env h) | x => slices_breakPatternsCmpFunc_int__K6 M x env h

def slices_breakPatternsCmpFunc_int_ (M : Env) (a0 : V) (a1 : Int) (a2 : Int) (a3 : V) (h : H) : Option (V × H) :=
 match (decide (8 ≤ (wr .i64 (a2 - a1)))) with
 | true => (
 let h0 := h.new (.cells [(.int .u64 0)] .rw)
 (h0.st 1 (.ptr h.next 0) (.int .u64 (wr .u64 (wr .i64 (a2 - a1))))).bind fun h1 =>
 (M.call 488 [(.int .i64 (wr .i64 (a2 - a1)))] h1).bind fun p2 =>
 (M.loop (slices_breakPatternsCmpFunc_int__c0_B M) (slices_breakPatternsCmpFunc_int__c0_E a0 (.int .i64 a1) (.int .i64 (wr .i64 (a2 - a1))) (.ptr h.next 0) p2.1 (.int .i64 (wr .i64 ((wr .i64 (a1 + (wr .i64 ((wr .i64 (Int.tdiv (wr .i64 (a2 - a1)) 4)) * 2)))) - 1)))) p2.2).bind fun p3 => slices_breakPatternsCmpFunc_int__K1 M p3.1 p3.2.1 p3.2.2)
 | false => (
 some ((.tup []), h))

def slices_breakPatternsCmpFunc_int__c0_S (M : Env) (x0 : V) (x1 : Int) (x8 : Int) (x9 : V) (x10 : Int) (x11 : Int) (h : H) : Option (AX × List V × H) :=
 (slices_breakPatternsCmpFunc_int__c3_B M (slices_breakPatternsCmpFunc_int__c3_E x0 (.int .i64 x1) (.int .i64 x8) x9 (.int .u64 x10) (.int .i64 x11)) h).bind fun p0 => slices_breakPatternsCmpFunc_int__K4 M p0.1 p0.2.1 p0.2.2

def slices_breakPatternsCmpFunc_int__c0_e0 (M : Env) (h : H) : Option (V × H) :=
 some ((.tup []), h)

def slices_breakPatternsCmpFunc_int__c3_S (M : Env) (x0 : V) (x1 : Int) (x8 : Int) (x9 : V) (x10 : Int) (x11 : Int) (h : H) : Option (AX × List V × H) :=
 some (.normal, (slices_breakPatternsCmpFunc_int__c3_O x0 (.int .i64 x1) (.int .i64 x8) x9 (.int .u64 x10) (.int .i64 x11) (.bool (decide (x11 ≤ (wr .i64 ((wr .i64 (x1 + (wr .i64 ((wr .i64 (Int.tdiv x8 4)) * 2)))) + 1)))))), h)

def slices_breakPatternsCmpFunc_int__c3_n (M : Env) (x0 : V) (x1 : Int) (x8 : Int) (x9 : V) (x10 : Int) (x11 : Int) (x35 : Bool) (h : H) : Option (AX × List V × H) :=
 match x35 with
 | true => (
 (slices_breakPatternsCmpFunc_int__c6_B M (slices_breakPatternsCmpFunc_int__c6_E x0 (.int .i64 x1) (.int .i64 x8) x9 (.int .u64 x10) (.int .i64 x11)) h).bind fun p0 => slices_breakPatternsCmpFunc_int__K7 M p0.1 p0.2.1 p0.2.2)
 | false => (
 some ((.exit 0), slices_breakPatternsCmpFunc_int__c0_O, h))

def slices_breakPatternsCmpFunc_int__c6_S (M : Env) (x0 : V) (x1 : Int) (x8 : Int) (x9 : V) (x10 : Int) (x11 : Int) (h : H) : Option (AX × List V × H) :=
 (M.call 489 [x9] h).bind fun p0 =>
 (asI .u64 p0.1).bind fun n1 =>
 some (.normal, (slices_breakPatternsCmpFunc_int__c6_O x0 (.int .i64 x1) (.int .i64 x8) x9 (.int .u64 x10) (.int .i64 x11) (.int .i64 (wr .i64 (and64 n1 (wr .u64 (x10 - 1)))))), p0.2)

def slices_breakPatternsCmpFunc_int__c6_n (M : Env) (x0 : V) (x1 : Int) (x8 : Int) (x9 : V) (x10 : Int) (x11 : Int) (x12 : Int) (h : H) : Option (AX × List V × H) :=
 (slices_breakPatternsCmpFunc_int__c8_B M (slices_breakPatternsCmpFunc_int__c8_E x0 (.int .i64 x1) (.int .i64 x8) x9 (.int .u64 x10) (.int .i64 x11) (.int .i64 x12)) h).bind fun p0 => slices_breakPatternsCmpFunc_int__K8 M p0.1 p0.2.1 p0.2.2

def slices_breakPatternsCmpFunc_int__c8_S (M : Env) (x0 : V) (x1 : Int) (x8 : Int) (x9 : V) (x10 : Int) (x11 : Int) (x12 : Int) (h : H) : Option (AX × List V × H) :=
 match (decide (x8 ≤ x12)) with
 | true => (
 some (.normal, (slices_breakPatternsCmpFunc_int__c8_O x0 (.int .i64 x1) (.int .i64 x8) x9 (.int .u64 x10) (.int .i64 x11) (.int .i64 (wr .i64 (x12 - x8)))), h))
 | false => (
 some (.normal, (slices_breakPatternsCmpFunc_int__c8_O x0 (.int .i64 x1) (.int .i64 x8) x9 (.int .u64 x10) (.int .i64 x11) (.int .i64 x12)), h))

def slices_breakPatternsCmpFunc_int__c8_n (M : Env) (x0 : V) (x1 : Int) (x8 : Int) (x9 : V) (x10 : Int) (x11 : Int) (x12 : Int) (h : H) : Option (AX × List V × H) :=
 (indexAV 1 x0 (.int .i64 (wr .i64 (x1 + x12)))).bind fun v0 =>
 (h.ld1 v0).bind fun v1 =>
 (indexAV 1 x0 (.int .i64 x11)).bind fun v2 =>
 (h.ld1 v2).bind fun v3 =>
 (indexAV 1 x0 (.int .i64 x11)).bind fun v4 =>
 (h.st 1 v4 v1).bind fun h5 =>
 (indexAV 1 x0 (.int .i64 (wr .i64 (x1 + x12)))).bind fun v6 =>
 (h5.st 1 v6 v3).bind fun h7 =>
 some (.normal, (slices_breakPatternsCmpFunc_int__c0_E x0 (.int .i64 x1) (.int .i64 x8) x9 (.int .u64 x10) (.int .i64 (wr .i64 (x11 + 1)))), h7)

theorem slices_breakPatternsCmpFunc_int__eq (M : Env) (a0 : V) (a1 : Int) (a2 : Int) (a3 : V) (h : H) : evalF M F.slices_breakPatternsCmpFunc_int_ [a0, (.int .i64 a1), (.int .i64 a2), a3] h = slices_breakPatternsCmpFunc_int_ M a0 a1 a2 a3 h := by kernel_rfl

theorem slices_breakPatternsCmpFunc_int__c0_eq (M : Env) (x0 : V) (x1 : Int) (x8 : Int) (x9 : V) (x10 : Int) (x11 : Int) (h : H) : slices_breakPatternsCmpFunc_int__c0_B M (slices_breakPatternsCmpFunc_int__c0_E x0 (.int .i64 x1) (.int .i64 x8) x9 (.int .u64 x10) (.int .i64 x11)) h = slices_breakPatternsCmpFunc_int__c0_S M x0 x1 x8 x9 x10 x11 h := by kernel_rfl

theorem slices_breakPatternsCmpFunc_int__c0_e0_eq (M : Env) (h : H) : slices_breakPatternsCmpFunc_int__K1 M (.exit 0) slices_breakPatternsCmpFunc_int__c0_O h = slices_breakPatternsCmpFunc_int__c0_e0 M h := by kernel_rfl

theorem slices_breakPatternsCmpFunc_int__c3_eq (M : Env) (x0 : V) (x1 : Int) (x8 : Int) (x9 : V) (x10 : Int) (x11 : Int) (h : H) : slices_breakPatternsCmpFunc_int__c3_B M (slices_breakPatternsCmpFunc_int__c3_E x0 (.int .i64 x1) (.int .i64 x8) x9 (.int .u64 x10) (.int .i64 x11)) h = slices_breakPatternsCmpFunc_int__c3_S M x0 x1 x8 x9 x10 x11 h := by kernel_rfl

theorem slices_breakPatternsCmpFunc_int__c3_n_eq (M : Env) (x0 : V) (x1 : Int) (x8 : Int) (x9 : V) (x10 : Int) (x11 : Int) (x35 : Bool) (h : H) : slices_breakPatternsCmpFunc_int__K4 M .normal (slices_breakPatternsCmpFunc_int__c3_O x0 (.int .i64 x1) (.int .i64 x8) x9 (.int .u64 x10) (.int .i64 x11) (.bool x35)) h = slices_breakPatternsCmpFunc_int__c3_n M x0 x1 x8 x9 x10 x11 x35 h := by kernel_rfl

theorem slices_breakPatternsCmpFunc_int__c6_eq (M : Env) (x0 : V) (x1 : Int) (x8 : Int) (x9 : V) (x10 : Int) (x11 : Int) (h : H) : slices_breakPatternsCmpFunc_int__c6_B M (slices_breakPatternsCmpFunc_int__c6_E x0 (.int .i64 x1) (.int .i64 x8) x9 (.int .u64 x10) (.int .i64 x11)) h = slices_breakPatternsCmpFunc_int__c6_S M x0 x1 x8 x9 x10 x11 h := by kernel_rfl

theorem slices_breakPatternsCmpFunc_int__c6_n_eq (M : Env) (x0 : V) (x1 : Int) (x8 : Int) (x9 : V) (x10 : Int) (x11 : Int) (x12 : Int) (h : H) : slices_breakPatternsCmpFunc_int__K7 M .normal (slices_breakPatternsCmpFunc_int__c6_O x0 (.int .i64 x1) (.int .i64 x8) x9 (.int .u64 x10) (.int .i64 x11) (.int .i64 x12)) h = slices_breakPatternsCmpFunc_int__c6_n M x0 x1 x8 x9 x10 x11 x12 h := by kernel_rfl

theorem slices_breakPatternsCmpFunc_int__c8_eq (M : Env) (x0 : V) (x1 : Int) (x8 : Int) (x9 : V) (x10 : Int) (x11 : Int) (x12 : Int) (h : H) : slices_breakPatternsCmpFunc_int__c8_B M (slices_breakPatternsCmpFunc_int__c8_E x0 (.int .i64 x1) (.int .i64 x8) x9 (.int .u64 x10) (.int .i64 x11) (.int .i64 x12)) h = slices_breakPatternsCmpFunc_int__c8_S M x0 x1 x8 x9 x10 x11 x12 h := by kernel_rfl

theorem slices_breakPatternsCmpFunc_int__c8_n_eq (M : Env) (x0 : V) (x1 : Int) (x8 : Int) (x9 : V) (x10 : Int) (x11 : Int) (x12 : Int) (h : H) : slices_breakPatternsCmpFunc_int__K8 M .normal (slices_breakPatternsCmpFunc_int__c8_O x0 (.int .i64 x1) (.int .i64 x8) x9 (.int .u64 x10) (.int .i64 x11) (.int .i64 x12)) h = slices_breakPatternsCmpFunc_int__c8_n M x0 x1 x8 x9 x10 x11 x12 h := by kernel_rfl

end Wm.S
end

section
namespace Wm.S
open Wm
set_option maxRecDepth 100000
set_option linter.unusedVariables false


def slices_xorshift_Next (M : Env) (a0 : V) (h : H) : Option (V × H) :=
 (nilc a0).bind fun v0 =>
 (h.ld1 v0).bind fun v1 =>
 (nilc a0).bind fun v2 =>
 (h.ld1 v2).bind fun v3 =>
 (asI .u64 v3).bind fun n4 =>
 (asI .u64 v1).bind fun n5 =>
 (nilc a0).bind fun v6 =>
 (h.st 1 v6 (.int .u64 (xor64 n5 (wr .u64 (n4 * 2 ^ (min (Int.toNat 13) (Go.IntKind.bits .u64))))))).bind fun h7 =>
 (nilc a0).bind fun v8 =>
 (h7.ld1 v8).bind fun v9 =>
 (nilc a0).bind fun v10 =>
 (h7.ld1 v10).bind fun v11 =>
 (asI .u64 v11).bind fun n12 =>
 (asI .u64 v9).bind fun n13 =>
 (nilc a0).bind fun v14 =>
 (h7.st 1 v14 (.int .u64 (xor64 n13 (n12 / 2 ^ (min (Int.toNat 7) (Go.IntKind.bits .u64)))))).bind fun h15 =>
 (nilc a0).bind fun v16 =>
 (h15.ld1 v16).bind fun v17 =>
 (nilc a0).bind fun v18 =>
 (h15.ld1 v18).bind fun v19 =>
 (asI .u64 v19).bind fun n20 =>
 (asI .u64 v17).bind fun n21 =>
 (nilc a0).bind fun v22 =>
 (h15.st 1 v22 (.int .u64 (xor64 n21 (wr .u64 (n20 * 2 ^ (min (Int.toNat 17) (Go.IntKind.bits .u64))))))).bind fun h23 =>
 (nilc a0).bind fun v24 =>
 (h23.ld1 v24).bind fun v25 =>
 some (v25, h23)

theorem slices_xorshift_Next_eq (M : Env) (a0 : V) (h : H) : evalF M F.slices_xorshift_Next [a0] h = slices_xorshift_Next M a0 h := by kernel_rfl

end Wm.S
end

section
namespace Wm.S
open Wm
set_option maxRecDepth 100000
set_option linter.unusedVariables false


def slices_order2CmpFunc_int_ (M : Env) (a0 : V) (a1 : Int) (a2 : Int) (a3 : V) (a4 : V) (h : H) : Option (V × H) :=
 (indexAV 1 a0 (.int .i64 a2)).bind fun v0 =>
 (h.ld1 v0).bind fun v1 =>
 (indexAV 1 a0 (.int .i64 a1)).bind fun v2 =>
 (h.ld1 v2).bind fun v3 =>
 callFn M a4 [v1, v3] h fun p4 =>
 (asI .i64 p4.1).bind fun n5 =>
 match (decide (n5 < 0)) with
 | true => (
 (nilc a3).bind fun v6 =>
 (p4.2.ld1 v6).bind fun v7 =>
 (asI .i64 v7).bind fun n8 =>
 (nilc a3).bind fun v9 =>
 (p4.2.st 1 v9 (.int .i64 (wr .i64 (n8 + 1)))).bind fun h10 =>
 some ((.tup [(.int .i64 a2), (.int .i64 a1)]), h10))
 | false => (
 some ((.tup [(.int .i64 a1), (.int .i64 a2)]), p4.2))

theorem slices_order2CmpFunc_int__eq (M : Env) (a0 : V) (a1 : Int) (a2 : Int) (a3 : V) (a4 : V) (h : H) : evalF M F.slices_order2CmpFunc_int_ [a0, (.int .i64 a1), (.int .i64 a2), a3, a4] h = slices_order2CmpFunc_int_ M a0 a1 a2 a3 a4 h := by kernel_rfl

end Wm.S
end

section
namespace Wm.S
open Wm
set_option maxRecDepth 100000
set_option linter.unusedVariables false


def slices_medianCmpFunc_int_ (M : Env) (a0 : V) (a1 : Int) (a2 : Int) (a3 : Int) (a4 : V) (a5 : V) (h : H) : Option (V × H) :=
 (M.call 512 [a0, (.int .i64 a1), (.int .i64 a2), a4, a5] h).bind fun p0 =>
 match p0.1 with
 | .tup vs1 => ((vs1[0]?).bind fun v2 =>
 match p0.1 with
 | .tup vs3 => ((vs3[1]?).bind fun v4 =>
 (M.call 512 [a0, v4, (.int .i64 a3), a4, a5] p0.2).bind fun p5 =>
 match p5.1 with
 | .tup vs6 => ((vs6[0]?).bind fun v7 =>
 match p5.1 with
 | .tup vs8 => ((vs8[1]?).bind fun v9 =>
 (M.call 512 [a0, v2, v7, a4, a5] p5.2).bind fun p10 =>
 match p10.1 with
 | .tup vs11 => ((vs11[0]?).bind fun v12 =>
 match p10.1 with
 | .tup vs13 => ((vs13[1]?).bind fun v14 =>
 some (v14, p10.2))
 | _ => none)
 | _ => none)
 | _ => none)
 | _ => none)
 | _ => none)
 | _ => none

theorem slices_medianCmpFunc_int__eq (M : Env) (a0 : V) (a1 : Int) (a2 : Int) (a3 : Int) (a4 : V) (a5 : V) (h : H) : evalF M F.slices_medianCmpFunc_int_ [a0, (.int .i64 a1), (.int .i64 a2), (.int .i64 a3), a4, a5] h = slices_medianCmpFunc_int_ M a0 a1 a2 a3 a4 a5 h := by kernel_rfl

end Wm.S
end

section
namespace Wm.S
open Wm
set_option maxRecDepth 100000
set_option linter.unusedVariables false


def slices_medianAdjacentCmpFunc_int_ (M : Env) (a0 : V) (a1 : Int) (a2 : V) (a3 : V) (h : H) : Option (V × H) :=
 (M.call 491 [a0, (.int .i64 (wr .i64 (a1 - 1))), (.int .i64 a1), (.int .i64 (wr .i64 (a1 + 1))), a2, a3] h).bind fun p0 =>
 some (p0.1, p0.2)

theorem slices_medianAdjacentCmpFunc_int__eq (M : Env) (a0 : V) (a1 : Int) (a2 : V) (a3 : V) (h : H) : evalF M F.slices_medianAdjacentCmpFunc_int_ [a0, (.int .i64 a1), a2, a3] h = slices_medianAdjacentCmpFunc_int_ M a0 a1 a2 a3 h := by kernel_rfl

end Wm.S
end

section
namespace Wm.S
open Wm
set_option maxRecDepth 100000
set_option linter.unusedVariables false


def slices_choosePivotCmpFunc_int_ (M : Env) (a0 : V) (a1 : Int) (a2 : Int) (a3 : V) (h : H) : Option (V × H) :=
 let h0 := h.new (.cells [(.int .i64 0)] .rw)
 match (decide (8 ≤ (wr .i64 (a2 - a1)))) with
 | true => (
 match (decide (50 ≤ (wr .i64 (a2 - a1)))) with
 | true => (
 (M.call 490 [a0, (.int .i64 (wr .i64 (a1 + (wr .i64 ((wr .i64 (Int.tdiv (wr .i64 (a2 - a1)) 4)) * 1))))), (.ptr h.next 0), a3] h0).bind fun p1 =>
 (M.call 490 [a0, (.int .i64 (wr .i64 (a1 + (wr .i64 ((wr .i64 (Int.tdiv (wr .i64 (a2 - a1)) 4)) * 2))))), (.ptr h.next 0), a3] p1.2).bind fun p2 =>
 (M.call 490 [a0, (.int .i64 (wr .i64 (a1 + (wr .i64 ((wr .i64 (Int.tdiv (wr .i64 (a2 - a1)) 4)) * 3))))), (.ptr h.next 0), a3] p2.2).bind fun p3 =>
 (M.call 491 [a0, p1.1, p2.1, p3.1, (.ptr h.next 0), a3] p3.2).bind fun p4 =>
 (p4.2.ld1 (.ptr h.next 0)).bind fun v5 =>
 (asI .i64 v5).bind fun n6 =>
 match (decide (n6 = 0)) with
 | true => (
 some ((.tup [p4.1, (.int .i64 1)]), p4.2))
 | false => (
 (asI .i64 v5).bind fun n7 =>
 match (decide (n7 = 12)) with
 | true => (
 some ((.tup [p4.1, (.int .i64 2)]), p4.2))
 | false => (
 some ((.tup [p4.1, (.int .i64 0)]), p4.2))))
 | false => (
 (M.call 491 [a0, (.int .i64 (wr .i64 (a1 + (wr .i64 ((wr .i64 (Int.tdiv (wr .i64 (a2 - a1)) 4)) * 1))))), (.int .i64 (wr .i64 (a1 + (wr .i64 ((wr .i64 (Int.tdiv (wr .i64 (a2 - a1)) 4)) * 2))))), (.int .i64 (wr .i64 (a1 + (wr .i64 ((wr .i64 (Int.tdiv (wr .i64 (a2 - a1)) 4)) * 3))))), (.ptr h.next 0), a3] h0).bind fun p1 =>
 (p1.2.ld1 (.ptr h.next 0)).bind fun v2 =>
 (asI .i64 v2).bind fun n3 =>
 match (decide (n3 = 0)) with
 | true => (
 some ((.tup [p1.1, (.int .i64 1)]), p1.2))
 | false => (
 (asI .i64 v2).bind fun n4 =>
 match (decide (n4 = 12)) with
 | true => (
 some ((.tup [p1.1, (.int .i64 2)]), p1.2))
 | false => (
 some ((.tup [p1.1, (.int .i64 0)]), p1.2)))))
 | false => (
 (h0.ld1 (.ptr h.next 0)).bind fun v1 =>
 (asI .i64 v1).bind fun n2 =>
 match (decide (n2 = 0)) with
 | true => (
 some ((.tup [(.int .i64 (wr .i64 (a1 + (wr .i64 ((wr .i64 (Int.tdiv (wr .i64 (a2 - a1)) 4)) * 2))))), (.int .i64 1)]), h0))
 | false => (
 (asI .i64 v1).bind fun n3 =>
 match (decide (n3 = 12)) with
 | true => (
 some ((.tup [(.int .i64 (wr .i64 (a1 + (wr .i64 ((wr .i64 (Int.tdiv (wr .i64 (a2 - a1)) 4)) * 2))))), (.int .i64 2)]), h0))
 | false => (
 some ((.tup [(.int .i64 (wr .i64 (a1 + (wr .i64 ((wr .i64 (Int.tdiv (wr .i64 (a2 - a1)) 4)) * 2))))), (.int .i64 0)]), h0))))

theorem slices_choosePivotCmpFunc_int__eq (M : Env) (a0 : V) (a1 : Int) (a2 : Int) (a3 : V) (h : H) : evalF M F.slices_choosePivotCmpFunc_int_ [a0, (.int .i64 a1), (.int .i64 a2), a3] h = slices_choosePivotCmpFunc_int_ M a0 a1 a2 a3 h := by kernel_rfl

end Wm.S
end

section
namespace Wm.S
open Wm
set_option maxRecDepth 100000
set_option linter.unusedVariables false

def slices_pdqsortCmpFunc_int__c0_B (M : Env) : List V → H → Option (AX × List V × H) :=
 fun env h => evalC M F.slices_pdqsortCmpFunc_int__c0 env h fun x env h => match x with
 | .normal => some (.normal, keepOf [0, 1, 2, 3, 4, 10, 11] 0 env, h)
 | x => some (x, keepOf [] 0 env, h)

def slices_pdqsortCmpFunc_int__c0_E (x0 x1 x2 x3 x4 x10 x11 : V) : List V := x0 :: x1 :: x2 :: x3 :: x4 :: dd 5 (x10 :: x11 :: dd 136 [])
def slices_pdqsortCmpFunc_int__c0_O : List V := dd 148 []

def slices_pdqsortCmpFunc_int__c2_B (M : Env) : List V → H → Option (AX × List V × H) :=
 fun env h => evalC M F.slices_pdqsortCmpFunc_int__c2 env h fun x env h => some (x, keepOf [0, 1, 2, 3, 4, 10, 11, 12] 0 env, h)

def slices_pdqsortCmpFunc_int__c2_E (x0 x1 x2 x3 x4 x10 x11 x12 : V) : List V := x0 :: x1 :: x2 :: x3 :: x4 :: dd 5 (x10 :: x11 :: x12 :: dd 135 [])
def slices_pdqsortCmpFunc_int__c2_O (x0 x1 x2 x3 x4 x10 x11 x12 : V) : List V := x0 :: x1 :: x2 :: x3 :: x4 :: dd 5 (x10 :: x11 :: x12 :: dd 135 [])

def slices_pdqsortCmpFunc_int__c4_B (M : Env) : List V → H → Option (AX × List V × H) :=
 fun env h => evalC M F.slices_pdqsortCmpFunc_int__c4 env h fun x env h => some (x, keepOf [0, 1, 2, 3, 4, 10, 11, 12, 13, 14] 0 env, h)

def slices_pdqsortCmpFunc_int__c4_E (x0 x1 x2 x3 x4 x10 x11 x12 x13 x14 : V) : List V := x0 :: x1 :: x2 :: x3 :: x4 :: dd 5 (x10 :: x11 :: x12 :: x13 :: x14 :: dd 133 [])
def slices_pdqsortCmpFunc_int__c4_O (x0 x1 x2 x3 x4 x10 x11 x12 x13 x14 : V) : List V := x0 :: x1 :: x2 :: x3 :: x4 :: dd 5 (x10 :: x11 :: x12 :: x13 :: x14 :: dd 133 [])

def slices_pdqsortCmpFunc_int__c6_B (M : Env) : List V → H → Option (AX × List V × H) :=
 fun env h => evalC M F.slices_pdqsortCmpFunc_int__c6 env h fun x env h => some (x, keepOf [0, 1, 2, 3, 4, 10, 11, 12, 13] 0 env, h)

def slices_pdqsortCmpFunc_int__c6_E (x0 x1 x2 x3 x4 x10 x11 x12 x13 x14 : V) : List V := x0 :: x1 :: x2 :: x3 :: x4 :: dd 5 (x10 :: x11 :: x12 :: x13 :: x14 :: dd 133 [])
def slices_pdqsortCmpFunc_int__c6_O (x0 x1 x2 x3 x4 x10 x11 x12 x13 : V) : List V := x0 :: x1 :: x2 :: x3 :: x4 :: dd 5 (x10 :: x11 :: x12 :: x13 :: dd 134 [])

def slices_pdqsortCmpFunc_int__c8_B (M : Env) : List V → H → Option (AX × List V × H) :=
 fun env h => evalC M F.slices_pdqsortCmpFunc_int__c8 env h fun x env h => some (x, keepOf [0, 1, 2, 3, 4, 10, 11, 12, 13, 75] 0 env, h)

def slices_pdqsortCmpFunc_int__c8_E (x0 x1 x2 x3 x4 x10 x11 x12 x13 x14 : V) : List V := x0 :: x1 :: x2 :: x3 :: x4 :: dd 5 (x10 :: x11 :: x12 :: x13 :: x14 :: dd 133 [])
def slices_pdqsortCmpFunc_int__c8_O (x0 x1 x2 x3 x4 x10 x11 x12 x13 x75 : V) : List V := x0 :: x1 :: x2 :: x3 :: x4 :: dd 5 (x10 :: x11 :: x12 :: x13 :: dd 61 (x75 :: dd 72 []))

def slices_pdqsortCmpFunc_int__c10_B (M : Env) : List V → H → Option (AX × List V × H) :=
 fun env h => evalC M F.slices_pdqsortCmpFunc_int__c10 env h fun x env h => some (x, keepOf [0, 1, 2, 3, 4, 10, 11, 12, 13] 0 env, h)

def slices_pdqsortCmpFunc_int__c10_E (x0 x1 x2 x3 x4 x10 x11 x12 x13 : V) : List V := x0 :: x1 :: x2 :: x3 :: x4 :: dd 5 (x10 :: x11 :: x12 :: x13 :: dd 134 [])
def slices_pdqsortCmpFunc_int__c10_O (x0 x1 x2 x3 x4 x10 x11 x12 x13 : V) : List V := x0 :: x1 :: x2 :: x3 :: x4 :: dd 5 (x10 :: x11 :: x12 :: x13 :: dd 134 [])

def slices_pdqsortCmpFunc_int__K0 (M : Env) : AX → List V → H → Option (V × H) :=
 fun x env h => fin F.slices_pdqsortCmpFunc_int_ x env h

def slices_pdqsortCmpFunc_int__K1 (M : Env) : AX → List V → H → Option (V × H) :=
 fun x env h => match x with | .exit j => (match Nat.beq j 0 with | true => slices_pdqsortCmpFunc_int__K0 M .normal env h | false => slices_pdqsortCmpFunc_int__K0 M (.exit j) env h) | x => slices_pdqsortCmpFunc_int__K0 M x env h

def slices_pdqsortCmpFunc_int__K2 (M : Env) : AX → List V → H → Option (AX × List V × H) :=
 fun x env h => match x with | .normal => some (.normal, keepOf [0, 1, 2, 3, 4, 10, 11] 0 env, h) | x => some (x, keepOf [] 0 env, h)

def slices_pdqsortCmpFunc_int__K3 (M : Env) : AX → List V → H → Option (AX × List V × H) :=
 fun x env h => match x with | .exit j => (match Nat.beq j 1 with | true => slices_pdqsortCmpFunc_int__K2 M .normal env h | false => slices_pdqsortCmpFunc_int__K2 M (.exit j) env h) | x => slices_pdqsortCmpFunc_int__K2 M x env h

def slices_pdqsortCmpFunc_int__K4 (M : Env) : AX → List V → H → Option (AX × List V × H) :=
 fun x env h => match x with | .normal => evalC M F.slices_pdqsortCmpFunc_int__c1 env h (fun x env h => slices_pdqsortCmpFunc_int__K3 M x env h) | x => slices_pdqsortCmpFunc_int__K3 M x env h

def slices_pdqsortCmpFunc_int__K5 (M : Env) : AX → List V → H → Option (AX × List V × H) :=
 fun x env h => match x with | .normal => evalC M F.slices_pdqsortCmpFunc_int__c3 env h (fun x env h => slices_pdqsortCmpFunc_int__K3 M x env h) | x => slices_pdqsortCmpFunc_int__K3 M x env h

def slices_pdqsortCmpFunc_int__K6 (M : Env) : AX → List V → H → Option (AX × List V × H) :=
 fun x env h => match x with | .normal => evalC M F.slices_pdqsortCmpFunc_int__c5 env h (fun x env h => slices_pdqsortCmpFunc_int__K3 M x env h) | x => slices_pdqsortCmpFunc_int__K3 M x env h

def slices_pdqsortCmpFunc_int__K7 (M : Env) : AX → List V → H → Option (AX × List V × H) :=
 fun x env h => some (x, keepOf [0, 1, 2, 3, 4, 10, 11, 12, 13] 0 env, h)

def slices_pdqsortCmpFunc_int__K8 (M : Env) : AX → List V → H → Option (AX × List V × H) :=
 fun x env h => match x with | .normal => evalC M F.slices_pdqsortCmpFunc_int__c7 env h (fun x env h => slices_pdqsortCmpFunc_int__K7 M x env h) | x => slices_pdqsortCmpFunc_int__K7 M x env h

def slices_pdqsortCmpFunc_int__K9 (M : Env) : AX → List V → H → Option (AX × List V × H) :=
 fun x env h => match x with | .normal => evalC M F.slices_pdqsortCmpFunc_int__c9 env h (fun x env h => slices_pdqsortCmpFunc_int__K3 M x env h) | x => slices_pdqsortCmpFunc_int__K3 M x env h

def slices_pdqsortCmpFunc_int_ (M : Env) (a0 : V) (a1 : Int) (a2 : Int) (a3 : Int) (a4 : V) (h : H) : Option (V × H) :=
 (M.loop (slices_pdqsortCmpFunc_int__c0_B M) (slices_pdqsortCmpFunc_int__c0_E a0 (.int .i64 a1) (.int .i64 a2) (.int .i64 a3) a4 (.bool true) (.bool true)) h).bind fun p0 => slices_pdqsortCmpFunc_int__K1 M p0.1 p0.2.1 p0.2.2

def slices_pdqsortCmpFunc_int__c0_S (M : Env) (x0 : V) (x1 : Int) (x2 : Int) (x3 : Int) (x4 : V) (x10 : Bool) (x11 : Bool) (h : H) : Option (AX × List V × H) :=
 match (decide ((wr .i64 (x2 - x1)) ≤ 12)) with
 | true => (
 (M.call 450 [x0, (.int .i64 x1), (.int .i64 x2), x4] h).bind fun p0 =>
 some (.ret, slices_pdqsortCmpFunc_int__c0_O, p0.2))
 | false => (
 match (decide (x3 = 0)) with
 | true => (
 (M.call 451 [x0, (.int .i64 x1), (.int .i64 x2), x4] h).bind fun p0 =>
 some (.ret, slices_pdqsortCmpFunc_int__c0_O, p0.2))
 | false => (
 (slices_pdqsortCmpFunc_int__c2_B M (slices_pdqsortCmpFunc_int__c2_E x0 (.int .i64 x1) (.int .i64 x2) (.int .i64 x3) x4 (.bool x10) (.bool x11) (.int .i64 (wr .i64 (x2 - x1)))) h).bind fun p0 => slices_pdqsortCmpFunc_int__K4 M p0.1 p0.2.1 p0.2.2))

def slices_pdqsortCmpFunc_int__c0_r (M : Env) (h : H) : Option (V × H) :=
 some ((.tup []), h)

def slices_pdqsortCmpFunc_int__c2_S (M : Env) (x0 : V) (x1 : Int) (x2 : Int) (x3 : Int) (x4 : V) (x10 : Bool) (x11 : Bool) (x12 : Int) (h : H) : Option (AX × List V × H) :=
 match (!x10) with
 | true => (
 (M.call 452 [x0, (.int .i64 x1), (.int .i64 x2), x4] h).bind fun p0 =>
 some (.normal, (slices_pdqsortCmpFunc_int__c2_O x0 (.int .i64 x1) (.int .i64 x2) (.int .i64 (wr .i64 (x3 - 1))) x4 (.bool x10) (.bool x11) (.int .i64 x12)), p0.2))
 | false => (
 some (.normal, (slices_pdqsortCmpFunc_int__c2_O x0 (.int .i64 x1) (.int .i64 x2) (.int .i64 x3) x4 (.bool x10) (.bool x11) (.int .i64 x12)), h))

def slices_pdqsortCmpFunc_int__c2_n (M : Env) (x0 : V) (x1 : Int) (x2 : Int) (x3 : Int) (x4 : V) (x10 : Bool) (x11 : Bool) (x12 : Int) (h : H) : Option (AX × List V × H) :=
 (M.call 453 [x0, (.int .i64 x1), (.int .i64 x2), x4] h).bind fun p0 =>
 match p0.1 with
 | .tup vs1 => ((vs1[0]?).bind fun v2 =>
 match p0.1 with
 | .tup vs3 => ((vs3[1]?).bind fun v4 =>
 (slices_pdqsortCmpFunc_int__c4_B M (slices_pdqsortCmpFunc_int__c4_E x0 (.int .i64 x1) (.int .i64 x2) (.int .i64 x3) x4 (.bool x10) (.bool x11) (.int .i64 x12) v2 v4) p0.2).bind fun p5 => slices_pdqsortCmpFunc_int__K5 M p5.1 p5.2.1 p5.2.2)
 | _ => none)
 | _ => none

def slices_pdqsortCmpFunc_int__c4_S (M : Env) (x0 : V) (x1 : Int) (x2 : Int) (x3 : Int) (x4 : V) (x10 : Bool) (x11 : Bool) (x12 : Int) (x13 : Int) (x14 : Int) (h : H) : Option (AX × List V × H) :=
 match (decide (x14 = 2)) with
 | true => (
 (M.call 454 [x0, (.int .i64 x1), (.int .i64 x2), x4] h).bind fun p0 =>
 some (.normal, (slices_pdqsortCmpFunc_int__c4_O x0 (.int .i64 x1) (.int .i64 x2) (.int .i64 x3) x4 (.bool x10) (.bool x11) (.int .i64 x12) (.int .i64 (wr .i64 ((wr .i64 (x2 - 1)) - (wr .i64 (x13 - x1))))) (.int .i64 1)), p0.2))
 | false => (
 some (.normal, (slices_pdqsortCmpFunc_int__c4_O x0 (.int .i64 x1) (.int .i64 x2) (.int .i64 x3) x4 (.bool x10) (.bool x11) (.int .i64 x12) (.int .i64 x13) (.int .i64 x14)), h))

def slices_pdqsortCmpFunc_int__c4_n (M : Env) (x0 : V) (x1 : Int) (x2 : Int) (x3 : Int) (x4 : V) (x10 : Bool) (x11 : Bool) (x12 : Int) (x13 : Int) (x14 : Int) (h : H) : Option (AX × List V × H) :=
 (slices_pdqsortCmpFunc_int__c6_B M (slices_pdqsortCmpFunc_int__c6_E x0 (.int .i64 x1) (.int .i64 x2) (.int .i64 x3) x4 (.bool x10) (.bool x11) (.int .i64 x12) (.int .i64 x13) (.int .i64 x14)) h).bind fun p0 => slices_pdqsortCmpFunc_int__K6 M p0.1 p0.2.1 p0.2.2

def slices_pdqsortCmpFunc_int__c6_S (M : Env) (x0 : V) (x1 : Int) (x2 : Int) (x3 : Int) (x4 : V) (x10 : Bool) (x11 : Bool) (x12 : Int) (x13 : Int) (x14 : Int) (h : H) : Option (AX × List V × H) :=
 (slices_pdqsortCmpFunc_int__c8_B M (slices_pdqsortCmpFunc_int__c8_E x0 (.int .i64 x1) (.int .i64 x2) (.int .i64 x3) x4 (.bool x10) (.bool x11) (.int .i64 x12) (.int .i64 x13) (.int .i64 x14)) h).bind fun p0 => slices_pdqsortCmpFunc_int__K8 M p0.1 p0.2.1 p0.2.2

def slices_pdqsortCmpFunc_int__c6_n (M : Env) (x0 : V) (x1 : Int) (x2 : Int) (x3 : Int) (x4 : V) (x10 : Bool) (x11 : Bool) (x12 : Int) (x13 : Int) (h : H) : Option (AX × List V × H) :=
 (slices_pdqsortCmpFunc_int__c10_B M (slices_pdqsortCmpFunc_int__c10_E x0 (.int .i64 x1) (.int .i64 x2) (.int .i64 x3) x4 (.bool x10) (.bool x11) (.int .i64 x12) (.int .i64 x13)) h).bind fun p0 => slices_pdqsortCmpFunc_int__K9 M p0.1 p0.2.1 p0.2.2

def slices_pdqsortCmpFunc_int__c6_r (M : Env) (x0 : V) (x1 : V) (x2 : V) (x3 : V) (x4 : V) (x10 : V) (x11 : V) (x12 : V) (x13 : V) (h : H) : Option (AX × List V × H) :=
 some (.ret, slices_pdqsortCmpFunc_int__c0_O, h)

def slices_pdqsortCmpFunc_int__c8_S (M : Env) (x0 : V) (x1 : Int) (x2 : Int) (x3 : Int) (x4 : V) (x10 : Bool) (x11 : Bool) (x12 : Int) (x13 : Int) (x14 : Int) (h : H) : Option (AX × List V × H) :=
 match x10 with
 | true => (
 match x11 with
 | true => (
 some (.normal, (slices_pdqsortCmpFunc_int__c8_O x0 (.int .i64 x1) (.int .i64 x2) (.int .i64 x3) x4 (.bool x10) (.bool x11) (.int .i64 x12) (.int .i64 x13) (.bool (decide (x14 = 1)))), h))
 | false => (
 some (.normal, (slices_pdqsortCmpFunc_int__c8_O x0 (.int .i64 x1) (.int .i64 x2) (.int .i64 x3) x4 (.bool x10) (.bool x11) (.int .i64 x12) (.int .i64 x13) (.bool false)), h)))
 | false => (
 some (.normal, (slices_pdqsortCmpFunc_int__c8_O x0 (.int .i64 x1) (.int .i64 x2) (.int .i64 x3) x4 (.bool x10) (.bool x11) (.int .i64 x12) (.int .i64 x13) (.bool false)), h))

def slices_pdqsortCmpFunc_int__c8_n (M : Env) (x0 : V) (x1 : Int) (x2 : Int) (x3 : Int) (x4 : V) (x10 : Bool) (x11 : Bool) (x12 : Int) (x13 : Int) (x75 : Bool) (h : H) : Option (AX × List V × H) :=
 match x75 with
 | true => (
 (M.call 455 [x0, (.int .i64 x1), (.int .i64 x2), x4] h).bind fun p0 =>
 (asB p0.1).bind fun b1 =>
 match b1 with
 | true => (
 some (.ret, (slices_pdqsortCmpFunc_int__c6_O x0 (.int .i64 x1) (.int .i64 x2) (.int .i64 x3) x4 (.bool x10) (.bool x11) (.int .i64 x12) (.int .i64 x13)), p0.2))
 | false => (
 some (.normal, (slices_pdqsortCmpFunc_int__c6_O x0 (.int .i64 x1) (.int .i64 x2) (.int .i64 x3) x4 (.bool x10) (.bool x11) (.int .i64 x12) (.int .i64 x13)), p0.2)))
 | false => (
 some (.normal, (slices_pdqsortCmpFunc_int__c6_O x0 (.int .i64 x1) (.int .i64 x2) (.int .i64 x3) x4 (.bool x10) (.bool x11) (.int .i64 x12) (.int .i64 x13)), h))

def slices_pdqsortCmpFunc_int__c10_S (M : Env) (x0 : V) (x1 : Int) (x2 : Int) (x3 : Int) (x4 : V) (x10 : Bool) (x11 : Bool) (x12 : Int) (x13 : Int) (h : H) : Option (AX × List V × H) :=
 match (decide (0 < x1)) with
 | true => (
 (indexAV 1 x0 (.int .i64 (wr .i64 (x1 - 1)))).bind fun v0 =>
 (h.ld1 v0).bind fun v1 =>
 (indexAV 1 x0 (.int .i64 x13)).bind fun v2 =>
 (h.ld1 v2).bind fun v3 =>
 callFn M x4 [v1, v3] h fun p4 =>
 (asI .i64 p4.1).bind fun n5 =>
 match (!(decide (n5 < 0))) with
 | true => (
 (M.call 456 [x0, (.int .i64 x1), (.int .i64 x2), (.int .i64 x13), x4] p4.2).bind fun p6 =>
 some ((.exit 1), (slices_pdqsortCmpFunc_int__c10_O x0 p6.1 (.int .i64 x2) (.int .i64 x3) x4 (.bool x10) (.bool x11) (.int .i64 x12) (.int .i64 x13)), p6.2))
 | false => (
 some (.normal, (slices_pdqsortCmpFunc_int__c10_O x0 (.int .i64 x1) (.int .i64 x2) (.int .i64 x3) x4 (.bool x10) (.bool x11) (.int .i64 x12) (.int .i64 x13)), p4.2)))
 | false => (
 some (.normal, (slices_pdqsortCmpFunc_int__c10_O x0 (.int .i64 x1) (.int .i64 x2) (.int .i64 x3) x4 (.bool x10) (.bool x11) (.int .i64 x12) (.int .i64 x13)), h))

def slices_pdqsortCmpFunc_int__c10_n (M : Env) (x0 : V) (x1 : Int) (x2 : Int) (x3 : Int) (x4 : V) (x10 : V) (x11 : V) (x12 : Int) (x13 : Int) (h : H) : Option (AX × List V × H) :=
 (M.call 457 [x0, (.int .i64 x1), (.int .i64 x2), (.int .i64 x13), x4] h).bind fun p0 =>
 match p0.1 with
 | .tup vs1 => ((vs1[0]?).bind fun v2 =>
 match p0.1 with
 | .tup vs3 => ((vs3[1]?).bind fun v4 =>
 (asI .i64 v2).bind fun n5 =>
 (asI .i64 v2).bind fun n6 =>
 match (decide ((wr .i64 (n5 - x1)) < (wr .i64 (x2 - n6)))) with
 | true => (
 (M.call 405 [x0, (.int .i64 x1), v2, (.int .i64 x3), x4] p0.2).bind fun p7 =>
 (asI .i64 v2).bind fun n8 =>
 some (.normal, (slices_pdqsortCmpFunc_int__c0_E x0 (.int .i64 (wr .i64 (n8 + 1))) (.int .i64 x2) (.int .i64 x3) x4 (.bool (decide ((wr .i64 (Int.tdiv x12 8)) ≤ (wr .i64 (n5 - x1))))) v4), p7.2))
 | false => (
 (asI .i64 v2).bind fun n7 =>
 (M.call 405 [x0, (.int .i64 (wr .i64 (n7 + 1))), (.int .i64 x2), (.int .i64 x3), x4] p0.2).bind fun p8 =>
 some (.normal, (slices_pdqsortCmpFunc_int__c0_E x0 (.int .i64 x1) v2 (.int .i64 x3) x4 (.bool (decide ((wr .i64 (Int.tdiv x12 8)) ≤ (wr .i64 (x2 - n6))))) v4), p8.2)))
 | _ => none)
 | _ => none

def slices_pdqsortCmpFunc_int__c10_e1 (M : Env) (x0 : V) (x1 : Int) (x2 : Int) (x3 : Int) (x4 : V) (x10 : Bool) (x11 : Bool) (x12 : V) (x13 : V) (h : H) : Option (AX × List V × H) :=
 some (.normal, (slices_pdqsortCmpFunc_int__c0_E x0 (.int .i64 x1) (.int .i64 x2) (.int .i64 x3) x4 (.bool x10) (.bool x11)), h)

theorem slices_pdqsortCmpFunc_int__eq (M : Env) (a0 : V) (a1 : Int) (a2 : Int) (a3 : Int) (a4 : V) (h : H) : evalF M F.slices_pdqsortCmpFunc_int_ [a0, (.int .i64 a1), (.int .i64 a2), (.int .i64 a3), a4] h = slices_pdqsortCmpFunc_int_ M a0 a1 a2 a3 a4 h := by kernel_rfl

theorem slices_pdqsortCmpFunc_int__c0_eq (M : Env) (x0 : V) (x1 : Int) (x2 : Int) (x3 : Int) (x4 : V) (x10 : Bool) (x11 : Bool) (h : H) : slices_pdqsortCmpFunc_int__c0_B M (slices_pdqsortCmpFunc_int__c0_E x0 (.int .i64 x1) (.int .i64 x2) (.int .i64 x3) x4 (.bool x10) (.bool x11)) h = slices_pdqsortCmpFunc_int__c0_S M x0 x1 x2 x3 x4 x10 x11 h := by kernel_rfl

theorem slices_pdqsortCmpFunc_int__c0_r_eq (M : Env) (h : H) : slices_pdqsortCmpFunc_int__K1 M .ret slices_pdqsortCmpFunc_int__c0_O h = slices_pdqsortCmpFunc_int__c0_r M h := by kernel_rfl

theorem slices_pdqsortCmpFunc_int__c2_eq (M : Env) (x0 : V) (x1 : Int) (x2 : Int) (x3 : Int) (x4 : V) (x10 : Bool) (x11 : Bool) (x12 : Int) (h : H) : slices_pdqsortCmpFunc_int__c2_B M (slices_pdqsortCmpFunc_int__c2_E x0 (.int .i64 x1) (.int .i64 x2) (.int .i64 x3) x4 (.bool x10) (.bool x11) (.int .i64 x12)) h = slices_pdqsortCmpFunc_int__c2_S M x0 x1 x2 x3 x4 x10 x11 x12 h := by kernel_rfl

theorem slices_pdqsortCmpFunc_int__c2_n_eq (M : Env) (x0 : V) (x1 : Int) (x2 : Int) (x3 : Int) (x4 : V) (x10 : Bool) (x11 : Bool) (x12 : Int) (h : H) : slices_pdqsortCmpFunc_int__K4 M .normal (slices_pdqsortCmpFunc_int__c2_O x0 (.int .i64 x1) (.int .i64 x2) (.int .i64 x3) x4 (.bool x10) (.bool x11) (.int .i64 x12)) h = slices_pdqsortCmpFunc_int__c2_n M x0 x1 x2 x3 x4 x10 x11 x12 h := by kernel_rfl

theorem slices_pdqsortCmpFunc_int__c4_eq (M : Env) (x0 : V) (x1 : Int) (x2 : Int) (x3 : Int) (x4 : V) (x10 : Bool) (x11 : Bool) (x12 : Int) (x13 : Int) (x14 : Int) (h : H) : slices_pdqsortCmpFunc_int__c4_B M (slices_pdqsortCmpFunc_int__c4_E x0 (.int .i64 x1) (.int .i64 x2) (.int .i64 x3) x4 (.bool x10) (.bool x11) (.int .i64 x12) (.int .i64 x13) (.int .i64 x14)) h = slices_pdqsortCmpFunc_int__c4_S M x0 x1 x2 x3 x4 x10 x11 x12 x13 x14 h := by kernel_rfl

theorem slices_pdqsortCmpFunc_int__c4_n_eq (M : Env) (x0 : V) (x1 : Int) (x2 : Int) (x3 : Int) (x4 : V) (x10 : Bool) (x11 : Bool) (x12 : Int) (x13 : Int) (x14 : Int) (h : H) : slices_pdqsortCmpFunc_int__K5 M .normal (slices_pdqsortCmpFunc_int__c4_O x0 (.int .i64 x1) (.int .i64 x2) (.int .i64 x3) x4 (.bool x10) (.bool x11) (.int .i64 x12) (.int .i64 x13) (.int .i64 x14)) h = slices_pdqsortCmpFunc_int__c4_n M x0 x1 x2 x3 x4 x10 x11 x12 x13 x14 h := by kernel_rfl

theorem slices_pdqsortCmpFunc_int__c6_eq (M : Env) (x0 : V) (x1 : Int) (x2 : Int) (x3 : Int) (x4 : V) (x10 : Bool) (x11 : Bool) (x12 : Int) (x13 : Int) (x14 : Int) (h : H) : slices_pdqsortCmpFunc_int__c6_B M (slices_pdqsortCmpFunc_int__c6_E x0 (.int .i64 x1) (.int .i64 x2) (.int .i64 x3) x4 (.bool x10) (.bool x11) (.int .i64 x12) (.int .i64 x13) (.int .i64 x14)) h = slices_pdqsortCmpFunc_int__c6_S M x0 x1 x2 x3 x4 x10 x11 x12 x13 x14 h := by kernel_rfl

theorem slices_pdqsortCmpFunc_int__c6_n_eq (M : Env) (x0 : V) (x1 : Int) (x2 : Int) (x3 : Int) (x4 : V) (x10 : Bool) (x11 : Bool) (x12 : Int) (x13 : Int) (h : H) : slices_pdqsortCmpFunc_int__K6 M .normal (slices_pdqsortCmpFunc_int__c6_O x0 (.int .i64 x1) (.int .i64 x2) (.int .i64 x3) x4 (.bool x10) (.bool x11) (.int .i64 x12) (.int .i64 x13)) h = slices_pdqsortCmpFunc_int__c6_n M x0 x1 x2 x3 x4 x10 x11 x12 x13 h := by kernel_rfl

theorem slices_pdqsortCmpFunc_int__c6_r_eq (M : Env) (x0 : V) (x1 : V) (x2 : V) (x3 : V) (x4 : V) (x10 : V) (x11 : V) (x12 : V) (x13 : V) (h : H) : slices_pdqsortCmpFunc_int__K6 M .ret (slices_pdqsortCmpFunc_int__c6_O x0 x1 x2 x3 x4 x10 x11 x12 x13) h = slices_pdqsortCmpFunc_int__c6_r M x0 x1 x2 x3 x4 x10 x11 x12 x13 h := by kernel_rfl

theorem slices_pdqsortCmpFunc_int__c8_eq (M : Env) (x0 : V) (x1 : Int) (x2 : Int) (x3 : Int) (x4 : V) (x10 : Bool) (x11 : Bool) (x12 : Int) (x13 : Int) (x14 : Int) (h : H) : slices_pdqsortCmpFunc_int__c8_B M (slices_pdqsortCmpFunc_int__c8_E x0 (.int .i64 x1) (.int .i64 x2) (.int .i64 x3) x4 (.bool x10) (.bool x11) (.int .i64 x12) (.int .i64 x13) (.int .i64 x14)) h = slices_pdqsortCmpFunc_int__c8_S M x0 x1 x2 x3 x4 x10 x11 x12 x13 x14 h := by kernel_rfl

theorem slices_pdqsortCmpFunc_int__c8_n_eq (M : Env) (x0 : V) (x1 : Int) (x2 : Int) (x3 : Int) (x4 : V) (x10 : Bool) (x11 : Bool) (x12 : Int) (x13 : Int) (x75 : Bool) (h : H) : slices_pdqsortCmpFunc_int__K8 M .normal (slices_pdqsortCmpFunc_int__c8_O x0 (.int .i64 x1) (.int .i64 x2) (.int .i64 x3) x4 (.bool x10) (.bool x11) (.int .i64 x12) (.int .i64 x13) (.bool x75)) h = slices_pdqsortCmpFunc_int__c8_n M x0 x1 x2 x3 x4 x10 x11 x12 x13 x75 h := by kernel_rfl

theorem slices_pdqsortCmpFunc_int__c10_eq (M : Env) (x0 : V) (x1 : Int) (x2 : Int) (x3 : Int) (x4 : V) (x10 : Bool) (x11 : Bool) (x12 : Int) (x13 : Int) (h : H) : slices_pdqsortCmpFunc_int__c10_B M (slices_pdqsortCmpFunc_int__c10_E x0 (.int .i64 x1) (.int .i64 x2) (.int .i64 x3) x4 (.bool x10) (.bool x11) (.int .i64 x12) (.int .i64 x13)) h = slices_pdqsortCmpFunc_int__c10_S M x0 x1 x2 x3 x4 x10 x11 x12 x13 h := by kernel_rfl

theorem slices_pdqsortCmpFunc_int__c10_n_eq (M : Env) (x0 : V) (x1 : Int) (x2 : Int) (x3 : Int) (x4 : V) (x10 : V) (x11 : V) (x12 : Int) (x13 : Int) (h : H) : slices_pdqsortCmpFunc_int__K9 M .normal (slices_pdqsortCmpFunc_int__c10_O x0 (.int .i64 x1) (.int .i64 x2) (.int .i64 x3) x4 x10 x11 (.int .i64 x12) (.int .i64 x13)) h = slices_pdqsortCmpFunc_int__c10_n M x0 x1 x2 x3 x4 x10 x11 x12 x13 h := by kernel_rfl

theorem slices_pdqsortCmpFunc_int__c10_e1_eq (M : Env) (x0 : V) (x1 : Int) (x2 : Int) (x3 : Int) (x4 : V) (x10 : Bool) (x11 : Bool) (x12 : V) (x13 : V) (h : H) : slices_pdqsortCmpFunc_int__K9 M (.exit 1) (slices_pdqsortCmpFunc_int__c10_O x0 (.int .i64 x1) (.int .i64 x2) (.int .i64 x3) x4 (.bool x10) (.bool x11) x12 x13) h = slices_pdqsortCmpFunc_int__c10_e1 M x0 x1 x2 x3 x4 x10 x11 x12 x13 h := by kernel_rfl

end Wm.S
end

section
namespace Wm.S
open Wm
set_option maxRecDepth 100000
set_option linter.unusedVariables false


def hist_Ahead (M : Env) (a0_0 : Int) (a0_1 : Int) (a0_2 : Int) (a0_3 : Int) (a0_4 : Int) (a0_5 : Bool) (a0_6 : Int) (a0_7 : Int) (a0_8 : Int) (a0_9 : Int) (a0_10 : Int) (a0_11 : Int) (a0_12 : Int) (a0_13 : Bool) (a1_0 : Int) (a1_1 : Int) (a1_2 : Int) (a1_3 : Int) (a1_4 : Int) (a1_5 : Bool) (a1_6 : Int) (a1_7 : Int) (a1_8 : Int) (a1_9 : Int) (a1_10 : Int) (a1_11 : Int) (a1_12 : Int) (a1_13 : Bool) (h : H) : Option (V × H) :=
 let h0 := h.new (.cells [(.int .i64 a0_0), (.int .i64 a0_1), (.int .i64 a0_2), (.int .i64 a0_3), (.int .i64 a0_4), (.bool a0_5), (.int .i64 a0_6), (.int .i64 a0_7), (.int .u64 a0_8), (.int .u64 a0_9), (.int .u64 a0_10), (.int .i64 a0_11), (.int .u64 a0_12), (.bool a0_13)] .rw)
 let h1 := h0.new (.cells [(.int .i64 a1_0), (.int .i64 a1_1), (.int .i64 a1_2), (.int .i64 a1_3), (.int .i64 a1_4), (.bool a1_5), (.int .i64 a1_6), (.int .i64 a1_7), (.int .u64 a1_8), (.int .u64 a1_9), (.int .u64 a1_10), (.int .i64 a1_11), (.int .u64 a1_12), (.bool a1_13)] .rw)
 (h1.ld1 (.ptr h.next 4)).bind fun v2 =>
 (h1.ld1 (.ptr h0.next 2)).bind fun v3 =>
 (asI .i64 v2).bind fun n4 =>
 (asI .i64 v3).bind fun n5 =>
 some ((.bool (decide (n4 < n5))), h1)

theorem hist_Ahead_eq (M : Env) (a0_0 : Int) (a0_1 : Int) (a0_2 : Int) (a0_3 : Int) (a0_4 : Int) (a0_5 : Bool) (a0_6 : Int) (a0_7 : Int) (a0_8 : Int) (a0_9 : Int) (a0_10 : Int) (a0_11 : Int) (a0_12 : Int) (a0_13 : Bool) (a1_0 : Int) (a1_1 : Int) (a1_2 : Int) (a1_3 : Int) (a1_4 : Int) (a1_5 : Bool) (a1_6 : Int) (a1_7 : Int) (a1_8 : Int) (a1_9 : Int) (a1_10 : Int) (a1_11 : Int) (a1_12 : Int) (a1_13 : Bool) (h : H) : evalF M F.hist_Ahead [(.agg [(.int .i64 a0_0), (.int .i64 a0_1), (.int .i64 a0_2), (.int .i64 a0_3), (.int .i64 a0_4), (.bool a0_5), (.int .i64 a0_6), (.int .i64 a0_7), (.int .u64 a0_8), (.int .u64 a0_9), (.int .u64 a0_10), (.int .i64 a0_11), (.int .u64 a0_12), (.bool a0_13)]), (.agg [(.int .i64 a1_0), (.int .i64 a1_1), (.int .i64 a1_2), (.int .i64 a1_3), (.int .i64 a1_4), (.bool a1_5), (.int .i64 a1_6), (.int .i64 a1_7), (.int .u64 a1_8), (.int .u64 a1_9), (.int .u64 a1_10), (.int .i64 a1_11), (.int .u64 a1_12), (.bool a1_13)])] h = hist_Ahead M a0_0 a0_1 a0_2 a0_3 a0_4 a0_5 a0_6 a0_7 a0_8 a0_9 a0_10 a0_11 a0_12 a0_13 a1_0 a1_1 a1_2 a1_3 a1_4 a1_5 a1_6 a1_7 a1_8 a1_9 a1_10 a1_11 a1_12 a1_13 h := by kernel_rfl

end Wm.S
end

section
namespace Wm.S
open Wm
set_option maxRecDepth 100000
set_option linter.unusedVariables false

def hist_Respects_c1_B (M : Env) : List V → H → Option (AX × List V × H) :=
 fun env h => evalC M F.hist_Respects_c1 env h fun x env h => match x with
 | .normal => some (.normal, keepOf [0, 5, 6, 17, 18, 19] 0 env, h)
 | x => some (x, keepOf [4] 0 env, h)

def hist_Respects_c1_E (x0 x5 x6 x17 x18 x19 : V) : List V := x0 :: dd 4 (x5 :: x6 :: dd 10 (x17 :: x18 :: x19 :: dd 49 []))
def hist_Respects_c1_O (x4 : V) : List V := dd 4 (x4 :: dd 64 [])

def hist_Respects_K0 (M : Env) : AX → List V → H → Option (V × H) :=
 fun x env h => fin F.hist_Respects x env h

def hist_Respects_K1 (M : Env) : AX → List V → H → Option (V × H) :=
 fun x env h => match x with | .normal => evalC M F.hist_Respects_c0 env h (fun x env h => hist_Respects_K0 M x env h) | x => hist_Respects_K0 M x env h

def hist_Respects_K2 (M : Env) : AX → List V → H → Option (V × H) :=
 fun x env h => match x with | .exit j => (match Nat.beq j 0 with | true => hist_Respects_K1 M .normal env h | false => hist_Respects_K1 M (.exit j) env h) | x => hist_Respects_K1 M x env h

def hist_Respects (M : Env) (a0 : V) (a1 : V) (h : H) : Option (V × H) :=
 (lenSl a1).bind fun n0 =>
 (lenSl a0).bind fun n1 =>
 match (!decide (((n0 : Nat) : Int) = ((n1 : Nat) : Int))) with
 | true => (
 some ((.bool false), h))
 | false => (
 (lenSl a0).bind fun n2 =>
 (h.mkSl 1 1 [(.bool false)] ((n2 : Nat) : Int) ((n2 : Nat) : Int)).bind fun p3 =>
 (lenSl a1).bind fun n4 =>
 (M.loop (hist_Respects_c1_B M) (hist_Respects_c1_E a0 p3.1 (.int .i64 0) a1 (.int .i64 ((n4 : Nat) : Int)) (.int .i64 0)) p3.2).bind fun p5 => hist_Respects_K2 M p5.1 p5.2.1 p5.2.2)

def hist_Respects_c1_S (M : Env) (x0 : V) (x5 : V) (x6 : Int) (x17 : V) (x18 : Int) (x19 : Int) (h : H) : Option (AX × List V × H) :=
 match (decide (x19 < x18)) with
 | true => (
 (indexAV 1 x17 (.int .i64 x19)).bind fun v0 =>
 (h.ld1 v0).bind fun v1 =>
 (asI .i64 v1).bind fun n2 =>
 match (decide (n2 < 0)) with
 | true => (
 some (.ret, (hist_Respects_c1_O (.bool false)), h))
 | false => (
 (lenSl x0).bind fun n3 =>
 (asI .i64 v1).bind fun n4 =>
 match (decide (((n3 : Nat) : Int) ≤ n4)) with
 | true => (
 some (.ret, (hist_Respects_c1_O (.bool false)), h))
 | false => (
 (indexAV 1 x5 v1).bind fun v5 =>
 (h.ld1 v5).bind fun v6 =>
 (asB v6).bind fun b7 =>
 match b7 with
 | true => (
 some (.ret, (hist_Respects_c1_O (.bool false)), h))
 | false => (
 (indexAV 1 x5 v1).bind fun v8 =>
 (h.st 1 v8 (.bool true)).bind fun h9 =>
 match (decide (0 < x19)) with
 | true => (
 (indexAV 14 x0 v1).bind fun v10 =>
 (ptrAt v10 4).bind fun v11 =>
 (h9.ld1 v11).bind fun v12 =>
 (asI .i64 v12).bind fun n13 =>
 match (decide (n13 < x6)) with
 | true => (
 some (.ret, (hist_Respects_c1_O (.bool false)), h9))
 | false => (
 match (decide (x19 = 0)) with
 | true => (
 (indexAV 14 x0 v1).bind fun v14 =>
 (ptrAt v14 2).bind fun v15 =>
 (h9.ld1 v15).bind fun v16 =>
 some (.normal, (hist_Respects_c1_E x0 x5 v16 x17 (.int .i64 x18) (.int .i64 (wr .i64 (x19 + 1)))), h9))
 | false => (
 (indexAV 14 x0 v1).bind fun v14 =>
 (ptrAt v14 2).bind fun v15 =>
 (h9.ld1 v15).bind fun v16 =>
 (asI .i64 v16).bind fun n17 =>
 match (decide (x6 < n17)) with
 | true => (
 (indexAV 14 x0 v1).bind fun v18 =>
 (ptrAt v18 2).bind fun v19 =>
 (h9.ld1 v19).bind fun v20 =>
 some (.normal, (hist_Respects_c1_E x0 x5 v20 x17 (.int .i64 x18) (.int .i64 (wr .i64 (x19 + 1)))), h9))
 | false => (
 some (.normal, (hist_Respects_c1_E x0 x5 (.int .i64 x6) x17 (.int .i64 x18) (.int .i64 (wr .i64 (x19 + 1)))), h9)))))
 | false => (
 match (decide (x19 = 0)) with
 | true => (
 (indexAV 14 x0 v1).bind fun v10 =>
 (ptrAt v10 2).bind fun v11 =>
 (h9.ld1 v11).bind fun v12 =>
 some (.normal, (hist_Respects_c1_E x0 x5 v12 x17 (.int .i64 x18) (.int .i64 (wr .i64 (x19 + 1)))), h9))
 | false => (
 (indexAV 14 x0 v1).bind fun v10 =>
 (ptrAt v10 2).bind fun v11 =>
 (h9.ld1 v11).bind fun v12 =>
 (asI .i64 v12).bind fun n13 =>
 match (decide (x6 < n13)) with
 | true => (
 (indexAV 14 x0 v1).bind fun v14 =>
 (ptrAt v14 2).bind fun v15 =>
 (h9.ld1 v15).bind fun v16 =>
 some (.normal, (hist_Respects_c1_E x0 x5 v16 x17 (.int .i64 x18) (.int .i64 (wr .i64 (x19 + 1)))), h9))
 | false => (
 some (.normal, (hist_Respects_c1_E x0 x5 (.int .i64 x6) x17 (.int .i64 x18) (.int .i64 (wr .i64 (x19 + 1)))), h9))))))))
 | false => (
 some ((.exit 0), (hist_Respects_c1_O .dead), h))

def hist_Respects_c1_e0 (M : Env) (x4 : V) (h : H) : Option (V × H) :=
 some ((.bool true), h)

def hist_Respects_c1_r (M : Env) (x4 : Bool) (h : H) : Option (V × H) :=
 some ((.bool x4), h)

theorem hist_Respects_eq (M : Env) (a0 : V) (a1 : V) (h : H) : evalF M F.hist_Respects [a0, a1] h = hist_Respects M a0 a1 h := by kernel_rfl

theorem hist_Respects_c1_eq (M : Env) (x0 : V) (x5 : V) (x6 : Int) (x17 : V) (x18 : Int) (x19 : Int) (h : H) : hist_Respects_c1_B M (hist_Respects_c1_E x0 x5 (.int .i64 x6) x17 (.int .i64 x18) (.int .i64 x19)) h = hist_Respects_c1_S M x0 x5 x6 x17 x18 x19 h := by kernel_rfl

theorem hist_Respects_c1_e0_eq (M : Env) (x4 : V) (h : H) : hist_Respects_K2 M (.exit 0) (hist_Respects_c1_O x4) h = hist_Respects_c1_e0 M x4 h := by kernel_rfl

theorem hist_Respects_c1_r_eq (M : Env) (x4 : Bool) (h : H) : hist_Respects_K2 M .ret (hist_Respects_c1_O (.bool x4)) h = hist_Respects_c1_r M x4 h := by kernel_rfl

end Wm.S
end

section
namespace Wm.S
open Wm
set_option maxRecDepth 100000
set_option linter.unusedVariables false


def slices_SortFunc___int_int_ (M : Env) (a0 : V) (a1 : V) (h : H) : Option (V × H) :=
 (lenSl a0).bind fun n0 =>
 (M.call 406 [(.int .u64 (wr .u64 ((n0 : Nat) : Int)))] h).bind fun p1 =>
 (M.call 405 [a0, (.int .i64 0), (.int .i64 ((n0 : Nat) : Int)), p1.1, a1] p1.2).bind fun p2 =>
 some ((.tup []), p2.2)

theorem slices_SortFunc___int_int__eq (M : Env) (a0 : V) (a1 : V) (h : H) : evalF M F.slices_SortFunc___int_int_ [a0, a1] h = slices_SortFunc___int_int_ M a0 a1 h := by kernel_rfl

end Wm.S
end

section
namespace Wm.S
open Wm
set_option maxRecDepth 100000
set_option linter.unusedVariables false

def hist_Right_c1_B (M : Env) : List V → H → Option (AX × List V × H) :=
 fun env h => evalC M F.hist_Right_c1 env h fun x env h => match x with
 | .normal => some (.normal, keepOf [1, 2, 5, 6, 18, 19] 0 env, h)
 | x => some (x, keepOf [1, 2, 5, 6] 0 env, h)

def hist_Right_c1_E (x1 x2 x5 x6 x18 x19 : V) : List V := dd 1 (x1 :: x2 :: dd 2 (x5 :: x6 :: dd 11 (x18 :: x19 :: dd 69 [])))
def hist_Right_c1_O (x1 x2 x5 x6 : V) : List V := dd 1 (x1 :: x2 :: dd 2 (x5 :: x6 :: dd 82 []))

def hist_Right_c3_B (M : Env) : List V → H → Option (AX × List V × H) :=
 fun env h => evalC M F.hist_Right_c3 env h fun x env h => match x with
 | .normal => some (.normal, keepOf [1, 2, 5, 30, 31, 32] 0 env, h)
 | x => some (x, keepOf [4] 0 env, h)

def hist_Right_c3_E (x1 x2 x5 x30 x31 x32 : V) : List V := dd 1 (x1 :: x2 :: dd 2 (x5 :: dd 24 (x30 :: x31 :: x32 :: dd 56 [])))
def hist_Right_c3_O (x4 : V) : List V := dd 4 (x4 :: dd 84 [])

def hist_Right_K0 (M : Env) : AX → List V → H → Option (V × H) :=
 fun x env h => fin F.hist_Right x env h

def hist_Right_K1 (M : Env) : AX → List V → H → Option (V × H) :=
 fun x env h => match x with | .normal => evalC M F.hist_Right_c0 env h (fun x env h => hist_Right_K0 M x env h) | x => hist_Right_K0 M x env h

def hist_Right_K2 (M : Env) : AX → List V → H → Option (V × H) :=
 fun x env h => match x with | .exit j => (match Nat.beq j 0 with | true => hist_Right_K1 M .normal env h | false => hist_Right_K1 M (.exit j) env h) | x => hist_Right_K1 M x env h

def hist_Right_K3 (M : Env) : AX → List V → H → Option (V × H) :=
 fun x env h => match x with | .normal => evalC M F.hist_Right_c2 env h (fun x env h => hist_Right_K0 M x env h) | x => hist_Right_K0 M x env h

def hist_Right_K4 (M : Env) : AX → List V → H → Option (V × H) :=
 fun x env h => match x with | .exit j => (match Nat.beq j 2 with | true => hist_Right_K3 M .normal env h | false => hist_Right_K3 M (.exit j) env h) | x => hist_Right_K3 M x env h

def hist_Right (M : Env) (a0 : V) (a1 : Int) (h : H) : Option (V × H) :=
 (boxc a0).bind fun cs0 =>
 let h1 := h.new (.cells cs0 .rw)
 let h2 := h1.new (.map [])
 (h2.ld1 (.ptr h.next 0)).bind fun v3 =>
 (lenSl v3).bind fun n4 =>
 (h2.mkSl 1 8 [(.int .i64 0)] ((n4 : Nat) : Int) ((n4 : Nat) : Int)).bind fun p5 =>
 (lenSl p5.1).bind fun n6 =>
 (M.loop (hist_Right_c1_B M) (hist_Right_c1_E (.int .i64 a1) (.ptr h.next 0) (.map h1.next) p5.1 (.int .i64 ((n6 : Nat) : Int)) (.int .i64 0)) p5.2).bind fun p7 => hist_Right_K2 M p7.1 p7.2.1 p7.2.2

def hist_Right_c1_S (M : Env) (x1 : Int) (x2 : V) (x5 : V) (x6 : V) (x18 : Int) (x19 : Int) (h : H) : Option (AX × List V × H) :=
 match (decide (x19 < x18)) with
 | true => (
 (indexAV 1 x6 (.int .i64 x19)).bind fun v0 =>
 (h.st 1 v0 (.int .i64 x19)).bind fun h1 =>
 some (.normal, (hist_Right_c1_E (.int .i64 x1) x2 x5 x6 (.int .i64 x18) (.int .i64 (wr .i64 (x19 + 1)))), h1))
 | false => (
 some ((.exit 0), (hist_Right_c1_O (.int .i64 x1) x2 x5 x6), h))

def hist_Right_c1_e0 (M : Env) (x1 : Int) (x2 : V) (x5 : V) (x6 : V) (h : H) : Option (V × H) :=
 (M.call 332 [x6, (.fn 333 [x2])] h).bind fun p0 =>
 (lenSl x6).bind fun n1 =>
 (M.loop (hist_Right_c3_B M) (hist_Right_c3_E (.int .i64 x1) x2 x5 x6 (.int .i64 ((n1 : Nat) : Int)) (.int .i64 0)) p0.2).bind fun p2 => hist_Right_K4 M p2.1 p2.2.1 p2.2.2

def hist_Right_c3_S (M : Env) (x1 : Int) (x2 : V) (x5 : V) (x30 : V) (x31 : Int) (x32 : Int) (h : H) : Option (AX × List V × H) :=
 match (decide (x32 < x31)) with
 | true => (
 (indexAV 1 x30 (.int .i64 x32)).bind fun v0 =>
 (h.ld1 v0).bind fun v1 =>
 (h.ld1 x2).bind fun v2 =>
 (indexAV 14 v2 v1).bind fun v3 =>
 (h.ldN 14 v3).bind fun v4 =>
 let h5 := h.new (.cells [(.int .i64 0), (.int .i64 0), (.int .i64 0), (.int .i64 0), (.int .i64 0), (.bool false), (.int .i64 0), (.int .i64 0), (.int .u64 0), (.int .u64 0), (.int .u64 0), (.int .i64 0), (.int .u64 0), (.bool false)] .rw)
 (h5.st 14 (.ptr h.next 0) v4).bind fun h6 =>
 (h6.ld1 (.ptr h.next 0)).bind fun v7 =>
 (asI .i64 v7).bind fun n8 =>
 match (decide (n8 < 0)) with
 | true => (
 some (.ret, (hist_Right_c3_O (.bool false)), h6))
 | false => (
 (h6.ld1 (.ptr h.next 0)).bind fun v9 =>
 (asI .i64 v9).bind fun n10 =>
 match (decide (x1 ≤ n10)) with
 | true => (
 some (.ret, (hist_Right_c3_O (.bool false)), h6))
 | false => (
 (h6.ld1 (.ptr h.next 2)).bind fun v11 =>
 (h6.ld1 (.ptr h.next 3)).bind fun v12 =>
 (asI .i64 v11).bind fun n13 =>
 (asI .i64 v12).bind fun n14 =>
 match (decide (n14 < n13)) with
 | true => (
 some (.ret, (hist_Right_c3_O (.bool false)), h6))
 | false => (
 (h6.ld1 (.ptr h.next 3)).bind fun v15 =>
 (h6.ld1 (.ptr h.next 4)).bind fun v16 =>
 (asI .i64 v15).bind fun n17 =>
 (asI .i64 v16).bind fun n18 =>
 match (decide (n18 < n17)) with
 | true => (
 some (.ret, (hist_Right_c3_O (.bool false)), h6))
 | false => (
 (h6.ld1 (.ptr h.next 0)).bind fun v19 =>
 (h6.look .int (.agg [(.int .i64 0), (.int .i64 0), (.int .i64 0), (.int .i64 0), (.int .i64 0), (.bool false), (.int .i64 0), (.int .i64 0), (.int .u64 0), (.int .u64 0), (.int .u64 0), (.int .i64 0), (.int .u64 0), (.bool false)]) true x5 v19).bind fun v20 =>
 match v20 with
 | .tup vs21 => ((vs21[0]?).bind fun v22 =>
 match v20 with
 | .tup vs23 => ((vs23[1]?).bind fun v24 =>
 let h25 := h6.new (.cells [(.int .i64 0), (.int .i64 0), (.int .i64 0), (.int .i64 0), (.int .i64 0), (.bool false), (.int .i64 0), (.int .i64 0), (.int .u64 0), (.int .u64 0), (.int .u64 0), (.int .i64 0), (.int .u64 0), (.bool false)] .rw)
 (h25.st 14 (.ptr h6.next 0) v22).bind fun h26 =>
 match v24 with
 | .bool true => (
 (h26.ld1 (.ptr h6.next 1)).bind fun v27 =>
 (h26.ld1 (.ptr h.next 1)).bind fun v28 =>
 (asI .i64 v27).bind fun n29 =>
 (asI .i64 v28).bind fun n30 =>
 match (decide (n29 = n30)) with
 | true => (
 some (.ret, (hist_Right_c3_O (.bool false)), h26))
 | false => (
 (h26.ldN 14 (.ptr h6.next 0)).bind fun v31 =>
 (h26.ldN 14 (.ptr h.next 0)).bind fun v32 =>
 (M.call 183 [v31, v32] h26).bind fun p33 =>
 (asB p33.1).bind fun b34 =>
 match (!b34) with
 | true => (
 some (.ret, (hist_Right_c3_O (.bool false)), p33.2))
 | false => (
 (p33.2.ld1 (.ptr h.next 0)).bind fun v35 =>
 (p33.2.ldN 14 (.ptr h.next 0)).bind fun v36 =>
 (p33.2.mapSet .int x5 v35 v36).bind fun h37 =>
 some (.normal, (hist_Right_c3_E (.int .i64 x1) x2 x5 x30 (.int .i64 x31) (.int .i64 (wr .i64 (x32 + 1)))), h37))))
 | .bool false => (
 (h26.ld1 (.ptr h.next 0)).bind fun v27 =>
 (h26.ldN 14 (.ptr h.next 0)).bind fun v28 =>
 (h26.mapSet .int x5 v27 v28).bind fun h29 =>
 some (.normal, (hist_Right_c3_E (.int .i64 x1) x2 x5 x30 (.int .i64 x31) (.int .i64 (wr .i64 (x32 + 1)))), h29))
 | .tup [] => (
 match v24 with
 | .bool true => (
 none)
 | .bool false => (
 (h26.ld1 (.ptr h.next 0)).bind fun v27 =>
 (h26.ldN 14 (.ptr h.next 0)).bind fun v28 =>
 (h26.mapSet .int x5 v27 v28).bind fun h29 =>
 some (.normal, (hist_Right_c3_E (.int .i64 x1) x2 x5 x30 (.int .i64 x31) (.int .i64 (wr .i64 (x32 + 1)))), h29))
 | .tup [] => (
 (asB v24).bind fun b27 =>
 (asB (match b27 with | true => (.tup []) | false => (.bool false) : V)).bind fun b28 =>
 match b28 with
 | true => (
 some (.ret, (hist_Right_c3_O (.bool false)), h26))
 | false => (
 (h26.ld1 (.ptr h.next 0)).bind fun v29 =>
 (h26.ldN 14 (.ptr h.next 0)).bind fun v30 =>
 (h26.mapSet .int x5 v29 v30).bind fun h31 =>
 some (.normal, (hist_Right_c3_E (.int .i64 x1) x2 x5 x30 (.int .i64 x31) (.int .i64 (wr .i64 (x32 + 1)))), h31)))
 | _ => none)
 | _ => none)
 | _ => none)
 | _ => none)))))
 | false => (
 some ((.exit 2), (hist_Right_c3_O .dead), h))

def hist_Right_c3_e2 (M : Env) (x4 : V) (h : H) : Option (V × H) :=
 some ((.bool true), h)

def hist_Right_c3_r (M : Env) (x4 : Bool) (h : H) : Option (V × H) :=
 some ((.bool x4), h)

theorem hist_Right_eq (M : Env) (a0 : V) (a1 : Int) (h : H) : evalF M F.hist_Right [a0, (.int .i64 a1)] h = hist_Right M a0 a1 h := by kernel_rfl

theorem hist_Right_c1_eq (M : Env) (x1 : Int) (x2 : V) (x5 : V) (x6 : V) (x18 : Int) (x19 : Int) (h : H) : hist_Right_c1_B M (hist_Right_c1_E (.int .i64 x1) x2 x5 x6 (.int .i64 x18) (.int .i64 x19)) h = hist_Right_c1_S M x1 x2 x5 x6 x18 x19 h := by kernel_rfl

theorem hist_Right_c1_e0_eq (M : Env) (x1 : Int) (x2 : V) (x5 : V) (x6 : V) (h : H) : hist_Right_K2 M (.exit 0) (hist_Right_c1_O (.int .i64 x1) x2 x5 x6) h = hist_Right_c1_e0 M x1 x2 x5 x6 h := by kernel_rfl

theorem hist_Right_c3_eq (M : Env) (x1 : Int) (x2 : V) (x5 : V) (x30 : V) (x31 : Int) (x32 : Int) (h : H) : hist_Right_c3_B M (hist_Right_c3_E (.int .i64 x1) x2 x5 x30 (.int .i64 x31) (.int .i64 x32)) h = hist_Right_c3_S M x1 x2 x5 x30 x31 x32 h := by kernel_rfl

theorem hist_Right_c3_e2_eq (M : Env) (x4 : V) (h : H) : hist_Right_K4 M (.exit 2) (hist_Right_c3_O x4) h = hist_Right_c3_e2 M x4 h := by kernel_rfl

theorem hist_Right_c3_r_eq (M : Env) (x4 : Bool) (h : H) : hist_Right_K4 M .ret (hist_Right_c3_O (.bool x4)) h = hist_Right_c3_r M x4 h := by kernel_rfl

end Wm.S
end

section
namespace Wm.S
open Wm
set_option maxRecDepth 100000
set_option linter.unusedVariables false


def hist_Right_1 (M : Env) (a0 : Int) (a1 : Int) (f0 : V) (h : H) : Option (V × H) :=
 (h.ld1 f0).bind fun v0 =>
 (indexAV 14 v0 (.int .i64 a0)).bind fun v1 =>
 (ptrAt v1 1).bind fun v2 =>
 (h.ld1 v2).bind fun v3 =>
 (h.ld1 f0).bind fun v4 =>
 (indexAV 14 v4 (.int .i64 a1)).bind fun v5 =>
 (ptrAt v5 1).bind fun v6 =>
 (h.ld1 v6).bind fun v7 =>
 (M.call 334 [v3, v7] h).bind fun p8 =>
 some (p8.1, p8.2)

theorem hist_Right_1_eq (M : Env) (a0 : Int) (a1 : Int) (f0 : V) (h : H) : evalF M F.hist_Right_1 [(.int .i64 a0), (.int .i64 a1), f0] h = hist_Right_1 M a0 a1 f0 h := by kernel_rfl

end Wm.S
end

section
namespace Wm.S
open Wm
set_option maxRecDepth 100000
set_option linter.unusedVariables false


def cmp_Compare_int_ (M : Env) (a0 : Int) (a1 : Int) (h : H) : Option (V × H) :=
 (M.call 407 [(.int .i64 a0)] h).bind fun p0 =>
 (M.call 407 [(.int .i64 a1)] p0.2).bind fun p1 =>
 (asB p0.1).bind fun b2 =>
 match b2 with
 | true => (
 (asB p1.1).bind fun b3 =>
 match b3 with
 | true => (
 some ((.int .i64 0), p1.2))
 | false => (
 some ((.int .i64 (-1)), p1.2)))
 | false => (
 (asB p1.1).bind fun b3 =>
 match b3 with
 | true => (
 some ((.int .i64 1), p1.2))
 | false => (
 match (decide (a0 < a1)) with
 | true => (
 some ((.int .i64 (-1)), p1.2))
 | false => (
 match (decide (a1 < a0)) with
 | true => (
 some ((.int .i64 1), p1.2))
 | false => (
 some ((.int .i64 0), p1.2)))))

theorem cmp_Compare_int__eq (M : Env) (a0 : Int) (a1 : Int) (h : H) : evalF M F.cmp_Compare_int_ [(.int .i64 a0), (.int .i64 a1)] h = cmp_Compare_int_ M a0 a1 h := by kernel_rfl

end Wm.S
end

section
namespace Wm.S
open Wm
set_option maxRecDepth 100000
set_option linter.unusedVariables false


def cmp_isNaN_int_ (M : Env) (a0 : Int) (h : H) : Option (V × H) :=
 some ((.bool (!decide (a0 = a0))), h)

theorem cmp_isNaN_int__eq (M : Env) (a0 : Int) (h : H) : evalF M F.cmp_isNaN_int_ [(.int .i64 a0)] h = cmp_isNaN_int_ M a0 h := by kernel_rfl

end Wm.S
end

section
namespace Wm.S
open Wm
set_option maxRecDepth 100000
set_option linter.unusedVariables false

def slices_stableCmpFunc_int__c1_B (M : Env) : List V → H → Option (AX × List V × H) :=
 fun env h => evalC M F.slices_stableCmpFunc_int__c1 env h fun x env h => match x with
 | .normal => some (.normal, keepOf [0, 1, 2, 6, 7, 8] 0 env, h)
 | x => some (x, keepOf [0, 1, 2, 6, 7] 0 env, h)

def slices_stableCmpFunc_int__c1_E (x0 x1 x2 x6 x7 x8 : V) : List V := x0 :: x1 :: x2 :: dd 3 (x6 :: x7 :: x8 :: dd 54 [])
def slices_stableCmpFunc_int__c1_O (x0 x1 x2 x6 x7 : V) : List V := x0 :: x1 :: x2 :: dd 3 (x6 :: x7 :: dd 55 [])

def slices_stableCmpFunc_int__c2_B (M : Env) : List V → H → Option (AX × List V × H) :=
 fun env h => evalC M F.slices_stableCmpFunc_int__c2 env h fun x env h => match x with
 | .normal => some (.normal, keepOf [0, 1, 2, 6] 0 env, h)
 | x => some (x, keepOf [] 0 env, h)

def slices_stableCmpFunc_int__c2_E (x0 x1 x2 x6 : V) : List V := x0 :: x1 :: x2 :: dd 3 (x6 :: dd 56 [])
def slices_stableCmpFunc_int__c2_O : List V := dd 63 []

def slices_stableCmpFunc_int__c4_B (M : Env) : List V → H → Option (AX × List V × H) :=
 fun env h => evalC M F.slices_stableCmpFunc_int__c4 env h fun x env h => match x with
 | .normal => some (.normal, keepOf [0, 1, 2, 6, 7, 8] 0 env, h)
 | x => some (x, keepOf [0, 1, 2, 6, 7] 0 env, h)

def slices_stableCmpFunc_int__c4_E (x0 x1 x2 x6 x7 x8 : V) : List V := x0 :: x1 :: x2 :: dd 3 (x6 :: x7 :: x8 :: dd 54 [])
def slices_stableCmpFunc_int__c4_O (x0 x1 x2 x6 x7 : V) : List V := x0 :: x1 :: x2 :: dd 3 (x6 :: x7 :: dd 55 [])

def slices_stableCmpFunc_int__K0 (M : Env) : AX → List V → H → Option (V × H) :=
 fun x env h => fin F.slices_stableCmpFunc_int_ x env h

def slices_stableCmpFunc_int__K1 (M : Env) : AX → List V → H → Option (V × H) :=
 fun x env h => match x with | .normal => evalC M F.slices_stableCmpFunc_int__c0 env h (fun x env h => slices_stableCmpFunc_int__K0 M x env h) | x => slices_stableCmpFunc_int__K0 M x env h

def slices_stableCmpFunc_int__K2 (M : Env) : AX → List V → H → Option (V × H) :=
 fun x env h => match x with | .exit j => (match Nat.beq j 0 with | true => slices_stableCmpFunc_int__K1 M .normal env h | false => slices_stableCmpFunc_int__K1 M (.exit j) env h) | x => slices_stableCmpFunc_int__K1 M x env h

def slices_stableCmpFunc_int__K3 (M : Env) : AX → List V → H → Option (V × H) :=
 fun x env h => match x with | .exit j => (match Nat.beq j 2 with | true => slices_stableCmpFunc_int__K0 M .normal env h | false => slices_stableCmpFunc_int__K0 M (.exit j) env h) | x => slices_stableCmpFunc_int__K0 M x env h

def slices_stableCmpFunc_int__K4 (M : Env) : AX → List V → H → Option (AX × List V × H) :=
 fun x env h => match x with | .normal => some (.normal, keepOf [0, 1, 2, 6] 0 env, h) | x => some (x, keepOf [] 0 env, h)

def slices_stableCmpFunc_int__K5 (M : Env) : AX → List V → H → Option (AX × List V × H) :=
 fun x env h => match x with | .exit j => (match Nat.beq j 3 with | true => slices_stableCmpFunc_int__K4 M .normal env h | false => slices_stableCmpFunc_int__K4 M (.exit j) env h) | x => slices_stableCmpFunc_int__K4 M x env h

def slices_stableCmpFunc_int__K6 (M : Env) : AX → List V → H → Option (AX × List V × H) :=
 fun x env h => match x with | .normal => evalC M F.slices_stableCmpFunc_int__c3 env h (fun x env h => slices_stableCmpFunc_int__K5 M x env h) | x => slices_stableCmpFunc_int__K5 M x env h

def slices_stableCmpFunc_int__K7 (M : Env) : AX → List V → H → Option (AX × List V × H) :=
 fun x env h => match x with | .exit j => (match Nat.beq j 4 with | true => slices_stableCmpFunc_int__K6 M .normal env h | false => slices_stableCmpFunc_int__K6 M (.exit j) env h) | x => slices_stableCmpFunc_int__K6 M x env h

def slices_stableCmpFunc_int_ (M : Env) (a0 : V) (a1 : Int) (a2 : V) (h : H) : Option (V × H) :=
 (M.loop (slices_stableCmpFunc_int__c1_B M) (slices_stableCmpFunc_int__c1_E a0 (.int .i64 a1) a2 (.int .i64 20) (.int .i64 0) (.int .i64 20)) h).bind fun p0 => slices_stableCmpFunc_int__K2 M p0.1 p0.2.1 p0.2.2

def slices_stableCmpFunc_int__c1_S (M : Env) (x0 : V) (x1 : Int) (x2 : V) (x6 : Int) (x7 : Int) (x8 : Int) (h : H) : Option (AX × List V × H) :=
 match (decide (x8 ≤ x1)) with
 | true => (
 (M.call 450 [x0, (.int .i64 x7), (.int .i64 x8), x2] h).bind fun p0 =>
 some (.normal, (slices_stableCmpFunc_int__c1_E x0 (.int .i64 x1) x2 (.int .i64 x6) (.int .i64 x8) (.int .i64 (wr .i64 (x8 + x6)))), p0.2))
 | false => (
 some ((.exit 0), (slices_stableCmpFunc_int__c1_O x0 (.int .i64 x1) x2 (.int .i64 x6) (.int .i64 x7)), h))

def slices_stableCmpFunc_int__c1_e0 (M : Env) (x0 : V) (x1 : Int) (x2 : V) (x6 : Int) (x7 : Int) (h : H) : Option (V × H) :=
 (M.call 450 [x0, (.int .i64 x7), (.int .i64 x1), x2] h).bind fun p0 =>
 (M.loop (slices_stableCmpFunc_int__c2_B M) (slices_stableCmpFunc_int__c2_E x0 (.int .i64 x1) x2 (.int .i64 x6)) p0.2).bind fun p1 => slices_stableCmpFunc_int__K3 M p1.1 p1.2.1 p1.2.2

def slices_stableCmpFunc_int__c2_S (M : Env) (x0 : V) (x1 : Int) (x2 : V) (x6 : Int) (h : H) : Option (AX × List V × H) :=
 match (decide (x6 < x1)) with
 | true => (
 (M.loop (slices_stableCmpFunc_int__c4_B M) (slices_stableCmpFunc_int__c4_E x0 (.int .i64 x1) x2 (.int .i64 x6) (.int .i64 0) (.int .i64 (wr .i64 (2 * x6)))) h).bind fun p0 => slices_stableCmpFunc_int__K7 M p0.1 p0.2.1 p0.2.2)
 | false => (
 some ((.exit 2), slices_stableCmpFunc_int__c2_O, h))

def slices_stableCmpFunc_int__c2_e2 (M : Env) (h : H) : Option (V × H) :=
 some ((.tup []), h)

def slices_stableCmpFunc_int__c4_S (M : Env) (x0 : V) (x1 : Int) (x2 : V) (x6 : Int) (x7 : Int) (x8 : Int) (h : H) : Option (AX × List V × H) :=
 match (decide (x8 ≤ x1)) with
 | true => (
 (M.call 460 [x0, (.int .i64 x7), (.int .i64 (wr .i64 (x7 + x6))), (.int .i64 x8), x2] h).bind fun p0 =>
 some (.normal, (slices_stableCmpFunc_int__c4_E x0 (.int .i64 x1) x2 (.int .i64 x6) (.int .i64 x8) (.int .i64 (wr .i64 (x8 + (wr .i64 (2 * x6)))))), p0.2))
 | false => (
 some ((.exit 4), (slices_stableCmpFunc_int__c4_O x0 (.int .i64 x1) x2 (.int .i64 x6) (.int .i64 x7)), h))

def slices_stableCmpFunc_int__c4_e4 (M : Env) (x0 : V) (x1 : Int) (x2 : V) (x6 : Int) (x7 : Int) (h : H) : Option (AX × List V × H) :=
 match (decide ((wr .i64 (x7 + x6)) < x1)) with
 | true => (
 (M.call 460 [x0, (.int .i64 x7), (.int .i64 (wr .i64 (x7 + x6))), (.int .i64 x1), x2] h).bind fun p0 =>
 some (.normal, (slices_stableCmpFunc_int__c2_E x0 (.int .i64 x1) x2 (.int .i64 (wr .i64 (x6 * 2)))), p0.2))
 | false => (
 some (.normal, (slices_stableCmpFunc_int__c2_E x0 (.int .i64 x1) x2 (.int .i64 (wr .i64 (x6 * 2)))), h))

theorem slices_stableCmpFunc_int__eq (M : Env) (a0 : V) (a1 : Int) (a2 : V) (h : H) : evalF M F.slices_stableCmpFunc_int_ [a0, (.int .i64 a1), a2] h = slices_stableCmpFunc_int_ M a0 a1 a2 h := by kernel_rfl

theorem slices_stableCmpFunc_int__c1_eq (M : Env) (x0 : V) (x1 : Int) (x2 : V) (x6 : Int) (x7 : Int) (x8 : Int) (h : H) : slices_stableCmpFunc_int__c1_B M (slices_stableCmpFunc_int__c1_E x0 (.int .i64 x1) x2 (.int .i64 x6) (.int .i64 x7) (.int .i64 x8)) h = slices_stableCmpFunc_int__c1_S M x0 x1 x2 x6 x7 x8 h := by kernel_rfl

theorem slices_stableCmpFunc_int__c1_e0_eq (M : Env) (x0 : V) (x1 : Int) (x2 : V) (x6 : Int) (x7 : Int) (h : H) : slices_stableCmpFunc_int__K2 M (.exit 0) (slices_stableCmpFunc_int__c1_O x0 (.int .i64 x1) x2 (.int .i64 x6) (.int .i64 x7)) h = slices_stableCmpFunc_int__c1_e0 M x0 x1 x2 x6 x7 h := by kernel_rfl

theorem slices_stableCmpFunc_int__c2_eq (M : Env) (x0 : V) (x1 : Int) (x2 : V) (x6 : Int) (h : H) : slices_stableCmpFunc_int__c2_B M (slices_stableCmpFunc_int__c2_E x0 (.int .i64 x1) x2 (.int .i64 x6)) h = slices_stableCmpFunc_int__c2_S M x0 x1 x2 x6 h := by kernel_rfl

theorem slices_stableCmpFunc_int__c2_e2_eq (M : Env) (h : H) : slices_stableCmpFunc_int__K3 M (.exit 2) slices_stableCmpFunc_int__c2_O h = slices_stableCmpFunc_int__c2_e2 M h := by kernel_rfl

theorem slices_stableCmpFunc_int__c4_eq (M : Env) (x0 : V) (x1 : Int) (x2 : V) (x6 : Int) (x7 : Int) (x8 : Int) (h : H) : slices_stableCmpFunc_int__c4_B M (slices_stableCmpFunc_int__c4_E x0 (.int .i64 x1) x2 (.int .i64 x6) (.int .i64 x7) (.int .i64 x8)) h = slices_stableCmpFunc_int__c4_S M x0 x1 x2 x6 x7 x8 h := by kernel_rfl

theorem slices_stableCmpFunc_int__c4_e4_eq (M : Env) (x0 : V) (x1 : Int) (x2 : V) (x6 : Int) (x7 : Int) (h : H) : slices_stableCmpFunc_int__K7 M (.exit 4) (slices_stableCmpFunc_int__c4_O x0 (.int .i64 x1) x2 (.int .i64 x6) (.int .i64 x7)) h = slices_stableCmpFunc_int__c4_e4 M x0 x1 x2 x6 x7 h := by kernel_rfl

end Wm.S
end

section
namespace Wm.S
open Wm
set_option maxRecDepth 100000
set_option linter.unusedVariables false


def slices_SortStableFunc___int_int_ (M : Env) (a0 : V) (a1 : V) (h : H) : Option (V × H) :=
 (lenSl a0).bind fun n0 =>
 (M.call 408 [a0, (.int .i64 ((n0 : Nat) : Int)), a1] h).bind fun p1 =>
 some ((.tup []), p1.2)

theorem slices_SortStableFunc___int_int__eq (M : Env) (a0 : V) (a1 : V) (h : H) : evalF M F.slices_SortStableFunc___int_int_ [a0, a1] h = slices_SortStableFunc___int_int_ M a0 a1 h := by kernel_rfl

end Wm.S
end

section
namespace Wm.S
open Wm
set_option maxRecDepth 100000
set_option linter.unusedVariables false


def hist_Order_1 (M : Env) (a0 : Int) (a1 : Int) (f0 : V) (h : H) : Option (V × H) :=
 (h.ld1 f0).bind fun v0 =>
 (indexAV 14 v0 (.int .i64 a0)).bind fun v1 =>
 (h.ldN 14 v1).bind fun v2 =>
 (h.ld1 f0).bind fun v3 =>
 (indexAV 14 v3 (.int .i64 a1)).bind fun v4 =>
 (h.ldN 14 v4).bind fun v5 =>
 let h6 := h.new (.cells [(.int .i64 0), (.int .i64 0), (.int .i64 0), (.int .i64 0), (.int .i64 0), (.bool false), (.int .i64 0), (.int .i64 0), (.int .u64 0), (.int .u64 0), (.int .u64 0), (.int .i64 0), (.int .u64 0), (.bool false)] .rw)
 let h7 := h6.new (.cells [(.int .i64 0), (.int .i64 0), (.int .i64 0), (.int .i64 0), (.int .i64 0), (.bool false), (.int .i64 0), (.int .i64 0), (.int .u64 0), (.int .u64 0), (.int .u64 0), (.int .i64 0), (.int .u64 0), (.bool false)] .rw)
 (h7.st 14 (.ptr h.next 0) v2).bind fun h8 =>
 match ckB (h8.ldN 14 v4) v5 with
 | true => (
 match ckB (h8.ld1 f0) v3 with
 | true => (
 (h8.st 14 (.ptr h6.next 0) v5).bind fun h9 =>
 (h9.ld1 (.ptr h.next 3)).bind fun v10 =>
 (h9.ld1 (.ptr h6.next 3)).bind fun v11 =>
 (h9.ldN 14 (.ptr h.next 0)).bind fun v12 =>
 (h9.ldN 14 (.ptr h6.next 0)).bind fun v13 =>
 (h9.ld1 (.ptr h.next 0)).bind fun v14 =>
 (h9.ld1 (.ptr h6.next 0)).bind fun v15 =>
 (h9.ld1 (.ptr h.next 1)).bind fun v16 =>
 (h9.ld1 (.ptr h6.next 1)).bind fun v17 =>
 (M.call 334 [v10, v11] h9).bind fun p18 =>
 match ckB (p18.2.ld1 (.ptr h6.next 1)) v17 with
 | true => (
 match ckB (p18.2.ld1 (.ptr h.next 1)) v16 with
 | true => (
 match ckB (p18.2.ld1 (.ptr h6.next 0)) v15 with
 | true => (
 match ckB (p18.2.ld1 (.ptr h.next 0)) v14 with
 | true => (
 match ckB (p18.2.ldN 14 (.ptr h6.next 0)) v13 with
 | true => (
 match ckB (p18.2.ldN 14 (.ptr h.next 0)) v12 with
 | true => (
 (M.call 338 [v12] p18.2).bind fun p19 =>
 match ckB (p19.2.ld1 (.ptr h6.next 1)) v17 with
 | true => (
 match ckB (p19.2.ld1 (.ptr h.next 1)) v16 with
 | true => (
 match ckB (p19.2.ld1 (.ptr h6.next 0)) v15 with
 | true => (
 match ckB (p19.2.ld1 (.ptr h.next 0)) v14 with
 | true => (
 match ckB (p19.2.ldN 14 (.ptr h6.next 0)) v13 with
 | true => (
 (M.call 338 [v13] p19.2).bind fun p20 =>
 match ckB (p20.2.ld1 (.ptr h6.next 1)) v17 with
 | true => (
 match ckB (p20.2.ld1 (.ptr h.next 1)) v16 with
 | true => (
 match ckB (p20.2.ld1 (.ptr h6.next 0)) v15 with
 | true => (
 match ckB (p20.2.ld1 (.ptr h.next 0)) v14 with
 | true => (
 (M.call 334 [p19.1, p20.1] p20.2).bind fun p21 =>
 match ckB (p21.2.ld1 (.ptr h6.next 1)) v17 with
 | true => (
 match ckB (p21.2.ld1 (.ptr h.next 1)) v16 with
 | true => (
 match ckB (p21.2.ld1 (.ptr h6.next 0)) v15 with
 | true => (
 match ckB (p21.2.ld1 (.ptr h.next 0)) v14 with
 | true => (
 (M.call 334 [v14, v15] p21.2).bind fun p22 =>
 match ckB (p22.2.ld1 (.ptr h6.next 1)) v17 with
 | true => (
 match ckB (p22.2.ld1 (.ptr h.next 1)) v16 with
 | true => (
 (M.call 334 [v16, v17] p22.2).bind fun p23 =>
 (fill (repl [(.int .i64 0)] 4) [] [(0, 1, .c p18.1), (1, 1, .c p21.1), (2, 1, .c p22.1), (3, 1, .c p23.1)]).bind fun cs24 =>
 let h25 := p23.2.new (.cells cs24 .rw)
 (M.call 337 [(.sl p23.2.next 0 4 (.ex 4))] h25).bind fun p26 =>
 some (p26.1, p26.2))
 | false => none)
 | false => none)
 | false => none)
 | false => none)
 | false => none)
 | false => none)
 | false => none)
 | false => none)
 | false => none)
 | false => none)
 | false => none)
 | false => none)
 | false => none)
 | false => none)
 | false => none)
 | false => none)
 | false => none)
 | false => none)
 | false => none)
 | false => none)
 | false => none)
 | false => none)
 | false => none

theorem hist_Order_1_eq (M : Env) (a0 : Int) (a1 : Int) (f0 : V) (h : H) : evalF M F.hist_Order_1 [(.int .i64 a0), (.int .i64 a1), f0] h = hist_Order_1 M a0 a1 f0 h := by kernel_rfl

end Wm.S
end

section
namespace Wm.S
open Wm
set_option maxRecDepth 100000
set_option linter.unusedVariables false

def cmp_Or_int__c1_B (M : Env) : List V → H → Option (AX × List V × H) :=
 fun env h => evalC M F.cmp_Or_int__c1 env h fun x env h => match x with
 | .normal => some (.normal, keepOf [3, 6, 7, 8] 0 env, h)
 | x => some (x, keepOf [2, 3] 0 env, h)

def cmp_Or_int__c1_E (x3 x6 x7 x8 : V) : List V := dd 3 (x3 :: dd 2 (x6 :: x7 :: x8 :: dd 9 []))
def cmp_Or_int__c1_O (x2 x3 : V) : List V := dd 2 (x2 :: x3 :: dd 14 [])

def cmp_Or_int__K0 (M : Env) : AX → List V → H → Option (V × H) :=
 fun x env h => fin F.cmp_Or_int_ x env h

def cmp_Or_int__K1 (M : Env) : AX → List V → H → Option (V × H) :=
 fun x env h => match x with | .normal => evalC M F.cmp_Or_int__c0 env h (fun x env h => cmp_Or_int__K0 M x env h) | x => cmp_Or_int__K0 M x env h

def cmp_Or_int__K2 (M : Env) : AX → List V → H → Option (V × H) :=
 fun x env h => match x with | .exit j => (match Nat.beq j 0 with | true => cmp_Or_int__K1 M .normal env h | false => cmp_Or_int__K1 M (.exit j) env h) | x => cmp_Or_int__K1 M x env h

def cmp_Or_int_ (M : Env) (a0 : V) (h : H) : Option (V × H) :=
 (lenSl a0).bind fun n0 =>
 (M.loop (cmp_Or_int__c1_B M) (cmp_Or_int__c1_E (.int .i64 0) a0 (.int .i64 ((n0 : Nat) : Int)) (.int .i64 0)) h).bind fun p1 => cmp_Or_int__K2 M p1.1 p1.2.1 p1.2.2

def cmp_Or_int__c1_S (M : Env) (x3 : Int) (x6 : V) (x7 : Int) (x8 : Int) (h : H) : Option (AX × List V × H) :=
 match (decide (x8 < x7)) with
 | true => (
 (indexAV 1 x6 (.int .i64 x8)).bind fun v0 =>
 (h.ld1 v0).bind fun v1 =>
 (asI .i64 v1).bind fun n2 =>
 match (!decide (n2 = x3)) with
 | true => (
 some (.ret, (cmp_Or_int__c1_O v1 (.int .i64 x3)), h))
 | false => (
 some (.normal, (cmp_Or_int__c1_E (.int .i64 x3) x6 (.int .i64 x7) (.int .i64 (wr .i64 (x8 + 1)))), h)))
 | false => (
 some ((.exit 0), (cmp_Or_int__c1_O .dead (.int .i64 x3)), h))

def cmp_Or_int__c1_e0 (M : Env) (x2 : V) (x3 : Int) (h : H) : Option (V × H) :=
 some ((.int .i64 x3), h)

def cmp_Or_int__c1_r (M : Env) (x2 : Int) (x3 : V) (h : H) : Option (V × H) :=
 some ((.int .i64 x2), h)

theorem cmp_Or_int__eq (M : Env) (a0 : V) (h : H) : evalF M F.cmp_Or_int_ [a0] h = cmp_Or_int_ M a0 h := by kernel_rfl

theorem cmp_Or_int__c1_eq (M : Env) (x3 : Int) (x6 : V) (x7 : Int) (x8 : Int) (h : H) : cmp_Or_int__c1_B M (cmp_Or_int__c1_E (.int .i64 x3) x6 (.int .i64 x7) (.int .i64 x8)) h = cmp_Or_int__c1_S M x3 x6 x7 x8 h := by kernel_rfl

theorem cmp_Or_int__c1_e0_eq (M : Env) (x2 : V) (x3 : Int) (h : H) : cmp_Or_int__K2 M (.exit 0) (cmp_Or_int__c1_O x2 (.int .i64 x3)) h = cmp_Or_int__c1_e0 M x2 x3 h := by kernel_rfl

theorem cmp_Or_int__c1_r_eq (M : Env) (x2 : Int) (x3 : V) (h : H) : cmp_Or_int__K2 M .ret (cmp_Or_int__c1_O (.int .i64 x2) x3) h = cmp_Or_int__c1_r M x2 x3 h := by kernel_rfl

end Wm.S
end

section
namespace Wm.S
open Wm
set_option maxRecDepth 100000
set_option linter.unusedVariables false


def hist_behind (M : Env) (a0_0 : Int) (a0_1 : Int) (a0_2 : Int) (a0_3 : Int) (a0_4 : Int) (a0_5 : Bool) (a0_6 : Int) (a0_7 : Int) (a0_8 : Int) (a0_9 : Int) (a0_10 : Int) (a0_11 : Int) (a0_12 : Int) (a0_13 : Bool) (h : H) : Option (V × H) :=
 let h0 := h.new (.cells [(.int .i64 a0_0), (.int .i64 a0_1), (.int .i64 a0_2), (.int .i64 a0_3), (.int .i64 a0_4), (.bool a0_5), (.int .i64 a0_6), (.int .i64 a0_7), (.int .u64 a0_8), (.int .u64 a0_9), (.int .u64 a0_10), (.int .i64 a0_11), (.int .u64 a0_12), (.bool a0_13)] .rw)
 (h0.ld1 (.ptr h.next 5)).bind fun v1 =>
 (asB v1).bind fun b2 =>
 match b2 with
 | true => (
 some ((.int .i64 1), h0))
 | false => (
 some ((.int .i64 0), h0))

theorem hist_behind_eq (M : Env) (a0_0 : Int) (a0_1 : Int) (a0_2 : Int) (a0_3 : Int) (a0_4 : Int) (a0_5 : Bool) (a0_6 : Int) (a0_7 : Int) (a0_8 : Int) (a0_9 : Int) (a0_10 : Int) (a0_11 : Int) (a0_12 : Int) (a0_13 : Bool) (h : H) : evalF M F.hist_behind [(.agg [(.int .i64 a0_0), (.int .i64 a0_1), (.int .i64 a0_2), (.int .i64 a0_3), (.int .i64 a0_4), (.bool a0_5), (.int .i64 a0_6), (.int .i64 a0_7), (.int .u64 a0_8), (.int .u64 a0_9), (.int .u64 a0_10), (.int .i64 a0_11), (.int .u64 a0_12), (.bool a0_13)])] h = hist_behind M a0_0 a0_1 a0_2 a0_3 a0_4 a0_5 a0_6 a0_7 a0_8 a0_9 a0_10 a0_11 a0_12 a0_13 h := by kernel_rfl

end Wm.S
end

section
namespace Wm.S
open Wm
set_option maxRecDepth 100000
set_option linter.unusedVariables false

def hist_Order_c1_B (M : Env) : List V → H → Option (AX × List V × H) :=
 fun env h => evalC M F.hist_Order_c1 env h fun x env h => match x with
 | .normal => some (.normal, keepOf [1, 3, 9, 10] 0 env, h)
 | x => some (x, keepOf [1, 3] 0 env, h)

def hist_Order_c1_E (x1 x3 x9 x10 : V) : List V := dd 1 (x1 :: dd 1 (x3 :: dd 5 (x9 :: x10 :: dd 11 [])))
def hist_Order_c1_O (x1 x3 : V) : List V := dd 1 (x1 :: dd 1 (x3 :: dd 18 []))

def hist_Order_K0 (M : Env) : AX → List V → H → Option (V × H) :=
 fun x env h => fin F.hist_Order x env h

def hist_Order_K1 (M : Env) : AX → List V → H → Option (V × H) :=
 fun x env h => match x with | .normal => evalC M F.hist_Order_c0 env h (fun x env h => hist_Order_K0 M x env h) | x => hist_Order_K0 M x env h

def hist_Order_K2 (M : Env) : AX → List V → H → Option (V × H) :=
 fun x env h => match x with | .exit j => (match Nat.beq j 0 with | true => hist_Order_K1 M .normal env h | false => hist_Order_K1 M (.exit j) env h) | x => hist_Order_K1 M x env h

def hist_Order (M : Env) (a0 : V) (h : H) : Option (V × H) :=
 (boxc a0).bind fun cs0 =>
 let h1 := h.new (.cells cs0 .rw)
 (h1.ld1 (.ptr h.next 0)).bind fun v2 =>
 (lenSl v2).bind fun n3 =>
 (h1.mkSl 1 8 [(.int .i64 0)] ((n3 : Nat) : Int) ((n3 : Nat) : Int)).bind fun p4 =>
 (lenSl p4.1).bind fun n5 =>
 (M.loop (hist_Order_c1_B M) (hist_Order_c1_E (.ptr h.next 0) p4.1 (.int .i64 ((n5 : Nat) : Int)) (.int .i64 0)) p4.2).bind fun p6 => hist_Order_K2 M p6.1 p6.2.1 p6.2.2

def hist_Order_c1_S (M : Env) (x1 : V) (x3 : V) (x9 : Int) (x10 : Int) (h : H) : Option (AX × List V × H) :=
 match (decide (x10 < x9)) with
 | true => (
 (indexAV 1 x3 (.int .i64 x10)).bind fun v0 =>
 (h.st 1 v0 (.int .i64 x10)).bind fun h1 =>
 some (.normal, (hist_Order_c1_E x1 x3 (.int .i64 x9) (.int .i64 (wr .i64 (x10 + 1)))), h1))
 | false => (
 some ((.exit 0), (hist_Order_c1_O x1 x3), h))

def hist_Order_c1_e0 (M : Env) (x1 : V) (x3 : V) (h : H) : Option (V × H) :=
 (M.call 335 [x3, (.fn 336 [x1])] h).bind fun p0 =>
 some (x3, p0.2)

theorem hist_Order_eq (M : Env) (a0 : V) (h : H) : evalF M F.hist_Order [a0] h = hist_Order M a0 h := by kernel_rfl

theorem hist_Order_c1_eq (M : Env) (x1 : V) (x3 : V) (x9 : Int) (x10 : Int) (h : H) : hist_Order_c1_B M (hist_Order_c1_E x1 x3 (.int .i64 x9) (.int .i64 x10)) h = hist_Order_c1_S M x1 x3 x9 x10 h := by kernel_rfl

theorem hist_Order_c1_e0_eq (M : Env) (x1 : V) (x3 : V) (h : H) : hist_Order_K2 M (.exit 0) (hist_Order_c1_O x1 x3) h = hist_Order_c1_e0 M x1 x3 h := by kernel_rfl

end Wm.S
end

section
namespace Wm.S
open Wm
set_option maxRecDepth 100000
set_option linter.unusedVariables false

def withylaw18_HistMoves_c1_B (M : Env) : List V → H → Option (AX × List V × H) :=
 fun env h => evalC M F.withylaw18_HistMoves_c1 env h fun x env h => match x with
 | .normal => some (.normal, keepOf [0, 1, 2, 7, 8] 0 env, h)
 | x => some (x, keepOf [0, 1, 6, 7] 0 env, h)

def withylaw18_HistMoves_c1_E (x0 x1 x2 x7 x8 : V) : List V := x0 :: x1 :: x2 :: dd 4 (x7 :: x8 :: dd 73 [])
def withylaw18_HistMoves_c1_O (x0 x1 x6 x7 : V) : List V := x0 :: x1 :: dd 4 (x6 :: x7 :: dd 74 [])

def withylaw18_HistMoves_K0 (M : Env) : AX → List V → H → Option (V × H) :=
 fun x env h => fin F.withylaw18_HistMoves x env h

def withylaw18_HistMoves_K1 (M : Env) : AX → List V → H → Option (V × H) :=
 fun x env h => match x with | .normal => evalC M F.withylaw18_HistMoves_c0 env h (fun x env h => withylaw18_HistMoves_K0 M x env h) | x => withylaw18_HistMoves_K0 M x env h

def withylaw18_HistMoves_K2 (M : Env) : AX → List V → H → Option (V × H) :=
 fun x env h => match x with | .exit j => (match Nat.beq j 0 with | true => withylaw18_HistMoves_K1 M .normal env h | false => withylaw18_HistMoves_K1 M (.exit j) env h) | x => withylaw18_HistMoves_K1 M x env h

def withylaw18_HistMoves (M : Env) (a0 : V) (a1 : Int) (a2 : Int) (h : H) : Option (V × H) :=
 (lenSl a0).bind fun n0 =>
 match (decide (60 < ((n0 : Nat) : Int))) with
 | true => (
 (M.call 180 [] h).bind fun p1 =>
 some (p1.1, p1.2))
 | false => (
 (M.loop (withylaw18_HistMoves_c1_B M) (withylaw18_HistMoves_c1_E a0 (.int .i64 a1) (.int .u16 a2) .nilsl (.int .i64 0)) h).bind fun p1 => withylaw18_HistMoves_K2 M p1.1 p1.2.1 p1.2.2)

def withylaw18_HistMoves_c1_S (M : Env) (x0 : V) (x1 : Int) (x2 : Int) (x7 : V) (x8 : Int) (h : H) : Option (AX × List V × H) :=
 (lenSl x0).bind fun n0 =>
 match (decide (x8 < ((n0 : Nat) : Int))) with
 | true => (
 (indexAV 14 x0 (.int .i64 x8)).bind fun v1 =>
 (h.ldN 14 v1).bind fun v2 =>
 let h3 := h.new (.cells [(.int .i64 0), (.int .i64 0), (.int .i64 0), (.int .i64 0), (.int .i64 0), (.bool false), (.int .i64 0), (.int .i64 0), (.int .u64 0), (.int .u64 0), (.int .u64 0), (.int .i64 0), (.int .u64 0), (.bool false)] .rw)
 (h3.st 14 (.ptr h.next 0) v2).bind fun h4 =>
 (h4.ld1 (.ptr h.next 2)).bind fun v5 =>
 (M.call 187 [v5] h4).bind fun p6 =>
 match p6.1 with
 | .bool true => (
 (M.call 180 [] p6.2).bind fun p7 =>
 some (.ret, (withylaw18_HistMoves_c1_O x0 (.int .i64 x1) p7.1 x7), p7.2))
 | .bool false => (
 (p6.2.ld1 (.ptr h.next 3)).bind fun v7 =>
 (M.call 187 [v7] p6.2).bind fun p8 =>
 match p8.1 with
 | .bool true => (
 (M.call 180 [] p8.2).bind fun p9 =>
 some (.ret, (withylaw18_HistMoves_c1_O x0 (.int .i64 x1) p9.1 x7), p9.2))
 | .bool false => (
 (p8.2.ld1 (.ptr h.next 4)).bind fun v9 =>
 (M.call 187 [v9] p8.2).bind fun p10 =>
 (asB p10.1).bind fun b11 =>
 match b11 with
 | true => (
 (M.call 180 [] p10.2).bind fun p12 =>
 some (.ret, (withylaw18_HistMoves_c1_O x0 (.int .i64 x1) p12.1 x7), p12.2))
 | false => (
 (p10.2.ld1 (.ptr h.next 2)).bind fun v12 =>
 (asI .i64 v12).bind fun n13 =>
 (p10.2.st 1 (.ptr h.next 2) (.int .i64 (wr .i64 (n13 + (wr .i64 x2))))).bind fun h14 =>
 (h14.ld1 (.ptr h.next 3)).bind fun v15 =>
 (asI .i64 v15).bind fun n16 =>
 (h14.st 1 (.ptr h.next 3) (.int .i64 (wr .i64 (n16 + (wr .i64 x2))))).bind fun h17 =>
 (h17.ld1 (.ptr h.next 4)).bind fun v18 =>
 (asI .i64 v18).bind fun n19 =>
 (h17.st 1 (.ptr h.next 4) (.int .i64 (wr .i64 (n19 + (wr .i64 x2))))).bind fun h20 =>
 (h20.ldN 14 (.ptr h.next 0)).bind fun v21 =>
 (fill (repl [(.int .i64 0), (.int .i64 0), (.int .i64 0), (.int .i64 0), (.int .i64 0), (.bool false), (.int .i64 0), (.int .i64 0), (.int .u64 0), (.int .u64 0), (.int .u64 0), (.int .i64 0), (.int .u64 0), (.bool false)] 1) [] [(0, 14, .c v21)]).bind fun cs22 =>
 let h23 := h20.new (.cells cs22 .rw)
 (h23.append 14 112 x7 (.sl h20.next 0 1 (.ex 1))).bind fun p24 =>
 some (.normal, (withylaw18_HistMoves_c1_E x0 (.int .i64 x1) (.int .u16 x2) p24.1 (.int .i64 (wr .i64 (x8 + 1)))), p24.2)))
 | .tup [] => (
 (asB p8.1).bind fun b9 =>
 (asB (match b9 with | true => (.bool true) | false => (.tup []) : V)).bind fun b10 =>
 match b10 with
 | true => (
 (M.call 180 [] p8.2).bind fun p11 =>
 some (.ret, (withylaw18_HistMoves_c1_O x0 (.int .i64 x1) p11.1 x7), p11.2))
 | false => (
 (p8.2.ld1 (.ptr h.next 2)).bind fun v11 =>
 (asI .i64 v11).bind fun n12 =>
 (p8.2.st 1 (.ptr h.next 2) (.int .i64 (wr .i64 (n12 + (wr .i64 x2))))).bind fun h13 =>
 (h13.ld1 (.ptr h.next 3)).bind fun v14 =>
 (asI .i64 v14).bind fun n15 =>
 (h13.st 1 (.ptr h.next 3) (.int .i64 (wr .i64 (n15 + (wr .i64 x2))))).bind fun h16 =>
 (h16.ld1 (.ptr h.next 4)).bind fun v17 =>
 (asI .i64 v17).bind fun n18 =>
 (h16.st 1 (.ptr h.next 4) (.int .i64 (wr .i64 (n18 + (wr .i64 x2))))).bind fun h19 =>
 (h19.ldN 14 (.ptr h.next 0)).bind fun v20 =>
 (fill (repl [(.int .i64 0), (.int .i64 0), (.int .i64 0), (.int .i64 0), (.int .i64 0), (.bool false), (.int .i64 0), (.int .i64 0), (.int .u64 0), (.int .u64 0), (.int .u64 0), (.int .i64 0), (.int .u64 0), (.bool false)] 1) [] [(0, 14, .c v20)]).bind fun cs21 =>
 let h22 := h19.new (.cells cs21 .rw)
 (h22.append 14 112 x7 (.sl h19.next 0 1 (.ex 1))).bind fun p23 =>
 some (.normal, (withylaw18_HistMoves_c1_E x0 (.int .i64 x1) (.int .u16 x2) p23.1 (.int .i64 (wr .i64 (x8 + 1)))), p23.2)))
 | _ => none)
 | .tup [] => (
 (asB p6.1).bind fun b7 =>
 match (match b7 with | true => (.bool true) | false => (.tup []) : V) with
 | .bool true => (
 (M.call 180 [] p6.2).bind fun p8 =>
 some (.ret, (withylaw18_HistMoves_c1_O x0 (.int .i64 x1) p8.1 x7), p8.2))
 | .bool false => (
 (p6.2.ld1 (.ptr h.next 4)).bind fun v8 =>
 (M.call 187 [v8] p6.2).bind fun p9 =>
 (asB p9.1).bind fun b10 =>
 match b10 with
 | true => (
 (M.call 180 [] p9.2).bind fun p11 =>
 some (.ret, (withylaw18_HistMoves_c1_O x0 (.int .i64 x1) p11.1 x7), p11.2))
 | false => (
 (p9.2.ld1 (.ptr h.next 2)).bind fun v11 =>
 (asI .i64 v11).bind fun n12 =>
 (p9.2.st 1 (.ptr h.next 2) (.int .i64 (wr .i64 (n12 + (wr .i64 x2))))).bind fun h13 =>
 (h13.ld1 (.ptr h.next 3)).bind fun v14 =>
 (asI .i64 v14).bind fun n15 =>
 (h13.st 1 (.ptr h.next 3) (.int .i64 (wr .i64 (n15 + (wr .i64 x2))))).bind fun h16 =>
 (h16.ld1 (.ptr h.next 4)).bind fun v17 =>
 (asI .i64 v17).bind fun n18 =>
 (h16.st 1 (.ptr h.next 4) (.int .i64 (wr .i64 (n18 + (wr .i64 x2))))).bind fun h19 =>
 (h19.ldN 14 (.ptr h.next 0)).bind fun v20 =>
 (fill (repl [(.int .i64 0), (.int .i64 0), (.int .i64 0), (.int .i64 0), (.int .i64 0), (.bool false), (.int .i64 0), (.int .i64 0), (.int .u64 0), (.int .u64 0), (.int .u64 0), (.int .i64 0), (.int .u64 0), (.bool false)] 1) [] [(0, 14, .c v20)]).bind fun cs21 =>
 let h22 := h19.new (.cells cs21 .rw)
 (h22.append 14 112 x7 (.sl h19.next 0 1 (.ex 1))).bind fun p23 =>
 some (.normal, (withylaw18_HistMoves_c1_E x0 (.int .i64 x1) (.int .u16 x2) p23.1 (.int .i64 (wr .i64 (x8 + 1)))), p23.2)))
 | .tup [] => (
 (asB (match b7 with | true => (.bool true) | false => (.tup []) : V)).bind fun b8 =>
 (asB (match b8 with | true => (.bool true) | false => (.tup []) : V)).bind fun b9 =>
 match b9 with
 | true => (
 (M.call 180 [] p6.2).bind fun p10 =>
 some (.ret, (withylaw18_HistMoves_c1_O x0 (.int .i64 x1) p10.1 x7), p10.2))
 | false => (
 (p6.2.ld1 (.ptr h.next 2)).bind fun v10 =>
 (asI .i64 v10).bind fun n11 =>
 (p6.2.st 1 (.ptr h.next 2) (.int .i64 (wr .i64 (n11 + (wr .i64 x2))))).bind fun h12 =>
 (h12.ld1 (.ptr h.next 3)).bind fun v13 =>
 (asI .i64 v13).bind fun n14 =>
 (h12.st 1 (.ptr h.next 3) (.int .i64 (wr .i64 (n14 + (wr .i64 x2))))).bind fun h15 =>
 (h15.ld1 (.ptr h.next 4)).bind fun v16 =>
 (asI .i64 v16).bind fun n17 =>
 (h15.st 1 (.ptr h.next 4) (.int .i64 (wr .i64 (n17 + (wr .i64 x2))))).bind fun h18 =>
 (h18.ldN 14 (.ptr h.next 0)).bind fun v19 =>
 (fill (repl [(.int .i64 0), (.int .i64 0), (.int .i64 0), (.int .i64 0), (.int .i64 0), (.bool false), (.int .i64 0), (.int .i64 0), (.int .u64 0), (.int .u64 0), (.int .u64 0), (.int .i64 0), (.int .u64 0), (.bool false)] 1) [] [(0, 14, .c v19)]).bind fun cs20 =>
 let h21 := h18.new (.cells cs20 .rw)
 (h21.append 14 112 x7 (.sl h18.next 0 1 (.ex 1))).bind fun p22 =>
 some (.normal, (withylaw18_HistMoves_c1_E x0 (.int .i64 x1) (.int .u16 x2) p22.1 (.int .i64 (wr .i64 (x8 + 1)))), p22.2)))
 | _ => none)
 | _ => none)
 | false => (
 some ((.exit 0), (withylaw18_HistMoves_c1_O x0 (.int .i64 x1) .dead x7), h))

def withylaw18_HistMoves_c1_e0 (M : Env) (x0 : V) (x1 : Int) (x6 : V) (x7 : V) (h : H) : Option (V × H) :=
 (M.call 181 [x0] h).bind fun p0 =>
 (M.call 178 [x7, (.int .i64 x1)] p0.2).bind fun p1 =>
 (M.call 178 [x0, (.int .i64 x1)] p1.2).bind fun p2 =>
 (eqV .bool p1.1 p2.1).bind fun b3 =>
 match b3 with
 | true => (
 (M.call 185 [x7, p0.1] p2.2).bind fun p4 =>
 (M.call 185 [x0, p0.1] p4.2).bind fun p5 =>
 (eqV .bool p4.1 p5.1).bind fun b6 =>
 match b6 with
 | true => (
 (M.call 180 [] p5.2).bind fun p7 =>
 some (p7.1, p7.2))
 | false => (
 some ((.bool false), p5.2)))
 | false => (
 some ((.bool false), p2.2))

def withylaw18_HistMoves_c1_r (M : Env) (x0 : V) (x1 : V) (x6 : Bool) (x7 : V) (h : H) : Option (V × H) :=
 some ((.bool x6), h)

theorem withylaw18_HistMoves_eq (M : Env) (a0 : V) (a1 : Int) (a2 : Int) (h : H) : evalF M F.withylaw18_HistMoves [a0, (.int .i64 a1), (.int .u16 a2)] h = withylaw18_HistMoves M a0 a1 a2 h := by kernel_rfl

theorem withylaw18_HistMoves_c1_eq (M : Env) (x0 : V) (x1 : Int) (x2 : Int) (x7 : V) (x8 : Int) (h : H) : withylaw18_HistMoves_c1_B M (withylaw18_HistMoves_c1_E x0 (.int .i64 x1) (.int .u16 x2) x7 (.int .i64 x8)) h = withylaw18_HistMoves_c1_S M x0 x1 x2 x7 x8 h := by kernel_rfl

theorem withylaw18_HistMoves_c1_e0_eq (M : Env) (x0 : V) (x1 : Int) (x6 : V) (x7 : V) (h : H) : withylaw18_HistMoves_K2 M (.exit 0) (withylaw18_HistMoves_c1_O x0 (.int .i64 x1) x6 x7) h = withylaw18_HistMoves_c1_e0 M x0 x1 x6 x7 h := by kernel_rfl

theorem withylaw18_HistMoves_c1_r_eq (M : Env) (x0 : V) (x1 : V) (x6 : Bool) (x7 : V) (h : H) : withylaw18_HistMoves_K2 M .ret (withylaw18_HistMoves_c1_O x0 x1 (.bool x6) x7) h = withylaw18_HistMoves_c1_r M x0 x1 x6 x7 h := by kernel_rfl

end Wm.S
end

section
namespace Wm.S
open Wm
set_option maxRecDepth 100000
set_option linter.unusedVariables false


def withylaw18_far (M : Env) (a0 : Int) (h : H) : Option (V × H) :=
 match (decide (1099511627776 < a0)) with
 | true => (
 some ((.bool true), h))
 | false => (
 some ((.bool (decide (a0 < (-1099511627776)))), h))

theorem withylaw18_far_eq (M : Env) (a0 : Int) (h : H) : evalF M F.withylaw18_far [(.int .i64 a0)] h = withylaw18_far M a0 h := by kernel_rfl

end Wm.S
end

