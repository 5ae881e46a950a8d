/- PRINTED by my tool: what functions come to, stretch by stretch. -/
import Derived.KernelRfl
import Derived.Test.YthkimcdeejjmbaaWmShal
import Derived.Test.YthkimcdeejjmbaaWmFnsLinPoints
set_option linter.all false
noncomputable section
open Wm
namespace Wm.S
open Wm
set_option maxRecDepth 100000
set_option autoImplicit true
set_option relaxedAutoImplicit true
instance : Coe Int V := ⟨V.int .i64⟩
instance : Coe Bool V := ⟨V.bool⟩
abbrev Rf := Option (V × H)
abbrev Rl := Option (AX × List V × H)
abbrev Kt (R : Type) := AX → List V → H → Option R
def dd : Nat → List V → List V
  | 0, l => l
  | n + 1, l => .dead :: dd n l
def uu : Nat → List V → List V
  | 0, l => l
  | n + 1, l => .tup [] :: uu n l
def kl (k o : List Nat) : Kt (AX × List V × H) := fun x env h => match x with | .normal => some (.normal, zw k 0 env, h) | x => some (x, zw o 0 env, h)
def kj (o : List Nat) : Kt (AX × List V × H) := fun x env h => some (x, zw o 0 env, h)
def kc (k o : List Nat) : Kt (AX × List V × H) := fun x env h => match x with | .goto j => some (.goto j, zw k 0 env, h) | x => some (x, zw o 0 env, h)
def lb (M : Env) (c : ACode) (k o : List Nat) (env : List V) (h : H) : Rl := z09 M c env h (kl k o)
def jb (M : Env) (c : ACode) (o : List Nat) (env : List V) (h : H) : Rl := z09 M c env h (kj o)
def sc (M : Env) (c d : ACode) (k o : List Nat) (l : Nat) (env : List V) (h : H) : Rl := match l with | 0 => z09 M c env h (kc k o) | l + 1 => z0t M d l env h (kc k o)
def kf (f : AFunc) : Kt (V × H) := fun x env h => fin f x env h
def kq {R : Type} (M : Env) (c : ACode) (k : Kt R) : Kt R := fun x env h => match x with | .normal => z09 M c env h k | x => k x env h
def kb {R : Type} (id : Nat) (k : Kt R) : Kt R := fun x env h => match x with | .exit j => (match Nat.beq j id with | true => k .normal env h | false => k (.exit j) env h) | x => k x env h
def zbf (M : Env) (a0 a1 a2 : Int) (h : H) : Rf :=
 match decide (a1 ≤ a0) with
 | true => (some ((.bool (decide (a0 ≤ a2))), h))
 | false => (some (false, h))
theorem zzf : z06 M F.zbf [(.int .i64 a0), (.int .i64 a1), (.int .i64 a2)] h = zbf M a0 a1 a2 h := by kernel_rfl
def zeb (M : Env) (a0_0 a0_1 a0_2 a0_3 a0_4 a0_5 : Int) (h : H) : Rf :=
 let h0 := h.new (.cells [a0_0, a0_1, a0_2, a0_3, a0_4, a0_5] .rw)
 (h0.ld1 (.ptr h.next 0)).bind fun v1 =>
 (M.call 376 [v1, (1:Int), (64:Int)] h0).bind fun p2 =>
 match p2.1 with
 | .bool true => (
 (p2.2.ld1 (.ptr h.next 1)).bind fun v3 =>
 (M.call 376 [v3, (0:Int), (8:Int)] p2.2).bind fun p4 =>
 match p4.1 with
 | .bool true => (
 (p4.2.ld1 (.ptr h.next 2)).bind fun v5 =>
 (M.call 376 [v5, (1:Int), (8:Int)] p4.2).bind fun p6 =>
 match p6.1 with
 | .bool true => (
 (p6.2.ld1 (.ptr h.next 3)).bind fun v7 =>
 (M.call 376 [v7, (1:Int), (16:Int)] p6.2).bind fun p8 =>
 match p8.1 with
 | .bool true => (
 (p8.2.ld1 (.ptr h.next 4)).bind fun v9 =>
 (M.call 376 [v9, (1:Int), (1048576:Int)] p8.2).bind fun p10 =>
 match p10.1 with
 | .bool true => (
 (p10.2.ld1 (.ptr h.next 5)).bind fun v11 =>
 (M.call 376 [v11, (0:Int), (64:Int)] p10.2).bind fun p12 =>
 some (p12.1, p12.2))
 | .bool false => (
 some (false, p10.2))
 | .tup [] => (
 (asB p10.1).bind fun b11 =>
 some ((match b11 with | true => (.tup []) | false => false : V), p10.2))
 | _ => none)
 | .bool false => (
 some (false, p8.2))
 | .tup [] => (
 (asB p8.1).bind fun b9 =>
 match (match b9 with | true => (.tup []) | false => false : V) with
 | .bool true => (
 (p8.2.ld1 (.ptr h.next 5)).bind fun v10 =>
 (M.call 376 [v10, (0:Int), (64:Int)] p8.2).bind fun p11 =>
 some (p11.1, p11.2))
 | .bool false => (
 some (false, p8.2))
 | .tup [] => (
 (asB (match b9 with | true => (.tup []) | false => false : V)).bind fun b10 =>
 some ((match b10 with | true => (.tup []) | false => false : V), p8.2))
 | _ => none)
 | _ => none)
 | .bool false => (
 some (false, p6.2))
 | .tup [] => (
 (asB p6.1).bind fun b7 =>
 match (match b7 with | true => (.tup []) | false => false : V) with
 | .bool true => (
 (p6.2.ld1 (.ptr h.next 4)).bind fun v8 =>
 (M.call 376 [v8, (1:Int), (1048576:Int)] p6.2).bind fun p9 =>
 match p9.1 with
 | .bool true => (
 (p9.2.ld1 (.ptr h.next 5)).bind fun v10 =>
 (M.call 376 [v10, (0:Int), (64:Int)] p9.2).bind fun p11 =>
 some (p11.1, p11.2))
 | .bool false => (
 some (false, p9.2))
 | .tup [] => (
 (asB p9.1).bind fun b10 =>
 some ((match b10 with | true => (.tup []) | false => false : V), p9.2))
 | _ => none)
 | .bool false => (
 some (false, p6.2))
 | .tup [] => (
 (asB (match b7 with | true => (.tup []) | false => false : V)).bind fun b8 =>
 match (match b8 with | true => (.tup []) | false => false : V) with
 | .bool true => (
 (p6.2.ld1 (.ptr h.next 5)).bind fun v9 =>
 (M.call 376 [v9, (0:Int), (64:Int)] p6.2).bind fun p10 =>
 some (p10.1, p10.2))
 | .bool false => (
 some (false, p6.2))
 | .tup [] => (
 (asB (match b8 with | true => (.tup []) | false => false : V)).bind fun b9 =>
 some ((match b9 with | true => (.tup []) | false => false : V), p6.2))
 | _ => none)
 | _ => none)
 | _ => none)
 | .bool false => (
 some (false, p4.2))
 | .tup [] => (
 (asB p4.1).bind fun b5 =>
 match (match b5 with | true => (.tup []) | false => false : V) with
 | .bool true => (
 (p4.2.ld1 (.ptr h.next 3)).bind fun v6 =>
 (M.call 376 [v6, (1:Int), (16:Int)] p4.2).bind fun p7 =>
 match p7.1 with
 | .bool true => (
 (p7.2.ld1 (.ptr h.next 4)).bind fun v8 =>
 (M.call 376 [v8, (1:Int), (1048576:Int)] p7.2).bind fun p9 =>
 match p9.1 with
 | .bool true => (
 (p9.2.ld1 (.ptr h.next 5)).bind fun v10 =>
 (M.call 376 [v10, (0:Int), (64:Int)] p9.2).bind fun p11 =>
 some (p11.1, p11.2))
 | .bool false => (
 some (false, p9.2))
 | .tup [] => (
 (asB p9.1).bind fun b10 =>
 some ((match b10 with | true => (.tup []) | false => false : V), p9.2))
 | _ => none)
 | .bool false => (
 some (false, p7.2))
 | .tup [] => (
 (asB p7.1).bind fun b8 =>
 match (match b8 with | true => (.tup []) | false => false : V) with
 | .bool true => (
 (p7.2.ld1 (.ptr h.next 5)).bind fun v9 =>
 (M.call 376 [v9, (0:Int), (64:Int)] p7.2).bind fun p10 =>
 some (p10.1, p10.2))
 | .bool false => (
 some (false, p7.2))
 | .tup [] => (
 (asB (match b8 with | true => (.tup []) | false => false : V)).bind fun b9 =>
 some ((match b9 with | true => (.tup []) | false => false : V), p7.2))
 | _ => none)
 | _ => none)
 | .bool false => (
 some (false, p4.2))
 | .tup [] => (
 (asB (match b5 with | true => (.tup []) | false => false : V)).bind fun b6 =>
 match (match b6 with | true => (.tup []) | false => false : V) with
 | .bool true => (
 (p4.2.ld1 (.ptr h.next 4)).bind fun v7 =>
 (M.call 376 [v7, (1:Int), (1048576:Int)] p4.2).bind fun p8 =>
 match p8.1 with
 | .bool true => (
 (p8.2.ld1 (.ptr h.next 5)).bind fun v9 =>
 (M.call 376 [v9, (0:Int), (64:Int)] p8.2).bind fun p10 =>
 some (p10.1, p10.2))
 | .bool false => (
 some (false, p8.2))
 | .tup [] => (
 (asB p8.1).bind fun b9 =>
 some ((match b9 with | true => (.tup []) | false => false : V), p8.2))
 | _ => none)
 | .bool false => (
 some (false, p4.2))
 | .tup [] => (
 (asB (match b6 with | true => (.tup []) | false => false : V)).bind fun b7 =>
 match (match b7 with | true => (.tup []) | false => false : V) with
 | .bool true => (
 (p4.2.ld1 (.ptr h.next 5)).bind fun v8 =>
 (M.call 376 [v8, (0:Int), (64:Int)] p4.2).bind fun p9 =>
 some (p9.1, p9.2))
 | .bool false => (
 some (false, p4.2))
 | .tup [] => (
 (asB (match b7 with | true => (.tup []) | false => false : V)).bind fun b8 =>
 some ((match b8 with | true => (.tup []) | false => false : V), p4.2))
 | _ => none)
 | _ => none)
 | _ => none)
 | _ => none)
 | .bool false => (
 some (false, p2.2))
 | .tup [] => (
 (asB p2.1).bind fun b3 =>
 match (match b3 with | true => (.tup []) | false => false : V) with
 | .bool true => (
 (p2.2.ld1 (.ptr h.next 2)).bind fun v4 =>
 (M.call 376 [v4, (1:Int), (8:Int)] p2.2).bind fun p5 =>
 match p5.1 with
 | .bool true => (
 (p5.2.ld1 (.ptr h.next 3)).bind fun v6 =>
 (M.call 376 [v6, (1:Int), (16:Int)] p5.2).bind fun p7 =>
 match p7.1 with
 | .bool true => (
 (p7.2.ld1 (.ptr h.next 4)).bind fun v8 =>
 (M.call 376 [v8, (1:Int), (1048576:Int)] p7.2).bind fun p9 =>
 match p9.1 with
 | .bool true => (
 (p9.2.ld1 (.ptr h.next 5)).bind fun v10 =>
 (M.call 376 [v10, (0:Int), (64:Int)] p9.2).bind fun p11 =>
 some (p11.1, p11.2))
 | .bool false => (
 some (false, p9.2))
 | .tup [] => (
 (asB p9.1).bind fun b10 =>
 some ((match b10 with | true => (.tup []) | false => false : V), p9.2))
 | _ => none)
 | .bool false => (
 some (false, p7.2))
 | .tup [] => (
 (asB p7.1).bind fun b8 =>
 match (match b8 with | true => (.tup []) | false => false : V) with
 | .bool true => (
 (p7.2.ld1 (.ptr h.next 5)).bind fun v9 =>
 (M.call 376 [v9, (0:Int), (64:Int)] p7.2).bind fun p10 =>
 some (p10.1, p10.2))
 | .bool false => (
 some (false, p7.2))
 | .tup [] => (
 (asB (match b8 with | true => (.tup []) | false => false : V)).bind fun b9 =>
 some ((match b9 with | true => (.tup []) | false => false : V), p7.2))
 | _ => none)
 | _ => none)
 | .bool false => (
 some (false, p5.2))
 | .tup [] => (
 (asB p5.1).bind fun b6 =>
 match (match b6 with | true => (.tup []) | false => false : V) with
 | .bool true => (
 (p5.2.ld1 (.ptr h.next 4)).bind fun v7 =>
 (M.call 376 [v7, (1:Int), (1048576:Int)] p5.2).bind fun p8 =>
 match p8.1 with
 | .bool true => (
 (p8.2.ld1 (.ptr h.next 5)).bind fun v9 =>
 (M.call 376 [v9, (0:Int), (64:Int)] p8.2).bind fun p10 =>
 some (p10.1, p10.2))
 | .bool false => (
 some (false, p8.2))
 | .tup [] => (
 (asB p8.1).bind fun b9 =>
 some ((match b9 with | true => (.tup []) | false => false : V), p8.2))
 | _ => none)
 | .bool false => (
 some (false, p5.2))
 | .tup [] => (
 (asB (match b6 with | true => (.tup []) | false => false : V)).bind fun b7 =>
 match (match b7 with | true => (.tup []) | false => false : V) with
 | .bool true => (
 (p5.2.ld1 (.ptr h.next 5)).bind fun v8 =>
 (M.call 376 [v8, (0:Int), (64:Int)] p5.2).bind fun p9 =>
 some (p9.1, p9.2))
 | .bool false => (
 some (false, p5.2))
 | .tup [] => (
 (asB (match b7 with | true => (.tup []) | false => false : V)).bind fun b8 =>
 some ((match b8 with | true => (.tup []) | false => false : V), p5.2))
 | _ => none)
 | _ => none)
 | _ => none)
 | .bool false => (
 some (false, p2.2))
 | .tup [] => (
 (asB (match b3 with | true => (.tup []) | false => false : V)).bind fun b4 =>
 match (match b4 with | true => (.tup []) | false => false : V) with
 | .bool true => (
 (p2.2.ld1 (.ptr h.next 3)).bind fun v5 =>
 (M.call 376 [v5, (1:Int), (16:Int)] p2.2).bind fun p6 =>
 match p6.1 with
 | .bool true => (
 (p6.2.ld1 (.ptr h.next 4)).bind fun v7 =>
 (M.call 376 [v7, (1:Int), (1048576:Int)] p6.2).bind fun p8 =>
 match p8.1 with
 | .bool true => (
 (p8.2.ld1 (.ptr h.next 5)).bind fun v9 =>
 (M.call 376 [v9, (0:Int), (64:Int)] p8.2).bind fun p10 =>
 some (p10.1, p10.2))
 | .bool false => (
 some (false, p8.2))
 | .tup [] => (
 (asB p8.1).bind fun b9 =>
 some ((match b9 with | true => (.tup []) | false => false : V), p8.2))
 | _ => none)
 | .bool false => (
 some (false, p6.2))
 | .tup [] => (
 (asB p6.1).bind fun b7 =>
 match (match b7 with | true => (.tup []) | false => false : V) with
 | .bool true => (
 (p6.2.ld1 (.ptr h.next 5)).bind fun v8 =>
 (M.call 376 [v8, (0:Int), (64:Int)] p6.2).bind fun p9 =>
 some (p9.1, p9.2))
 | .bool false => (
 some (false, p6.2))
 | .tup [] => (
 (asB (match b7 with | true => (.tup []) | false => false : V)).bind fun b8 =>
 some ((match b8 with | true => (.tup []) | false => false : V), p6.2))
 | _ => none)
 | _ => none)
 | .bool false => (
 some (false, p2.2))
 | .tup [] => (
 (asB (match b4 with | true => (.tup []) | false => false : V)).bind fun b5 =>
 match (match b5 with | true => (.tup []) | false => false : V) with
 | .bool true => (
 (p2.2.ld1 (.ptr h.next 4)).bind fun v6 =>
 (M.call 376 [v6, (1:Int), (1048576:Int)] p2.2).bind fun p7 =>
 match p7.1 with
 | .bool true => (
 (p7.2.ld1 (.ptr h.next 5)).bind fun v8 =>
 (M.call 376 [v8, (0:Int), (64:Int)] p7.2).bind fun p9 =>
 some (p9.1, p9.2))
 | .bool false => (
 some (false, p7.2))
 | .tup [] => (
 (asB p7.1).bind fun b8 =>
 some ((match b8 with | true => (.tup []) | false => false : V), p7.2))
 | _ => none)
 | .bool false => (
 some (false, p2.2))
 | .tup [] => (
 (asB (match b5 with | true => (.tup []) | false => false : V)).bind fun b6 =>
 match (match b6 with | true => (.tup []) | false => false : V) with
 | .bool true => (
 (p2.2.ld1 (.ptr h.next 5)).bind fun v7 =>
 (M.call 376 [v7, (0:Int), (64:Int)] p2.2).bind fun p8 =>
 some (p8.1, p8.2))
 | .bool false => (
 some (false, p2.2))
 | .tup [] => (
 (asB (match b6 with | true => (.tup []) | false => false : V)).bind fun b7 =>
 some ((match b7 with | true => (.tup []) | false => false : V), p2.2))
 | _ => none)
 | _ => none)
 | _ => none)
 | _ => none)
 | _ => none
theorem z03l : z06 M F.zeb [(.agg [(.int .i64 a0_0), (.int .i64 a0_1), (.int .i64 a0_2), (.int .i64 a0_3), (.int .i64 a0_4), (.int .i64 a0_5)])] h = zeb M a0_0 a0_1 a0_2 a0_3 a0_4 a0_5 h := by kernel_rfl
def zeh (M : Env) (a0_0 a0_1 a0_2 a0_3 a0_4 : Int) (a0_5 : Bool) (a0_6 a0_7 a0_8 a0_9 a0_10 a0_11 a0_12 : Int) (a0_13 : Bool) (a1_0 a1_1 a1_2 a1_3 a1_4 : Int) (a1_5 : Bool) (a1_6 a1_7 a1_8 a1_9 a1_10 a1_11 a1_12 : Int) (a1_13 : Bool) (h : H) : Rf :=
 let h0 := h.new (.cells [a0_0, a0_1, a0_2, a0_3, a0_4, a0_5, a0_6, a0_7, (.int .u64 a0_8), (.int .u64 a0_9), (.int .u64 a0_10), a0_11, (.int .u64 a0_12), a0_13] .rw)
 let h1 := h0.new (.cells [a1_0, a1_1, a1_2, a1_3, a1_4, a1_5, a1_6, a1_7, (.int .u64 a1_8), (.int .u64 a1_9), (.int .u64 a1_10), a1_11, (.int .u64 a1_12), a1_13] .rw)
 (h1.ld1 (.ptr h.next 4)).bind fun v2 =>
 (h1.ld1 (.ptr h0.next 2)).bind fun v3 =>
 (asI .i64 v2).bind fun n4 =>
 (asI .i64 v3).bind fun n5 =>
 some ((.bool (decide (n4 < n5))), h1)
theorem z03d : z06 M F.zeh [(.agg [(.int .i64 a0_0), (.int .i64 a0_1), (.int .i64 a0_2), (.int .i64 a0_3), (.int .i64 a0_4), (.bool a0_5), (.int .i64 a0_6), (.int .i64 a0_7), (.int .u64 a0_8), (.int .u64 a0_9), (.int .u64 a0_10), (.int .i64 a0_11), (.int .u64 a0_12), (.bool a0_13)]), (.agg [(.int .i64 a1_0), (.int .i64 a1_1), (.int .i64 a1_2), (.int .i64 a1_3), (.int .i64 a1_4), (.bool a1_5), (.int .i64 a1_6), (.int .i64 a1_7), (.int .u64 a1_8), (.int .u64 a1_9), (.int .u64 a1_10), (.int .i64 a1_11), (.int .u64 a1_12), (.bool a1_13)])] h = zeh M a0_0 a0_1 a0_2 a0_3 a0_4 a0_5 a0_6 a0_7 a0_8 a0_9 a0_10 a0_11 a0_12 a0_13 a1_0 a1_1 a1_2 a1_3 a1_4 a1_5 a1_6 a1_7 a1_8 a1_9 a1_10 a1_11 a1_12 a1_13 h := by kernel_rfl
def z6y (M : Env) (a0_0 a0_1 a0_2 a0_3 a0_4 : Int) (a0_5 : Bool) (a0_6 a0_7 a0_8 a0_9 a0_10 a0_11 a0_12 : Int) (a0_13 : Bool) (a1_0 a1_1 a1_2 a1_3 a1_4 : Int) (a1_5 : Bool) (a1_6 a1_7 a1_8 a1_9 a1_10 a1_11 a1_12 : Int) (a1_13 : Bool) (h : H) : Rf :=
 let h0 := h.new (.cells [a0_0, a0_1, a0_2, a0_3, a0_4, a0_5, a0_6, a0_7, (.int .u64 a0_8), (.int .u64 a0_9), (.int .u64 a0_10), a0_11, (.int .u64 a0_12), a0_13] .rw)
 let h1 := h0.new (.cells [a1_0, a1_1, a1_2, a1_3, a1_4, a1_5, a1_6, a1_7, (.int .u64 a1_8), (.int .u64 a1_9), (.int .u64 a1_10), a1_11, (.int .u64 a1_12), a1_13] .rw)
 (h1.ld1 (.ptr h.next 4)).bind fun v2 =>
 (h1.ld1 (.ptr h0.next 2)).bind fun v3 =>
 (asI .i64 v2).bind fun n4 =>
 (asI .i64 v3).bind fun n5 =>
 some ((.bool (decide (n4 < n5))), h1)
theorem zvm : z06 M F.z6y [(.agg [(.int .i64 a0_0), (.int .i64 a0_1), (.int .i64 a0_2), (.int .i64 a0_3), (.int .i64 a0_4), (.bool a0_5), (.int .i64 a0_6), (.int .i64 a0_7), (.int .u64 a0_8), (.int .u64 a0_9), (.int .u64 a0_10), (.int .i64 a0_11), (.int .u64 a0_12), (.bool a0_13)]), (.agg [(.int .i64 a1_0), (.int .i64 a1_1), (.int .i64 a1_2), (.int .i64 a1_3), (.int .i64 a1_4), (.bool a1_5), (.int .i64 a1_6), (.int .i64 a1_7), (.int .u64 a1_8), (.int .u64 a1_9), (.int .u64 a1_10), (.int .i64 a1_11), (.int .u64 a1_12), (.bool a1_13)])] h = z6y M a0_0 a0_1 a0_2 a0_3 a0_4 a0_5 a0_6 a0_7 a0_8 a0_9 a0_10 a0_11 a0_12 a0_13 a1_0 a1_1 a1_2 a1_3 a1_4 a1_5 a1_6 a1_7 a1_8 a1_9 a1_10 a1_11 a1_12 a1_13 h := by kernel_rfl
def z4b (M : Env) (a0 : V) (a1 : Int) (h : H) : Rf :=
 (eqV .ptr a0 .nilp).bind fun b0 =>
 match (!b0) with
 | true => (match decide (0 ≤ a1) with
 | true => ((nilc a0).bind fun v1 =>
 (zn v1 0).bind fun v2 =>
 (zn v2 2).bind fun v3 =>
 (h.ld1 v3).bind fun v4 =>
 (asI .i64 v4).bind fun n5 =>
 some ((.bool (decide (a1 < n5))), h))
 | false => (some (false, h)))
 | false => (some (false, h))
theorem ztb : z06 M F.z4b [a0, (.int .i64 a1)] h = z4b M a0 a1 h := by kernel_rfl
def z5k (M : Env) (a0 : V) (a1 : Int) (h : H) : Rf :=
 (M.call 279 [a0, a1] h).bind fun p0 =>
 (asB p0.1).bind fun b1 =>
 match (!b1) with
 | true => (some ((0:Int), p0.2))
 | false => ((nilc a0).bind fun v2 =>
 (zn v2 7).bind fun v3 =>
 (p0.2.ld1 v3).bind fun v4 =>
 (za 1 v4 a1).bind fun v5 =>
 (p0.2.ld1 v5).bind fun v6 =>
 (p0.2.entries v6).bind fun es7 =>
 some ((.int .i64 ((es7.length : Nat) : Int)), p0.2))
theorem zv5 : z06 M F.z5k [a0, (.int .i64 a1)] h = z5k M a0 a1 h := by kernel_rfl
def z4f (M : Env) (a0 : V) (a1 a2 : Int) (h : H) : Rf :=
 (M.call 279 [a0, a1] h).bind fun p0 =>
 (asB p0.1).bind fun b1 =>
 match b1 with
 | true => ((nilc a0).bind fun v2 =>
 (zn v2 7).bind fun v3 =>
 (p0.2.ld1 v3).bind fun v4 =>
 (za 1 v4 a1).bind fun v5 =>
 (p0.2.ld1 v5).bind fun v6 =>
 (p0.2.look .int (0:Int) true v6 (.int .u64 a2)).bind fun v7 =>
 match v7 with
 | .tup vs8 => ((vs8[0]?).bind fun v9 =>
 match v7 with
 | .tup vs10 => ((vs10[1]?).bind fun v11 =>
 (asB v11).bind fun b12 =>
 match b12 with
 | true => (some (v9, p0.2))
 | false => (some ((.int .i64 (-1)), p0.2)))
 | _ => none)
 | _ => none)
 | false => (some ((.int .i64 (-1)), p0.2))
theorem zvz : z06 M F.z4f [a0, (.int .i64 a1), (.int .u64 a2)] h = z4f M a0 a1 a2 h := by kernel_rfl
def z2f (M : Env) (a0 : V) (a1 a2 : Int) (h : H) : Rf :=
 (eqV .ptr a0 .nilp).bind fun b0 =>
 match b0 with
 | true => (some ((.int .i64 (-1)), h))
 | false => (match decide (a1 < 0) with
 | true => (some ((.int .i64 (-1)), h))
 | false => ((nilc a0).bind fun v1 =>
 (zn v1 6).bind fun v2 =>
 (h.ld1 v2).bind fun v3 =>
 (lenSl v3).bind fun n4 =>
 match decide ((n4 : Int) ≤ a1) with
 | true => (some ((.int .i64 (-1)), h))
 | false => (match decide (a2 < 0) with
 | true => (some ((.int .i64 (-1)), h))
 | false => ((nilc a0).bind fun v5 =>
 (zn v5 6).bind fun v6 =>
 (h.ld1 v6).bind fun v7 =>
 (za 1 v7 a1).bind fun v8 =>
 (h.ld1 v8).bind fun v9 =>
 (lenSl v9).bind fun n10 =>
 match decide ((n10 : Int) ≤ a2) with
 | true => (some ((.int .i64 (-1)), h))
 | false => ((nilc a0).bind fun v11 =>
 (zn v11 6).bind fun v12 =>
 (h.ld1 v12).bind fun v13 =>
 (za 1 v13 a1).bind fun v14 =>
 (h.ld1 v14).bind fun v15 =>
 (za 1 v15 a2).bind fun v16 =>
 (h.ld1 v16).bind fun v17 =>
 some (v17, h))))))
theorem zu1 : z06 M F.z2f [a0, (.int .i64 a1), (.int .i64 a2)] h = z2f M a0 a1 a2 h := by kernel_rfl
def z3w (M : Env) (a0 : V) (a1 : Int) (h : H) : Rf :=
 match (!decide (a1 = 0)) with
 | true => ((nilc a0).bind fun v0 =>
 (zn v0 9).bind fun v1 =>
 (h.ld1 v1).bind fun v2 =>
 (h.look .int (0:Int) false v2 (.int .u64 a1)).bind fun v3 =>
 (asI .i64 v3).bind fun n4 =>
 some ((.bool (decide (n4 = 0))), h))
 | false => (some (false, h))
theorem zu5 : z06 M F.z3w [a0, (.int .u64 a1)] h = z3w M a0 a1 h := by kernel_rfl
def zen (M : Env) := lb M F.zpz [7, 8] [7]
def z6r (x7 x8 : V) : List V := dd 7 (x7 :: x8 :: dd 39 [])
def zaa (x7 : V) : List V := dd 7 (x7 :: dd 40 [])
def zpv (M : Env) := kf F.z0v
def zq1 (M : Env) := kq M F.zpt (zpv M)
def zbo (M : Env) := kb 0 (zq1 M)
def z0v (M : Env) (a0 : V) (a1 : Int) (h : H) : Rf :=
 match decide (a1 < 0) with
 | true => (none)
 | false => ((lenSl a0).bind fun n0 =>
 (M.call 445 [(.int .u64 (wr .u64 (n0 : Int))), (.int .u64 (wr .u64 a1))] h).bind fun p1 =>
 match p1.1 with
 | .tup vs2 => ((vs2[0]?).bind fun v3 =>
 match p1.1 with
 | .tup vs4 => ((vs4[1]?).bind fun v5 =>
 (asI .u64 v3).bind fun n6 =>
 match decide (0 < n6) with
 | true => (none)
 | false => ((asI .u64 v5).bind fun n7 =>
 match decide (9223372036854775807 < n7) with
 | true => (none)
 | false => ((z7v v5).bind fun n8 =>
 (p1.2.mkSl 1 8 [(0:Int)] (wr .i64 n8) (wr .i64 n8)).bind fun p9 =>
 (p9.2.copy 1 p9.1 a0).bind fun p10 =>
 (M.loop (zen M) (z6r p9.1 p10.1) p10.2).bind fun p11 => zbo M p11.1 p11.2.1 p11.2.2)))
 | _ => none)
 | _ => none)
def za9 (M : Env) (x7 : V) (x8 : Int) (h : H) : Rl :=
 (lenSl x7).bind fun n0 =>
 match decide (x8 < (n0 : Int)) with
 | true => ((z67 1 x7 (some x8) none none).bind fun v1 =>
 (z67 1 x7 none (some x8) none).bind fun v2 =>
 (h.copy 1 v1 v2).bind fun p3 =>
 (asI .i64 p3.1).bind fun n4 =>
 some (.normal, (z6r x7 (.int .i64 (wr .i64 (x8 + n4)))), p3.2))
 | false => (some ((.exit 0), (zaa x7), h))
def znh (M : Env) (x7 : V) (h : H) : Rf :=
 some (x7, h)
theorem zpy : z06 M F.z0v [a0, (.int .i64 a1)] h = z0v M a0 a1 h := by kernel_rfl
theorem znk : zen M (z6r x7 (.int .i64 x8)) h = za9 M x7 x8 h := by kernel_rfl
theorem zkc : zbo M (.exit 0) (zaa x7) h = znh M x7 h := by kernel_rfl
def z1s (M : Env) (a0 : V) (a1 : Int) (h : H) : Rf :=
 (M.call 404 [a0, a1] h).bind fun p0 =>
 (asI .i64 p0.1).bind fun n1 =>
 some ((.bool (decide (0 ≤ n1))), p0.2)
theorem znt : z06 M F.z1s [a0, (.int .i64 a1)] h = z1s M a0 a1 h := by kernel_rfl
def zeu (M : Env) := lb M F.zqc [0, 1, 7, 8] [4]
def z7a (x0 x1 x7 x8 : V) : List V := x0 :: x1 :: dd 5 (x7 :: x8 :: dd 10 [])
def z38 (x4 : V) : List V := dd 4 (x4 :: dd 14 [])
def zq8 (M : Env) := kf F.z10
def zqb (M : Env) := kq M F.zqf (zq8 M)
def z5v (M : Env) := kb 0 (zqb M)
def z10 (M : Env) (a0 : V) (a1 : Int) (h : H) : Rf :=
 (lenSl a0).bind fun n0 =>
 (M.loop (zeu M) (z7a a0 a1 (.int .i64 (n0 : Int)) (0:Int)) h).bind fun p1 => z5v M p1.1 p1.2.1 p1.2.2
def z7c (M : Env) (x0 : V) (x1 x7 x8 : Int) (h : H) : Rl :=
 match decide (x8 < x7) with
 | true => ((za 1 x0 x8).bind fun v0 =>
 (h.ld1 v0).bind fun v1 =>
 (asI .i64 v1).bind fun n2 =>
 match decide (x1 = n2) with
 | true => (some (.ret, (z38 x8), h))
 | false => (some (.normal, (z7a x0 x1 x7 (.int .i64 (wr .i64 (x8 + 1)))), h)))
 | false => (some ((.exit 0), (z38 .dead), h))
def znr (M : Env) (x4 : V) (h : H) : Rf :=
 some ((.int .i64 (-1)), h)
def zp4 (M : Env) (x4 : Int) (h : H) : Rf :=
 some (x4, h)
theorem zq9 : z06 M F.z10 [a0, (.int .i64 a1)] h = z10 M a0 a1 h := by kernel_rfl
theorem zo6 : zeu M (z7a x0 (.int .i64 x1) (.int .i64 x7) (.int .i64 x8)) h = z7c M x0 x1 x7 x8 h := by kernel_rfl
theorem zkp : z5v M (.exit 0) (z38 x4) h = znr M x4 h := by kernel_rfl
theorem zlh : z5v M .ret (z38 (.int .i64 x4)) h = zp4 M x4 h := by kernel_rfl
def zhv (M : Env) := lb M F.zsa [0, 5, 6] [5]
def z6z (x0 x5 x6 : V) : List V := x0 :: dd 4 (x5 :: x6 :: dd 39 [])
def zdj (x5 : V) : List V := dd 5 (x5 :: dd 40 [])
def zcw (M : Env) := lb M F.zsr [0, 5, 6, 26, 27, 28] [0, 5, 6]
def z3i (x0 x5 x6 x26 x27 x28 : V) : List V := x0 :: dd 4 (x5 :: x6 :: dd 19 (x26 :: x27 :: x28 :: dd 17 []))
def zdf (x0 x5 x6 : V) : List V := x0 :: dd 4 (x5 :: x6 :: dd 39 [])
def zsw (M : Env) := kf F.z16
def zt6 (M : Env) := kq M F.zsu (zsw M)
def zem (M : Env) := kb 0 (zt6 M)
def zst (M : Env) := kl [0, 5, 6] [5]
def zsc (M : Env) := kq M F.zsd (zst M)
def zt0 (M : Env) := kb 1 (zsc M)
def zb3 (M : Env) := kb 2 (zt0 M)
def z16 (M : Env) (a0 : V) (a1 : Int) (h : H) : Rf :=
 let h0 := h.new (.cells [a1] .rw)
 (M.loop (zhv M) (z6z a0 (.sl h.next 0 1 (.ex 1)) (0:Int)) h0).bind fun p1 => zem M p1.1 p1.2.1 p1.2.2
def zcz (M : Env) (x0 x5 : V) (x6 : Int) (h : H) : Rl :=
 (lenSl x5).bind fun n0 =>
 match decide (x6 < (n0 : Int)) with
 | true => ((nilc x0).bind fun v1 =>
 (zn v1 6).bind fun v2 =>
 (h.ld1 v2).bind fun v3 =>
 (za 1 x5 x6).bind fun v4 =>
 (h.ld1 v4).bind fun v5 =>
 (za 1 v3 v5).bind fun v6 =>
 (h.ld1 v6).bind fun v7 =>
 (lenSl v7).bind fun n8 =>
 (M.loop (zcw M) (z3i x0 x5 x6 v7 (.int .i64 (n8 : Int)) (0:Int)) h).bind fun p9 => zb3 M p9.1 p9.2.1 p9.2.2)
 | false => (some ((.exit 0), (zdj x5), h))
def zqk (M : Env) (x5 : V) (h : H) : Rf :=
 some (x5, h)
def z74 (M : Env) (x0 x5 : V) (x6 : Int) (x26 : V) (x27 x28 : Int) (h : H) : Rl :=
 match decide (x28 < x27) with
 | true => ((za 1 x26 x28).bind fun v0 =>
 (h.ld1 v0).bind fun v1 =>
 (asI .i64 v1).bind fun n2 =>
 match decide (0 ≤ n2) with
 | true => ((M.call 331 [x5, v1] h).bind fun p3 =>
 (asB p3.1).bind fun b4 =>
 match (!b4) with
 | true => ((fill (repl [(0:Int)] 1) [] [(0, 1, .c v1)]).bind fun cs5 =>
 let h6 := p3.2.new (.cells cs5 .rw)
 (h6.append 1 8 x5 (.sl p3.2.next 0 1 (.ex 1))).bind fun p7 =>
 some (.normal, (z3i x0 p7.1 x6 x26 x27 (.int .i64 (wr .i64 (x28 + 1)))), p7.2))
 | false => (some (.normal, (z3i x0 x5 x6 x26 x27 (.int .i64 (wr .i64 (x28 + 1)))), p3.2)))
 | false => (some (.normal, (z3i x0 x5 x6 x26 x27 (.int .i64 (wr .i64 (x28 + 1)))), h)))
 | false => (some ((.exit 2), (zdf x0 x5 x6), h))
def zh6 (M : Env) (x0 x5 : V) (x6 : Int) (h : H) : Rl :=
 some (.normal, (z6z x0 x5 (.int .i64 (wr .i64 (x6 + 1)))), h)
theorem zsy : z06 M F.z16 [a0, (.int .i64 a1)] h = z16 M a0 a1 h := by kernel_rfl
theorem zqs : zhv M (z6z x0 x5 (.int .i64 x6)) h = zcz M x0 x5 x6 h := by kernel_rfl
theorem zpd : zem M (.exit 0) (zdj x5) h = zqk M x5 h := by kernel_rfl
theorem zqr : zcw M (z3i x0 x5 (.int .i64 x6) x26 (.int .i64 x27) (.int .i64 x28)) h = z74 M x0 x5 x6 x26 x27 x28 h := by kernel_rfl
theorem zp2 : zb3 M (.exit 2) (zdf x0 x5 (.int .i64 x6)) h = zh6 M x0 x5 x6 h := by kernel_rfl
def z6u (M : Env) (a0 : V) (a1 a2 a3 : Int) (h : H) : Rf :=
 (nilc a0).bind fun v0 =>
 (zn v0 9).bind fun v1 =>
 (h.ld1 v1).bind fun v2 =>
 (h.mapSet .int v2 (.int .u64 a2) (1:Int)).bind fun h3 =>
 (nilc a0).bind fun v4 =>
 (zn v4 7).bind fun v5 =>
 (h3.ld1 v5).bind fun v6 =>
 (za 1 v6 a1).bind fun v7 =>
 (h3.ld1 v7).bind fun v8 =>
 (h3.mapSet .int v8 (.int .u64 a2) a3).bind fun h9 =>
 some ((.tup []), h9)
theorem zv7 : z06 M F.z6u [a0, (.int .i64 a1), (.int .u64 a2), (.int .i64 a3)] h = z6u M a0 a1 a2 a3 h := by kernel_rfl
def zk3 (M : Env) := jb M F.zuh [0, 1, 7]
def zjx (x0 x1 x5 : V) : List V := x0 :: x1 :: dd 3 (x5 :: dd 25 [])
def zel (x0 x1 x7 : V) : List V := x0 :: x1 :: dd 5 (x7 :: dd 23 [])
def zun (M : Env) := kf F.z2e
def zuj (M : Env) := kq M F.zu7 (zun M)
def zub (M : Env) := kb 0 (zuj M)
def znn (M : Env) := kq M F.zud (zub M)
def z2e (M : Env) (a0 : V) (a1 a2_0 a2_1 a2_2 a2_3 a2_4 : Int) (h : H) : Rf :=
 let h0 := h.new (.cells [a2_0, a2_1, (.int .u64 a2_2), (.int .u64 a2_3), (.int .u64 a2_4)] .rw)
 (zk3 M (zjx a0 a1 (.ptr h.next 0)) h0).bind fun p1 => znn M p1.1 p1.2.1 p1.2.2
def z7m (M : Env) (x0 : V) (x1 : Int) (x5 : V) (h : H) : Rl :=
 (zn x5 1).bind fun v0 =>
 (h.ld1 v0).bind fun v1 =>
 (asI .i64 v1).bind fun n2 =>
 match decide (n2 < 0) with
 | true => (some (.normal, (zel x0 x1 true), h))
 | false => ((zn x5 1).bind fun v3 =>
 (h.ld1 v3).bind fun v4 =>
 (nilc x0).bind fun v5 =>
 (zn v5 0).bind fun v6 =>
 (zn v6 1).bind fun v7 =>
 (h.ld1 v7).bind fun v8 =>
 (asI .i64 v4).bind fun n9 =>
 (asI .i64 v8).bind fun n10 =>
 some (.normal, (zel x0 x1 (.bool (decide (n10 < n9)))), h))
def z83 (M : Env) (x0 : V) (x1 : Int) (x7 : Bool) (h : H) : Rf :=
 match x7 with
 | true => (some ((1:Int), h))
 | false => ((nilc x0).bind fun v0 =>
 (zn v0 0).bind fun v1 =>
 (zn v1 3).bind fun v2 =>
 (h.ld1 v2).bind fun v3 =>
 (M.call 105 [x0, x1] h).bind fun p4 =>
 match ckB (p4.2.ld1 v2) v3 with
 | true => ((asI .i64 p4.1).bind fun n5 =>
 (asI .i64 v3).bind fun n6 =>
 match decide (n6 ≤ n5) with
 | true => (some ((5:Int), p4.2))
 | false => (some ((0:Int), p4.2)))
 | false => none)
theorem zul : z06 M F.z2e [a0, (.int .i64 a1), (.agg [(.int .i64 a2_0), (.int .i64 a2_1), (.int .u64 a2_2), (.int .u64 a2_3), (.int .u64 a2_4)])] h = z2e M a0 a1 a2_0 a2_1 a2_2 a2_3 a2_4 h := by kernel_rfl
theorem zad : zk3 M (zjx x0 (.int .i64 x1) x5) h = z7m M x0 x1 x5 h := by kernel_rfl
theorem z8u : znn M .normal (zel x0 (.int .i64 x1) (.bool x7)) h = z83 M x0 x1 x7 h := by kernel_rfl
def zl7 (M : Env) := jb M F.zw9 [0, 1, 5, 7, 15]
def zl6 (x0 x1 x5 x7 : V) : List V := x0 :: x1 :: dd 3 (x5 :: dd 1 (x7 :: dd 37 []))
def zfo (x0 x1 x5 x7 x15 : V) : List V := x0 :: x1 :: dd 3 (x5 :: dd 1 (x7 :: dd 7 (x15 :: dd 29 [])))
def zwi (M : Env) := kf F.z2s
def zwp (M : Env) := kq M F.zvo (zwi M)
def zv2 (M : Env) := kb 0 (zwp M)
def zoe (M : Env) := kq M F.zvd (zv2 M)
def z2s (M : Env) (a0 : V) (a1 a2_0 a2_1 a2_2 a2_3 a2_4 : Int) (h : H) : Rf :=
 let h0 := h.new (.cells [a2_0, a2_1, (.int .u64 a2_2), (.int .u64 a2_3), (.int .u64 a2_4)] .rw)
 (nilc a0).bind fun v1 =>
 (zn v1 8).bind fun v2 =>
 (h0.ld1 v2).bind fun v3 =>
 (za 2 v3 a1).bind fun v4 =>
 (h0.ldN 2 v4).bind fun v5 =>
 let h6 := h0.new (.cells [(.int .u64 0), .nilsl] .rw)
 (h6.st 2 (.ptr h0.next 0) v5).bind fun h7 =>
 (zl7 M (zl6 a0 a1 (.ptr h.next 0) (.ptr h0.next 0)) h7).bind fun p8 => zoe M p8.1 p8.2.1 p8.2.2
def z4x (M : Env) (x0 : V) (x1 : Int) (x5 x7 : V) (h : H) : Rl :=
 (zn x5 2).bind fun v0 =>
 (h.ld1 v0).bind fun v1 =>
 (asI .u64 v1).bind fun n2 =>
 match decide (n2 = 0) with
 | true => (some (.normal, (zfo x0 x1 x5 x7 true), h))
 | false => ((zn x7 0).bind fun v3 =>
 (h.ld1 v3).bind fun v4 =>
 (zn x5 2).bind fun v5 =>
 (h.ld1 v5).bind fun v6 =>
 (asI .u64 v4).bind fun n7 =>
 (asI .u64 v6).bind fun n8 =>
 some (.normal, (zfo x0 x1 x5 x7 (.bool (!decide (n7 = n8)))), h))
def z4t (M : Env) (x0 : V) (x1 : Int) (x5 x7 : V) (x15 : Bool) (h : H) : Rf :=
 match x15 with
 | true => (some ((6:Int), h))
 | false => ((zn x5 0).bind fun v0 =>
 (h.ld1 v0).bind fun v1 =>
 (asI .i64 v1).bind fun n2 =>
 match decide (n2 = 10) with
 | true => (some ((0:Int), h))
 | false => ((zn x7 1).bind fun v3 =>
 (h.ld1 v3).bind fun v4 =>
 (lenSl v4).bind fun n5 =>
 match decide ((n5 : Int) = 0) with
 | true => (some ((6:Int), h))
 | false => ((nilc x0).bind fun v6 =>
 (zn v6 0).bind fun v7 =>
 (zn v7 3).bind fun v8 =>
 (h.ld1 v8).bind fun v9 =>
 (M.call 105 [x0, x1] h).bind fun p10 =>
 match ckB (p10.2.ld1 v8) v9 with
 | true => ((asI .i64 p10.1).bind fun n11 =>
 (asI .i64 v9).bind fun n12 =>
 match decide (n12 ≤ n11) with
 | true => (some ((5:Int), p10.2))
 | false => (some ((0:Int), p10.2)))
 | false => none)))
theorem zvk : z06 M F.z2s [a0, (.int .i64 a1), (.agg [(.int .i64 a2_0), (.int .i64 a2_1), (.int .u64 a2_2), (.int .u64 a2_3), (.int .u64 a2_4)])] h = z2s M a0 a1 a2_0 a2_1 a2_2 a2_3 a2_4 h := by kernel_rfl
theorem z5z : zl7 M (zl6 x0 (.int .i64 x1) x5 x7) h = z4x M x0 x1 x5 x7 h := by kernel_rfl
theorem z4u : zoe M .normal (zfo x0 (.int .i64 x1) x5 x7 (.bool x15)) h = z4t M x0 x1 x5 x7 x15 h := by kernel_rfl
def zkv (M : Env) := jb M F.zwk [0, 1, 5, 7, 8]
def zku (x0 x1 x5 x7 x8 : V) : List V := x0 :: x1 :: dd 3 (x5 :: dd 1 (x7 :: x8 :: dd 124 []))
def z1v (x0 x1 x5 x7 x8 : V) : List V := x0 :: x1 :: dd 3 (x5 :: dd 1 (x7 :: x8 :: dd 124 []))
def zkw (M : Env) := jb M F.zve [0, 1, 5, 7, 8, 17, 18]
def zl1 (x0 x1 x5 x7 x8 x17 : V) : List V := x0 :: x1 :: dd 3 (x5 :: dd 1 (x7 :: x8 :: dd 8 (x17 :: dd 115 [])))
def zet (x0 x1 x5 x7 x8 x17 x18 : V) : List V := x0 :: x1 :: dd 3 (x5 :: dd 1 (x7 :: x8 :: dd 8 (x17 :: x18 :: dd 114 [])))
def zex (M : Env) := jb M F.zvj [0, 1, 5, 7, 62]
def zff (x0 x1 x5 x7 : V) : List V := x0 :: x1 :: dd 3 (x5 :: dd 1 (x7 :: dd 125 []))
def z3s (x0 x1 x5 x7 x62 : V) : List V := x0 :: x1 :: dd 3 (x5 :: dd 1 (x7 :: dd 54 (x62 :: dd 70 [])))
def zc2 (M : Env) := jb M F.zvx [0, 1, 5, 89]
def zby (x0 x1 x5 x7 : V) : List V := x0 :: x1 :: dd 3 (x5 :: dd 1 (x7 :: dd 125 []))
def zc3 (x0 x1 x5 x89 : V) : List V := x0 :: x1 :: dd 3 (x5 :: dd 83 (x89 :: dd 43 []))
def zog (M : Env) := kf F.z0o
def zof (M : Env) := kq M F.zv9 (zog M)
def zvc (M : Env) := kj [0, 1, 5, 7, 8]
def zwa (M : Env) := kb 0 (zvc M)
def zoa (M : Env) := kq M F.zwq (zwa M)
def zvy (M : Env) := kq M F.zwo (zog M)
def zob (M : Env) := kb 1 (zvy M)
def zgr (M : Env) := kq M F.zwn (zob M)
def zdl (M : Env) := kq M F.zw5 (zob M)
def z0o (M : Env) (a0 : V) (a1 a2_0 a2_1 a2_2 a2_3 a2_4 : Int) (h : H) : Rf :=
 let h0 := h.new (.cells [a2_0, a2_1, (.int .u64 a2_2), (.int .u64 a2_3), (.int .u64 a2_4)] .rw)
 (h0.ld1 (.ptr h.next 2)).bind fun v1 =>
 (M.call 106 [a0, a1, v1] h0).bind fun p2 =>
 (asI .i64 p2.1).bind fun n3 =>
 (zkv M (zku a0 a1 (.ptr h.next 0) p2.1 (.bool (decide (0 ≤ n3)))) p2.2).bind fun p4 => zof M p4.1 p4.2.1 p4.2.2
def z13 (M : Env) (x0 : V) (x1 : Int) (x5 : V) (x7 : Int) (x8 : Bool) (h : H) : Rl :=
 (zn x5 0).bind fun v0 =>
 (h.ld1 v0).bind fun v1 =>
 (zkw M (zl1 x0 x1 x5 x7 x8 v1) h).bind fun p2 => zoa M p2.1 p2.2.1 p2.2.2
def zbz (M : Env) (x0 : V) (x1 : Int) (x5 : V) (x7 : Int) (x8 : Bool) (h : H) : Rf :=
 match (!x8) with
 | true => (some ((2:Int), h))
 | false => ((zex M (zff x0 x1 x5 x7) h).bind fun p0 => zgr M p0.1 p0.2.1 p0.2.2)
def z11 (M : Env) (x0 : V) (x1 : Int) (x5 : V) (x7 : Int) (x8 : Bool) (x17 : Int) (h : H) : Rl :=
 match decide (x17 = 3) with
 | true => (some (.normal, (zet x0 x1 x5 x7 x8 x17 (.bool (decide (x17 = 3)))), h))
 | false => (some (.normal, (zet x0 x1 x5 x7 x8 x17 (.bool (decide (x17 = 7)))), h))
def z12 (M : Env) (x0 : V) (x1 : Int) (x5 : V) (x7 : Int) (x8 : Bool) (x17 : Int) (x18 : Bool) (h : H) : Rl :=
 match x18 with
 | true => (match x8 with
 | true => ((zn x5 3).bind fun v0 =>
 (h.ld1 v0).bind fun v1 =>
 (M.call 106 [x0, x1, v1] h).bind fun p2 =>
 (asI .i64 p2.1).bind fun n3 =>
 some (.normal, (z1v x0 x1 x5 x7 (.bool (decide (0 ≤ n3)))), p2.2))
 | false => (some (.normal, (z1v x0 x1 x5 x7 false), h)))
 | false => (match decide (x17 = 5) with
 | true => (match x8 with
 | true => ((zn x5 3).bind fun v0 =>
 (h.ld1 v0).bind fun v1 =>
 (asI .u64 v1).bind fun n2 =>
 match decide (n2 = 0) with
 | true => ((zn x5 4).bind fun v3 =>
 (h.ld1 v3).bind fun v4 =>
 (asI .u64 v4).bind fun n5 =>
 match decide (n5 = 0) with
 | true => (some (.normal, (z1v x0 x1 x5 x7 true), h))
 | false => ((zn x5 4).bind fun v6 =>
 (h.ld1 v6).bind fun v7 =>
 (M.call 106 [x0, x1, v7] h).bind fun p8 =>
 (asI .i64 p8.1).bind fun n9 =>
 some (.normal, (z1v x0 x1 x5 x7 (.bool (decide (0 ≤ n9)))), p8.2)))
 | false => ((zn x5 3).bind fun v3 =>
 (h.ld1 v3).bind fun v4 =>
 (M.call 106 [x0, x1, v4] h).bind fun p5 =>
 (asI .i64 p5.1).bind fun n6 =>
 match decide (0 ≤ n6) with
 | true => ((zn x5 4).bind fun v7 =>
 (p5.2.ld1 v7).bind fun v8 =>
 (asI .u64 v8).bind fun n9 =>
 match decide (n9 = 0) with
 | true => (some (.normal, (z1v x0 x1 x5 x7 true), p5.2))
 | false => ((zn x5 4).bind fun v10 =>
 (p5.2.ld1 v10).bind fun v11 =>
 (M.call 106 [x0, x1, v11] p5.2).bind fun p12 =>
 (asI .i64 p12.1).bind fun n13 =>
 some (.normal, (z1v x0 x1 x5 x7 (.bool (decide (0 ≤ n13)))), p12.2)))
 | false => (some (.normal, (z1v x0 x1 x5 x7 false), p5.2))))
 | false => (some (.normal, (z1v x0 x1 x5 x7 false), h)))
 | false => (some (.normal, (z1v x0 x1 x5 x7 x8), h)))
def z3r (M : Env) (x0 : V) (x1 : Int) (x5 : V) (x7 : Int) (h : H) : Rl :=
 (zn x5 0).bind fun v0 =>
 (h.ld1 v0).bind fun v1 =>
 (asI .i64 v1).bind fun n2 =>
 match decide (n2 = 2) with
 | true => ((zn x5 1).bind fun v3 =>
 (h.ld1 v3).bind fun v4 =>
 (asI .i64 v4).bind fun n5 =>
 match decide (n5 < 0) with
 | true => (some (.normal, (z3s x0 x1 x5 x7 true), h))
 | false => ((zn x5 1).bind fun v6 =>
 (h.ld1 v6).bind fun v7 =>
 (nilc x0).bind fun v8 =>
 (zn v8 6).bind fun v9 =>
 (h.ld1 v9).bind fun v10 =>
 (za 1 v10 x7).bind fun v11 =>
 (h.ld1 v11).bind fun v12 =>
 (lenSl v12).bind fun n13 =>
 (asI .i64 v7).bind fun n14 =>
 some (.normal, (z3s x0 x1 x5 x7 (.bool (decide ((n13 : Int) ≤ n14)))), h)))
 | false => ((zn x5 0).bind fun v3 =>
 (h.ld1 v3).bind fun v4 =>
 (M.call 83 [v4] h).bind fun p5 =>
 match p5.1 with
 | .bool true => (
 (zn x5 1).bind fun v6 =>
 (p5.2.ld1 v6).bind fun v7 =>
 (asI .i64 v7).bind fun n8 =>
 match decide (n8 < 0) with
 | true => (some (.normal, (z3s x0 x1 x5 x7 true), p5.2))
 | false => ((zn x5 1).bind fun v9 =>
 (p5.2.ld1 v9).bind fun v10 =>
 (nilc x0).bind fun v11 =>
 (zn v11 6).bind fun v12 =>
 (p5.2.ld1 v12).bind fun v13 =>
 (za 1 v13 x7).bind fun v14 =>
 (p5.2.ld1 v14).bind fun v15 =>
 (lenSl v15).bind fun n16 =>
 (asI .i64 v10).bind fun n17 =>
 some (.normal, (z3s x0 x1 x5 x7 (.bool (decide ((n16 : Int) ≤ n17)))), p5.2)))
 | .bool false => (
 some (.normal, (z3s x0 x1 x5 x7 false), p5.2))
 | .tup [] => (
 match p5.1 with
 | .bool true => (
 none)
 | .bool false => (
 some (.normal, (z3s x0 x1 x5 x7 false), p5.2))
 | .tup [] => (
 (asB p5.1).bind fun b6 =>
 some (.normal, (z3s x0 x1 x5 x7 (match b6 with | true => (.tup []) | false => false : V)), p5.2))
 | _ => none)
 | _ => none)
def z3t (M : Env) (x0 : V) (x1 : Int) (x5 : V) (x7 : Int) (x62 : Bool) (h : H) : Rf :=
 match x62 with
 | true => (some ((3:Int), h))
 | false => ((zc2 M (zby x0 x1 x5 x7) h).bind fun p0 => zdl M p0.1 p0.2.1 p0.2.2)
def z4y (M : Env) (x0 : V) (x1 : Int) (x5 : V) (x7 : Int) (h : H) : Rl :=
 (zn x5 0).bind fun v0 =>
 (h.ld1 v0).bind fun v1 =>
 (asI .i64 v1).bind fun n2 =>
 match decide (n2 = 2) with
 | true => ((nilc x0).bind fun v3 =>
 (zn v3 6).bind fun v4 =>
 (h.ld1 v4).bind fun v5 =>
 (za 1 v5 x7).bind fun v6 =>
 (h.ld1 v6).bind fun v7 =>
 (zn x5 1).bind fun v8 =>
 (h.ld1 v8).bind fun v9 =>
 (za 1 v7 v9).bind fun v10 =>
 (h.ld1 v10).bind fun v11 =>
 (asI .i64 v11).bind fun n12 =>
 match decide (0 ≤ n12) with
 | true => ((nilc x0).bind fun v13 =>
 (zn v13 0).bind fun v14 =>
 (zn v14 3).bind fun v15 =>
 (h.ld1 v15).bind fun v16 =>
 (M.call 105 [x0, x1] h).bind fun p17 =>
 match ckB (p17.2.ld1 v15) v16 with
 | true => ((asI .i64 p17.1).bind fun n18 =>
 (asI .i64 v16).bind fun n19 =>
 some (.normal, (zc3 x0 x1 x5 (.bool (decide (n19 ≤ n18)))), p17.2))
 | false => none)
 | false => (some (.normal, (zc3 x0 x1 x5 false), h)))
 | false => (some (.normal, (zc3 x0 x1 x5 false), h))
def z4v (M : Env) (x0 : V) (x1 : Int) (x5 : V) (x89 : Bool) (h : H) : Rf :=
 match x89 with
 | true => (some ((5:Int), h))
 | false => ((zn x5 0).bind fun v0 =>
 (h.ld1 v0).bind fun v1 =>
 (asI .i64 v1).bind fun n2 =>
 match decide (n2 = 8) with
 | true => ((nilc x0).bind fun v3 =>
 (zn v3 8).bind fun v4 =>
 (h.ld1 v4).bind fun v5 =>
 (za 2 v5 x1).bind fun v6 =>
 (zn v6 0).bind fun v7 =>
 (h.ld1 v7).bind fun v8 =>
 (asI .u64 v8).bind fun n9 =>
 match (!decide (n9 = 0)) with
 | true => (some ((7:Int), h))
 | false => (some ((0:Int), h)))
 | false => (some ((0:Int), h)))
theorem zvu : z06 M F.z0o [a0, (.int .i64 a1), (.agg [(.int .i64 a2_0), (.int .i64 a2_1), (.int .u64 a2_2), (.int .u64 a2_3), (.int .u64 a2_4)])] h = z0o M a0 a1 a2_0 a2_1 a2_2 a2_3 a2_4 h := by kernel_rfl
theorem z1d : zkv M (zku x0 (.int .i64 x1) x5 (.int .i64 x7) (.bool x8)) h = z13 M x0 x1 x5 x7 x8 h := by kernel_rfl
theorem z0w : zof M .normal (z1v x0 (.int .i64 x1) x5 (.int .i64 x7) (.bool x8)) h = zbz M x0 x1 x5 x7 x8 h := by kernel_rfl
theorem z18 : zkw M (zl1 x0 (.int .i64 x1) x5 (.int .i64 x7) (.bool x8) (.int .i64 x17)) h = z11 M x0 x1 x5 x7 x8 x17 h := by kernel_rfl
theorem z0u : zoa M .normal (zet x0 (.int .i64 x1) x5 (.int .i64 x7) (.bool x8) (.int .i64 x17) (.bool x18)) h = z12 M x0 x1 x5 x7 x8 x17 x18 h := by kernel_rfl
theorem z4g : zex M (zff x0 (.int .i64 x1) x5 (.int .i64 x7)) h = z3r M x0 x1 x5 x7 h := by kernel_rfl
theorem z3f : zgr M .normal (z3s x0 (.int .i64 x1) x5 (.int .i64 x7) (.bool x62)) h = z3t M x0 x1 x5 x7 x62 h := by kernel_rfl
theorem z60 : zc2 M (zby x0 (.int .i64 x1) x5 (.int .i64 x7)) h = z4y M x0 x1 x5 x7 h := by kernel_rfl
theorem z4z : zdl M .normal (zc3 x0 (.int .i64 x1) x5 (.bool x89)) h = z4v M x0 x1 x5 x89 h := by kernel_rfl
def z4s (M : Env) (a0 : V) (a1 a2_0 a2_1 a2_2 a2_3 a2_4 : Int) (h : H) : Rf :=
 let h0 := h.new (.cells [a2_0, a2_1, (.int .u64 a2_2), (.int .u64 a2_3), (.int .u64 a2_4)] .rw)
 (h0.ld1 (.ptr h.next 2)).bind fun v1 =>
 (h0.ld1 (.ptr h.next 1)).bind fun v2 =>
 (h0.ld1 (.ptr h.next 4)).bind fun v3 =>
 (M.call 106 [a0, a1, v1] h0).bind fun p4 =>
 match ckB (p4.2.ld1 (.ptr h.next 4)) v3 with
 | true => (match ckB (p4.2.ld1 (.ptr h.next 1)) v2 with
 | true => ((M.call 116 [a0, p4.1, v2] p4.2).bind fun p5 =>
 match ckB (p5.2.ld1 (.ptr h.next 4)) v3 with
 | true => ((M.call 106 [a0, a1, v3] p5.2).bind fun p6 =>
 (asI .i64 p5.1).bind fun n7 =>
 (asI .i64 p6.1).bind fun n8 =>
 some ((.bool (decide (n7 = n8))), p6.2))
 | false => none)
 | false => none)
 | false => none
theorem zsm : z06 M F.z4s [a0, (.int .i64 a1), (.agg [(.int .i64 a2_0), (.int .i64 a2_1), (.int .u64 a2_2), (.int .u64 a2_3), (.int .u64 a2_4)])] h = z4s M a0 a1 a2_0 a2_1 a2_2 a2_3 a2_4 h := by kernel_rfl
def zl8 (M : Env) (a0 : Int) (h : H) : Rf :=
 match decide (a0 = 9) with
 | true => (some (true, h))
 | false => (some ((.bool (decide (a0 = 10))), h))
theorem z07i : z06 M F.zl8 [(.int .i64 a0)] h = zl8 M a0 h := by kernel_rfl
def zg2 (M : Env) (a0 : Int) (h : H) : Rf :=
 match decide (3 ≤ a0) with
 | true => (some ((.bool (decide (a0 ≤ 5))), h))
 | false => (some (false, h))
theorem z05k : z06 M F.zg2 [(.int .i64 a0)] h = zg2 M a0 h := by kernel_rfl
end Wm.S
end
