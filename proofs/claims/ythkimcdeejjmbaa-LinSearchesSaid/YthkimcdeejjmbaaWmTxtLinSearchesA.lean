/- PRINTED by my tool: what functions come to, stretch by stretch. -/
import Derived.KernelRfl
import Derived.Test.YthkimcdeejjmbaaWmShal
import Derived.Test.YthkimcdeejjmbaaWmFnsLinSearches
set_option linter.all false
noncomputable section
open Wm
namespace Wm.S
open Wm
set_option maxRecDepth 100000
set_option autoImplicit true
set_option relaxedAutoImplicit true
instance : Coe Int V := ⟨V.int .i64⟩
instance : Coe Bool V := ⟨V.bool⟩
abbrev Rf := Option (V × H)
abbrev Rl := Option (AX × List V × H)
abbrev Kt (R : Type) := AX → List V → H → Option R
def dd : Nat → List V → List V
  | 0, l => l
  | n + 1, l => .dead :: dd n l
def uu : Nat → List V → List V
  | 0, l => l
  | n + 1, l => .tup [] :: uu n l
def kl (k o : List Nat) : Kt (AX × List V × H) := fun x env h => match x with | .normal => some (.normal, zt k 0 env, h) | x => some (x, zt o 0 env, h)
def kj (o : List Nat) : Kt (AX × List V × H) := fun x env h => some (x, zt o 0 env, h)
def kc (k o : List Nat) : Kt (AX × List V × H) := fun x env h => match x with | .goto j => some (.goto j, zt k 0 env, h) | x => some (x, zt o 0 env, h)
def lb (M : Env) (c : ACode) (k o : List Nat) (env : List V) (h : H) : Rl := z08 M c env h (kl k o)
def jb (M : Env) (c : ACode) (o : List Nat) (env : List V) (h : H) : Rl := z08 M c env h (kj o)
def sc (M : Env) (c d : ACode) (k o : List Nat) (l : Nat) (env : List V) (h : H) : Rl := match l with | 0 => z08 M c env h (kc k o) | l + 1 => z0p M d l env h (kc k o)
def kf (f : AFunc) : Kt (V × H) := fun x env h => fin f x env h
def kq {R : Type} (M : Env) (c : ACode) (k : Kt R) : Kt R := fun x env h => match x with | .normal => z08 M c env h k | x => k x env h
def kb {R : Type} (id : Nat) (k : Kt R) : Kt R := fun x env h => match x with | .exit j => (match Nat.beq j id with | true => k .normal env h | false => k (.exit j) env h) | x => k x env h
def z9h (M : Env) (a0 a1 a2 : Int) (h : H) : Rf :=
 match decide (a1 ≤ a0) with
 | true => (some ((.bool (decide (a0 ≤ a2))), h))
 | false => (some (false, h))
theorem zvp : z0g M F.z9h [(.int .i64 a0), (.int .i64 a1), (.int .i64 a2)] h = z9h M a0 a1 a2 h := by kernel_rfl
def zbv (M : Env) (a0_0 a0_1 a0_2 a0_3 a0_4 a0_5 : Int) (h : H) : Rf :=
 let h0 := h.new (.cells [a0_0, a0_1, a0_2, a0_3, a0_4, a0_5] .rw)
 (h0.ld1 (.ptr h.next 0)).bind fun v1 =>
 (M.call 376 [v1, (1:Int), (64:Int)] h0).bind fun p2 =>
 match p2.1 with
 | .bool true => (
 (p2.2.ld1 (.ptr h.next 1)).bind fun v3 =>
 (M.call 376 [v3, (0:Int), (8:Int)] p2.2).bind fun p4 =>
 match p4.1 with
 | .bool true => (
 (p4.2.ld1 (.ptr h.next 2)).bind fun v5 =>
 (M.call 376 [v5, (1:Int), (8:Int)] p4.2).bind fun p6 =>
 match p6.1 with
 | .bool true => (
 (p6.2.ld1 (.ptr h.next 3)).bind fun v7 =>
 (M.call 376 [v7, (1:Int), (16:Int)] p6.2).bind fun p8 =>
 match p8.1 with
 | .bool true => (
 (p8.2.ld1 (.ptr h.next 4)).bind fun v9 =>
 (M.call 376 [v9, (1:Int), (1048576:Int)] p8.2).bind fun p10 =>
 match p10.1 with
 | .bool true => (
 (p10.2.ld1 (.ptr h.next 5)).bind fun v11 =>
 (M.call 376 [v11, (0:Int), (64:Int)] p10.2).bind fun p12 =>
 some (p12.1, p12.2))
 | .bool false => (
 some (false, p10.2))
 | .tup [] => (
 (asB p10.1).bind fun b11 =>
 some ((match b11 with | true => (.tup []) | false => false : V), p10.2))
 | _ => none)
 | .bool false => (
 some (false, p8.2))
 | .tup [] => (
 (asB p8.1).bind fun b9 =>
 match (match b9 with | true => (.tup []) | false => false : V) with
 | .bool true => (
 (p8.2.ld1 (.ptr h.next 5)).bind fun v10 =>
 (M.call 376 [v10, (0:Int), (64:Int)] p8.2).bind fun p11 =>
 some (p11.1, p11.2))
 | .bool false => (
 some (false, p8.2))
 | .tup [] => (
 (asB (match b9 with | true => (.tup []) | false => false : V)).bind fun b10 =>
 some ((match b10 with | true => (.tup []) | false => false : V), p8.2))
 | _ => none)
 | _ => none)
 | .bool false => (
 some (false, p6.2))
 | .tup [] => (
 (asB p6.1).bind fun b7 =>
 match (match b7 with | true => (.tup []) | false => false : V) with
 | .bool true => (
 (p6.2.ld1 (.ptr h.next 4)).bind fun v8 =>
 (M.call 376 [v8, (1:Int), (1048576:Int)] p6.2).bind fun p9 =>
 match p9.1 with
 | .bool true => (
 (p9.2.ld1 (.ptr h.next 5)).bind fun v10 =>
 (M.call 376 [v10, (0:Int), (64:Int)] p9.2).bind fun p11 =>
 some (p11.1, p11.2))
 | .bool false => (
 some (false, p9.2))
 | .tup [] => (
 (asB p9.1).bind fun b10 =>
 some ((match b10 with | true => (.tup []) | false => false : V), p9.2))
 | _ => none)
 | .bool false => (
 some (false, p6.2))
 | .tup [] => (
 (asB (match b7 with | true => (.tup []) | false => false : V)).bind fun b8 =>
 match (match b8 with | true => (.tup []) | false => false : V) with
 | .bool true => (
 (p6.2.ld1 (.ptr h.next 5)).bind fun v9 =>
 (M.call 376 [v9, (0:Int), (64:Int)] p6.2).bind fun p10 =>
 some (p10.1, p10.2))
 | .bool false => (
 some (false, p6.2))
 | .tup [] => (
 (asB (match b8 with | true => (.tup []) | false => false : V)).bind fun b9 =>
 some ((match b9 with | true => (.tup []) | false => false : V), p6.2))
 | _ => none)
 | _ => none)
 | _ => none)
 | .bool false => (
 some (false, p4.2))
 | .tup [] => (
 (asB p4.1).bind fun b5 =>
 match (match b5 with | true => (.tup []) | false => false : V) with
 | .bool true => (
 (p4.2.ld1 (.ptr h.next 3)).bind fun v6 =>
 (M.call 376 [v6, (1:Int), (16:Int)] p4.2).bind fun p7 =>
 match p7.1 with
 | .bool true => (
 (p7.2.ld1 (.ptr h.next 4)).bind fun v8 =>
 (M.call 376 [v8, (1:Int), (1048576:Int)] p7.2).bind fun p9 =>
 match p9.1 with
 | .bool true => (
 (p9.2.ld1 (.ptr h.next 5)).bind fun v10 =>
 (M.call 376 [v10, (0:Int), (64:Int)] p9.2).bind fun p11 =>
 some (p11.1, p11.2))
 | .bool false => (
 some (false, p9.2))
 | .tup [] => (
 (asB p9.1).bind fun b10 =>
 some ((match b10 with | true => (.tup []) | false => false : V), p9.2))
 | _ => none)
 | .bool false => (
 some (false, p7.2))
 | .tup [] => (
 (asB p7.1).bind fun b8 =>
 match (match b8 with | true => (.tup []) | false => false : V) with
 | .bool true => (
 (p7.2.ld1 (.ptr h.next 5)).bind fun v9 =>
 (M.call 376 [v9, (0:Int), (64:Int)] p7.2).bind fun p10 =>
 some (p10.1, p10.2))
 | .bool false => (
 some (false, p7.2))
 | .tup [] => (
 (asB (match b8 with | true => (.tup []) | false => false : V)).bind fun b9 =>
 some ((match b9 with | true => (.tup []) | false => false : V), p7.2))
 | _ => none)
 | _ => none)
 | .bool false => (
 some (false, p4.2))
 | .tup [] => (
 (asB (match b5 with | true => (.tup []) | false => false : V)).bind fun b6 =>
 match (match b6 with | true => (.tup []) | false => false : V) with
 | .bool true => (
 (p4.2.ld1 (.ptr h.next 4)).bind fun v7 =>
 (M.call 376 [v7, (1:Int), (1048576:Int)] p4.2).bind fun p8 =>
 match p8.1 with
 | .bool true => (
 (p8.2.ld1 (.ptr h.next 5)).bind fun v9 =>
 (M.call 376 [v9, (0:Int), (64:Int)] p8.2).bind fun p10 =>
 some (p10.1, p10.2))
 | .bool false => (
 some (false, p8.2))
 | .tup [] => (
 (asB p8.1).bind fun b9 =>
 some ((match b9 with | true => (.tup []) | false => false : V), p8.2))
 | _ => none)
 | .bool false => (
 some (false, p4.2))
 | .tup [] => (
 (asB (match b6 with | true => (.tup []) | false => false : V)).bind fun b7 =>
 match (match b7 with | true => (.tup []) | false => false : V) with
 | .bool true => (
 (p4.2.ld1 (.ptr h.next 5)).bind fun v8 =>
 (M.call 376 [v8, (0:Int), (64:Int)] p4.2).bind fun p9 =>
 some (p9.1, p9.2))
 | .bool false => (
 some (false, p4.2))
 | .tup [] => (
 (asB (match b7 with | true => (.tup []) | false => false : V)).bind fun b8 =>
 some ((match b8 with | true => (.tup []) | false => false : V), p4.2))
 | _ => none)
 | _ => none)
 | _ => none)
 | _ => none)
 | .bool false => (
 some (false, p2.2))
 | .tup [] => (
 (asB p2.1).bind fun b3 =>
 match (match b3 with | true => (.tup []) | false => false : V) with
 | .bool true => (
 (p2.2.ld1 (.ptr h.next 2)).bind fun v4 =>
 (M.call 376 [v4, (1:Int), (8:Int)] p2.2).bind fun p5 =>
 match p5.1 with
 | .bool true => (
 (p5.2.ld1 (.ptr h.next 3)).bind fun v6 =>
 (M.call 376 [v6, (1:Int), (16:Int)] p5.2).bind fun p7 =>
 match p7.1 with
 | .bool true => (
 (p7.2.ld1 (.ptr h.next 4)).bind fun v8 =>
 (M.call 376 [v8, (1:Int), (1048576:Int)] p7.2).bind fun p9 =>
 match p9.1 with
 | .bool true => (
 (p9.2.ld1 (.ptr h.next 5)).bind fun v10 =>
 (M.call 376 [v10, (0:Int), (64:Int)] p9.2).bind fun p11 =>
 some (p11.1, p11.2))
 | .bool false => (
 some (false, p9.2))
 | .tup [] => (
 (asB p9.1).bind fun b10 =>
 some ((match b10 with | true => (.tup []) | false => false : V), p9.2))
 | _ => none)
 | .bool false => (
 some (false, p7.2))
 | .tup [] => (
 (asB p7.1).bind fun b8 =>
 match (match b8 with | true => (.tup []) | false => false : V) with
 | .bool true => (
 (p7.2.ld1 (.ptr h.next 5)).bind fun v9 =>
 (M.call 376 [v9, (0:Int), (64:Int)] p7.2).bind fun p10 =>
 some (p10.1, p10.2))
 | .bool false => (
 some (false, p7.2))
 | .tup [] => (
 (asB (match b8 with | true => (.tup []) | false => false : V)).bind fun b9 =>
 some ((match b9 with | true => (.tup []) | false => false : V), p7.2))
 | _ => none)
 | _ => none)
 | .bool false => (
 some (false, p5.2))
 | .tup [] => (
 (asB p5.1).bind fun b6 =>
 match (match b6 with | true => (.tup []) | false => false : V) with
 | .bool true => (
 (p5.2.ld1 (.ptr h.next 4)).bind fun v7 =>
 (M.call 376 [v7, (1:Int), (1048576:Int)] p5.2).bind fun p8 =>
 match p8.1 with
 | .bool true => (
 (p8.2.ld1 (.ptr h.next 5)).bind fun v9 =>
 (M.call 376 [v9, (0:Int), (64:Int)] p8.2).bind fun p10 =>
 some (p10.1, p10.2))
 | .bool false => (
 some (false, p8.2))
 | .tup [] => (
 (asB p8.1).bind fun b9 =>
 some ((match b9 with | true => (.tup []) | false => false : V), p8.2))
 | _ => none)
 | .bool false => (
 some (false, p5.2))
 | .tup [] => (
 (asB (match b6 with | true => (.tup []) | false => false : V)).bind fun b7 =>
 match (match b7 with | true => (.tup []) | false => false : V) with
 | .bool true => (
 (p5.2.ld1 (.ptr h.next 5)).bind fun v8 =>
 (M.call 376 [v8, (0:Int), (64:Int)] p5.2).bind fun p9 =>
 some (p9.1, p9.2))
 | .bool false => (
 some (false, p5.2))
 | .tup [] => (
 (asB (match b7 with | true => (.tup []) | false => false : V)).bind fun b8 =>
 some ((match b8 with | true => (.tup []) | false => false : V), p5.2))
 | _ => none)
 | _ => none)
 | _ => none)
 | .bool false => (
 some (false, p2.2))
 | .tup [] => (
 (asB (match b3 with | true => (.tup []) | false => false : V)).bind fun b4 =>
 match (match b4 with | true => (.tup []) | false => false : V) with
 | .bool true => (
 (p2.2.ld1 (.ptr h.next 3)).bind fun v5 =>
 (M.call 376 [v5, (1:Int), (16:Int)] p2.2).bind fun p6 =>
 match p6.1 with
 | .bool true => (
 (p6.2.ld1 (.ptr h.next 4)).bind fun v7 =>
 (M.call 376 [v7, (1:Int), (1048576:Int)] p6.2).bind fun p8 =>
 match p8.1 with
 | .bool true => (
 (p8.2.ld1 (.ptr h.next 5)).bind fun v9 =>
 (M.call 376 [v9, (0:Int), (64:Int)] p8.2).bind fun p10 =>
 some (p10.1, p10.2))
 | .bool false => (
 some (false, p8.2))
 | .tup [] => (
 (asB p8.1).bind fun b9 =>
 some ((match b9 with | true => (.tup []) | false => false : V), p8.2))
 | _ => none)
 | .bool false => (
 some (false, p6.2))
 | .tup [] => (
 (asB p6.1).bind fun b7 =>
 match (match b7 with | true => (.tup []) | false => false : V) with
 | .bool true => (
 (p6.2.ld1 (.ptr h.next 5)).bind fun v8 =>
 (M.call 376 [v8, (0:Int), (64:Int)] p6.2).bind fun p9 =>
 some (p9.1, p9.2))
 | .bool false => (
 some (false, p6.2))
 | .tup [] => (
 (asB (match b7 with | true => (.tup []) | false => false : V)).bind fun b8 =>
 some ((match b8 with | true => (.tup []) | false => false : V), p6.2))
 | _ => none)
 | _ => none)
 | .bool false => (
 some (false, p2.2))
 | .tup [] => (
 (asB (match b4 with | true => (.tup []) | false => false : V)).bind fun b5 =>
 match (match b5 with | true => (.tup []) | false => false : V) with
 | .bool true => (
 (p2.2.ld1 (.ptr h.next 4)).bind fun v6 =>
 (M.call 376 [v6, (1:Int), (1048576:Int)] p2.2).bind fun p7 =>
 match p7.1 with
 | .bool true => (
 (p7.2.ld1 (.ptr h.next 5)).bind fun v8 =>
 (M.call 376 [v8, (0:Int), (64:Int)] p7.2).bind fun p9 =>
 some (p9.1, p9.2))
 | .bool false => (
 some (false, p7.2))
 | .tup [] => (
 (asB p7.1).bind fun b8 =>
 some ((match b8 with | true => (.tup []) | false => false : V), p7.2))
 | _ => none)
 | .bool false => (
 some (false, p2.2))
 | .tup [] => (
 (asB (match b5 with | true => (.tup []) | false => false : V)).bind fun b6 =>
 match (match b6 with | true => (.tup []) | false => false : V) with
 | .bool true => (
 (p2.2.ld1 (.ptr h.next 5)).bind fun v7 =>
 (M.call 376 [v7, (0:Int), (64:Int)] p2.2).bind fun p8 =>
 some (p8.1, p8.2))
 | .bool false => (
 some (false, p2.2))
 | .tup [] => (
 (asB (match b6 with | true => (.tup []) | false => false : V)).bind fun b7 =>
 some ((match b7 with | true => (.tup []) | false => false : V), p2.2))
 | _ => none)
 | _ => none)
 | _ => none)
 | _ => none)
 | _ => none
theorem zxx : z0g M F.zbv [(.agg [(.int .i64 a0_0), (.int .i64 a0_1), (.int .i64 a0_2), (.int .i64 a0_3), (.int .i64 a0_4), (.int .i64 a0_5)])] h = zbv M a0_0 a0_1 a0_2 a0_3 a0_4 a0_5 h := by kernel_rfl
def z4x (M : Env) (a0_0 a0_1 a0_2 a0_3 a0_4 a0_5 : Int) (h : H) : Rf :=
 let h0 := h.new (.cells [a0_0, a0_1, a0_2, a0_3, a0_4, a0_5] .rw)
 (h0.ld1 (.ptr h.next 0)).bind fun v1 =>
 (asI .i64 v1).bind fun n2 =>
 match decide (1 ≤ n2) with
 | true => ((h0.ld1 (.ptr h.next 0)).bind fun v3 =>
 (asI .i64 v3).bind fun n4 =>
 match decide (n4 ≤ 64) with
 | true => ((h0.ld1 (.ptr h.next 1)).bind fun v5 =>
 (asI .i64 v5).bind fun n6 =>
 match decide (0 ≤ n6) with
 | true => ((h0.ld1 (.ptr h.next 1)).bind fun v7 =>
 (asI .i64 v7).bind fun n8 =>
 match decide (n8 ≤ 8) with
 | true => ((h0.ld1 (.ptr h.next 2)).bind fun v9 =>
 (asI .i64 v9).bind fun n10 =>
 match decide (1 ≤ n10) with
 | true => ((h0.ld1 (.ptr h.next 2)).bind fun v11 =>
 (asI .i64 v11).bind fun n12 =>
 match decide (n12 ≤ 8) with
 | true => ((h0.ld1 (.ptr h.next 3)).bind fun v13 =>
 (asI .i64 v13).bind fun n14 =>
 match decide (1 ≤ n14) with
 | true => ((h0.ld1 (.ptr h.next 3)).bind fun v15 =>
 (asI .i64 v15).bind fun n16 =>
 match decide (n16 ≤ 16) with
 | true => ((h0.ld1 (.ptr h.next 4)).bind fun v17 =>
 (asI .i64 v17).bind fun n18 =>
 match decide (1 ≤ n18) with
 | true => ((h0.ld1 (.ptr h.next 4)).bind fun v19 =>
 (asI .i64 v19).bind fun n20 =>
 match decide (n20 ≤ 1048576) with
 | true => ((h0.ld1 (.ptr h.next 5)).bind fun v21 =>
 (asI .i64 v21).bind fun n22 =>
 match decide (0 ≤ n22) with
 | true => ((h0.ld1 (.ptr h.next 5)).bind fun v23 =>
 (asI .i64 v23).bind fun n24 =>
 some ((.bool (decide (n24 ≤ 64))), h0))
 | false => (some (false, h0)))
 | false => (some (false, h0)))
 | false => (some (false, h0)))
 | false => (some (false, h0)))
 | false => (some (false, h0)))
 | false => (some (false, h0)))
 | false => (some (false, h0)))
 | false => (some (false, h0)))
 | false => (some (false, h0)))
 | false => (some (false, h0)))
 | false => (some (false, h0))
theorem zru : z0g M F.z4x [(.agg [(.int .i64 a0_0), (.int .i64 a0_1), (.int .i64 a0_2), (.int .i64 a0_3), (.int .i64 a0_4), (.int .i64 a0_5)])] h = z4x M a0_0 a0_1 a0_2 a0_3 a0_4 a0_5 h := by kernel_rfl
def ze4 (M : Env) := lb M F.zmp [1, 2, 3, 7] [6]
def z4a (x1 x2 x3 x7 : V) : List V := dd 1 (x1 :: x2 :: x3 :: dd 3 (x7 :: dd 31 []))
def z36 (x6 : V) : List V := dd 6 (x6 :: dd 32 [])
def znu (M : Env) := kf F.z19
def zni (M : Env) := kq M F.znv (znu M)
def z4z (M : Env) := kb 0 (zni M)
def z19 (M : Env) (a0_0 a0_1 a0_2 a0_3 a0_4 a0_5 : Int) (a0_6 a0_7 a0_8 a0_9 a0_10 : V) (a1 a2 : Int) (h : H) : Rf :=
 let h0 := h.new (.cells [a0_0, a0_1, a0_2, a0_3, a0_4, a0_5, a0_6, a0_7, a0_8, a0_9, a0_10] .rw)
 (M.loop (ze4 M) (z4a a1 (.int .u64 a2) (.ptr h.next 0) (0:Int)) h0).bind fun p1 => z4z M p1.1 p1.2.1 p1.2.2
def z4d (M : Env) (x1 x2 : Int) (x3 : V) (x7 : Int) (h : H) : Rl :=
 (zb x3 7).bind fun v0 =>
 (h.ld1 v0).bind fun v1 =>
 (lenSl v1).bind fun n2 =>
 match decide (x7 < (n2 : Int)) with
 | true => ((zb x3 7).bind fun v3 =>
 (h.ld1 v3).bind fun v4 =>
 (zd 3 v4 x7).bind fun v5 =>
 (zb v5 0).bind fun v6 =>
 (h.ld1 v6).bind fun v7 =>
 (asI .i64 v7).bind fun n8 =>
 match decide (n8 = x1) with
 | true => ((zb x3 7).bind fun v9 =>
 (h.ld1 v9).bind fun v10 =>
 (zd 3 v10 x7).bind fun v11 =>
 (zb v11 1).bind fun v12 =>
 (h.ld1 v12).bind fun v13 =>
 (asI .u64 v13).bind fun n14 =>
 match decide (n14 = x2) with
 | true => ((zb x3 7).bind fun v15 =>
 (h.ld1 v15).bind fun v16 =>
 (zd 3 v16 x7).bind fun v17 =>
 (zb v17 2).bind fun v18 =>
 (h.ld1 v18).bind fun v19 =>
 some (.ret, (z36 v19), h))
 | false => (some (.normal, (z4a x1 (.int .u64 x2) x3 (.int .i64 (wr .i64 (x7 + 1)))), h)))
 | false => (some (.normal, (z4a x1 (.int .u64 x2) x3 (.int .i64 (wr .i64 (x7 + 1)))), h)))
 | false => (some ((.exit 0), (z36 .dead), h))
def zjp (M : Env) (x6 : V) (h : H) : Rf :=
 some ((.int .i64 (-1)), h)
def zjy (M : Env) (x6 : Int) (h : H) : Rf :=
 some (x6, h)
theorem zmt : z0g M F.z19 [(.agg [(.int .i64 a0_0), (.int .i64 a0_1), (.int .i64 a0_2), (.int .i64 a0_3), (.int .i64 a0_4), (.int .i64 a0_5), a0_6, a0_7, a0_8, a0_9, a0_10]), (.int .i64 a1), (.int .u64 a2)] h = z19 M a0_0 a0_1 a0_2 a0_3 a0_4 a0_5 a0_6 a0_7 a0_8 a0_9 a0_10 a1 a2 h := by kernel_rfl
theorem zj2 : ze4 M (z4a (.int .i64 x1) (.int .u64 x2) x3 (.int .i64 x7)) h = z4d M x1 x2 x3 x7 h := by kernel_rfl
theorem zh3 : z4z M (.exit 0) (z36 x6) h = zjp M x6 h := by kernel_rfl
theorem zhh : z4z M .ret (z36 (.int .i64 x6)) h = zjy M x6 h := by kernel_rfl
def ze5 (M : Env) := lb M F.znb [1, 2, 5, 6] [5]
def z4c (x1 x2 x5 x6 : V) : List V := dd 1 (x1 :: x2 :: dd 2 (x5 :: x6 :: dd 18 []))
def za4 (x5 : V) : List V := dd 5 (x5 :: dd 19 [])
def znn (M : Env) := kf F.z18
def zmr (M : Env) := kq M F.zn9 (znn M)
def zb3 (M : Env) := kb 0 (zmr M)
def z18 (M : Env) (a0_0 a0_1 a0_2 a0_3 a0_4 a0_5 : Int) (a0_6 a0_7 a0_8 a0_9 a0_10 : V) (a1 : Int) (h : H) : Rf :=
 let h0 := h.new (.cells [a0_0, a0_1, a0_2, a0_3, a0_4, a0_5, a0_6, a0_7, a0_8, a0_9, a0_10] .rw)
 (M.loop (ze5 M) (z4c a1 (.ptr h.next 0) (0:Int) (0:Int)) h0).bind fun p1 => zb3 M p1.1 p1.2.1 p1.2.2
def z6h (M : Env) (x1 : Int) (x2 : V) (x5 x6 : Int) (h : H) : Rl :=
 (zb x2 7).bind fun v0 =>
 (h.ld1 v0).bind fun v1 =>
 (lenSl v1).bind fun n2 =>
 match decide (x6 < (n2 : Int)) with
 | true => ((zb x2 7).bind fun v3 =>
 (h.ld1 v3).bind fun v4 =>
 (zd 3 v4 x6).bind fun v5 =>
 (zb v5 0).bind fun v6 =>
 (h.ld1 v6).bind fun v7 =>
 (asI .i64 v7).bind fun n8 =>
 match decide (n8 = x1) with
 | true => (some (.normal, (z4c x1 x2 (.int .i64 (wr .i64 (x5 + 1))) (.int .i64 (wr .i64 (x6 + 1)))), h))
 | false => (some (.normal, (z4c x1 x2 x5 (.int .i64 (wr .i64 (x6 + 1)))), h)))
 | false => (some ((.exit 0), (za4 x5), h))
def zjg (M : Env) (x5 : Int) (h : H) : Rf :=
 some (x5, h)
theorem zny : z0g M F.z18 [(.agg [(.int .i64 a0_0), (.int .i64 a0_1), (.int .i64 a0_2), (.int .i64 a0_3), (.int .i64 a0_4), (.int .i64 a0_5), a0_6, a0_7, a0_8, a0_9, a0_10]), (.int .i64 a1)] h = z18 M a0_0 a0_1 a0_2 a0_3 a0_4 a0_5 a0_6 a0_7 a0_8 a0_9 a0_10 a1 h := by kernel_rfl
theorem ziy : ze5 M (z4c (.int .i64 x1) x2 (.int .i64 x5) (.int .i64 x6)) h = z6h M x1 x2 x5 x6 h := by kernel_rfl
theorem zgo : zb3 M (.exit 0) (za4 (.int .i64 x5)) h = zjg M x5 h := by kernel_rfl
def zdj (M : Env) := lb M F.zkv [1, 2, 5] [1, 4]
def z5l (x1 x2 x5 : V) : List V := dd 1 (x1 :: x2 :: dd 2 (x5 :: dd 16 []))
def z2v (x1 x4 : V) : List V := dd 1 (x1 :: dd 2 (x4 :: dd 17 []))
def zlm (M : Env) := kf F.z14
def zld (M : Env) := kq M F.zlr (zlm M)
def z4l (M : Env) := kb 0 (zld M)
def z14 (M : Env) (a0_0 a0_1 a0_2 a0_3 a0_4 a0_5 : Int) (a0_6 a0_7 a0_8 a0_9 a0_10 : V) (a1 : Int) (h : H) : Rf :=
 let h0 := h.new (.cells [a0_0, a0_1, a0_2, a0_3, a0_4, a0_5, a0_6, a0_7, a0_8, a0_9, a0_10] .rw)
 (M.loop (zdj M) (z5l (.int .u64 a1) (.ptr h.next 0) (0:Int)) h0).bind fun p1 => z4l M p1.1 p1.2.1 p1.2.2
def z5o (M : Env) (x1 : Int) (x2 : V) (x5 : Int) (h : H) : Rl :=
 (zb x2 10).bind fun v0 =>
 (h.ld1 v0).bind fun v1 =>
 (lenSl v1).bind fun n2 =>
 match decide (x5 < (n2 : Int)) with
 | true => ((zb x2 10).bind fun v3 =>
 (h.ld1 v3).bind fun v4 =>
 (zd 1 v4 x5).bind fun v5 =>
 (h.ld1 v5).bind fun v6 =>
 (asI .u64 v6).bind fun n7 =>
 match decide (n7 = x1) with
 | true => (some (.ret, (z2v (.int .u64 x1) false), h))
 | false => (some (.normal, (z5l (.int .u64 x1) x2 (.int .i64 (wr .i64 (x5 + 1)))), h)))
 | false => (some ((.exit 0), (z2v (.int .u64 x1) .dead), h))
def zhw (M : Env) (x1 : Int) (x4 : V) (h : H) : Rf :=
 some ((.bool (!decide (x1 = 0))), h)
def ziu (M : Env) (x1 : V) (x4 : Bool) (h : H) : Rf :=
 some (x4, h)
theorem zkx : z0g M F.z14 [(.agg [(.int .i64 a0_0), (.int .i64 a0_1), (.int .i64 a0_2), (.int .i64 a0_3), (.int .i64 a0_4), (.int .i64 a0_5), a0_6, a0_7, a0_8, a0_9, a0_10]), (.int .u64 a1)] h = z14 M a0_0 a0_1 a0_2 a0_3 a0_4 a0_5 a0_6 a0_7 a0_8 a0_9 a0_10 a1 h := by kernel_rfl
theorem zi7 : zdj M (z5l (.int .u64 x1) x2 (.int .i64 x5)) h = z5o M x1 x2 x5 h := by kernel_rfl
theorem zgf : z4l M (.exit 0) (z2v (.int .u64 x1) x4) h = zhw M x1 x4 h := by kernel_rfl
theorem zgz : z4l M .ret (z2v x1 (.bool x4)) h = ziu M x1 x4 h := by kernel_rfl
def z8y (M : Env) := jb M F.zli [1, 3, 5, 6, 7, 8]
def z95 (x1 x3 x5 x7 x8 : V) : List V := dd 1 (x1 :: dd 1 (x3 :: dd 1 (x5 :: dd 1 (x7 :: x8 :: dd 188 []))))
def z40 (x1 x3 x5 x6 x7 x8 : V) : List V := dd 1 (x1 :: dd 1 (x3 :: dd 1 (x5 :: x6 :: x7 :: x8 :: dd 188 [])))
def z9f (M : Env) := jb M F.zll [1, 3, 5, 7, 8, 54]
def z8n (x1 x3 x5 x7 x8 : V) : List V := dd 1 (x1 :: dd 1 (x3 :: dd 1 (x5 :: dd 1 (x7 :: x8 :: dd 188 []))))
def z8j (x1 x3 x5 x7 x8 x54 : V) : List V := dd 1 (x1 :: dd 1 (x3 :: dd 1 (x5 :: dd 1 (x7 :: x8 :: dd 45 (x54 :: dd 142 [])))))
def z9b (M : Env) := jb M F.zm3 [5, 6, 8]
def z8k (x1 x3 x5 x8 : V) : List V := dd 1 (x1 :: dd 1 (x3 :: dd 1 (x5 :: dd 2 (x8 :: dd 188 []))))
def z22 (x5 x6 x8 : V) : List V := dd 5 (x5 :: x6 :: dd 1 (x8 :: dd 188 []))
def z9c (M : Env) := jb M F.zly [1, 3, 5, 7, 8, 142]
def z90 (x1 x3 x5 x7 x8 x9 x10 : V) : List V := dd 1 (x1 :: dd 1 (x3 :: dd 1 (x5 :: dd 1 (x7 :: x8 :: x9 :: x10 :: dd 186 []))))
def zm (x1 x3 x5 x7 x8 x142 : V) : List V := dd 1 (x1 :: dd 1 (x3 :: dd 1 (x5 :: dd 1 (x7 :: x8 :: dd 133 (x142 :: dd 54 [])))))
def z8c (M : Env) := jb M F.zkd [1, 3, 5, 6, 7, 8]
def z8b (x1 x3 x5 x7 x8 : V) : List V := dd 1 (x1 :: dd 1 (x3 :: dd 1 (x5 :: dd 1 (x7 :: x8 :: dd 188 []))))
def z1s (x1 x3 x5 x6 x7 x8 : V) : List V := dd 1 (x1 :: dd 1 (x3 :: dd 1 (x5 :: x6 :: x7 :: x8 :: dd 188 [])))
def z5d (M : Env) := jb M F.zk7 [1, 3, 5, 6]
def z5f (x1 x3 x5 x7 x8 : V) : List V := dd 1 (x1 :: dd 1 (x3 :: dd 1 (x5 :: dd 1 (x7 :: x8 :: dd 188 []))))
def z2h (x1 x3 x5 x6 : V) : List V := dd 1 (x1 :: dd 1 (x3 :: dd 1 (x5 :: x6 :: dd 190 [])))
def z4k (M : Env) := kf F.zr
def z6x (M : Env) := kq M F.zks (z4k M)
def zeh (M : Env) := kq M F.zku (z4k M)
def zao (M : Env) := kq M F.zm7 (zeh M)
def z6u (M : Env) := kq M F.zkq (zeh M)
def zm1 (M : Env) := kq M F.zkw (z4k M)
def zap (M : Env) := kq M F.zlq (zm1 M)
def z6w (M : Env) := kq M F.zk5 (z4k M)
def z4m (M : Env) := kq M F.zkb (z4k M)
def zr (M : Env) (a0_0 a0_1 a0_2 a0_3 a0_4 a0_5 : Int) (a0_6 a0_7 a0_8 a0_9 a0_10 : V) (a1 a2_0 a2_1 a2_2 a2_3 a2_4 : Int) (h : H) : Rf :=
 let h0 := h.new (.cells [a0_0, a0_1, a0_2, a0_3, a0_4, a0_5, a0_6, a0_7, a0_8, a0_9, a0_10] .rw)
 let h1 := h0.new (.cells [a2_0, a2_1, (.int .u64 a2_2), (.int .u64 a2_3), (.int .u64 a2_4)] .rw)
 (h1.ldN 11 (.ptr h.next 0)).bind fun v2 =>
 (h1.ld1 (.ptr h0.next 2)).bind fun v3 =>
 (M.call 229 [v2, a1, v3] h1).bind fun p4 =>
 (p4.2.ldN 11 (.ptr h.next 0)).bind fun v5 =>
 (p4.2.ld1 (.ptr h.next 3)).bind fun v6 =>
 (M.call 231 [v5, a1] p4.2).bind fun p7 =>
 match ckB (p7.2.ld1 (.ptr h.next 3)) v6 with
 | true => ((asI .i64 p7.1).bind fun n8 =>
 (asI .i64 v6).bind fun n9 =>
 (z8y M (z95 a1 (.ptr h.next 0) (.ptr h0.next 0) p4.1 (.bool (decide (n8 < n9)))) p7.2).bind fun p10 => z6x M p10.1 p10.2.1 p10.2.2)
 | false => none
def z1d (M : Env) (x1 : Int) (x3 x5 : V) (x7 : Int) (x8 : Bool) (h : H) : Rl :=
 (zb x5 0).bind fun v0 =>
 (h.ld1 v0).bind fun v1 =>
 (asI .i64 v1).bind fun n2 =>
 match decide (n2 < 1) with
 | true => (some (.ret, (z40 x1 x3 x5 (8:Int) x7 x8), h))
 | false => ((zb x5 0).bind fun v3 =>
 (h.ld1 v3).bind fun v4 =>
 (asI .i64 v4).bind fun n5 =>
 match decide (10 < n5) with
 | true => (some (.ret, (z40 x1 x3 x5 (8:Int) x7 x8), h))
 | false => (some (.normal, (z40 x1 x3 x5 .dead x7 x8), h)))
def z2r (M : Env) (x1 : Int) (x3 x5 x6 : V) (x7 : Int) (x8 : Bool) (h : H) : Rf :=
 (zb x5 0).bind fun v0 =>
 (h.ld1 v0).bind fun v1 =>
 (asI .i64 v1).bind fun n2 =>
 match decide (n2 = 1) with
 | true => ((zb x5 1).bind fun v3 =>
 (h.ld1 v3).bind fun v4 =>
 (asI .i64 v4).bind fun n5 =>
 match decide (n5 < 0) with
 | true => (some ((1:Int), h))
 | false => ((zb x5 1).bind fun v6 =>
 (h.ld1 v6).bind fun v7 =>
 (zb x3 0).bind fun v8 =>
 (zb v8 1).bind fun v9 =>
 (h.ld1 v9).bind fun v10 =>
 (asI .i64 v7).bind fun n11 =>
 (asI .i64 v10).bind fun n12 =>
 match decide (n12 < n11) with
 | true => (some ((1:Int), h))
 | false => (match (!x8) with
 | true => (some ((5:Int), h))
 | false => (some ((0:Int), h)))))
 | false => ((z9f M (z8n x1 x3 x5 x7 x8) h).bind fun p3 => zao M p3.1 p3.2.1 p3.2.2)
def z8r (M : Env) (x1 x3 x5 : V) (x6 : Int) (x7 x8 : V) (h : H) : Rf :=
 some (x6, h)
def z62 (M : Env) (x1 : Int) (x3 x5 : V) (x7 : Int) (x8 : Bool) (h : H) : Rl :=
 (zb x5 0).bind fun v0 =>
 (h.ld1 v0).bind fun v1 =>
 (asI .i64 v1).bind fun n2 =>
 match decide (n2 = 9) with
 | true => (some (.normal, (z8j x1 x3 x5 x7 x8 true), h))
 | false => ((zb x5 0).bind fun v3 =>
 (h.ld1 v3).bind fun v4 =>
 (asI .i64 v4).bind fun n5 =>
 some (.normal, (z8j x1 x3 x5 x7 x8 (.bool (decide (n5 = 10)))), h))
def z60 (M : Env) (x1 : Int) (x3 x5 : V) (x7 : Int) (x8 x54 : Bool) (h : H) : Rf :=
 match x54 with
 | true => ((z9b M (z8k x1 x3 x5 x8) h).bind fun p0 => z6u M p0.1 p0.2.1 p0.2.2)
 | false => ((h.ldN 11 x3).bind fun v0 =>
 (zb x5 3).bind fun v1 =>
 (h.ld1 v1).bind fun v2 =>
 (M.call 229 [v0, x1, v2] h).bind fun p3 =>
 (asI .i64 p3.1).bind fun n4 =>
 (p3.2.ldN 11 x3).bind fun v5 =>
 (zb x5 4).bind fun v6 =>
 (p3.2.ld1 v6).bind fun v7 =>
 (M.call 229 [v5, x1, v7] p3.2).bind fun p8 =>
 (asI .i64 p8.1).bind fun n9 =>
 (z9c M (z90 x1 x3 x5 x7 x8 (.bool (decide (0 ≤ n4))) (.bool (decide (0 ≤ n9)))) p8.2).bind fun p10 => zap M p10.1 p10.2.1 p10.2.2)
def z1z (M : Env) (x1 : Int) (x3 x5 : V) (x8 : Bool) (h : H) : Rl :=
 (zb x3 8).bind fun v0 =>
 (h.ld1 v0).bind fun v1 =>
 (zd 1 v1 x1).bind fun v2 =>
 (h.ld1 v2).bind fun v3 =>
 (asI .u64 v3).bind fun n4 =>
 match decide (n4 = 0) with
 | true => (some (.ret, (z22 x5 (6:Int) x8), h))
 | false => ((zb x3 8).bind fun v5 =>
 (h.ld1 v5).bind fun v6 =>
 (zd 1 v6 x1).bind fun v7 =>
 (h.ld1 v7).bind fun v8 =>
 (zb x5 2).bind fun v9 =>
 (h.ld1 v9).bind fun v10 =>
 (asI .u64 v8).bind fun n11 =>
 (asI .u64 v10).bind fun n12 =>
 match (!decide (n11 = n12)) with
 | true => (some (.ret, (z22 x5 (6:Int) x8), h))
 | false => ((zb x5 0).bind fun v13 =>
 (h.ld1 v13).bind fun v14 =>
 (asI .i64 v14).bind fun n15 =>
 match decide (n15 = 9) with
 | true => ((zb x3 9).bind fun v16 =>
 (h.ld1 v16).bind fun v17 =>
 (zd 1 v17 x1).bind fun v18 =>
 (h.ld1 v18).bind fun v19 =>
 (lenSl v19).bind fun n20 =>
 match decide ((n20 : Int) = 0) with
 | true => (some (.ret, (z22 x5 (6:Int) x8), h))
 | false => (some (.normal, (z22 x5 .dead x8), h)))
 | false => (some (.normal, (z22 x5 .dead x8), h))))
def z63 (M : Env) (x5 x6 : V) (x8 : Bool) (h : H) : Rf :=
 (zb x5 0).bind fun v0 =>
 (h.ld1 v0).bind fun v1 =>
 (asI .i64 v1).bind fun n2 =>
 match decide (n2 = 9) with
 | true => (match (!x8) with
 | true => (some ((5:Int), h))
 | false => (some ((0:Int), h)))
 | false => (some ((0:Int), h))
def z5t (M : Env) (x5 : V) (x6 : Int) (x8 : V) (h : H) : Rf :=
 some (x6, h)
def z5u (M : Env) (x1 : Int) (x3 x5 : V) (x7 : Int) (x8 x9 x10 : Bool) (h : H) : Rl :=
 match decide (x7 < 0) with
 | true => (some (.normal, (zm x1 x3 x5 x7 x8 true), h))
 | false => ((zb x5 0).bind fun v0 =>
 (h.ld1 v0).bind fun v1 =>
 (asI .i64 v1).bind fun n2 =>
 match decide (n2 = 3) with
 | true => (match (!x9) with
 | true => (some (.normal, (zm x1 x3 x5 x7 x8 true), h))
 | false => ((zb x5 0).bind fun v3 =>
 (h.ld1 v3).bind fun v4 =>
 (asI .i64 v4).bind fun n5 =>
 match decide (n5 = 5) with
 | true => ((zb x5 3).bind fun v6 =>
 (h.ld1 v6).bind fun v7 =>
 (asI .u64 v7).bind fun n8 =>
 match (!decide (n8 = 0)) with
 | true => (match (!x9) with
 | true => (some (.normal, (zm x1 x3 x5 x7 x8 true), h))
 | false => ((zb x5 4).bind fun v9 =>
 (h.ld1 v9).bind fun v10 =>
 (asI .u64 v10).bind fun n11 =>
 match (!decide (n11 = 0)) with
 | true => (some (.normal, (zm x1 x3 x5 x7 x8 (.bool (!x10))), h))
 | false => (some (.normal, (zm x1 x3 x5 x7 x8 false), h))))
 | false => ((zb x5 4).bind fun v9 =>
 (h.ld1 v9).bind fun v10 =>
 (asI .u64 v10).bind fun n11 =>
 match (!decide (n11 = 0)) with
 | true => (some (.normal, (zm x1 x3 x5 x7 x8 (.bool (!x10))), h))
 | false => (some (.normal, (zm x1 x3 x5 x7 x8 false), h))))
 | false => (some (.normal, (zm x1 x3 x5 x7 x8 false), h))))
 | false => ((zb x5 0).bind fun v3 =>
 (h.ld1 v3).bind fun v4 =>
 (asI .i64 v4).bind fun n5 =>
 match decide (n5 = 7) with
 | true => (match (!x9) with
 | true => (some (.normal, (zm x1 x3 x5 x7 x8 true), h))
 | false => ((zb x5 0).bind fun v6 =>
 (h.ld1 v6).bind fun v7 =>
 (asI .i64 v7).bind fun n8 =>
 match decide (n8 = 5) with
 | true => ((zb x5 3).bind fun v9 =>
 (h.ld1 v9).bind fun v10 =>
 (asI .u64 v10).bind fun n11 =>
 match (!decide (n11 = 0)) with
 | true => (match (!x9) with
 | true => (some (.normal, (zm x1 x3 x5 x7 x8 true), h))
 | false => ((zb x5 4).bind fun v12 =>
 (h.ld1 v12).bind fun v13 =>
 (asI .u64 v13).bind fun n14 =>
 match (!decide (n14 = 0)) with
 | true => (some (.normal, (zm x1 x3 x5 x7 x8 (.bool (!x10))), h))
 | false => (some (.normal, (zm x1 x3 x5 x7 x8 false), h))))
 | false => ((zb x5 4).bind fun v12 =>
 (h.ld1 v12).bind fun v13 =>
 (asI .u64 v13).bind fun n14 =>
 match (!decide (n14 = 0)) with
 | true => (some (.normal, (zm x1 x3 x5 x7 x8 (.bool (!x10))), h))
 | false => (some (.normal, (zm x1 x3 x5 x7 x8 false), h))))
 | false => (some (.normal, (zm x1 x3 x5 x7 x8 false), h))))
 | false => ((zb x5 0).bind fun v6 =>
 (h.ld1 v6).bind fun v7 =>
 (asI .i64 v7).bind fun n8 =>
 match decide (n8 = 5) with
 | true => ((zb x5 3).bind fun v9 =>
 (h.ld1 v9).bind fun v10 =>
 (asI .u64 v10).bind fun n11 =>
 match (!decide (n11 = 0)) with
 | true => (match (!x9) with
 | true => (some (.normal, (zm x1 x3 x5 x7 x8 true), h))
 | false => ((zb x5 4).bind fun v12 =>
 (h.ld1 v12).bind fun v13 =>
 (asI .u64 v13).bind fun n14 =>
 match (!decide (n14 = 0)) with
 | true => (some (.normal, (zm x1 x3 x5 x7 x8 (.bool (!x10))), h))
 | false => (some (.normal, (zm x1 x3 x5 x7 x8 false), h))))
 | false => ((zb x5 4).bind fun v12 =>
 (h.ld1 v12).bind fun v13 =>
 (asI .u64 v13).bind fun n14 =>
 match (!decide (n14 = 0)) with
 | true => (some (.normal, (zm x1 x3 x5 x7 x8 (.bool (!x10))), h))
 | false => (some (.normal, (zm x1 x3 x5 x7 x8 false), h))))
 | false => (some (.normal, (zm x1 x3 x5 x7 x8 false), h)))))
def z92 (M : Env) (x1 : Int) (x3 x5 : V) (x7 : Int) (x8 x142 : Bool) (h : H) : Rf :=
 match x142 with
 | true => (some ((2:Int), h))
 | false => ((z8c M (z8b x1 x3 x5 x7 x8) h).bind fun p0 => z6w M p0.1 p0.2.1 p0.2.2)
def z2d (M : Env) (x1 : Int) (x3 x5 : V) (x7 : Int) (x8 : Bool) (h : H) : Rl :=
 (zb x5 0).bind fun v0 =>
 (h.ld1 v0).bind fun v1 =>
 (asI .i64 v1).bind fun n2 =>
 match decide (2 ≤ n2) with
 | true => ((zb x5 0).bind fun v3 =>
 (h.ld1 v3).bind fun v4 =>
 (asI .i64 v4).bind fun n5 =>
 match decide (n5 ≤ 5) with
 | true => ((zb x5 1).bind fun v6 =>
 (h.ld1 v6).bind fun v7 =>
 (asI .i64 v7).bind fun n8 =>
 match decide (n8 < 0) with
 | true => (some (.ret, (z1s x1 x3 x5 (3:Int) x7 x8), h))
 | false => ((zb x5 1).bind fun v9 =>
 (h.ld1 v9).bind fun v10 =>
 (zb x3 6).bind fun v11 =>
 (h.ld1 v11).bind fun v12 =>
 (zd 1 v12 x7).bind fun v13 =>
 (h.ld1 v13).bind fun v14 =>
 (lenSl v14).bind fun n15 =>
 (asI .i64 v10).bind fun n16 =>
 match decide ((n15 : Int) ≤ n16) with
 | true => (some (.ret, (z1s x1 x3 x5 (3:Int) x7 x8), h))
 | false => (some (.normal, (z1s x1 x3 x5 .dead x7 x8), h))))
 | false => (some (.normal, (z1s x1 x3 x5 .dead x7 x8), h)))
 | false => (some (.normal, (z1s x1 x3 x5 .dead x7 x8), h))
def z5g (M : Env) (x1 : Int) (x3 x5 x6 : V) (x7 : Int) (x8 : Bool) (h : H) : Rf :=
 (z5d M (z5f x1 x3 x5 x7 x8) h).bind fun p0 => z4m M p0.1 p0.2.1 p0.2.2
def z84 (M : Env) (x1 x3 x5 : V) (x6 : Int) (x7 x8 : V) (h : H) : Rf :=
 some (x6, h)
def z1u (M : Env) (x1 : Int) (x3 x5 : V) (x7 : Int) (x8 : Bool) (h : H) : Rl :=
 (zb x5 0).bind fun v0 =>
 (h.ld1 v0).bind fun v1 =>
 (asI .i64 v1).bind fun n2 =>
 match decide (n2 = 2) with
 | true => ((zb x3 6).bind fun v3 =>
 (h.ld1 v3).bind fun v4 =>
 (zd 1 v4 x7).bind fun v5 =>
 (h.ld1 v5).bind fun v6 =>
 (zb x5 1).bind fun v7 =>
 (h.ld1 v7).bind fun v8 =>
 (zd 1 v6 v8).bind fun v9 =>
 (h.ld1 v9).bind fun v10 =>
 (asI .i64 v10).bind fun n11 =>
 match decide (0 ≤ n11) with
 | true => (match (!x8) with
 | true => (some (.ret, (z2h x1 x3 x5 (5:Int)), h))
 | false => (some (.normal, (z2h x1 x3 x5 .dead), h)))
 | false => (some (.normal, (z2h x1 x3 x5 .dead), h)))
 | false => (some (.normal, (z2h x1 x3 x5 .dead), h))
def z2e (M : Env) (x1 : Int) (x3 x5 x6 : V) (h : H) : Rf :=
 (zb x5 0).bind fun v0 =>
 (h.ld1 v0).bind fun v1 =>
 (asI .i64 v1).bind fun n2 =>
 match decide (n2 = 8) with
 | true => ((zb x3 8).bind fun v3 =>
 (h.ld1 v3).bind fun v4 =>
 (zd 1 v4 x1).bind fun v5 =>
 (h.ld1 v5).bind fun v6 =>
 (asI .u64 v6).bind fun n7 =>
 match (!decide (n7 = 0)) with
 | true => (some ((7:Int), h))
 | false => (some ((0:Int), h)))
 | false => (some ((0:Int), h))
def zcp (M : Env) (x1 x3 x5 : V) (x6 : Int) (h : H) : Rf :=
 some (x6, h)
theorem zlb : z0g M F.zr [(.agg [(.int .i64 a0_0), (.int .i64 a0_1), (.int .i64 a0_2), (.int .i64 a0_3), (.int .i64 a0_4), (.int .i64 a0_5), a0_6, a0_7, a0_8, a0_9, a0_10]), (.int .i64 a1), (.agg [(.int .i64 a2_0), (.int .i64 a2_1), (.int .u64 a2_2), (.int .u64 a2_3), (.int .u64 a2_4)])] h = zr M a0_0 a0_1 a0_2 a0_3 a0_4 a0_5 a0_6 a0_7 a0_8 a0_9 a0_10 a1 a2_0 a2_1 a2_2 a2_3 a2_4 h := by kernel_rfl
theorem z1q : z8y M (z95 (.int .i64 x1) x3 x5 (.int .i64 x7) (.bool x8)) h = z1d M x1 x3 x5 x7 x8 h := by kernel_rfl
theorem z38 : z6x M .normal (z40 (.int .i64 x1) x3 x5 x6 (.int .i64 x7) (.bool x8)) h = z2r M x1 x3 x5 x6 x7 x8 h := by kernel_rfl
theorem zby : z6x M .ret (z40 x1 x3 x5 (.int .i64 x6) x7 x8) h = z8r M x1 x3 x5 x6 x7 x8 h := by kernel_rfl
theorem z8f : z9f M (z8n (.int .i64 x1) x3 x5 (.int .i64 x7) (.bool x8)) h = z62 M x1 x3 x5 x7 x8 h := by kernel_rfl
theorem z7j : zao M .normal (z8j (.int .i64 x1) x3 x5 (.int .i64 x7) (.bool x8) (.bool x54)) h = z60 M x1 x3 x5 x7 x8 x54 h := by kernel_rfl
theorem z2f : z9b M (z8k (.int .i64 x1) x3 x5 (.bool x8)) h = z1z M x1 x3 x5 x8 h := by kernel_rfl
theorem z7a : z6u M .normal (z22 x5 x6 (.bool x8)) h = z63 M x5 x6 x8 h := by kernel_rfl
theorem z7k : z6u M .ret (z22 x5 (.int .i64 x6) x8) h = z5t M x5 x6 x8 h := by kernel_rfl
theorem zhz : z9c M (z90 (.int .i64 x1) x3 x5 (.int .i64 x7) (.bool x8) (.bool x9) (.bool x10)) h = z5u M x1 x3 x5 x7 x8 x9 x10 h := by kernel_rfl
theorem zgy : zap M .normal (zm (.int .i64 x1) x3 x5 (.int .i64 x7) (.bool x8) (.bool x142)) h = z92 M x1 x3 x5 x7 x8 x142 h := by kernel_rfl
theorem z3m : z8c M (z8b (.int .i64 x1) x3 x5 (.int .i64 x7) (.bool x8)) h = z2d M x1 x3 x5 x7 x8 h := by kernel_rfl
theorem z6y : z6w M .normal (z1s (.int .i64 x1) x3 x5 x6 (.int .i64 x7) (.bool x8)) h = z5g M x1 x3 x5 x6 x7 x8 h := by kernel_rfl
theorem zbn : z6w M .ret (z1s x1 x3 x5 (.int .i64 x6) x7 x8) h = z84 M x1 x3 x5 x6 x7 x8 h := by kernel_rfl
theorem z29 : z5d M (z5f (.int .i64 x1) x3 x5 (.int .i64 x7) (.bool x8)) h = z1u M x1 x3 x5 x7 x8 h := by kernel_rfl
theorem z30 : z4m M .normal (z2h (.int .i64 x1) x3 x5 x6) h = z2e M x1 x3 x5 x6 h := by kernel_rfl
theorem zgj : z4m M .ret (z2h x1 x3 x5 (.int .i64 x6)) h = zcp M x1 x3 x5 x6 h := by kernel_rfl
def zbt (M : Env) (a0_0 a0_1 a0_2 a0_3 a0_4 : Int) (a0_5 : Bool) (a0_6 a0_7 a0_8 a0_9 a0_10 a0_11 a0_12 : Int) (a0_13 : Bool) (a1_0 a1_1 a1_2 a1_3 a1_4 : Int) (a1_5 : Bool) (a1_6 a1_7 a1_8 a1_9 a1_10 a1_11 a1_12 : Int) (a1_13 : Bool) (h : H) : Rf :=
 let h0 := h.new (.cells [a0_0, a0_1, a0_2, a0_3, a0_4, a0_5, a0_6, a0_7, (.int .u64 a0_8), (.int .u64 a0_9), (.int .u64 a0_10), a0_11, (.int .u64 a0_12), a0_13] .rw)
 let h1 := h0.new (.cells [a1_0, a1_1, a1_2, a1_3, a1_4, a1_5, a1_6, a1_7, (.int .u64 a1_8), (.int .u64 a1_9), (.int .u64 a1_10), a1_11, (.int .u64 a1_12), a1_13] .rw)
 (h1.ld1 (.ptr h.next 4)).bind fun v2 =>
 (h1.ld1 (.ptr h0.next 2)).bind fun v3 =>
 (asI .i64 v2).bind fun n4 =>
 (asI .i64 v3).bind fun n5 =>
 some ((.bool (decide (n4 < n5))), h1)
theorem zxr : z0g M F.zbt [(.agg [(.int .i64 a0_0), (.int .i64 a0_1), (.int .i64 a0_2), (.int .i64 a0_3), (.int .i64 a0_4), (.bool a0_5), (.int .i64 a0_6), (.int .i64 a0_7), (.int .u64 a0_8), (.int .u64 a0_9), (.int .u64 a0_10), (.int .i64 a0_11), (.int .u64 a0_12), (.bool a0_13)]), (.agg [(.int .i64 a1_0), (.int .i64 a1_1), (.int .i64 a1_2), (.int .i64 a1_3), (.int .i64 a1_4), (.bool a1_5), (.int .i64 a1_6), (.int .i64 a1_7), (.int .u64 a1_8), (.int .u64 a1_9), (.int .u64 a1_10), (.int .i64 a1_11), (.int .u64 a1_12), (.bool a1_13)])] h = zbt M a0_0 a0_1 a0_2 a0_3 a0_4 a0_5 a0_6 a0_7 a0_8 a0_9 a0_10 a0_11 a0_12 a0_13 a1_0 a1_1 a1_2 a1_3 a1_4 a1_5 a1_6 a1_7 a1_8 a1_9 a1_10 a1_11 a1_12 a1_13 h := by kernel_rfl
def z51 (M : Env) (a0_0 a0_1 a0_2 a0_3 a0_4 : Int) (a0_5 : Bool) (a0_6 a0_7 a0_8 a0_9 a0_10 a0_11 a0_12 : Int) (a0_13 : Bool) (a1_0 a1_1 a1_2 a1_3 a1_4 : Int) (a1_5 : Bool) (a1_6 a1_7 a1_8 a1_9 a1_10 a1_11 a1_12 : Int) (a1_13 : Bool) (h : H) : Rf :=
 let h0 := h.new (.cells [a0_0, a0_1, a0_2, a0_3, a0_4, a0_5, a0_6, a0_7, (.int .u64 a0_8), (.int .u64 a0_9), (.int .u64 a0_10), a0_11, (.int .u64 a0_12), a0_13] .rw)
 let h1 := h0.new (.cells [a1_0, a1_1, a1_2, a1_3, a1_4, a1_5, a1_6, a1_7, (.int .u64 a1_8), (.int .u64 a1_9), (.int .u64 a1_10), a1_11, (.int .u64 a1_12), a1_13] .rw)
 (h1.ld1 (.ptr h.next 4)).bind fun v2 =>
 (h1.ld1 (.ptr h0.next 2)).bind fun v3 =>
 (asI .i64 v2).bind fun n4 =>
 (asI .i64 v3).bind fun n5 =>
 some ((.bool (decide (n4 < n5))), h1)
theorem zsr : z0g M F.z51 [(.agg [(.int .i64 a0_0), (.int .i64 a0_1), (.int .i64 a0_2), (.int .i64 a0_3), (.int .i64 a0_4), (.bool a0_5), (.int .i64 a0_6), (.int .i64 a0_7), (.int .u64 a0_8), (.int .u64 a0_9), (.int .u64 a0_10), (.int .i64 a0_11), (.int .u64 a0_12), (.bool a0_13)]), (.agg [(.int .i64 a1_0), (.int .i64 a1_1), (.int .i64 a1_2), (.int .i64 a1_3), (.int .i64 a1_4), (.bool a1_5), (.int .i64 a1_6), (.int .i64 a1_7), (.int .u64 a1_8), (.int .u64 a1_9), (.int .u64 a1_10), (.int .i64 a1_11), (.int .u64 a1_12), (.bool a1_13)])] h = z51 M a0_0 a0_1 a0_2 a0_3 a0_4 a0_5 a0_6 a0_7 a0_8 a0_9 a0_10 a0_11 a0_12 a0_13 a1_0 a1_1 a1_2 a1_3 a1_4 a1_5 a1_6 a1_7 a1_8 a1_9 a1_10 a1_11 a1_12 a1_13 h := by kernel_rfl
def zc7 (M : Env) := lb M F.ziv [2, 5, 6, 7] [5]
def z3j (x2 x5 x6 x7 : V) : List V := dd 2 (x2 :: dd 2 (x5 :: x6 :: x7 :: dd 60 []))
def z7q (x5 : V) : List V := dd 5 (x5 :: dd 62 [])
def z7s (M : Env) := lb M F.zjl [2, 5, 6, 7, 8, 9] [2, 5, 6, 7]
def z16 (x2 x5 x6 x7 x8 x9 : V) : List V := dd 2 (x2 :: dd 2 (x5 :: x6 :: x7 :: x8 :: x9 :: dd 58 []))
def z7w (x2 x5 x6 x7 : V) : List V := dd 2 (x2 :: dd 2 (x5 :: x6 :: x7 :: dd 60 []))
def zc5 (M : Env) := jb M F.zj7 [2, 5, 6, 7, 8, 9, 53]
def zc6 (x2 x5 x6 x7 x8 x9 : V) : List V := dd 2 (x2 :: dd 2 (x5 :: x6 :: x7 :: x8 :: x9 :: dd 58 []))
def z7r (x2 x5 x6 x7 x8 x9 x53 : V) : List V := dd 2 (x2 :: dd 2 (x5 :: x6 :: x7 :: x8 :: x9 :: dd 43 (x53 :: dd 14 [])))
def zjm (M : Env) := kf F.z05
def zj6 (M : Env) := kq M F.zjq (zjm M)
def z8q (M : Env) := kb 0 (zj6 M)
def zjb (M : Env) := kl [2, 5, 6, 7] [5]
def zjt (M : Env) := kq M F.zjf (zjb M)
def zir (M : Env) := kb 1 (zjt M)
def z5i (M : Env) := kb 2 (zir M)
def ziz (M : Env) := kl [2, 5, 6, 7, 8, 9] [2, 5, 6, 7]
def zjw (M : Env) := kq M F.zja (ziz M)
def zj0 (M : Env) := kb 3 (zjw M)
def zcv (M : Env) := kq M F.zjo (zj0 M)
def z05 (M : Env) (a0_0 a0_1 a0_2 a0_3 a0_4 a0_5 : Int) (a0_6 a0_7 a0_8 a0_9 a0_10 : V) (a1 : Int) (h : H) : Rf :=
 let h0 := h.new (.cells [a0_0, a0_1, a0_2, a0_3, a0_4, a0_5, a0_6, a0_7, a0_8, a0_9, a0_10] .rw)
 let h1 := h0.new (.cells [a1] .rw)
 (h1.ld1 (.ptr h.next 6)).bind fun v2 =>
 (lenSl v2).bind fun n3 =>
 (h1.mkSl 1 1 [false] (n3 : Int) (n3 : Int)).bind fun p4 =>
 (zd 1 p4.1 a1).bind fun v5 =>
 (p4.2.st 1 v5 true).bind fun h6 =>
 (M.loop (zc7 M) (z3j (.ptr h.next 0) (.sl h0.next 0 1 (.ex 1)) p4.1 (0:Int)) h6).bind fun p7 => z8q M p7.1 p7.2.1 p7.2.2
def z7x (M : Env) (x2 x5 x6 : V) (x7 : Int) (h : H) : Rl :=
 (lenSl x5).bind fun n0 =>
 match decide (x7 < (n0 : Int)) with
 | true => ((zb x2 6).bind fun v1 =>
 (h.ld1 v1).bind fun v2 =>
 (zd 1 x5 x7).bind fun v3 =>
 (h.ld1 v3).bind fun v4 =>
 (zd 1 v2 v4).bind fun v5 =>
 (h.ld1 v5).bind fun v6 =>
 (M.loop (z7s M) (z16 x2 x5 x6 x7 v6 (0:Int)) h).bind fun p7 => z5i M p7.1 p7.2.1 p7.2.2)
 | false => (some ((.exit 0), (z7q x5), h))
def zh4 (M : Env) (x5 : V) (h : H) : Rf :=
 some (x5, h)
def z3k (M : Env) (x2 x5 x6 : V) (x7 : Int) (x8 : V) (x9 : Int) (h : H) : Rl :=
 (lenSl x8).bind fun n0 =>
 match decide (x9 < (n0 : Int)) with
 | true => ((zc5 M (zc6 x2 x5 x6 x7 x8 x9) h).bind fun p1 => zcv M p1.1 p1.2.1 p1.2.2)
 | false => (some ((.exit 2), (z7w x2 x5 x6 x7), h))
def zbx (M : Env) (x2 x5 x6 : V) (x7 : Int) (h : H) : Rl :=
 some (.normal, (z3j x2 x5 x6 (.int .i64 (wr .i64 (x7 + 1)))), h)
def z4s (M : Env) (x2 x5 x6 : V) (x7 : Int) (x8 : V) (x9 : Int) (h : H) : Rl :=
 (zd 1 x8 x9).bind fun v0 =>
 (h.ld1 v0).bind fun v1 =>
 (asI .i64 v1).bind fun n2 =>
 match decide (0 ≤ n2) with
 | true => ((zd 1 x8 x9).bind fun v3 =>
 (h.ld1 v3).bind fun v4 =>
 (zd 1 x6 v4).bind fun v5 =>
 (h.ld1 v5).bind fun v6 =>
 (asB v6).bind fun b7 =>
 some (.normal, (z7r x2 x5 x6 x7 x8 x9 (.bool (!b7))), h))
 | false => (some (.normal, (z7r x2 x5 x6 x7 x8 x9 false), h))
def z4r (M : Env) (x2 x5 x6 : V) (x7 : Int) (x8 : V) (x9 : Int) (x53 : Bool) (h : H) : Rl :=
 match x53 with
 | true => ((zd 1 x8 x9).bind fun v0 =>
 (h.ld1 v0).bind fun v1 =>
 (zd 1 x6 v1).bind fun v2 =>
 (h.st 1 v2 true).bind fun h3 =>
 (zd 1 x8 x9).bind fun v4 =>
 (h3.ld1 v4).bind fun v5 =>
 (fill (repl [(0:Int)] 1) [] [(0, 1, .c v5)]).bind fun cs6 =>
 let h7 := h3.new (.cells cs6 .rw)
 (h7.append 1 8 x5 (.sl h3.next 0 1 (.ex 1))).bind fun p8 =>
 some (.normal, (z16 x2 p8.1 x6 x7 x8 (.int .i64 (wr .i64 (x9 + 1)))), p8.2))
 | false => (some (.normal, (z16 x2 x5 x6 x7 x8 (.int .i64 (wr .i64 (x9 + 1)))), h))
theorem zjr : z0g M F.z05 [(.agg [(.int .i64 a0_0), (.int .i64 a0_1), (.int .i64 a0_2), (.int .i64 a0_3), (.int .i64 a0_4), (.int .i64 a0_5), a0_6, a0_7, a0_8, a0_9, a0_10]), (.int .i64 a1)] h = z05 M a0_0 a0_1 a0_2 a0_3 a0_4 a0_5 a0_6 a0_7 a0_8 a0_9 a0_10 a1 h := by kernel_rfl
theorem zgr : zc7 M (z3j x2 x5 x6 (.int .i64 x7)) h = z7x M x2 x5 x6 x7 h := by kernel_rfl
theorem zfb : z8q M (.exit 0) (z7q x5) h = zh4 M x5 h := by kernel_rfl
theorem zh0 : z7s M (z16 x2 x5 x6 (.int .i64 x7) x8 (.int .i64 x9)) h = z3k M x2 x5 x6 x7 x8 x9 h := by kernel_rfl
theorem zfg : z5i M (.exit 2) (z7w x2 x5 x6 (.int .i64 x7)) h = zbx M x2 x5 x6 x7 h := by kernel_rfl
theorem z7i : zc5 M (zc6 x2 x5 x6 (.int .i64 x7) x8 (.int .i64 x9)) h = z4s M x2 x5 x6 x7 x8 x9 h := by kernel_rfl
theorem z6j : zcv M .normal (z7r x2 x5 x6 (.int .i64 x7) x8 (.int .i64 x9) (.bool x53)) h = z4r M x2 x5 x6 x7 x8 x9 x53 h := by kernel_rfl
def zd1 (M : Env) := lb M F.zjz [1, 2, 3, 4] [1, 2, 3]
def z3u (x1 x2 x3 x4 : V) : List V := dd 1 (x1 :: x2 :: x3 :: x4 :: dd 47 [])
def z88 (x1 x2 x3 : V) : List V := dd 1 (x1 :: x2 :: x3 :: dd 48 [])
def zk4 (M : Env) := kf F.z0v
def zk3 (M : Env) := kq M F.zk0 (zk4 M)
def za9 (M : Env) := kb 0 (zk3 M)
def z0v (M : Env) (a0_0 a0_1 a0_2 a0_3 a0_4 a0_5 : Int) (a0_6 a0_7 a0_8 a0_9 a0_10 : V) (h : H) : Rf :=
 let h0 := h.new (.cells [a0_0, a0_1, a0_2, a0_3, a0_4, a0_5, a0_6, a0_7, a0_8, a0_9, a0_10] .rw)
 let h1 := h0.new (.cells [(0:Int), (0:Int), (0:Int), (0:Int), (0:Int), (0:Int), .nilsl, .nilsl, .nilsl, .nilsl, .nilsl] .rw)
 (h1.ldN 6 (.ptr h.next 0)).bind fun v2 =>
 (fill [(0:Int), (0:Int), (0:Int), (0:Int), (0:Int), (0:Int), .nilsl, .nilsl, .nilsl, .nilsl, .nilsl] [] [(0, 6, .c v2)]).bind fun cs3 =>
 let h4 := h1.new (.cells [(0:Int), (0:Int), (0:Int), (0:Int), (0:Int), (0:Int), .nilsl, .nilsl, .nilsl, .nilsl, .nilsl] .rw)
 (h4.st 11 (.ptr h1.next 0) (.agg cs3)).bind fun h5 =>
 (M.loop (zd1 M) (z3u (.ptr h.next 0) (.ptr h0.next 0) (.ptr h1.next 0) (0:Int)) h5).bind fun p6 => za9 M p6.1 p6.2.1 p6.2.2
def z5a (M : Env) (x1 x2 x3 : V) (x4 : Int) (h : H) : Rl :=
 (zb x1 6).bind fun v0 =>
 (h.ld1 v0).bind fun v1 =>
 (lenSl v1).bind fun n2 =>
 match decide (x4 < (n2 : Int)) with
 | true => ((zb x3 6).bind fun v3 =>
 (h.ld1 v3).bind fun v4 =>
 (zb x1 6).bind fun v5 =>
 (h.ld1 v5).bind fun v6 =>
 (zd 1 v6 x4).bind fun v7 =>
 (h.ld1 v7).bind fun v8 =>
 let h9 := h.new (.cells [] .rw)
 (h9.append 1 8 (.sl h.next 0 0 (.ex 0)) v8).bind fun p10 =>
 match ckB (p10.2.ld1 v3) v4 with
 | true => ((fill (repl [.nilsl] 1) [] [(0, 1, .c p10.1)]).bind fun cs11 =>
 let h12 := p10.2.new (.cells cs11 .rw)
 (h12.append 1 24 v4 (.sl p10.2.next 0 1 (.ex 1))).bind fun p13 =>
 (zb x3 6).bind fun v14 =>
 (p13.2.st 1 v14 p13.1).bind fun h15 =>
 some (.normal, (z3u x1 x2 x3 (.int .i64 (wr .i64 (x4 + 1)))), h15))
 | false => none)
 | false => (some ((.exit 0), (z88 x1 x2 x3), h))
def z7t (M : Env) (x1 x2 x3 : V) (h : H) : Rf :=
 (zb x3 7).bind fun v0 =>
 (h.ld1 v0).bind fun v1 =>
 (zb x1 7).bind fun v2 =>
 (h.ld1 v2).bind fun v3 =>
 (h.append 3 24 v1 v3).bind fun p4 =>
 (zb x3 7).bind fun v5 =>
 (p4.2.st 1 v5 p4.1).bind fun h6 =>
 (zb x3 8).bind fun v7 =>
 (h6.ld1 v7).bind fun v8 =>
 (zb x1 8).bind fun v9 =>
 (h6.ld1 v9).bind fun v10 =>
 (h6.append 1 8 v8 v10).bind fun p11 =>
 (zb x3 8).bind fun v12 =>
 (p11.2.st 1 v12 p11.1).bind fun h13 =>
 (zb x3 9).bind fun v14 =>
 (h13.ld1 v14).bind fun v15 =>
 (zb x1 9).bind fun v16 =>
 (h13.ld1 v16).bind fun v17 =>
 (h13.append 1 24 v15 v17).bind fun p18 =>
 (zb x3 9).bind fun v19 =>
 (p18.2.st 1 v19 p18.1).bind fun h20 =>
 (zb x3 10).bind fun v21 =>
 (h20.ld1 v21).bind fun v22 =>
 (zb x1 10).bind fun v23 =>
 (h20.ld1 v23).bind fun v24 =>
 (h20.append 1 8 v22 v24).bind fun p25 =>
 (zb x3 10).bind fun v26 =>
 (p25.2.st 1 v26 p25.1).bind fun h27 =>
 (h27.ldN 11 x3).bind fun v28 =>
 (h27.st 11 x2 v28).bind fun h29 =>
 finV h29 [.cell true 11 x2]
theorem zjx : z0g M F.z0v [(.agg [(.int .i64 a0_0), (.int .i64 a0_1), (.int .i64 a0_2), (.int .i64 a0_3), (.int .i64 a0_4), (.int .i64 a0_5), a0_6, a0_7, a0_8, a0_9, a0_10])] h = z0v M a0_0 a0_1 a0_2 a0_3 a0_4 a0_5 a0_6 a0_7 a0_8 a0_9 a0_10 h := by kernel_rfl
theorem zhg : zd1 M (z3u x1 x2 x3 (.int .i64 x4)) h = z5a M x1 x2 x3 x4 h := by kernel_rfl
theorem zfm : za9 M (.exit 0) (z88 x1 x2 x3) h = z7t M x1 x2 x3 h := by kernel_rfl
end Wm.S
end
