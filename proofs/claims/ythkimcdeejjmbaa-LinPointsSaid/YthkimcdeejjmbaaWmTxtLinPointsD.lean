/- PRINTED by my tool: what functions come to, stretch by stretch. -/
import Derived.KernelRfl
import Derived.Test.YthkimcdeejjmbaaWmShal
import Derived.Test.YthkimcdeejjmbaaWmFnsLinPoints
import Derived.Test.YthkimcdeejjmbaaWmFnc
import Derived.Test.YthkimcdeejjmbaaWmTxtLinPointsA
set_option linter.all false
noncomputable section
namespace Wm.S
open Wm
set_option maxRecDepth 100000
set_option autoImplicit true
set_option relaxedAutoImplicit true
def z00 (M : Env) (a0 : V) (a1 a2 : Int) (a3 : V) (h : H) : Rf :=
 let h0 := h.new (.cells [(0:Int)] .rw)
 match (decide (8 ≤ (wr .i64 (a2 - a1)))) with
 | true => (match (decide (50 ≤ (wr .i64 (a2 - a1)))) with
 | true => ((M.call 490 [a0, (.int .i64 (wr .i64 (a1 + (wr .i64 ((wr .i64 (Int.tdiv (wr .i64 (a2 - a1)) 4)) * 1))))), (.ptr h.next 0), a3] h0).bind fun p1 =>
 (M.call 490 [a0, (.int .i64 (wr .i64 (a1 + (wr .i64 ((wr .i64 (Int.tdiv (wr .i64 (a2 - a1)) 4)) * 2))))), (.ptr h.next 0), a3] p1.2).bind fun p2 =>
 (M.call 490 [a0, (.int .i64 (wr .i64 (a1 + (wr .i64 ((wr .i64 (Int.tdiv (wr .i64 (a2 - a1)) 4)) * 3))))), (.ptr h.next 0), a3] p2.2).bind fun p3 =>
 (M.call 491 [a0, p1.1, p2.1, p3.1, (.ptr h.next 0), a3] p3.2).bind fun p4 =>
 (p4.2.ld1 (.ptr h.next 0)).bind fun v5 =>
 (asI .i64 v5).bind fun n6 =>
 match decide (n6 = 0) with
 | true => (some ((.tup [p4.1, (1:Int)]), p4.2))
 | false => ((asI .i64 v5).bind fun n7 =>
 match decide (n7 = 12) with
 | true => (some ((.tup [p4.1, (2:Int)]), p4.2))
 | false => (some ((.tup [p4.1, (0:Int)]), p4.2))))
 | false => ((M.call 491 [a0, (.int .i64 (wr .i64 (a1 + (wr .i64 ((wr .i64 (Int.tdiv (wr .i64 (a2 - a1)) 4)) * 1))))), (.int .i64 (wr .i64 (a1 + (wr .i64 ((wr .i64 (Int.tdiv (wr .i64 (a2 - a1)) 4)) * 2))))), (.int .i64 (wr .i64 (a1 + (wr .i64 ((wr .i64 (Int.tdiv (wr .i64 (a2 - a1)) 4)) * 3))))), (.ptr h.next 0), a3] h0).bind fun p1 =>
 (p1.2.ld1 (.ptr h.next 0)).bind fun v2 =>
 (asI .i64 v2).bind fun n3 =>
 match decide (n3 = 0) with
 | true => (some ((.tup [p1.1, (1:Int)]), p1.2))
 | false => ((asI .i64 v2).bind fun n4 =>
 match decide (n4 = 12) with
 | true => (some ((.tup [p1.1, (2:Int)]), p1.2))
 | false => (some ((.tup [p1.1, (0:Int)]), p1.2)))))
 | false => ((h0.ld1 (.ptr h.next 0)).bind fun v1 =>
 (asI .i64 v1).bind fun n2 =>
 match decide (n2 = 0) with
 | true => (some ((.tup [(.int .i64 (wr .i64 (a1 + (wr .i64 ((wr .i64 (Int.tdiv (wr .i64 (a2 - a1)) 4)) * 2))))), (1:Int)]), h0))
 | false => ((asI .i64 v1).bind fun n3 =>
 match decide (n3 = 12) with
 | true => (some ((.tup [(.int .i64 (wr .i64 (a1 + (wr .i64 ((wr .i64 (Int.tdiv (wr .i64 (a2 - a1)) 4)) * 2))))), (2:Int)]), h0))
 | false => (some ((.tup [(.int .i64 (wr .i64 (a1 + (wr .i64 ((wr .i64 (Int.tdiv (wr .i64 (a2 - a1)) 4)) * 2))))), (0:Int)]), h0))))
theorem zjw : z06 M F.z00 [a0, (.int .i64 a1), (.int .i64 a2), a3] h = z00 M a0 a1 a2 a3 h := by kernel_rfl
def zdo (M : Env) := lb M F.znw [0, 1, 2, 3, 4, 10, 11] []
def z1l (x0 x1 x2 x3 x4 x10 x11 : V) : List V := x0 :: x1 :: x2 :: x3 :: x4 :: dd 5 (x10 :: x11 :: dd 136 [])
def z2l : List V := dd 148 []
def z91 (M : Env) := jb M F.zo1 [0, 1, 2, 3, 4, 10, 11, 12]
def z8x (x0 x1 x2 x3 x4 x10 x11 x12 : V) : List V := x0 :: x1 :: x2 :: x3 :: x4 :: dd 5 (x10 :: x11 :: x12 :: dd 135 [])
def z93 (x0 x1 x2 x3 x4 x10 x11 x12 : V) : List V := x0 :: x1 :: x2 :: x3 :: x4 :: dd 5 (x10 :: x11 :: x12 :: dd 135 [])
def z98 (M : Env) := jb M F.zns [0, 1, 2, 3, 4, 10, 11, 12, 13, 14]
def z9b (x0 x1 x2 x3 x4 x10 x11 x12 x13 x14 : V) : List V := x0 :: x1 :: x2 :: x3 :: x4 :: dd 5 (x10 :: x11 :: x12 :: x13 :: x14 :: dd 133 [])
def z99 (x0 x1 x2 x3 x4 x10 x11 x12 x13 x14 : V) : List V := x0 :: x1 :: x2 :: x3 :: x4 :: dd 5 (x10 :: x11 :: x12 :: x13 :: x14 :: dd 133 [])
def zdr (M : Env) := jb M F.zo4 [0, 1, 2, 3, 4, 10, 11, 12, 13]
def zds (x0 x1 x2 x3 x4 x10 x11 x12 x13 x14 : V) : List V := x0 :: x1 :: x2 :: x3 :: x4 :: dd 5 (x10 :: x11 :: x12 :: x13 :: x14 :: dd 133 [])
def z3x (x0 x1 x2 x3 x4 x10 x11 x12 x13 : V) : List V := x0 :: x1 :: x2 :: x3 :: x4 :: dd 5 (x10 :: x11 :: x12 :: x13 :: dd 134 [])
def zdn (M : Env) := jb M F.znu [0, 1, 2, 3, 4, 10, 11, 12, 13, 75]
def zdw (x0 x1 x2 x3 x4 x10 x11 x12 x13 x14 : V) : List V := x0 :: x1 :: x2 :: x3 :: x4 :: dd 5 (x10 :: x11 :: x12 :: x13 :: x14 :: dd 133 [])
def z40 (x0 x1 x2 x3 x4 x10 x11 x12 x13 x75 : V) : List V := x0 :: x1 :: x2 :: x3 :: x4 :: dd 5 (x10 :: x11 :: x12 :: x13 :: dd 61 (x75 :: dd 72 []))
def zdg (M : Env) := jb M F.zmj [0, 1, 2, 3, 4, 10, 11, 12, 13]
def zda (x0 x1 x2 x3 x4 x10 x11 x12 x13 : V) : List V := x0 :: x1 :: x2 :: x3 :: x4 :: dd 5 (x10 :: x11 :: x12 :: x13 :: dd 134 [])
def z39 (x0 x1 x2 x3 x4 x10 x11 x12 x13 : V) : List V := x0 :: x1 :: x2 :: x3 :: x4 :: dd 5 (x10 :: x11 :: x12 :: x13 :: dd 134 [])
def zo8 (M : Env) := kf F.zr
def zab (M : Env) := kb 0 (zo8 M)
def zny (M : Env) := kl [0, 1, 2, 3, 4, 10, 11] []
def z6q (M : Env) := kb 1 (zny M)
def z4q (M : Env) := kq M F.zo2 (z6q M)
def z4r (M : Env) := kq M F.zo0 (z6q M)
def z1u (M : Env) := kq M F.zo7 (z6q M)
def zo5 (M : Env) := kj [0, 1, 2, 3, 4, 10, 11, 12, 13]
def zac (M : Env) := kq M F.znv (zo5 M)
def z2v (M : Env) := kq M F.znx (z6q M)
def zr (M : Env) (a0 : V) (a1 a2 a3 : Int) (a4 : V) (h : H) : Rf :=
 (M.loop (zdo M) (z1l a0 a1 a2 a3 a4 true true) h).bind fun p0 => zab M p0.1 p0.2.1 p0.2.2
def z3z (M : Env) (x0 : V) (x1 x2 x3 : Int) (x4 : V) (x10 x11 : Bool) (h : H) : Rl :=
 match (decide ((wr .i64 (x2 - x1)) ≤ 12)) with
 | true => ((M.call 450 [x0, x1, x2, x4] h).bind fun p0 =>
 some (.ret, z2l, p0.2))
 | false => (match decide (x3 = 0) with
 | true => ((M.call 451 [x0, x1, x2, x4] h).bind fun p0 =>
 some (.ret, z2l, p0.2))
 | false => ((z91 M (z8x x0 x1 x2 x3 x4 x10 x11 (.int .i64 (wr .i64 (x2 - x1)))) h).bind fun p0 => z4q M p0.1 p0.2.1 p0.2.2))
def zly (M : Env) (h : H) : Rf :=
 some ((.tup []), h)
def z92 (M : Env) (x0 : V) (x1 x2 x3 : Int) (x4 : V) (x10 x11 : Bool) (x12 : Int) (h : H) : Rl :=
 match (!x10) with
 | true => ((M.call 452 [x0, x1, x2, x4] h).bind fun p0 =>
 some (.normal, (z93 x0 x1 x2 (.int .i64 (wr .i64 (x3 - 1))) x4 x10 x11 x12), p0.2))
 | false => (some (.normal, (z93 x0 x1 x2 x3 x4 x10 x11 x12), h))
def z95 (M : Env) (x0 : V) (x1 x2 x3 : Int) (x4 : V) (x10 x11 : Bool) (x12 : Int) (h : H) : Rl :=
 (M.call 453 [x0, x1, x2, x4] h).bind fun p0 =>
 match p0.1 with
 | .tup vs1 => ((vs1[0]?).bind fun v2 =>
 match p0.1 with
 | .tup vs3 => ((vs3[1]?).bind fun v4 =>
 (z98 M (z9b x0 x1 x2 x3 x4 x10 x11 x12 v2 v4) p0.2).bind fun p5 => z4r M p5.1 p5.2.1 p5.2.2)
 | _ => none)
 | _ => none
def z8w (M : Env) (x0 : V) (x1 x2 x3 : Int) (x4 : V) (x10 x11 : Bool) (x12 x13 x14 : Int) (h : H) : Rl :=
 match decide (x14 = 2) with
 | true => ((M.call 454 [x0, x1, x2, x4] h).bind fun p0 =>
 some (.normal, (z99 x0 x1 x2 x3 x4 x10 x11 x12 (.int .i64 (wr .i64 ((wr .i64 (x2 - 1)) - (wr .i64 (x13 - x1))))) (1:Int)), p0.2))
 | false => (some (.normal, (z99 x0 x1 x2 x3 x4 x10 x11 x12 x13 x14), h))
def z90 (M : Env) (x0 : V) (x1 x2 x3 : Int) (x4 : V) (x10 x11 : Bool) (x12 x13 x14 : Int) (h : H) : Rl :=
 (zdr M (zds x0 x1 x2 x3 x4 x10 x11 x12 x13 x14) h).bind fun p0 => z1u M p0.1 p0.2.1 p0.2.2
def zdv (M : Env) (x0 : V) (x1 x2 x3 : Int) (x4 : V) (x10 x11 : Bool) (x12 x13 x14 : Int) (h : H) : Rl :=
 (zdn M (zdw x0 x1 x2 x3 x4 x10 x11 x12 x13 x14) h).bind fun p0 => zac M p0.1 p0.2.1 p0.2.2
def z97 (M : Env) (x0 : V) (x1 x2 x3 : Int) (x4 : V) (x10 x11 : Bool) (x12 x13 : Int) (h : H) : Rl :=
 (zdg M (zda x0 x1 x2 x3 x4 x10 x11 x12 x13) h).bind fun p0 => z2v M p0.1 p0.2.1 p0.2.2
def zdu (M : Env) (x0 x1 x2 x3 x4 x10 x11 x12 x13 : V) (h : H) : Rl :=
 some (.ret, z2l, h)
def z5x (M : Env) (x0 : V) (x1 x2 x3 : Int) (x4 : V) (x10 x11 : Bool) (x12 x13 x14 : Int) (h : H) : Rl :=
 match x10 with
 | true => (match x11 with
 | true => (some (.normal, (z40 x0 x1 x2 x3 x4 x10 x11 x12 x13 (.bool (decide (x14 = 1)))), h))
 | false => (some (.normal, (z40 x0 x1 x2 x3 x4 x10 x11 x12 x13 false), h)))
 | false => (some (.normal, (z40 x0 x1 x2 x3 x4 x10 x11 x12 x13 false), h))
def z5y (M : Env) (x0 : V) (x1 x2 x3 : Int) (x4 : V) (x10 x11 : Bool) (x12 x13 : Int) (x75 : Bool) (h : H) : Rl :=
 match x75 with
 | true => ((M.call 455 [x0, x1, x2, x4] h).bind fun p0 =>
 (asB p0.1).bind fun b1 =>
 match b1 with
 | true => (some (.ret, (z3x x0 x1 x2 x3 x4 x10 x11 x12 x13), p0.2))
 | false => (some (.normal, (z3x x0 x1 x2 x3 x4 x10 x11 x12 x13), p0.2)))
 | false => (some (.normal, (z3x x0 x1 x2 x3 x4 x10 x11 x12 x13), h))
def z5l (M : Env) (x0 : V) (x1 x2 x3 : Int) (x4 : V) (x10 x11 : Bool) (x12 x13 : Int) (h : H) : Rl :=
 match decide (0 < x1) with
 | true => ((za 1 x0 (.int .i64 (wr .i64 (x1 - 1)))).bind fun v0 =>
 (h.ld1 v0).bind fun v1 =>
 (za 1 x0 x13).bind fun v2 =>
 (h.ld1 v2).bind fun v3 =>
 z64 M x4 [v1, v3] h fun p4 =>
 (asI .i64 p4.1).bind fun n5 =>
 match (!(decide (n5 < 0))) with
 | true => ((M.call 456 [x0, x1, x2, x13, x4] p4.2).bind fun p6 =>
 some ((.exit 1), (z39 x0 p6.1 x2 x3 x4 x10 x11 x12 x13), p6.2))
 | false => (some (.normal, (z39 x0 x1 x2 x3 x4 x10 x11 x12 x13), p4.2)))
 | false => (some (.normal, (z39 x0 x1 x2 x3 x4 x10 x11 x12 x13), h))
def z5m (M : Env) (x0 : V) (x1 x2 x3 : Int) (x4 x10 x11 : V) (x12 x13 : Int) (h : H) : Rl :=
 (M.call 457 [x0, x1, x2, x13, x4] h).bind fun p0 =>
 match p0.1 with
 | .tup vs1 => ((vs1[0]?).bind fun v2 =>
 match p0.1 with
 | .tup vs3 => ((vs3[1]?).bind fun v4 =>
 (asI .i64 v2).bind fun n5 =>
 (asI .i64 v2).bind fun n6 =>
 match (decide ((wr .i64 (n5 - x1)) < (wr .i64 (x2 - n6)))) with
 | true => ((M.call 405 [x0, x1, v2, x3, x4] p0.2).bind fun p7 =>
 (asI .i64 v2).bind fun n8 =>
 some (.normal, (z1l x0 (.int .i64 (wr .i64 (n8 + 1))) x2 x3 x4 (.bool (decide ((wr .i64 (Int.tdiv x12 8)) ≤ (wr .i64 (n5 - x1))))) v4), p7.2))
 | false => ((asI .i64 v2).bind fun n7 =>
 (M.call 405 [x0, (.int .i64 (wr .i64 (n7 + 1))), x2, x3, x4] p0.2).bind fun p8 =>
 some (.normal, (z1l x0 x1 v2 x3 x4 (.bool (decide ((wr .i64 (Int.tdiv x12 8)) ≤ (wr .i64 (x2 - n6))))) v4), p8.2)))
 | _ => none)
 | _ => none
def zcs (M : Env) (x0 : V) (x1 x2 x3 : Int) (x4 : V) (x10 x11 : Bool) (x12 x13 : V) (h : H) : Rl :=
 some (.normal, (z1l x0 x1 x2 x3 x4 x10 x11), h)
theorem znz : z06 M F.zr [a0, (.int .i64 a1), (.int .i64 a2), (.int .i64 a3), a4] h = zr M a0 a1 a2 a3 a4 h := by kernel_rfl
theorem zkk : zdo M (z1l x0 (.int .i64 x1) (.int .i64 x2) (.int .i64 x3) x4 (.bool x10) (.bool x11)) h = z3z M x0 x1 x2 x3 x4 x10 x11 h := by kernel_rfl
theorem zjh : zab M .ret z2l h = zly M h := by kernel_rfl
theorem zkl : z91 M (z8x x0 (.int .i64 x1) (.int .i64 x2) (.int .i64 x3) x4 (.bool x10) (.bool x11) (.int .i64 x12)) h = z92 M x0 x1 x2 x3 x4 x10 x11 x12 h := by kernel_rfl
theorem zcd : z4q M .normal (z93 x0 (.int .i64 x1) (.int .i64 x2) (.int .i64 x3) x4 (.bool x10) (.bool x11) (.int .i64 x12)) h = z95 M x0 x1 x2 x3 x4 x10 x11 x12 h := by kernel_rfl
theorem zkt : z98 M (z9b x0 (.int .i64 x1) (.int .i64 x2) (.int .i64 x3) x4 (.bool x10) (.bool x11) (.int .i64 x12) (.int .i64 x13) (.int .i64 x14)) h = z8w M x0 x1 x2 x3 x4 x10 x11 x12 x13 x14 h := by kernel_rfl
theorem zca : z4r M .normal (z99 x0 (.int .i64 x1) (.int .i64 x2) (.int .i64 x3) x4 (.bool x10) (.bool x11) (.int .i64 x12) (.int .i64 x13) (.int .i64 x14)) h = z90 M x0 x1 x2 x3 x4 x10 x11 x12 x13 x14 h := by kernel_rfl
theorem zkr : zdr M (zds x0 (.int .i64 x1) (.int .i64 x2) (.int .i64 x3) x4 (.bool x10) (.bool x11) (.int .i64 x12) (.int .i64 x13) (.int .i64 x14)) h = zdv M x0 x1 x2 x3 x4 x10 x11 x12 x13 x14 h := by kernel_rfl
theorem zce : z1u M .normal (z3x x0 (.int .i64 x1) (.int .i64 x2) (.int .i64 x3) x4 (.bool x10) (.bool x11) (.int .i64 x12) (.int .i64 x13)) h = z97 M x0 x1 x2 x3 x4 x10 x11 x12 x13 h := by kernel_rfl
theorem zju : z1u M .ret (z3x x0 x1 x2 x3 x4 x10 x11 x12 x13) h = zdu M x0 x1 x2 x3 x4 x10 x11 x12 x13 h := by kernel_rfl
theorem zkn : zdn M (zdw x0 (.int .i64 x1) (.int .i64 x2) (.int .i64 x3) x4 (.bool x10) (.bool x11) (.int .i64 x12) (.int .i64 x13) (.int .i64 x14)) h = z5x M x0 x1 x2 x3 x4 x10 x11 x12 x13 x14 h := by kernel_rfl
theorem zje : zac M .normal (z40 x0 (.int .i64 x1) (.int .i64 x2) (.int .i64 x3) x4 (.bool x10) (.bool x11) (.int .i64 x12) (.int .i64 x13) (.bool x75)) h = z5y M x0 x1 x2 x3 x4 x10 x11 x12 x13 x75 h := by kernel_rfl
theorem zk5 : zdg M (zda x0 (.int .i64 x1) (.int .i64 x2) (.int .i64 x3) x4 (.bool x10) (.bool x11) (.int .i64 x12) (.int .i64 x13)) h = z5l M x0 x1 x2 x3 x4 x10 x11 x12 x13 h := by kernel_rfl
theorem zc1 : z2v M .normal (z39 x0 (.int .i64 x1) (.int .i64 x2) (.int .i64 x3) x4 x10 x11 (.int .i64 x12) (.int .i64 x13)) h = z5m M x0 x1 x2 x3 x4 x10 x11 x12 x13 h := by kernel_rfl
theorem zhy : z2v M (.exit 1) (z39 x0 (.int .i64 x1) (.int .i64 x2) (.int .i64 x3) x4 (.bool x10) (.bool x11) x12 x13) h = zcs M x0 x1 x2 x3 x4 x10 x11 x12 x13 h := by kernel_rfl
def zhh (M : Env) := lb M F.zsq [0, 1, 5, 6] [4]
def z4w (x0 x1 x5 x6 : V) : List V := x0 :: x1 :: dd 3 (x5 :: x6 :: dd 54 [])
def z0k (x4 : V) : List V := dd 4 (x4 :: dd 56 [])
def zd3 (M : Env) := lb M F.zs9 [0, 1, 5, 6, 7, 8] [0, 1, 4, 5, 6]
def z76 (x0 x1 x5 x6 x7 x8 : V) : List V := x0 :: x1 :: dd 3 (x5 :: x6 :: x7 :: x8 :: dd 52 [])
def z2m (x0 x1 x4 x5 x6 : V) : List V := x0 :: x1 :: dd 2 (x4 :: x5 :: x6 :: dd 54 [])
def zse (M : Env) := kf F.z0z
def zsk (M : Env) := kq M F.zss (zse M)
def z81 (M : Env) := kb 0 (zsk M)
def zt8 (M : Env) := kl [0, 1, 5, 6] [4]
def zsf (M : Env) := kq M F.zsp (zt8 M)
def zt3 (M : Env) := kb 1 (zsf M)
def z87 (M : Env) := kb 2 (zt3 M)
def z0z (M : Env) (a0 a1 : V) (h : H) : Rf :=
 (lenSl a1).bind fun n0 =>
 (lenSl a0).bind fun n1 =>
 match (!decide ((n0 : Int) = (n1 : Int))) with
 | true => (some (false, h))
 | false => ((lenSl a0).bind fun n2 =>
 (h.mkSl 1 1 [false] (n2 : Int) (n2 : Int)).bind fun p3 =>
 (M.loop (zhh M) (z4w a0 a1 p3.1 (0:Int)) p3.2).bind fun p4 => z81 M p4.1 p4.2.1 p4.2.2)
def z3b (M : Env) (x0 x1 x5 : V) (x6 : Int) (h : H) : Rl :=
 (lenSl x1).bind fun n0 =>
 match decide (x6 < (n0 : Int)) with
 | true => ((za 1 x1 x6).bind fun v1 =>
 (h.ld1 v1).bind fun v2 =>
 (asI .i64 v2).bind fun n3 =>
 match decide (n3 < 0) with
 | true => (some (.ret, (z0k false), h))
 | false => ((lenSl x0).bind fun n4 =>
 (asI .i64 v2).bind fun n5 =>
 match decide ((n4 : Int) ≤ n5) with
 | true => (some (.ret, (z0k false), h))
 | false => ((za 1 x5 v2).bind fun v6 =>
 (h.ld1 v6).bind fun v7 =>
 (asB v7).bind fun b8 =>
 match b8 with
 | true => (some (.ret, (z0k false), h))
 | false => ((za 1 x5 v2).bind fun v9 =>
 (h.st 1 v9 true).bind fun h10 =>
 (M.loop (zd3 M) (z76 x0 x1 x5 x6 v2 (0:Int)) h10).bind fun p11 => z87 M p11.1 p11.2.1 p11.2.2))))
 | false => (some ((.exit 0), (z0k .dead), h))
def zqp (M : Env) (x4 : V) (h : H) : Rf :=
 some (true, h)
def zra (M : Env) (x4 : Bool) (h : H) : Rf :=
 some (x4, h)
def za0 (M : Env) (x0 x1 x5 : V) (x6 x7 x8 : Int) (h : H) : Rl :=
 match decide (x8 < x6) with
 | true => ((za 14 x0 x7).bind fun v0 =>
 (h.ldN 14 v0).bind fun v1 =>
 (za 1 x1 x8).bind fun v2 =>
 (h.ld1 v2).bind fun v3 =>
 (za 14 x0 v3).bind fun v4 =>
 (h.ldN 14 v4).bind fun v5 =>
 (M.call 184 [v1, v5] h).bind fun p6 =>
 (asB p6.1).bind fun b7 =>
 match b7 with
 | true => (some (.ret, (z2m x0 x1 false x5 x6), p6.2))
 | false => (some (.normal, (z76 x0 x1 x5 x6 x7 (.int .i64 (wr .i64 (x8 + 1)))), p6.2)))
 | false => (some ((.exit 2), (z2m x0 x1 .dead x5 x6), h))
def zh2 (M : Env) (x0 x1 x4 x5 : V) (x6 : Int) (h : H) : Rl :=
 some (.normal, (z4w x0 x1 x5 (.int .i64 (wr .i64 (x6 + 1)))), h)
def zqv (M : Env) (x0 x1 : V) (x4 : Bool) (x5 x6 : V) (h : H) : Rl :=
 some (.ret, (z0k x4), h)
theorem zs7 : z06 M F.z0z [a0, a1] h = z0z M a0 a1 h := by kernel_rfl
theorem zqq : zhh M (z4w x0 x1 x5 (.int .i64 x6)) h = z3b M x0 x1 x5 x6 h := by kernel_rfl
theorem zp0 : z81 M (.exit 0) (z0k x4) h = zqp M x4 h := by kernel_rfl
theorem zq3 : z81 M .ret (z0k (.bool x4)) h = zra M x4 h := by kernel_rfl
theorem zqh : zd3 M (z76 x0 x1 x5 (.int .i64 x6) (.int .i64 x7) (.int .i64 x8)) h = za0 M x0 x1 x5 x6 x7 x8 h := by kernel_rfl
theorem zot : z87 M (.exit 2) (z2m x0 x1 x4 x5 (.int .i64 x6)) h = zh2 M x0 x1 x4 x5 x6 h := by kernel_rfl
theorem zpm : z87 M .ret (z2m x0 x1 (.bool x4) x5 x6) h = zqv M x0 x1 x4 x5 x6 h := by kernel_rfl
def z1r (M : Env) (a0 a1 : V) (h : H) : Rf :=
 (lenSl a0).bind fun n0 =>
 (M.call 406 [(.int .u64 (wr .u64 (n0 : Int)))] h).bind fun p1 =>
 (M.call 405 [a0, (0:Int), (.int .i64 (n0 : Int)), p1.1, a1] p1.2).bind fun p2 =>
 some ((.tup []), p2.2)
theorem zo3 : z06 M F.z1r [a0, a1] h = z1r M a0 a1 h := by kernel_rfl
def zrv (M : Env) := lb M F.z02z [1, 2, 5, 6, 18, 19] [1, 2, 5, 6]
def zh4 (x1 x2 x5 x6 x18 x19 : V) : List V := dd 1 (x1 :: x2 :: dd 2 (x5 :: x6 :: dd 11 (x18 :: x19 :: dd 69 [])))
def zn2 (x1 x2 x5 x6 : V) : List V := dd 1 (x1 :: x2 :: dd 2 (x5 :: x6 :: dd 82 []))
def zrz (M : Env) := lb M F.z030 [1, 2, 5, 30, 31, 32] [4]
def z69 (x1 x2 x5 x30 x31 x32 : V) : List V := dd 1 (x1 :: x2 :: dd 2 (x5 :: dd 24 (x30 :: x31 :: x32 :: dd 56 [])))
def z1p (x4 : V) : List V := dd 4 (x4 :: dd 84 [])
def zuw (M : Env) := kf F.z79
def z032 (M : Env) := kq M F.z03a (zuw M)
def zqa (M : Env) := kb 0 (z032 M)
def z03h (M : Env) := kq M F.z03j (zuw M)
def zgd (M : Env) := kb 2 (z03h M)
def z79 (M : Env) (a0 : V) (a1 : Int) (h : H) : Rf :=
 (boxc a0).bind fun cs0 =>
 let h1 := h.new (.cells cs0 .rw)
 let h2 := h1.new (.map [])
 (h2.ld1 (.ptr h.next 0)).bind fun v3 =>
 (lenSl v3).bind fun n4 =>
 (h2.mkSl 1 8 [(0:Int)] (n4 : Int) (n4 : Int)).bind fun p5 =>
 (lenSl p5.1).bind fun n6 =>
 (M.loop (zrv M) (zh4 a1 (.ptr h.next 0) (.map h1.next) p5.1 (.int .i64 (n6 : Int)) (0:Int)) p5.2).bind fun p7 => zqa M p7.1 p7.2.1 p7.2.2
def znj (M : Env) (x1 : Int) (x2 x5 x6 : V) (x18 x19 : Int) (h : H) : Rl :=
 match decide (x19 < x18) with
 | true => ((za 1 x6 x19).bind fun v0 =>
 (h.st 1 v0 x19).bind fun h1 =>
 some (.normal, (zh4 x1 x2 x5 x6 x18 (.int .i64 (wr .i64 (x19 + 1)))), h1))
 | false => (some ((.exit 0), (zn2 x1 x2 x5 x6), h))
def zqy (M : Env) (x1 : Int) (x2 x5 x6 : V) (h : H) : Rf :=
 (M.call 332 [x6, (.fn 333 [x2])] h).bind fun p0 =>
 (lenSl x6).bind fun n1 =>
 (M.loop (zrz M) (z69 x1 x2 x5 x6 (.int .i64 (n1 : Int)) (0:Int)) p0.2).bind fun p2 => zgd M p2.1 p2.2.1 p2.2.2
def zh1 (M : Env) (x1 : Int) (x2 x5 x30 : V) (x31 x32 : Int) (h : H) : Rl :=
 match decide (x32 < x31) with
 | true => ((za 1 x30 x32).bind fun v0 =>
 (h.ld1 v0).bind fun v1 =>
 (h.ld1 x2).bind fun v2 =>
 (za 14 v2 v1).bind fun v3 =>
 (h.ldN 14 v3).bind fun v4 =>
 let h5 := h.new (.cells [(0:Int), (0:Int), (0:Int), (0:Int), (0:Int), false, (0:Int), (0:Int), (.int .u64 0), (.int .u64 0), (.int .u64 0), (0:Int), (.int .u64 0), false] .rw)
 (h5.st 14 (.ptr h.next 0) v4).bind fun h6 =>
 (h6.ld1 (.ptr h.next 0)).bind fun v7 =>
 (asI .i64 v7).bind fun n8 =>
 match decide (n8 < 0) with
 | true => (some (.ret, (z1p false), h6))
 | false => ((h6.ld1 (.ptr h.next 0)).bind fun v9 =>
 (asI .i64 v9).bind fun n10 =>
 match decide (x1 ≤ n10) with
 | true => (some (.ret, (z1p false), h6))
 | false => ((h6.ld1 (.ptr h.next 2)).bind fun v11 =>
 (h6.ld1 (.ptr h.next 3)).bind fun v12 =>
 (asI .i64 v11).bind fun n13 =>
 (asI .i64 v12).bind fun n14 =>
 match decide (n14 < n13) with
 | true => (some (.ret, (z1p false), h6))
 | false => ((h6.ld1 (.ptr h.next 3)).bind fun v15 =>
 (h6.ld1 (.ptr h.next 4)).bind fun v16 =>
 (asI .i64 v15).bind fun n17 =>
 (asI .i64 v16).bind fun n18 =>
 match decide (n18 < n17) with
 | true => (some (.ret, (z1p false), h6))
 | false => ((h6.ld1 (.ptr h.next 0)).bind fun v19 =>
 (h6.look .int (.agg [(0:Int), (0:Int), (0:Int), (0:Int), (0:Int), false, (0:Int), (0:Int), (.int .u64 0), (.int .u64 0), (.int .u64 0), (0:Int), (.int .u64 0), false]) true x5 v19).bind fun v20 =>
 match v20 with
 | .tup vs21 => ((vs21[0]?).bind fun v22 =>
 match v20 with
 | .tup vs23 => ((vs23[1]?).bind fun v24 =>
 let h25 := h6.new (.cells [(0:Int), (0:Int), (0:Int), (0:Int), (0:Int), false, (0:Int), (0:Int), (.int .u64 0), (.int .u64 0), (.int .u64 0), (0:Int), (.int .u64 0), false] .rw)
 (h25.st 14 (.ptr h6.next 0) v22).bind fun h26 =>
 match v24 with
 | .bool true => (
 (h26.ld1 (.ptr h6.next 1)).bind fun v27 =>
 (h26.ld1 (.ptr h.next 1)).bind fun v28 =>
 (asI .i64 v27).bind fun n29 =>
 (asI .i64 v28).bind fun n30 =>
 match decide (n29 = n30) with
 | true => (some (.ret, (z1p false), h26))
 | false => ((h26.ldN 14 (.ptr h6.next 0)).bind fun v31 =>
 (h26.ldN 14 (.ptr h.next 0)).bind fun v32 =>
 (M.call 183 [v31, v32] h26).bind fun p33 =>
 (asB p33.1).bind fun b34 =>
 match (!b34) with
 | true => (some (.ret, (z1p false), p33.2))
 | false => ((p33.2.ld1 (.ptr h.next 0)).bind fun v35 =>
 (p33.2.ldN 14 (.ptr h.next 0)).bind fun v36 =>
 (p33.2.mapSet .int x5 v35 v36).bind fun h37 =>
 some (.normal, (z69 x1 x2 x5 x30 x31 (.int .i64 (wr .i64 (x32 + 1)))), h37))))
 | .bool false => (
 (h26.ld1 (.ptr h.next 0)).bind fun v27 =>
 (h26.ldN 14 (.ptr h.next 0)).bind fun v28 =>
 (h26.mapSet .int x5 v27 v28).bind fun h29 =>
 some (.normal, (z69 x1 x2 x5 x30 x31 (.int .i64 (wr .i64 (x32 + 1)))), h29))
 | .tup [] => (
 match v24 with
 | .bool true => (
 none)
 | .bool false => (
 (h26.ld1 (.ptr h.next 0)).bind fun v27 =>
 (h26.ldN 14 (.ptr h.next 0)).bind fun v28 =>
 (h26.mapSet .int x5 v27 v28).bind fun h29 =>
 some (.normal, (z69 x1 x2 x5 x30 x31 (.int .i64 (wr .i64 (x32 + 1)))), h29))
 | .tup [] => (
 (asB v24).bind fun b27 =>
 (asB (match b27 with | true => (.tup []) | false => false : V)).bind fun b28 =>
 match b28 with
 | true => (some (.ret, (z1p false), h26))
 | false => ((h26.ld1 (.ptr h.next 0)).bind fun v29 =>
 (h26.ldN 14 (.ptr h.next 0)).bind fun v30 =>
 (h26.mapSet .int x5 v29 v30).bind fun h31 =>
 some (.normal, (z69 x1 x2 x5 x30 x31 (.int .i64 (wr .i64 (x32 + 1)))), h31)))
 | _ => none)
 | _ => none)
 | _ => none)
 | _ => none)))))
 | false => (some ((.exit 2), (z1p .dead), h))
def zz3 (M : Env) (x4 : V) (h : H) : Rf :=
 some (true, h)
def z009 (M : Env) (x4 : Bool) (h : H) : Rf :=
 some (x4, h)
theorem z031 : z06 M F.z79 [a0, (.int .i64 a1)] h = z79 M a0 a1 h := by kernel_rfl
theorem zyz : zrv M (zh4 (.int .i64 x1) x2 x5 x6 (.int .i64 x18) (.int .i64 x19)) h = znj M x1 x2 x5 x6 x18 x19 h := by kernel_rfl
theorem zw1 : zqa M (.exit 0) (zn2 (.int .i64 x1) x2 x5 x6) h = zqy M x1 x2 x5 x6 h := by kernel_rfl
theorem zyk : zrz M (z69 (.int .i64 x1) x2 x5 x30 (.int .i64 x31) (.int .i64 x32)) h = zh1 M x1 x2 x5 x30 x31 x32 h := by kernel_rfl
theorem zw8 : zgd M (.exit 2) (z1p x4) h = zz3 M x4 h := by kernel_rfl
theorem zx1 : zgd M .ret (z1p (.bool x4)) h = z009 M x4 h := by kernel_rfl
def zb9 (M : Env) (a0 a1 : Int) (f0 : V) (h : H) : Rf :=
 (h.ld1 f0).bind fun v0 =>
 (za 14 v0 a0).bind fun v1 =>
 (zn v1 1).bind fun v2 =>
 (h.ld1 v2).bind fun v3 =>
 (h.ld1 f0).bind fun v4 =>
 (za 14 v4 a1).bind fun v5 =>
 (zn v5 1).bind fun v6 =>
 (h.ld1 v6).bind fun v7 =>
 (M.call 334 [v3, v7] h).bind fun p8 =>
 some (p8.1, p8.2)
theorem z00s : z06 M F.zb9 [(.int .i64 a0), (.int .i64 a1), f0] h = zb9 M a0 a1 f0 h := by kernel_rfl
def z72 (M : Env) (a0 a1 : Int) (h : H) : Rf :=
 (M.call 407 [a0] h).bind fun p0 =>
 (M.call 407 [a1] p0.2).bind fun p1 =>
 (asB p0.1).bind fun b2 =>
 match b2 with
 | true => ((asB p1.1).bind fun b3 =>
 match b3 with
 | true => (some ((0:Int), p1.2))
 | false => (some ((.int .i64 (-1)), p1.2)))
 | false => ((asB p1.1).bind fun b3 =>
 match b3 with
 | true => (some ((1:Int), p1.2))
 | false => (match decide (a0 < a1) with
 | true => (some ((.int .i64 (-1)), p1.2))
 | false => (match decide (a1 < a0) with
 | true => (some ((1:Int), p1.2))
 | false => (some ((0:Int), p1.2)))))
theorem zvp : z06 M F.z72 [(.int .i64 a0), (.int .i64 a1)] h = z72 M a0 a1 h := by kernel_rfl
def z8r (M : Env) (a0 : Int) (h : H) : Rf :=
 some ((.bool (!decide (a0 = a0))), h)
theorem zy7 : z06 M F.z8r [(.int .i64 a0)] h = z8r M a0 h := by kernel_rfl
def zed (M : Env) := lb M F.zov [0, 1, 2, 6, 7, 8] [0, 1, 2, 6, 7]
def z66 (x0 x1 x2 x6 x7 x8 : V) : List V := x0 :: x1 :: x2 :: dd 3 (x6 :: x7 :: x8 :: dd 54 [])
def z9l (x0 x1 x2 x6 x7 : V) : List V := x0 :: x1 :: x2 :: dd 3 (x6 :: x7 :: dd 55 [])
def ze4 (M : Env) := lb M F.zol [0, 1, 2, 6] []
def z2q (x0 x1 x2 x6 : V) : List V := x0 :: x1 :: x2 :: dd 3 (x6 :: dd 56 [])
def z9t : List V := dd 63 []
def ze9 (M : Env) := lb M F.zox [0, 1, 2, 6, 7, 8] [0, 1, 2, 6, 7]
def z6a (x0 x1 x2 x6 x7 x8 : V) : List V := x0 :: x1 :: x2 :: dd 3 (x6 :: x7 :: x8 :: dd 54 [])
def z9h (x0 x1 x2 x6 x7 : V) : List V := x0 :: x1 :: x2 :: dd 3 (x6 :: x7 :: dd 55 [])
def zfu (M : Env) := kf F.z08
def zor (M : Env) := kq M F.zp3 (zfu M)
def zan (M : Env) := kb 0 (zor M)
def zai (M : Env) := kb 2 (zfu M)
def zp8 (M : Env) := kl [0, 1, 2, 6] []
def zoj (M : Env) := kb 3 (zp8 M)
def zpc (M : Env) := kq M F.zop (zoj M)
def zaj (M : Env) := kb 4 (zpc M)
def z08 (M : Env) (a0 : V) (a1 : Int) (a2 : V) (h : H) : Rf :=
 (M.loop (zed M) (z66 a0 a1 a2 (20:Int) (0:Int) (20:Int)) h).bind fun p0 => zan M p0.1 p0.2.1 p0.2.2
def za1 (M : Env) (x0 : V) (x1 : Int) (x2 : V) (x6 x7 x8 : Int) (h : H) : Rl :=
 match decide (x8 ≤ x1) with
 | true => ((M.call 450 [x0, x7, x8, x2] h).bind fun p0 =>
 some (.normal, (z66 x0 x1 x2 x6 x8 (.int .i64 (wr .i64 (x8 + x6)))), p0.2))
 | false => (some ((.exit 0), (z9l x0 x1 x2 x6 x7), h))
def zdt (M : Env) (x0 : V) (x1 : Int) (x2 : V) (x6 x7 : Int) (h : H) : Rf :=
 (M.call 450 [x0, x7, x1, x2] h).bind fun p0 =>
 (M.loop (ze4 M) (z2q x0 x1 x2 x6) p0.2).bind fun p1 => zai M p1.1 p1.2.1 p1.2.2
def z6d (M : Env) (x0 : V) (x1 : Int) (x2 : V) (x6 : Int) (h : H) : Rl :=
 match decide (x6 < x1) with
 | true => ((M.loop (ze9 M) (z6a x0 x1 x2 x6 (0:Int) (.int .i64 (wr .i64 (2 * x6)))) h).bind fun p0 => zaj M p0.1 p0.2.1 p0.2.2)
 | false => (some ((.exit 2), z9t, h))
def zlu (M : Env) (h : H) : Rf :=
 some ((.tup []), h)
def za4 (M : Env) (x0 : V) (x1 : Int) (x2 : V) (x6 x7 x8 : Int) (h : H) : Rl :=
 match decide (x8 ≤ x1) with
 | true => ((M.call 460 [x0, x7, (.int .i64 (wr .i64 (x7 + x6))), x8, x2] h).bind fun p0 =>
 some (.normal, (z6a x0 x1 x2 x6 x8 (.int .i64 (wr .i64 (x8 + (wr .i64 (2 * x6)))))), p0.2))
 | false => (some ((.exit 4), (z9h x0 x1 x2 x6 x7), h))
def z9c (M : Env) (x0 : V) (x1 : Int) (x2 : V) (x6 x7 : Int) (h : H) : Rl :=
 match (decide ((wr .i64 (x7 + x6)) < x1)) with
 | true => ((M.call 460 [x0, x7, (.int .i64 (wr .i64 (x7 + x6))), x1, x2] h).bind fun p0 =>
 some (.normal, (z2q x0 x1 x2 (.int .i64 (wr .i64 (x6 * 2)))), p0.2))
 | false => (some (.normal, (z2q x0 x1 x2 (.int .i64 (wr .i64 (x6 * 2)))), h))
theorem zoo : z06 M F.z08 [a0, (.int .i64 a1), a2] h = z08 M a0 a1 a2 h := by kernel_rfl
theorem zll : zed M (z66 x0 (.int .i64 x1) x2 (.int .i64 x6) (.int .i64 x7) (.int .i64 x8)) h = za1 M x0 x1 x2 x6 x7 x8 h := by kernel_rfl
theorem zjp : zan M (.exit 0) (z9l x0 (.int .i64 x1) x2 (.int .i64 x6) (.int .i64 x7)) h = zdt M x0 x1 x2 x6 x7 h := by kernel_rfl
theorem zlw : ze4 M (z2q x0 (.int .i64 x1) x2 (.int .i64 x6)) h = z6d M x0 x1 x2 x6 h := by kernel_rfl
theorem zj9 : zai M (.exit 2) z9t h = zlu M h := by kernel_rfl
theorem zlz : ze9 M (z6a x0 (.int .i64 x1) x2 (.int .i64 x6) (.int .i64 x7) (.int .i64 x8)) h = za4 M x0 x1 x2 x6 x7 x8 h := by kernel_rfl
theorem zjk : zaj M (.exit 4) (z9h x0 (.int .i64 x1) x2 (.int .i64 x6) (.int .i64 x7)) h = z9c M x0 x1 x2 x6 x7 h := by kernel_rfl
def z0y (M : Env) (a0 a1 : V) (h : H) : Rf :=
 (lenSl a0).bind fun n0 =>
 (M.call 408 [a0, (.int .i64 (n0 : Int)), a1] h).bind fun p1 =>
 some ((.tup []), p1.2)
theorem ziz : z06 M F.z0y [a0, a1] h = z0y M a0 a1 h := by kernel_rfl
def zba (M : Env) (a0 a1 : Int) (f0 : V) (h : H) : Rf :=
 (h.ld1 f0).bind fun v0 =>
 (za 14 v0 a0).bind fun v1 =>
 (h.ldN 14 v1).bind fun v2 =>
 (h.ld1 f0).bind fun v3 =>
 (za 14 v3 a1).bind fun v4 =>
 (h.ldN 14 v4).bind fun v5 =>
 let h6 := h.new (.cells [(0:Int), (0:Int), (0:Int), (0:Int), (0:Int), false, (0:Int), (0:Int), (.int .u64 0), (.int .u64 0), (.int .u64 0), (0:Int), (.int .u64 0), false] .rw)
 let h7 := h6.new (.cells [(0:Int), (0:Int), (0:Int), (0:Int), (0:Int), false, (0:Int), (0:Int), (.int .u64 0), (.int .u64 0), (.int .u64 0), (0:Int), (.int .u64 0), false] .rw)
 (h7.st 14 (.ptr h.next 0) v2).bind fun h8 =>
 match ckB (h8.ldN 14 v4) v5 with
 | true => (match ckB (h8.ld1 f0) v3 with
 | true => ((h8.st 14 (.ptr h6.next 0) v5).bind fun h9 =>
 (h9.ld1 (.ptr h.next 3)).bind fun v10 =>
 (h9.ld1 (.ptr h6.next 3)).bind fun v11 =>
 (h9.ldN 14 (.ptr h.next 0)).bind fun v12 =>
 (h9.ldN 14 (.ptr h6.next 0)).bind fun v13 =>
 (h9.ld1 (.ptr h.next 0)).bind fun v14 =>
 (h9.ld1 (.ptr h6.next 0)).bind fun v15 =>
 (h9.ld1 (.ptr h.next 1)).bind fun v16 =>
 (h9.ld1 (.ptr h6.next 1)).bind fun v17 =>
 (M.call 334 [v10, v11] h9).bind fun p18 =>
 match ckB (p18.2.ld1 (.ptr h6.next 1)) v17 with
 | true => (match ckB (p18.2.ld1 (.ptr h.next 1)) v16 with
 | true => (match ckB (p18.2.ld1 (.ptr h6.next 0)) v15 with
 | true => (match ckB (p18.2.ld1 (.ptr h.next 0)) v14 with
 | true => (match ckB (p18.2.ldN 14 (.ptr h6.next 0)) v13 with
 | true => (match ckB (p18.2.ldN 14 (.ptr h.next 0)) v12 with
 | true => ((M.call 338 [v12] p18.2).bind fun p19 =>
 match ckB (p19.2.ld1 (.ptr h6.next 1)) v17 with
 | true => (match ckB (p19.2.ld1 (.ptr h.next 1)) v16 with
 | true => (match ckB (p19.2.ld1 (.ptr h6.next 0)) v15 with
 | true => (match ckB (p19.2.ld1 (.ptr h.next 0)) v14 with
 | true => (match ckB (p19.2.ldN 14 (.ptr h6.next 0)) v13 with
 | true => ((M.call 338 [v13] p19.2).bind fun p20 =>
 match ckB (p20.2.ld1 (.ptr h6.next 1)) v17 with
 | true => (match ckB (p20.2.ld1 (.ptr h.next 1)) v16 with
 | true => (match ckB (p20.2.ld1 (.ptr h6.next 0)) v15 with
 | true => (match ckB (p20.2.ld1 (.ptr h.next 0)) v14 with
 | true => ((M.call 334 [p19.1, p20.1] p20.2).bind fun p21 =>
 match ckB (p21.2.ld1 (.ptr h6.next 1)) v17 with
 | true => (match ckB (p21.2.ld1 (.ptr h.next 1)) v16 with
 | true => (match ckB (p21.2.ld1 (.ptr h6.next 0)) v15 with
 | true => (match ckB (p21.2.ld1 (.ptr h.next 0)) v14 with
 | true => ((M.call 334 [v14, v15] p21.2).bind fun p22 =>
 match ckB (p22.2.ld1 (.ptr h6.next 1)) v17 with
 | true => (match ckB (p22.2.ld1 (.ptr h.next 1)) v16 with
 | true => ((M.call 334 [v16, v17] p22.2).bind fun p23 =>
 (fill (repl [(0:Int)] 4) [] [(0, 1, .c p18.1), (1, 1, .c p21.1), (2, 1, .c p22.1), (3, 1, .c p23.1)]).bind fun cs24 =>
 let h25 := p23.2.new (.cells cs24 .rw)
 (M.call 337 [(.sl p23.2.next 0 4 (.ex 4))] h25).bind fun p26 =>
 some (p26.1, p26.2))
 | false => none)
 | false => none)
 | false => none)
 | false => none)
 | false => none)
 | false => none)
 | false => none)
 | false => none)
 | false => none)
 | false => none)
 | false => none)
 | false => none)
 | false => none)
 | false => none)
 | false => none)
 | false => none)
 | false => none)
 | false => none)
 | false => none)
 | false => none)
 | false => none)
 | false => none)
 | false => none
theorem z00b : z06 M F.zba [(.int .i64 a0), (.int .i64 a1), f0] h = zba M a0 a1 f0 h := by kernel_rfl
def zrd (M : Env) := lb M F.z016 [3, 6, 7, 8] [2, 3]
def zga (x3 x6 x7 x8 : V) : List V := dd 3 (x3 :: dd 2 (x6 :: x7 :: x8 :: dd 9 []))
def zao (x2 x3 : V) : List V := dd 2 (x2 :: x3 :: dd 14 [])
def z014 (M : Env) := kf F.z7k
def z019 (M : Env) := kq M F.z01d (z014 M)
def zfr (M : Env) := kb 0 (z019 M)
def z7k (M : Env) (a0 : V) (h : H) : Rf :=
 (lenSl a0).bind fun n0 =>
 (M.loop (zrd M) (zga (0:Int) a0 (.int .i64 (n0 : Int)) (0:Int)) h).bind fun p1 => zfr M p1.1 p1.2.1 p1.2.2
def zg9 (M : Env) (x3 : Int) (x6 : V) (x7 x8 : Int) (h : H) : Rl :=
 match decide (x8 < x7) with
 | true => ((za 1 x6 x8).bind fun v0 =>
 (h.ld1 v0).bind fun v1 =>
 (asI .i64 v1).bind fun n2 =>
 match (!decide (n2 = x3)) with
 | true => (some (.ret, (zao v1 x3), h))
 | false => (some (.normal, (zga x3 x6 x7 (.int .i64 (wr .i64 (x8 + 1)))), h)))
 | false => (some ((.exit 0), (zao .dead x3), h))
def zy6 (M : Env) (x2 : V) (x3 : Int) (h : H) : Rf :=
 some (x3, h)
def zyv (M : Env) (x2 : Int) (x3 : V) (h : H) : Rf :=
 some (x2, h)
theorem z01a : z06 M F.z7k [a0] h = z7k M a0 h := by kernel_rfl
theorem zy8 : zrd M (zga (.int .i64 x3) x6 (.int .i64 x7) (.int .i64 x8)) h = zg9 M x3 x6 x7 x8 h := by kernel_rfl
theorem zu2 : zfr M (.exit 0) (zao x2 (.int .i64 x3)) h = zy6 M x2 x3 h := by kernel_rfl
theorem zwd : zfr M .ret (zao (.int .i64 x2) x3) h = zyv M x2 x3 h := by kernel_rfl
def zb5 (M : Env) (a0_0 a0_1 a0_2 a0_3 a0_4 : Int) (a0_5 : Bool) (a0_6 a0_7 a0_8 a0_9 a0_10 a0_11 a0_12 : Int) (a0_13 : Bool) (h : H) : Rf :=
 let h0 := h.new (.cells [a0_0, a0_1, a0_2, a0_3, a0_4, a0_5, a0_6, a0_7, (.int .u64 a0_8), (.int .u64 a0_9), (.int .u64 a0_10), a0_11, (.int .u64 a0_12), a0_13] .rw)
 (h0.ld1 (.ptr h.next 5)).bind fun v1 =>
 (asB v1).bind fun b2 =>
 match b2 with
 | true => (some ((1:Int), h0))
 | false => (some ((0:Int), h0))
theorem z01h : z06 M F.zb5 [(.agg [(.int .i64 a0_0), (.int .i64 a0_1), (.int .i64 a0_2), (.int .i64 a0_3), (.int .i64 a0_4), (.bool a0_5), (.int .i64 a0_6), (.int .i64 a0_7), (.int .u64 a0_8), (.int .u64 a0_9), (.int .u64 a0_10), (.int .i64 a0_11), (.int .u64 a0_12), (.bool a0_13)])] h = zb5 M a0_0 a0_1 a0_2 a0_3 a0_4 a0_5 a0_6 a0_7 a0_8 a0_9 a0_10 a0_11 a0_12 a0_13 h := by kernel_rfl
def zs6 (M : Env) := lb M F.z02u [1, 3, 9, 10] [1, 3]
def zh3 (x1 x3 x9 x10 : V) : List V := dd 1 (x1 :: dd 1 (x3 :: dd 5 (x9 :: x10 :: dd 11 [])))
def znl (x1 x3 : V) : List V := dd 1 (x1 :: dd 1 (x3 :: dd 18 []))
def z02v (M : Env) := kf F.za5
def z03i (M : Env) := kq M F.z037 (z02v M)
def zqe (M : Env) := kb 0 (z03i M)
def za5 (M : Env) (a0 : V) (h : H) : Rf :=
 (boxc a0).bind fun cs0 =>
 let h1 := h.new (.cells cs0 .rw)
 (h1.ld1 (.ptr h.next 0)).bind fun v2 =>
 (lenSl v2).bind fun n3 =>
 (h1.mkSl 1 8 [(0:Int)] (n3 : Int) (n3 : Int)).bind fun p4 =>
 (lenSl p4.1).bind fun n5 =>
 (M.loop (zs6 M) (zh3 (.ptr h.next 0) p4.1 (.int .i64 (n5 : Int)) (0:Int)) p4.2).bind fun p6 => zqe M p6.1 p6.2.1 p6.2.2
def zn4 (M : Env) (x1 x3 : V) (x9 x10 : Int) (h : H) : Rl :=
 match decide (x10 < x9) with
 | true => ((za 1 x3 x10).bind fun v0 =>
 (h.st 1 v0 x10).bind fun h1 =>
 some (.normal, (zh3 x1 x3 x9 (.int .i64 (wr .i64 (x10 + 1)))), h1))
 | false => (some ((.exit 0), (znl x1 x3), h))
def zrf (M : Env) (x1 x3 : V) (h : H) : Rf :=
 (M.call 335 [x3, (.fn 336 [x1])] h).bind fun p0 =>
 some (x3, p0.2)
theorem z036 : z06 M F.za5 [a0] h = za5 M a0 h := by kernel_rfl
theorem zym : zs6 M (zh3 x1 x3 (.int .i64 x9) (.int .i64 x10)) h = zn4 M x1 x3 x9 x10 h := by kernel_rfl
theorem zv4 : zqe M (.exit 0) (znl x1 x3) h = zrf M x1 x3 h := by kernel_rfl
def ze8 (M : Env) (a0_0 a0_1 a0_2 a0_3 a0_4 a0_5 : Int) (a1 : V) (h : H) : Rf :=
 let h0 := h.new (.cells [a0_0, a0_1, a0_2, a0_3, a0_4, a0_5] .rw)
 (h0.ldN 6 (.ptr h.next 0)).bind fun v1 =>
 (M.call 263 [v1] h0).bind fun p2 =>
 match p2.1 with
 | .bool true => (
 (p2.2.ld1 (.ptr h.next 2)).bind fun v3 =>
 (M.call 178 [a1, v3] p2.2).bind fun p4 =>
 match p4.1 with
 | .bool true => (
 (p4.2.ldN 6 (.ptr h.next 0)).bind fun v5 =>
 (lenSl a1).bind fun n6 =>
 (M.call 181 [a1] p4.2).bind fun p7 =>
 match ckB (p7.2.ldN 6 (.ptr h.next 0)) v5 with
 | true => ((M.call 205 [v5, a1, p7.1] p7.2).bind fun p8 =>
 (asI .i64 p8.1).bind fun n9 =>
 some ((.bool (decide (n9 = (n6 : Int)))), p8.2))
 | false => none)
 | .bool false => (
 some (false, p4.2))
 | .tup [] => (
 (asB p4.1).bind fun b5 =>
 some ((match b5 with | true => (.tup []) | false => false : V), p4.2))
 | _ => none)
 | .bool false => (
 some (false, p2.2))
 | .tup [] => (
 (asB p2.1).bind fun b3 =>
 match (match b3 with | true => (.tup []) | false => false : V) with
 | .bool true => (
 (p2.2.ldN 6 (.ptr h.next 0)).bind fun v4 =>
 (lenSl a1).bind fun n5 =>
 (M.call 181 [a1] p2.2).bind fun p6 =>
 match ckB (p6.2.ldN 6 (.ptr h.next 0)) v4 with
 | true => ((M.call 205 [v4, a1, p6.1] p6.2).bind fun p7 =>
 (asI .i64 p7.1).bind fun n8 =>
 some ((.bool (decide (n8 = (n5 : Int)))), p7.2))
 | false => none)
 | .bool false => (
 some (false, p2.2))
 | .tup [] => (
 (asB (match b3 with | true => (.tup []) | false => false : V)).bind fun b4 =>
 some ((match b4 with | true => (.tup []) | false => false : V), p2.2))
 | _ => none)
 | _ => none
theorem z02y : z06 M F.ze8 [(.agg [(.int .i64 a0_0), (.int .i64 a0_1), (.int .i64 a0_2), (.int .i64 a0_3), (.int .i64 a0_4), (.int .i64 a0_5)]), a1] h = ze8 M a0_0 a0_1 a0_2 a0_3 a0_4 a0_5 a1 h := by kernel_rfl
def zx7 (M : Env) := lb M F.z08l [0, 1, 2, 12, 13, 14] [6]
def zdi (x0 x1 x2 x12 x13 x14 : V) : List V := x0 :: x1 :: x2 :: dd 9 (x12 :: x13 :: x14 :: dd 22 [])
def zbc (x6 : V) : List V := dd 6 (x6 :: dd 30 [])
def z08f (M : Env) := kf F.ze0
def z089 (M : Env) := kq M F.z088 (z08f M)
def zmh (M : Env) := kb 0 (z089 M)
def ze0 (M : Env) (a0 a1 : V) (a2 : Int) (h : H) : Rf :=
 (M.call 331 [a1, a2] h).bind fun p0 =>
 (asB p0.1).bind fun b1 =>
 match b1 with
 | true => (some (false, p0.2))
 | false => ((lenSl a0).bind fun n2 =>
 (M.loop (zx7 M) (zdi a0 a1 a2 a0 (.int .i64 (n2 : Int)) (0:Int)) p0.2).bind fun p3 => zmh M p3.1 p3.2.1 p3.2.2)
def zd0 (M : Env) (x0 x1 : V) (x2 : Int) (x12 : V) (x13 x14 : Int) (h : H) : Rl :=
 match decide (x14 < x13) with
 | true => ((za 14 x12 x14).bind fun v0 =>
 (h.ldN 14 v0).bind fun v1 =>
 let h2 := h.new (.cells [(0:Int), (0:Int), (0:Int), (0:Int), (0:Int), false, (0:Int), (0:Int), (.int .u64 0), (.int .u64 0), (.int .u64 0), (0:Int), (.int .u64 0), false] .rw)
 (h2.st 14 (.ptr h.next 0) v1).bind fun h3 =>
 match (!decide (x14 = x2)) with
 | true => ((M.call 331 [x1, x14] h3).bind fun p4 =>
 (asB p4.1).bind fun b5 =>
 match (!b5) with
 | true => ((p4.2.ldN 14 (.ptr h.next 0)).bind fun v6 =>
 (za 14 x0 x2).bind fun v7 =>
 (p4.2.ldN 14 v7).bind fun v8 =>
 (M.call 183 [v6, v8] p4.2).bind fun p9 =>
 (asB p9.1).bind fun b10 =>
 match b10 with
 | true => (some (.ret, (zbc false), p9.2))
 | false => (some (.normal, (zdi x0 x1 x2 x12 x13 (.int .i64 (wr .i64 (x14 + 1)))), p9.2)))
 | false => (some (.normal, (zdi x0 x1 x2 x12 x13 (.int .i64 (wr .i64 (x14 + 1)))), p4.2)))
 | false => (some (.normal, (zdi x0 x1 x2 x12 x13 (.int .i64 (wr .i64 (x14 + 1)))), h3)))
 | false => (some ((.exit 0), (zbc .dead), h))
def z03b (M : Env) (x6 : V) (h : H) : Rf :=
 some (true, h)
def z04y (M : Env) (x6 : Bool) (h : H) : Rf :=
 some (x6, h)
theorem z07y : z06 M F.ze0 [a0, a1, (.int .i64 a2)] h = ze0 M a0 a1 a2 h := by kernel_rfl
theorem z034 : zx7 M (zdi x0 x1 (.int .i64 x2) x12 (.int .i64 x13) (.int .i64 x14)) h = zd0 M x0 x1 x2 x12 x13 x14 h := by kernel_rfl
theorem zyq : zmh M (.exit 0) (zbc x6) h = z03b M x6 h := by kernel_rfl
theorem zzv : zmh M .ret (zbc (.bool x6)) h = z04y M x6 h := by kernel_rfl
def zc6 (M : Env) := sc M F.z02t F.z038 [1, 7, 8, 9] [4, 5, 6]
def z0h (x1 x7 x8 x9 : V) : List V := dd 1 (x1 :: dd 5 (x7 :: x8 :: x9 :: dd 80 []))
def z2r (x4 x5 x6 : V) : List V := dd 4 (x4 :: x5 :: x6 :: dd 83 [])
def zkg (M : Env) := kf F.z9i
def z9i (M : Env) (a0_0 a0_1 a0_2 a0_3 a0_4 a0_5 : Int) (a1 : V) (h : H) : Rf :=
 let h0 := h.new (.cells [a0_0, a0_1, a0_2, a0_3, a0_4, a0_5] .rw)
 (M.scope (zc6 M) 0 ((.agg [a0_0, a0_1, a0_2, a0_3, a0_4, a0_5]) :: a1 :: (.ptr h.next 0) :: uu 1 (.nilsl :: false :: (0:Int) :: uu 83 [])) h0).bind fun p1 => zkg M p1.1 p1.2.1 p1.2.2
def zs1 (M : Env) (x0 x1 x2 x4 : V) (x5 : Bool) (x6 : Int) (h : H) : Rl :=
 (h.ldN 6 x2).bind fun v0 =>
 (M.call 263 [v0] h).bind fun p1 =>
 (asB p1.1).bind fun b2 =>
 match (!b2) with
 | true => (some (.ret, (z2r .nilsl false (1:Int)), p1.2))
 | false => ((lenSl x1).bind fun n3 =>
 match decide (7 < (n3 : Int)) with
 | true => (some (.ret, (z2r .nilsl false (10:Int)), p1.2))
 | false => ((lenSl x1).bind fun n4 =>
 (p1.2.mkSl 1 8 [(0:Int)] 0 (n4 : Int)).bind fun p5 =>
 (p5.2.ldN 6 x2).bind fun v6 =>
 (M.call 96 [v6] p5.2).bind fun p7 =>
 (fill (repl [.nilp] 1) [] [(0, 1, .c p7.1)]).bind fun cs8 =>
 let h9 := p7.2.new (.cells cs8 .rw)
 (lenSl p5.1).bind fun n10 =>
 (lenSl x1).bind fun n11 =>
 match decide ((n10 : Int) = (n11 : Int)) with
 | true => (some (.ret, (z2r p5.1 true (0:Int)), h9))
 | false => ((lenSl x1).bind fun n12 =>
 match decide (0 = (n12 : Int)) with
 | true => (some (.goto 1, (z0h x1 p5.1 (.sl p7.2.next 0 1 (.ex 1)) (0:Int)), h9))
 | false => ((M.call 349 [x1, p5.1, (0:Int)] h9).bind fun p13 =>
 (asB p13.1).bind fun b14 =>
 match b14 with
 | true => ((lenSl p5.1).bind fun n15 =>
 (za 1 (.sl p7.2.next 0 1 (.ex 1)) (.int .i64 (n15 : Int))).bind fun v16 =>
 (p13.2.ld1 v16).bind fun v17 =>
 (M.call 115 [v17] p13.2).bind fun p18 =>
 (za 14 x1 (0:Int)).bind fun v19 =>
 (zn v19 0).bind fun v20 =>
 (p18.2.ld1 v20).bind fun v21 =>
 (za 14 x1 (0:Int)).bind fun v22 =>
 (zn v22 6).bind fun v23 =>
 (p18.2.ldN 5 v23).bind fun v24 =>
 (za 14 x1 (0:Int)).bind fun v25 =>
 (zn v25 11).bind fun v26 =>
 (p18.2.ldN 3 v26).bind fun v27 =>
 (M.call 103 [p18.1, v21, v24, v27] p18.2).bind fun p28 =>
 (asB p28.1).bind fun b29 =>
 match b29 with
 | true => (let h30 := p28.2.new (.cells [(0:Int)] .rw)
 (h30.append 1 8 p5.1 (.sl p28.2.next 0 1 (.ex 1))).bind fun p31 =>
 (lenSl p31.1).bind fun n32 =>
 (lenSl p31.1).bind fun n33 =>
 (z67 1 (.sl p7.2.next 0 1 (.ex 1)) none (some (.int .i64 (n32 : Int))) (some (.int .i64 (n33 : Int)))).bind fun v34 =>
 (fill (repl [.nilp] 1) [] [(0, 1, .c p18.1)]).bind fun cs35 =>
 let h36 := p31.2.new (.cells cs35 .rw)
 (h36.append 1 8 v34 (.sl p31.2.next 0 1 (.ex 1))).bind fun p37 =>
 some (.goto 0, (z0h x1 p31.1 p37.1 (0:Int)), p37.2))
 | false => (some (.goto 2, (z0h x1 p5.1 (.sl p7.2.next 0 1 (.ex 1)) (.int .i64 (wr .i64 (0 + 1)))), p28.2)))
 | false => (some (.goto 2, (z0h x1 p5.1 (.sl p7.2.next 0 1 (.ex 1)) (.int .i64 (wr .i64 (0 + 1)))), p13.2))))))
def zr4 (M : Env) (x1 x7 x8 : V) (x9 : Int) (h : H) : Rl :=
 (lenSl x7).bind fun n0 =>
 (lenSl x1).bind fun n1 =>
 match decide ((n0 : Int) = (n1 : Int)) with
 | true => (some (.ret, (z2r x7 true (0:Int)), h))
 | false => ((lenSl x1).bind fun n2 =>
 match decide (x9 = (n2 : Int)) with
 | true => (some (.goto 1, (z0h x1 x7 x8 x9), h))
 | false => ((M.call 349 [x1, x7, x9] h).bind fun p3 =>
 (asB p3.1).bind fun b4 =>
 match b4 with
 | true => ((lenSl x7).bind fun n5 =>
 (za 1 x8 (.int .i64 (n5 : Int))).bind fun v6 =>
 (p3.2.ld1 v6).bind fun v7 =>
 (M.call 115 [v7] p3.2).bind fun p8 =>
 (za 14 x1 x9).bind fun v9 =>
 (zn v9 0).bind fun v10 =>
 (p8.2.ld1 v10).bind fun v11 =>
 (za 14 x1 x9).bind fun v12 =>
 (zn v12 6).bind fun v13 =>
 (p8.2.ldN 5 v13).bind fun v14 =>
 (za 14 x1 x9).bind fun v15 =>
 (zn v15 11).bind fun v16 =>
 (p8.2.ldN 3 v16).bind fun v17 =>
 (M.call 103 [p8.1, v11, v14, v17] p8.2).bind fun p18 =>
 (asB p18.1).bind fun b19 =>
 match b19 with
 | true => (let h20 := p18.2.new (.cells [x9] .rw)
 (h20.append 1 8 x7 (.sl p18.2.next 0 1 (.ex 1))).bind fun p21 =>
 (lenSl p21.1).bind fun n22 =>
 (lenSl p21.1).bind fun n23 =>
 (z67 1 x8 none (some (.int .i64 (n22 : Int))) (some (.int .i64 (n23 : Int)))).bind fun v24 =>
 (fill (repl [.nilp] 1) [] [(0, 1, .c p8.1)]).bind fun cs25 =>
 let h26 := p21.2.new (.cells cs25 .rw)
 (h26.append 1 8 v24 (.sl p21.2.next 0 1 (.ex 1))).bind fun p27 =>
 some (.goto 0, (z0h x1 p21.1 p27.1 (0:Int)), p27.2))
 | false => (some (.goto 2, (z0h x1 x7 x8 (.int .i64 (wr .i64 (x9 + 1)))), p18.2)))
 | false => (some (.goto 2, (z0h x1 x7 x8 (.int .i64 (wr .i64 (x9 + 1)))), p3.2))))
def z5r (M : Env) (x1 x7 x8 : V) (x9 : Int) (h : H) : Rl :=
 (lenSl x1).bind fun n0 =>
 match decide (x9 = (n0 : Int)) with
 | true => (some (.goto 1, (z0h x1 x7 x8 x9), h))
 | false => ((M.call 349 [x1, x7, x9] h).bind fun p1 =>
 (asB p1.1).bind fun b2 =>
 match b2 with
 | true => ((lenSl x7).bind fun n3 =>
 (za 1 x8 (.int .i64 (n3 : Int))).bind fun v4 =>
 (p1.2.ld1 v4).bind fun v5 =>
 (M.call 115 [v5] p1.2).bind fun p6 =>
 (za 14 x1 x9).bind fun v7 =>
 (zn v7 0).bind fun v8 =>
 (p6.2.ld1 v8).bind fun v9 =>
 (za 14 x1 x9).bind fun v10 =>
 (zn v10 6).bind fun v11 =>
 (p6.2.ldN 5 v11).bind fun v12 =>
 (za 14 x1 x9).bind fun v13 =>
 (zn v13 11).bind fun v14 =>
 (p6.2.ldN 3 v14).bind fun v15 =>
 (M.call 103 [p6.1, v9, v12, v15] p6.2).bind fun p16 =>
 (asB p16.1).bind fun b17 =>
 match b17 with
 | true => (let h18 := p16.2.new (.cells [x9] .rw)
 (h18.append 1 8 x7 (.sl p16.2.next 0 1 (.ex 1))).bind fun p19 =>
 (lenSl p19.1).bind fun n20 =>
 (lenSl p19.1).bind fun n21 =>
 (z67 1 x8 none (some (.int .i64 (n20 : Int))) (some (.int .i64 (n21 : Int)))).bind fun v22 =>
 (fill (repl [.nilp] 1) [] [(0, 1, .c p6.1)]).bind fun cs23 =>
 let h24 := p19.2.new (.cells cs23 .rw)
 (h24.append 1 8 v22 (.sl p19.2.next 0 1 (.ex 1))).bind fun p25 =>
 some (.goto 0, (z0h x1 p19.1 p25.1 (0:Int)), p25.2))
 | false => (some (.goto 2, (z0h x1 x7 x8 (.int .i64 (wr .i64 (x9 + 1)))), p16.2)))
 | false => (some (.goto 2, (z0h x1 x7 x8 (.int .i64 (wr .i64 (x9 + 1)))), p1.2)))
def zkq (M : Env) (x1 x7 x8 : V) (x9 : Int) (h : H) : Rl :=
 (lenSl x7).bind fun n0 =>
 match decide ((n0 : Int) = 0) with
 | true => (some (.ret, (z2r .nilsl false (0:Int)), h))
 | false => ((lenSl x7).bind fun n1 =>
 (za 1 x7 (.int .i64 (wr .i64 ((n1 : Int) - 1)))).bind fun v2 =>
 (h.ld1 v2).bind fun v3 =>
 (asI .i64 v3).bind fun n4 =>
 (lenSl x7).bind fun n5 =>
 (z67 1 x7 none (some (.int .i64 (wr .i64 ((n5 : Int) - 1)))) none).bind fun v6 =>
 some (.goto 2, (z0h x1 v6 x8 (.int .i64 (wr .i64 (n4 + 1)))), h))
def z00c (M : Env) (x4 : V) (x5 : Bool) (x6 : Int) (h : H) : Rf :=
 some ((.tup [x4, x5, x6]), h)
theorem z02w : z06 M F.z9i [(.agg [(.int .i64 a0_0), (.int .i64 a0_1), (.int .i64 a0_2), (.int .i64 a0_3), (.int .i64 a0_4), (.int .i64 a0_5)]), a1] h = z9i M a0_0 a0_1 a0_2 a0_3 a0_4 a0_5 a1 h := by kernel_rfl
theorem zyo : zc6 M 0 (x0 :: x1 :: x2 :: uu 1 (x4 :: (.bool x5) :: (.int .i64 x6) :: uu 83 [])) h = zs1 M x0 x1 x2 x4 x5 x6 h := by kernel_rfl
theorem zvn : zc6 M 1 (z0h x1 x7 x8 (.int .i64 x9)) h = zr4 M x1 x7 x8 x9 h := by kernel_rfl
theorem zv3 : zc6 M 3 (z0h x1 x7 x8 (.int .i64 x9)) h = z5r M x1 x7 x8 x9 h := by kernel_rfl
theorem zwm : zc6 M 2 (z0h x1 x7 x8 (.int .i64 x9)) h = zkq M x1 x7 x8 x9 h := by kernel_rfl
theorem zpu : zkg M .ret (z2r x4 (.bool x5) (.int .i64 x6)) h = z00c M x4 x5 x6 h := by kernel_rfl
end Wm.S
end
