/- PRINTED by my tool: what functions come to, stretch by stretch. -/
import Derived.KernelRfl
import Derived.Test.YthkimcdeejjmbaaWmShal
import Derived.Test.YthkimcdeejjmbaaWmFnsLinNone
import Derived.Test.YthkimcdeejjmbaaWmFnc
import Derived.Test.YthkimcdeejjmbaaWmTxtLinNoneA
set_option linter.all false
noncomputable section
namespace Wm.S
open Wm
set_option maxRecDepth 100000
set_option autoImplicit true
set_option relaxedAutoImplicit true
def z00 (M : Env) (a0 : V) (a1 a2 : Int) (a3 : V) (h : H) : Rf :=
 let h0 := h.new (.cells [(0:Int)] .rw)
 match (decide (8 ≤ (wr .i64 (a2 - a1)))) with
 | true => (match (decide (50 ≤ (wr .i64 (a2 - a1)))) with
 | true => ((M.call 490 [a0, (.int .i64 (wr .i64 (a1 + (wr .i64 ((wr .i64 (Int.tdiv (wr .i64 (a2 - a1)) 4)) * 1))))), (.ptr h.next 0), a3] h0).bind fun p1 =>
 (M.call 490 [a0, (.int .i64 (wr .i64 (a1 + (wr .i64 ((wr .i64 (Int.tdiv (wr .i64 (a2 - a1)) 4)) * 2))))), (.ptr h.next 0), a3] p1.2).bind fun p2 =>
 (M.call 490 [a0, (.int .i64 (wr .i64 (a1 + (wr .i64 ((wr .i64 (Int.tdiv (wr .i64 (a2 - a1)) 4)) * 3))))), (.ptr h.next 0), a3] p2.2).bind fun p3 =>
 (M.call 491 [a0, p1.1, p2.1, p3.1, (.ptr h.next 0), a3] p3.2).bind fun p4 =>
 (p4.2.ld1 (.ptr h.next 0)).bind fun v5 =>
 (asI .i64 v5).bind fun n6 =>
 match decide (n6 = 0) with
 | true => (some ((.tup [p4.1, (1:Int)]), p4.2))
 | false => ((asI .i64 v5).bind fun n7 =>
 match decide (n7 = 12) with
 | true => (some ((.tup [p4.1, (2:Int)]), p4.2))
 | false => (some ((.tup [p4.1, (0:Int)]), p4.2))))
 | false => ((M.call 491 [a0, (.int .i64 (wr .i64 (a1 + (wr .i64 ((wr .i64 (Int.tdiv (wr .i64 (a2 - a1)) 4)) * 1))))), (.int .i64 (wr .i64 (a1 + (wr .i64 ((wr .i64 (Int.tdiv (wr .i64 (a2 - a1)) 4)) * 2))))), (.int .i64 (wr .i64 (a1 + (wr .i64 ((wr .i64 (Int.tdiv (wr .i64 (a2 - a1)) 4)) * 3))))), (.ptr h.next 0), a3] h0).bind fun p1 =>
 (p1.2.ld1 (.ptr h.next 0)).bind fun v2 =>
 (asI .i64 v2).bind fun n3 =>
 match decide (n3 = 0) with
 | true => (some ((.tup [p1.1, (1:Int)]), p1.2))
 | false => ((asI .i64 v2).bind fun n4 =>
 match decide (n4 = 12) with
 | true => (some ((.tup [p1.1, (2:Int)]), p1.2))
 | false => (some ((.tup [p1.1, (0:Int)]), p1.2)))))
 | false => ((h0.ld1 (.ptr h.next 0)).bind fun v1 =>
 (asI .i64 v1).bind fun n2 =>
 match decide (n2 = 0) with
 | true => (some ((.tup [(.int .i64 (wr .i64 (a1 + (wr .i64 ((wr .i64 (Int.tdiv (wr .i64 (a2 - a1)) 4)) * 2))))), (1:Int)]), h0))
 | false => ((asI .i64 v1).bind fun n3 =>
 match decide (n3 = 12) with
 | true => (some ((.tup [(.int .i64 (wr .i64 (a1 + (wr .i64 ((wr .i64 (Int.tdiv (wr .i64 (a2 - a1)) 4)) * 2))))), (2:Int)]), h0))
 | false => (some ((.tup [(.int .i64 (wr .i64 (a1 + (wr .i64 ((wr .i64 (Int.tdiv (wr .i64 (a2 - a1)) 4)) * 2))))), (0:Int)]), h0))))
theorem zjq : z04 M F.z00 [a0, (.int .i64 a1), (.int .i64 a2), a3] h = z00 M a0 a1 a2 a3 h := by kernel_rfl
def zdj (M : Env) := lb M F.znt [0, 1, 2, 3, 4, 10, 11] []
def z1j (x0 x1 x2 x3 x4 x10 x11 : V) : List V := x0 :: x1 :: x2 :: x3 :: x4 :: dd 5 (x10 :: x11 :: dd 136 [])
def z2j : List V := dd 148 []
def z90 (M : Env) := jb M F.zno [0, 1, 2, 3, 4, 10, 11, 12]
def z8x (x0 x1 x2 x3 x4 x10 x11 x12 : V) : List V := x0 :: x1 :: x2 :: x3 :: x4 :: dd 5 (x10 :: x11 :: x12 :: dd 135 [])
def z94 (x0 x1 x2 x3 x4 x10 x11 x12 : V) : List V := x0 :: x1 :: x2 :: x3 :: x4 :: dd 5 (x10 :: x11 :: x12 :: dd 135 [])
def z8r (M : Env) := jb M F.znh [0, 1, 2, 3, 4, 10, 11, 12, 13, 14]
def z8t (x0 x1 x2 x3 x4 x10 x11 x12 x13 x14 : V) : List V := x0 :: x1 :: x2 :: x3 :: x4 :: dd 5 (x10 :: x11 :: x12 :: x13 :: x14 :: dd 133 [])
def z92 (x0 x1 x2 x3 x4 x10 x11 x12 x13 x14 : V) : List V := x0 :: x1 :: x2 :: x3 :: x4 :: dd 5 (x10 :: x11 :: x12 :: x13 :: x14 :: dd 133 [])
def zdf (M : Env) := jb M F.znm [0, 1, 2, 3, 4, 10, 11, 12, 13]
def zdl (x0 x1 x2 x3 x4 x10 x11 x12 x13 x14 : V) : List V := x0 :: x1 :: x2 :: x3 :: x4 :: dd 5 (x10 :: x11 :: x12 :: x13 :: x14 :: dd 133 [])
def z3w (x0 x1 x2 x3 x4 x10 x11 x12 x13 : V) : List V := x0 :: x1 :: x2 :: x3 :: x4 :: dd 5 (x10 :: x11 :: x12 :: x13 :: dd 134 [])
def zdc (M : Env) := jb M F.znr [0, 1, 2, 3, 4, 10, 11, 12, 13, 75]
def zdd (x0 x1 x2 x3 x4 x10 x11 x12 x13 x14 : V) : List V := x0 :: x1 :: x2 :: x3 :: x4 :: dd 5 (x10 :: x11 :: x12 :: x13 :: x14 :: dd 133 [])
def z3v (x0 x1 x2 x3 x4 x10 x11 x12 x13 x75 : V) : List V := x0 :: x1 :: x2 :: x3 :: x4 :: dd 5 (x10 :: x11 :: x12 :: x13 :: dd 61 (x75 :: dd 72 []))
def zd7 (M : Env) := jb M F.zmv [0, 1, 2, 3, 4, 10, 11, 12, 13]
def zd3 (x0 x1 x2 x3 x4 x10 x11 x12 x13 : V) : List V := x0 :: x1 :: x2 :: x3 :: x4 :: dd 5 (x10 :: x11 :: x12 :: x13 :: dd 134 [])
def z3d (x0 x1 x2 x3 x4 x10 x11 x12 x13 : V) : List V := x0 :: x1 :: x2 :: x3 :: x4 :: dd 5 (x10 :: x11 :: x12 :: x13 :: dd 134 [])
def znv (M : Env) := kf F.zr
def za0 (M : Env) := kb 0 (znv M)
def znk (M : Env) := kl [0, 1, 2, 3, 4, 10, 11] []
def z6l (M : Env) := kb 1 (znk M)
def z4k (M : Env) := kq M F.zni (z6l M)
def z4l (M : Env) := kq M F.zng (z6l M)
def z1s (M : Env) := kq M F.znu (z6l M)
def znf (M : Env) := kj [0, 1, 2, 3, 4, 10, 11, 12, 13]
def za2 (M : Env) := kq M F.znj (znf M)
def z2r (M : Env) := kq M F.zne (z6l M)
def zr (M : Env) (a0 : V) (a1 a2 a3 : Int) (a4 : V) (h : H) : Rf :=
 (M.loop (zdj M) (z1j a0 a1 a2 a3 a4 true true) h).bind fun p0 => za0 M p0.1 p0.2.1 p0.2.2
def z3u (M : Env) (x0 : V) (x1 x2 x3 : Int) (x4 : V) (x10 x11 : Bool) (h : H) : Rl :=
 match (decide ((wr .i64 (x2 - x1)) ≤ 12)) with
 | true => ((M.call 450 [x0, x1, x2, x4] h).bind fun p0 =>
 some (.ret, z2j, p0.2))
 | false => (match decide (x3 = 0) with
 | true => ((M.call 451 [x0, x1, x2, x4] h).bind fun p0 =>
 some (.ret, z2j, p0.2))
 | false => ((z90 M (z8x x0 x1 x2 x3 x4 x10 x11 (.int .i64 (wr .i64 (x2 - x1)))) h).bind fun p0 => z4k M p0.1 p0.2.1 p0.2.2))
def zlf (M : Env) (h : H) : Rf :=
 some ((.tup []), h)
def z96 (M : Env) (x0 : V) (x1 x2 x3 : Int) (x4 : V) (x10 x11 : Bool) (x12 : Int) (h : H) : Rl :=
 match (!x10) with
 | true => ((M.call 452 [x0, x1, x2, x4] h).bind fun p0 =>
 some (.normal, (z94 x0 x1 x2 (.int .i64 (wr .i64 (x3 - 1))) x4 x10 x11 x12), p0.2))
 | false => (some (.normal, (z94 x0 x1 x2 x3 x4 x10 x11 x12), h))
def z8q (M : Env) (x0 : V) (x1 x2 x3 : Int) (x4 : V) (x10 x11 : Bool) (x12 : Int) (h : H) : Rl :=
 (M.call 453 [x0, x1, x2, x4] h).bind fun p0 =>
 match p0.1 with
 | .tup vs1 => ((vs1[0]?).bind fun v2 =>
 match p0.1 with
 | .tup vs3 => ((vs3[1]?).bind fun v4 =>
 (z8r M (z8t x0 x1 x2 x3 x4 x10 x11 x12 v2 v4) p0.2).bind fun p5 => z4l M p5.1 p5.2.1 p5.2.2)
 | _ => none)
 | _ => none
def z91 (M : Env) (x0 : V) (x1 x2 x3 : Int) (x4 : V) (x10 x11 : Bool) (x12 x13 x14 : Int) (h : H) : Rl :=
 match decide (x14 = 2) with
 | true => ((M.call 454 [x0, x1, x2, x4] h).bind fun p0 =>
 some (.normal, (z92 x0 x1 x2 x3 x4 x10 x11 x12 (.int .i64 (wr .i64 ((wr .i64 (x2 - 1)) - (wr .i64 (x13 - x1))))) (1:Int)), p0.2))
 | false => (some (.normal, (z92 x0 x1 x2 x3 x4 x10 x11 x12 x13 x14), h))
def z95 (M : Env) (x0 : V) (x1 x2 x3 : Int) (x4 : V) (x10 x11 : Bool) (x12 x13 x14 : Int) (h : H) : Rl :=
 (zdf M (zdl x0 x1 x2 x3 x4 x10 x11 x12 x13 x14) h).bind fun p0 => z1s M p0.1 p0.2.1 p0.2.2
def zdi (M : Env) (x0 : V) (x1 x2 x3 : Int) (x4 : V) (x10 x11 : Bool) (x12 x13 x14 : Int) (h : H) : Rl :=
 (zdc M (zdd x0 x1 x2 x3 x4 x10 x11 x12 x13 x14) h).bind fun p0 => za2 M p0.1 p0.2.1 p0.2.2
def z8p (M : Env) (x0 : V) (x1 x2 x3 : Int) (x4 : V) (x10 x11 : Bool) (x12 x13 : Int) (h : H) : Rl :=
 (zd7 M (zd3 x0 x1 x2 x3 x4 x10 x11 x12 x13) h).bind fun p0 => z2r M p0.1 p0.2.1 p0.2.2
def zdh (M : Env) (x0 x1 x2 x3 x4 x10 x11 x12 x13 : V) (h : H) : Rl :=
 some (.ret, z2j, h)
def z5s (M : Env) (x0 : V) (x1 x2 x3 : Int) (x4 : V) (x10 x11 : Bool) (x12 x13 x14 : Int) (h : H) : Rl :=
 match x10 with
 | true => (match x11 with
 | true => (some (.normal, (z3v x0 x1 x2 x3 x4 x10 x11 x12 x13 (.bool (decide (x14 = 1)))), h))
 | false => (some (.normal, (z3v x0 x1 x2 x3 x4 x10 x11 x12 x13 false), h)))
 | false => (some (.normal, (z3v x0 x1 x2 x3 x4 x10 x11 x12 x13 false), h))
def z5r (M : Env) (x0 : V) (x1 x2 x3 : Int) (x4 : V) (x10 x11 : Bool) (x12 x13 : Int) (x75 : Bool) (h : H) : Rl :=
 match x75 with
 | true => ((M.call 455 [x0, x1, x2, x4] h).bind fun p0 =>
 (asB p0.1).bind fun b1 =>
 match b1 with
 | true => (some (.ret, (z3w x0 x1 x2 x3 x4 x10 x11 x12 x13), p0.2))
 | false => (some (.normal, (z3w x0 x1 x2 x3 x4 x10 x11 x12 x13), p0.2)))
 | false => (some (.normal, (z3w x0 x1 x2 x3 x4 x10 x11 x12 x13), h))
def z5c (M : Env) (x0 : V) (x1 x2 x3 : Int) (x4 : V) (x10 x11 : Bool) (x12 x13 : Int) (h : H) : Rl :=
 match decide (0 < x1) with
 | true => ((za 1 x0 (.int .i64 (wr .i64 (x1 - 1)))).bind fun v0 =>
 (h.ld1 v0).bind fun v1 =>
 (za 1 x0 x13).bind fun v2 =>
 (h.ld1 v2).bind fun v3 =>
 z67 M x4 [v1, v3] h fun p4 =>
 (asI .i64 p4.1).bind fun n5 =>
 match (!(decide (n5 < 0))) with
 | true => ((M.call 456 [x0, x1, x2, x13, x4] p4.2).bind fun p6 =>
 some ((.exit 1), (z3d x0 p6.1 x2 x3 x4 x10 x11 x12 x13), p6.2))
 | false => (some (.normal, (z3d x0 x1 x2 x3 x4 x10 x11 x12 x13), p4.2)))
 | false => (some (.normal, (z3d x0 x1 x2 x3 x4 x10 x11 x12 x13), h))
def z5l (M : Env) (x0 : V) (x1 x2 x3 : Int) (x4 x10 x11 : V) (x12 x13 : Int) (h : H) : Rl :=
 (M.call 457 [x0, x1, x2, x13, x4] h).bind fun p0 =>
 match p0.1 with
 | .tup vs1 => ((vs1[0]?).bind fun v2 =>
 match p0.1 with
 | .tup vs3 => ((vs3[1]?).bind fun v4 =>
 (asI .i64 v2).bind fun n5 =>
 (asI .i64 v2).bind fun n6 =>
 match (decide ((wr .i64 (n5 - x1)) < (wr .i64 (x2 - n6)))) with
 | true => ((M.call 405 [x0, x1, v2, x3, x4] p0.2).bind fun p7 =>
 (asI .i64 v2).bind fun n8 =>
 some (.normal, (z1j x0 (.int .i64 (wr .i64 (n8 + 1))) x2 x3 x4 (.bool (decide ((wr .i64 (Int.tdiv x12 8)) ≤ (wr .i64 (n5 - x1))))) v4), p7.2))
 | false => ((asI .i64 v2).bind fun n7 =>
 (M.call 405 [x0, (.int .i64 (wr .i64 (n7 + 1))), x2, x3, x4] p0.2).bind fun p8 =>
 some (.normal, (z1j x0 x1 v2 x3 x4 (.bool (decide ((wr .i64 (Int.tdiv x12 8)) ≤ (wr .i64 (x2 - n6))))) v4), p8.2)))
 | _ => none)
 | _ => none
def zcd (M : Env) (x0 : V) (x1 x2 x3 : Int) (x4 : V) (x10 x11 : Bool) (x12 x13 : V) (h : H) : Rl :=
 some (.normal, (z1j x0 x1 x2 x3 x4 x10 x11), h)
theorem znl : z04 M F.zr [a0, (.int .i64 a1), (.int .i64 a2), (.int .i64 a3), a4] h = zr M a0 a1 a2 a3 a4 h := by kernel_rfl
theorem zkg : zdj M (z1j x0 (.int .i64 x1) (.int .i64 x2) (.int .i64 x3) x4 (.bool x10) (.bool x11)) h = z3u M x0 x1 x2 x3 x4 x10 x11 h := by kernel_rfl
theorem zj4 : za0 M .ret z2j h = zlf M h := by kernel_rfl
theorem zkd : z90 M (z8x x0 (.int .i64 x1) (.int .i64 x2) (.int .i64 x3) x4 (.bool x10) (.bool x11) (.int .i64 x12)) h = z96 M x0 x1 x2 x3 x4 x10 x11 x12 h := by kernel_rfl
theorem zc2 : z4k M .normal (z94 x0 (.int .i64 x1) (.int .i64 x2) (.int .i64 x3) x4 (.bool x10) (.bool x11) (.int .i64 x12)) h = z8q M x0 x1 x2 x3 x4 x10 x11 x12 h := by kernel_rfl
theorem zke : z8r M (z8t x0 (.int .i64 x1) (.int .i64 x2) (.int .i64 x3) x4 (.bool x10) (.bool x11) (.int .i64 x12) (.int .i64 x13) (.int .i64 x14)) h = z91 M x0 x1 x2 x3 x4 x10 x11 x12 x13 x14 h := by kernel_rfl
theorem zc5 : z4l M .normal (z92 x0 (.int .i64 x1) (.int .i64 x2) (.int .i64 x3) x4 (.bool x10) (.bool x11) (.int .i64 x12) (.int .i64 x13) (.int .i64 x14)) h = z95 M x0 x1 x2 x3 x4 x10 x11 x12 x13 x14 h := by kernel_rfl
theorem zk9 : zdf M (zdl x0 (.int .i64 x1) (.int .i64 x2) (.int .i64 x3) x4 (.bool x10) (.bool x11) (.int .i64 x12) (.int .i64 x13) (.int .i64 x14)) h = zdi M x0 x1 x2 x3 x4 x10 x11 x12 x13 x14 h := by kernel_rfl
theorem zc1 : z1s M .normal (z3w x0 (.int .i64 x1) (.int .i64 x2) (.int .i64 x3) x4 (.bool x10) (.bool x11) (.int .i64 x12) (.int .i64 x13)) h = z8p M x0 x1 x2 x3 x4 x10 x11 x12 x13 h := by kernel_rfl
theorem zjg : z1s M .ret (z3w x0 x1 x2 x3 x4 x10 x11 x12 x13) h = zdh M x0 x1 x2 x3 x4 x10 x11 x12 x13 h := by kernel_rfl
theorem zkb : zdc M (zdd x0 (.int .i64 x1) (.int .i64 x2) (.int .i64 x3) x4 (.bool x10) (.bool x11) (.int .i64 x12) (.int .i64 x13) (.int .i64 x14)) h = z5s M x0 x1 x2 x3 x4 x10 x11 x12 x13 x14 h := by kernel_rfl
theorem zj6 : za2 M .normal (z3v x0 (.int .i64 x1) (.int .i64 x2) (.int .i64 x3) x4 (.bool x10) (.bool x11) (.int .i64 x12) (.int .i64 x13) (.bool x75)) h = z5r M x0 x1 x2 x3 x4 x10 x11 x12 x13 x75 h := by kernel_rfl
theorem zjv : zd7 M (zd3 x0 (.int .i64 x1) (.int .i64 x2) (.int .i64 x3) x4 (.bool x10) (.bool x11) (.int .i64 x12) (.int .i64 x13)) h = z5c M x0 x1 x2 x3 x4 x10 x11 x12 x13 h := by kernel_rfl
theorem zbm : z2r M .normal (z3d x0 (.int .i64 x1) (.int .i64 x2) (.int .i64 x3) x4 x10 x11 (.int .i64 x12) (.int .i64 x13)) h = z5l M x0 x1 x2 x3 x4 x10 x11 x12 x13 h := by kernel_rfl
theorem zi0 : z2r M (.exit 1) (z3d x0 (.int .i64 x1) (.int .i64 x2) (.int .i64 x3) x4 (.bool x10) (.bool x11) x12 x13) h = zcd M x0 x1 x2 x3 x4 x10 x11 x12 x13 h := by kernel_rfl
def z1q (M : Env) (a0 a1 : V) (h : H) : Rf :=
 (lenSl a0).bind fun n0 =>
 (M.call 406 [(.int .u64 (wr .u64 (n0 : Int)))] h).bind fun p1 =>
 (M.call 405 [a0, (0:Int), (.int .i64 (n0 : Int)), p1.1, a1] p1.2).bind fun p2 =>
 some ((.tup []), p2.2)
theorem znp : z04 M F.z1q [a0, a1] h = z1q M a0 a1 h := by kernel_rfl
def zra (M : Env) := lb M F.z01w [1, 2, 5, 6, 18, 19] [1, 2, 5, 6]
def zgt (x1 x2 x5 x6 x18 x19 : V) : List V := dd 1 (x1 :: x2 :: dd 2 (x5 :: x6 :: dd 11 (x18 :: x19 :: dd 69 [])))
def znb (x1 x2 x5 x6 : V) : List V := dd 1 (x1 :: x2 :: dd 2 (x5 :: x6 :: dd 82 []))
def zr6 (M : Env) := lb M F.z01u [1, 2, 5, 30, 31, 32] [4]
def z64 (x1 x2 x5 x30 x31 x32 : V) : List V := dd 1 (x1 :: x2 :: dd 2 (x5 :: dd 24 (x30 :: x31 :: x32 :: dd 56 [])))
def z1n (x4 : V) : List V := dd 4 (x4 :: dd 84 [])
def ztv (M : Env) := kf F.z72
def z01x (M : Env) := kq M F.z01z (ztv M)
def zpr (M : Env) := kb 0 (z01x M)
def z02h (M : Env) := kq M F.z02m (ztv M)
def zg6 (M : Env) := kb 2 (z02h M)
def z72 (M : Env) (a0 : V) (a1 : Int) (h : H) : Rf :=
 (boxc a0).bind fun cs0 =>
 let h1 := h.new (.cells cs0 .rw)
 let h2 := h1.new (.map [])
 (h2.ld1 (.ptr h.next 0)).bind fun v3 =>
 (lenSl v3).bind fun n4 =>
 (h2.mkSl 1 8 [(0:Int)] (n4 : Int) (n4 : Int)).bind fun p5 =>
 (lenSl p5.1).bind fun n6 =>
 (M.loop (zra M) (zgt a1 (.ptr h.next 0) (.map h1.next) p5.1 (.int .i64 (n6 : Int)) (0:Int)) p5.2).bind fun p7 => zpr M p7.1 p7.2.1 p7.2.2
def zn8 (M : Env) (x1 : Int) (x2 x5 x6 : V) (x18 x19 : Int) (h : H) : Rl :=
 match decide (x19 < x18) with
 | true => ((za 1 x6 x19).bind fun v0 =>
 (h.st 1 v0 x19).bind fun h1 =>
 some (.normal, (zgt x1 x2 x5 x6 x18 (.int .i64 (wr .i64 (x19 + 1)))), h1))
 | false => (some ((.exit 0), (znb x1 x2 x5 x6), h))
def zql (M : Env) (x1 : Int) (x2 x5 x6 : V) (h : H) : Rf :=
 (M.call 332 [x6, (.fn 333 [x2])] h).bind fun p0 =>
 (lenSl x6).bind fun n1 =>
 (M.loop (zr6 M) (z64 x1 x2 x5 x6 (.int .i64 (n1 : Int)) (0:Int)) p0.2).bind fun p2 => zg6 M p2.1 p2.2.1 p2.2.2
def zgs (M : Env) (x1 : Int) (x2 x5 x30 : V) (x31 x32 : Int) (h : H) : Rl :=
 match decide (x32 < x31) with
 | true => ((za 1 x30 x32).bind fun v0 =>
 (h.ld1 v0).bind fun v1 =>
 (h.ld1 x2).bind fun v2 =>
 (za 14 v2 v1).bind fun v3 =>
 (h.ldN 14 v3).bind fun v4 =>
 let h5 := h.new (.cells [(0:Int), (0:Int), (0:Int), (0:Int), (0:Int), false, (0:Int), (0:Int), (.int .u64 0), (.int .u64 0), (.int .u64 0), (0:Int), (.int .u64 0), false] .rw)
 (h5.st 14 (.ptr h.next 0) v4).bind fun h6 =>
 (h6.ld1 (.ptr h.next 0)).bind fun v7 =>
 (asI .i64 v7).bind fun n8 =>
 match decide (n8 < 0) with
 | true => (some (.ret, (z1n false), h6))
 | false => ((h6.ld1 (.ptr h.next 0)).bind fun v9 =>
 (asI .i64 v9).bind fun n10 =>
 match decide (x1 ≤ n10) with
 | true => (some (.ret, (z1n false), h6))
 | false => ((h6.ld1 (.ptr h.next 2)).bind fun v11 =>
 (h6.ld1 (.ptr h.next 3)).bind fun v12 =>
 (asI .i64 v11).bind fun n13 =>
 (asI .i64 v12).bind fun n14 =>
 match decide (n14 < n13) with
 | true => (some (.ret, (z1n false), h6))
 | false => ((h6.ld1 (.ptr h.next 3)).bind fun v15 =>
 (h6.ld1 (.ptr h.next 4)).bind fun v16 =>
 (asI .i64 v15).bind fun n17 =>
 (asI .i64 v16).bind fun n18 =>
 match decide (n18 < n17) with
 | true => (some (.ret, (z1n false), h6))
 | false => ((h6.ld1 (.ptr h.next 0)).bind fun v19 =>
 (h6.look .int (.agg [(0:Int), (0:Int), (0:Int), (0:Int), (0:Int), false, (0:Int), (0:Int), (.int .u64 0), (.int .u64 0), (.int .u64 0), (0:Int), (.int .u64 0), false]) true x5 v19).bind fun v20 =>
 match v20 with
 | .tup vs21 => ((vs21[0]?).bind fun v22 =>
 match v20 with
 | .tup vs23 => ((vs23[1]?).bind fun v24 =>
 let h25 := h6.new (.cells [(0:Int), (0:Int), (0:Int), (0:Int), (0:Int), false, (0:Int), (0:Int), (.int .u64 0), (.int .u64 0), (.int .u64 0), (0:Int), (.int .u64 0), false] .rw)
 (h25.st 14 (.ptr h6.next 0) v22).bind fun h26 =>
 match v24 with
 | .bool true => (
 (h26.ld1 (.ptr h6.next 1)).bind fun v27 =>
 (h26.ld1 (.ptr h.next 1)).bind fun v28 =>
 (asI .i64 v27).bind fun n29 =>
 (asI .i64 v28).bind fun n30 =>
 match decide (n29 = n30) with
 | true => (some (.ret, (z1n false), h26))
 | false => ((h26.ldN 14 (.ptr h6.next 0)).bind fun v31 =>
 (h26.ldN 14 (.ptr h.next 0)).bind fun v32 =>
 (M.call 183 [v31, v32] h26).bind fun p33 =>
 (asB p33.1).bind fun b34 =>
 match (!b34) with
 | true => (some (.ret, (z1n false), p33.2))
 | false => ((p33.2.ld1 (.ptr h.next 0)).bind fun v35 =>
 (p33.2.ldN 14 (.ptr h.next 0)).bind fun v36 =>
 (p33.2.mapSet .int x5 v35 v36).bind fun h37 =>
 some (.normal, (z64 x1 x2 x5 x30 x31 (.int .i64 (wr .i64 (x32 + 1)))), h37))))
 | .bool false => (
 (h26.ld1 (.ptr h.next 0)).bind fun v27 =>
 (h26.ldN 14 (.ptr h.next 0)).bind fun v28 =>
 (h26.mapSet .int x5 v27 v28).bind fun h29 =>
 some (.normal, (z64 x1 x2 x5 x30 x31 (.int .i64 (wr .i64 (x32 + 1)))), h29))
 | .tup [] => (
 match v24 with
 | .bool true => (
 none)
 | .bool false => (
 (h26.ld1 (.ptr h.next 0)).bind fun v27 =>
 (h26.ldN 14 (.ptr h.next 0)).bind fun v28 =>
 (h26.mapSet .int x5 v27 v28).bind fun h29 =>
 some (.normal, (z64 x1 x2 x5 x30 x31 (.int .i64 (wr .i64 (x32 + 1)))), h29))
 | .tup [] => (
 (asB v24).bind fun b27 =>
 (asB (match b27 with | true => (.tup []) | false => false : V)).bind fun b28 =>
 match b28 with
 | true => (some (.ret, (z1n false), h26))
 | false => ((h26.ld1 (.ptr h.next 0)).bind fun v29 =>
 (h26.ldN 14 (.ptr h.next 0)).bind fun v30 =>
 (h26.mapSet .int x5 v29 v30).bind fun h31 =>
 some (.normal, (z64 x1 x2 x5 x30 x31 (.int .i64 (wr .i64 (x32 + 1)))), h31)))
 | _ => none)
 | _ => none)
 | _ => none)
 | _ => none)))))
 | false => (some ((.exit 2), (z1n .dead), h))
def zy2 (M : Env) (x4 : V) (h : H) : Rf :=
 some (true, h)
def zyq (M : Env) (x4 : Bool) (h : H) : Rf :=
 some (x4, h)
theorem z026 : z04 M F.z72 [a0, (.int .i64 a1)] h = z72 M a0 a1 h := by kernel_rfl
theorem zxn : zra M (zgt (.int .i64 x1) x2 x5 x6 (.int .i64 x18) (.int .i64 x19)) h = zn8 M x1 x2 x5 x6 x18 x19 h := by kernel_rfl
theorem zul : zpr M (.exit 0) (znb (.int .i64 x1) x2 x5 x6) h = zql M x1 x2 x5 x6 h := by kernel_rfl
theorem zxt : zr6 M (z64 (.int .i64 x1) x2 x5 x30 (.int .i64 x31) (.int .i64 x32)) h = zgs M x1 x2 x5 x30 x31 x32 h := by kernel_rfl
theorem zvo : zg6 M (.exit 2) (z1n x4) h = zy2 M x4 h := by kernel_rfl
theorem zvu : zg6 M .ret (z1n (.bool x4)) h = zyq M x4 h := by kernel_rfl
def zb9 (M : Env) (a0 a1 : Int) (f0 : V) (h : H) : Rf :=
 (h.ld1 f0).bind fun v0 =>
 (za 14 v0 a0).bind fun v1 =>
 (zm v1 1).bind fun v2 =>
 (h.ld1 v2).bind fun v3 =>
 (h.ld1 f0).bind fun v4 =>
 (za 14 v4 a1).bind fun v5 =>
 (zm v5 1).bind fun v6 =>
 (h.ld1 v6).bind fun v7 =>
 (M.call 334 [v3, v7] h).bind fun p8 =>
 some (p8.1, p8.2)
theorem zyh : z04 M F.zb9 [(.int .i64 a0), (.int .i64 a1), f0] h = zb9 M a0 a1 f0 h := by kernel_rfl
def z71 (M : Env) (a0 a1 : Int) (h : H) : Rf :=
 (M.call 407 [a0] h).bind fun p0 =>
 (M.call 407 [a1] p0.2).bind fun p1 =>
 (asB p0.1).bind fun b2 =>
 match b2 with
 | true => ((asB p1.1).bind fun b3 =>
 match b3 with
 | true => (some ((0:Int), p1.2))
 | false => (some ((.int .i64 (-1)), p1.2)))
 | false => ((asB p1.1).bind fun b3 =>
 match b3 with
 | true => (some ((1:Int), p1.2))
 | false => (match decide (a0 < a1) with
 | true => (some ((.int .i64 (-1)), p1.2))
 | false => (match decide (a1 < a0) with
 | true => (some ((1:Int), p1.2))
 | false => (some ((0:Int), p1.2)))))
theorem zuz : z04 M F.z71 [(.int .i64 a0), (.int .i64 a1)] h = z71 M a0 a1 h := by kernel_rfl
def z8i (M : Env) (a0 : Int) (h : H) : Rf :=
 some ((.bool (!decide (a0 = a0))), h)
theorem zx9 : z04 M F.z8i [(.int .i64 a0)] h = z8i M a0 h := by kernel_rfl
def zdz (M : Env) := lb M F.zoa [0, 1, 2, 6, 7, 8] [0, 1, 2, 6, 7]
def z62 (x0 x1 x2 x6 x7 x8 : V) : List V := x0 :: x1 :: x2 :: dd 3 (x6 :: x7 :: x8 :: dd 54 [])
def z9a (x0 x1 x2 x6 x7 : V) : List V := x0 :: x1 :: x2 :: dd 3 (x6 :: x7 :: dd 55 [])
def zdr (M : Env) := lb M F.zor [0, 1, 2, 6] []
def z2n (x0 x1 x2 x6 : V) : List V := x0 :: x1 :: x2 :: dd 3 (x6 :: dd 56 [])
def z9m : List V := dd 63 []
def zds (M : Env) := lb M F.zod [0, 1, 2, 6, 7, 8] [0, 1, 2, 6, 7]
def z5z (x0 x1 x2 x6 x7 x8 : V) : List V := x0 :: x1 :: x2 :: dd 3 (x6 :: x7 :: x8 :: dd 54 [])
def z9d (x0 x1 x2 x6 x7 : V) : List V := x0 :: x1 :: x2 :: dd 3 (x6 :: x7 :: dd 55 [])
def zf1 (M : Env) := kf F.z07
def zop (M : Env) := kq M F.zo8 (zf1 M)
def za9 (M : Env) := kb 0 (zop M)
def zab (M : Env) := kb 2 (zf1 M)
def zoe (M : Env) := kl [0, 1, 2, 6] []
def zof (M : Env) := kb 3 (zoe M)
def zoj (M : Env) := kq M F.zoy (zof M)
def zac (M : Env) := kb 4 (zoj M)
def z07 (M : Env) (a0 : V) (a1 : Int) (a2 : V) (h : H) : Rf :=
 (M.loop (zdz M) (z62 a0 a1 a2 (20:Int) (0:Int) (20:Int)) h).bind fun p0 => za9 M p0.1 p0.2.1 p0.2.2
def z9w (M : Env) (x0 : V) (x1 : Int) (x2 : V) (x6 x7 x8 : Int) (h : H) : Rl :=
 match decide (x8 ≤ x1) with
 | true => ((M.call 450 [x0, x7, x8, x2] h).bind fun p0 =>
 some (.normal, (z62 x0 x1 x2 x6 x8 (.int .i64 (wr .i64 (x8 + x6)))), p0.2))
 | false => (some ((.exit 0), (z9a x0 x1 x2 x6 x7), h))
def zde (M : Env) (x0 : V) (x1 : Int) (x2 : V) (x6 x7 : Int) (h : H) : Rf :=
 (M.call 450 [x0, x7, x1, x2] h).bind fun p0 =>
 (M.loop (zdr M) (z2n x0 x1 x2 x6) p0.2).bind fun p1 => zab M p1.1 p1.2.1 p1.2.2
def z66 (M : Env) (x0 : V) (x1 : Int) (x2 : V) (x6 : Int) (h : H) : Rl :=
 match decide (x6 < x1) with
 | true => ((M.loop (zds M) (z5z x0 x1 x2 x6 (0:Int) (.int .i64 (wr .i64 (2 * x6)))) h).bind fun p0 => zac M p0.1 p0.2.1 p0.2.2)
 | false => (some ((.exit 2), z9m, h))
def zl3 (M : Env) (h : H) : Rf :=
 some ((.tup []), h)
def z9g (M : Env) (x0 : V) (x1 : Int) (x2 : V) (x6 x7 x8 : Int) (h : H) : Rl :=
 match decide (x8 ≤ x1) with
 | true => ((M.call 460 [x0, x7, (.int .i64 (wr .i64 (x7 + x6))), x8, x2] h).bind fun p0 =>
 some (.normal, (z5z x0 x1 x2 x6 x8 (.int .i64 (wr .i64 (x8 + (wr .i64 (2 * x6)))))), p0.2))
 | false => (some ((.exit 4), (z9d x0 x1 x2 x6 x7), h))
def z8o (M : Env) (x0 : V) (x1 : Int) (x2 : V) (x6 x7 : Int) (h : H) : Rl :=
 match (decide ((wr .i64 (x7 + x6)) < x1)) with
 | true => ((M.call 460 [x0, x7, (.int .i64 (wr .i64 (x7 + x6))), x1, x2] h).bind fun p0 =>
 some (.normal, (z2n x0 x1 x2 (.int .i64 (wr .i64 (x6 * 2)))), p0.2))
 | false => (some (.normal, (z2n x0 x1 x2 (.int .i64 (wr .i64 (x6 * 2)))), h))
theorem zo9 : z04 M F.z07 [a0, (.int .i64 a1), a2] h = z07 M a0 a1 a2 h := by kernel_rfl
theorem zlv : zdz M (z62 x0 (.int .i64 x1) x2 (.int .i64 x6) (.int .i64 x7) (.int .i64 x8)) h = z9w M x0 x1 x2 x6 x7 x8 h := by kernel_rfl
theorem zj2 : za9 M (.exit 0) (z9a x0 (.int .i64 x1) x2 (.int .i64 x6) (.int .i64 x7)) h = zde M x0 x1 x2 x6 x7 h := by kernel_rfl
theorem zl5 : zdr M (z2n x0 (.int .i64 x1) x2 (.int .i64 x6)) h = z66 M x0 x1 x2 x6 h := by kernel_rfl
theorem ziv : zab M (.exit 2) z9m h = zl3 M h := by kernel_rfl
theorem zlo : zds M (z5z x0 (.int .i64 x1) x2 (.int .i64 x6) (.int .i64 x7) (.int .i64 x8)) h = z9g M x0 x1 x2 x6 x7 x8 h := by kernel_rfl
theorem zj3 : zac M (.exit 4) (z9d x0 (.int .i64 x1) x2 (.int .i64 x6) (.int .i64 x7)) h = z8o M x0 x1 x2 x6 x7 h := by kernel_rfl
def z0w (M : Env) (a0 a1 : V) (h : H) : Rf :=
 (lenSl a0).bind fun n0 =>
 (M.call 408 [a0, (.int .i64 (n0 : Int)), a1] h).bind fun p1 =>
 some ((.tup []), p1.2)
theorem zi9 : z04 M F.z0w [a0, a1] h = z0w M a0 a1 h := by kernel_rfl
def zb7 (M : Env) (a0 a1 : Int) (f0 : V) (h : H) : Rf :=
 (h.ld1 f0).bind fun v0 =>
 (za 14 v0 a0).bind fun v1 =>
 (h.ldN 14 v1).bind fun v2 =>
 (h.ld1 f0).bind fun v3 =>
 (za 14 v3 a1).bind fun v4 =>
 (h.ldN 14 v4).bind fun v5 =>
 let h6 := h.new (.cells [(0:Int), (0:Int), (0:Int), (0:Int), (0:Int), false, (0:Int), (0:Int), (.int .u64 0), (.int .u64 0), (.int .u64 0), (0:Int), (.int .u64 0), false] .rw)
 let h7 := h6.new (.cells [(0:Int), (0:Int), (0:Int), (0:Int), (0:Int), false, (0:Int), (0:Int), (.int .u64 0), (.int .u64 0), (.int .u64 0), (0:Int), (.int .u64 0), false] .rw)
 (h7.st 14 (.ptr h.next 0) v2).bind fun h8 =>
 match ckB (h8.ldN 14 v4) v5 with
 | true => (match ckB (h8.ld1 f0) v3 with
 | true => ((h8.st 14 (.ptr h6.next 0) v5).bind fun h9 =>
 (h9.ld1 (.ptr h.next 3)).bind fun v10 =>
 (h9.ld1 (.ptr h6.next 3)).bind fun v11 =>
 (h9.ldN 14 (.ptr h.next 0)).bind fun v12 =>
 (h9.ldN 14 (.ptr h6.next 0)).bind fun v13 =>
 (h9.ld1 (.ptr h.next 0)).bind fun v14 =>
 (h9.ld1 (.ptr h6.next 0)).bind fun v15 =>
 (h9.ld1 (.ptr h.next 1)).bind fun v16 =>
 (h9.ld1 (.ptr h6.next 1)).bind fun v17 =>
 (M.call 334 [v10, v11] h9).bind fun p18 =>
 match ckB (p18.2.ld1 (.ptr h6.next 1)) v17 with
 | true => (match ckB (p18.2.ld1 (.ptr h.next 1)) v16 with
 | true => (match ckB (p18.2.ld1 (.ptr h6.next 0)) v15 with
 | true => (match ckB (p18.2.ld1 (.ptr h.next 0)) v14 with
 | true => (match ckB (p18.2.ldN 14 (.ptr h6.next 0)) v13 with
 | true => (match ckB (p18.2.ldN 14 (.ptr h.next 0)) v12 with
 | true => ((M.call 338 [v12] p18.2).bind fun p19 =>
 match ckB (p19.2.ld1 (.ptr h6.next 1)) v17 with
 | true => (match ckB (p19.2.ld1 (.ptr h.next 1)) v16 with
 | true => (match ckB (p19.2.ld1 (.ptr h6.next 0)) v15 with
 | true => (match ckB (p19.2.ld1 (.ptr h.next 0)) v14 with
 | true => (match ckB (p19.2.ldN 14 (.ptr h6.next 0)) v13 with
 | true => ((M.call 338 [v13] p19.2).bind fun p20 =>
 match ckB (p20.2.ld1 (.ptr h6.next 1)) v17 with
 | true => (match ckB (p20.2.ld1 (.ptr h.next 1)) v16 with
 | true => (match ckB (p20.2.ld1 (.ptr h6.next 0)) v15 with
 | true => (match ckB (p20.2.ld1 (.ptr h.next 0)) v14 with
 | true => ((M.call 334 [p19.1, p20.1] p20.2).bind fun p21 =>
 match ckB (p21.2.ld1 (.ptr h6.next 1)) v17 with
 | true => (match ckB (p21.2.ld1 (.ptr h.next 1)) v16 with
 | true => (match ckB (p21.2.ld1 (.ptr h6.next 0)) v15 with
 | true => (match ckB (p21.2.ld1 (.ptr h.next 0)) v14 with
 | true => ((M.call 334 [v14, v15] p21.2).bind fun p22 =>
 match ckB (p22.2.ld1 (.ptr h6.next 1)) v17 with
 | true => (match ckB (p22.2.ld1 (.ptr h.next 1)) v16 with
 | true => ((M.call 334 [v16, v17] p22.2).bind fun p23 =>
 (fill (repl [(0:Int)] 4) [] [(0, 1, .c p18.1), (1, 1, .c p21.1), (2, 1, .c p22.1), (3, 1, .c p23.1)]).bind fun cs24 =>
 let h25 := p23.2.new (.cells cs24 .rw)
 (M.call 337 [(.sl p23.2.next 0 4 (.ex 4))] h25).bind fun p26 =>
 some (p26.1, p26.2))
 | false => none)
 | false => none)
 | false => none)
 | false => none)
 | false => none)
 | false => none)
 | false => none)
 | false => none)
 | false => none)
 | false => none)
 | false => none)
 | false => none)
 | false => none)
 | false => none)
 | false => none)
 | false => none)
 | false => none)
 | false => none)
 | false => none)
 | false => none)
 | false => none)
 | false => none)
 | false => none
theorem zz5 : z04 M F.zb7 [(.int .i64 a0), (.int .i64 a1), f0] h = zb7 M a0 a1 f0 h := by kernel_rfl
def zqr (M : Env) := lb M F.z00m [3, 6, 7, 8] [2, 3]
def zft (x3 x6 x7 x8 : V) : List V := dd 3 (x3 :: dd 2 (x6 :: x7 :: x8 :: dd 9 []))
def zad (x2 x3 : V) : List V := dd 2 (x2 :: x3 :: dd 14 [])
def z00d (M : Env) := kf F.z7l
def zzz (M : Env) := kq M F.z00c (z00d M)
def zeq (M : Env) := kb 0 (zzz M)
def z7l (M : Env) (a0 : V) (h : H) : Rf :=
 (lenSl a0).bind fun n0 =>
 (M.loop (zqr M) (zft (0:Int) a0 (.int .i64 (n0 : Int)) (0:Int)) h).bind fun p1 => zeq M p1.1 p1.2.1 p1.2.2
def zfr (M : Env) (x3 : Int) (x6 : V) (x7 x8 : Int) (h : H) : Rl :=
 match decide (x8 < x7) with
 | true => ((za 1 x6 x8).bind fun v0 =>
 (h.ld1 v0).bind fun v1 =>
 (asI .i64 v1).bind fun n2 =>
 match (!decide (n2 = x3)) with
 | true => (some (.ret, (zad v1 x3), h))
 | false => (some (.normal, (zft x3 x6 x7 (.int .i64 (wr .i64 (x8 + 1)))), h)))
 | false => (some ((.exit 0), (zad .dead x3), h))
def zxb (M : Env) (x2 : V) (x3 : Int) (h : H) : Rf :=
 some (x3, h)
def zxs (M : Env) (x2 : Int) (x3 : V) (h : H) : Rf :=
 some (x2, h)
theorem z00h : z04 M F.z7l [a0] h = z7l M a0 h := by kernel_rfl
theorem zxa : zqr M (zft (.int .i64 x3) x6 (.int .i64 x7) (.int .i64 x8)) h = zfr M x3 x6 x7 x8 h := by kernel_rfl
theorem zth : zeq M (.exit 0) (zad x2 (.int .i64 x3)) h = zxb M x2 x3 h := by kernel_rfl
theorem zud : zeq M .ret (zad (.int .i64 x2) x3) h = zxs M x2 x3 h := by kernel_rfl
def zay (M : Env) (a0_0 a0_1 a0_2 a0_3 a0_4 : Int) (a0_5 : Bool) (a0_6 a0_7 a0_8 a0_9 a0_10 a0_11 a0_12 : Int) (a0_13 : Bool) (h : H) : Rf :=
 let h0 := h.new (.cells [a0_0, a0_1, a0_2, a0_3, a0_4, a0_5, a0_6, a0_7, (.int .u64 a0_8), (.int .u64 a0_9), (.int .u64 a0_10), a0_11, (.int .u64 a0_12), a0_13] .rw)
 (h0.ld1 (.ptr h.next 5)).bind fun v1 =>
 (asB v1).bind fun b2 =>
 match b2 with
 | true => (some ((1:Int), h0))
 | false => (some ((0:Int), h0))
theorem z001 : z04 M F.zay [(.agg [(.int .i64 a0_0), (.int .i64 a0_1), (.int .i64 a0_2), (.int .i64 a0_3), (.int .i64 a0_4), (.bool a0_5), (.int .i64 a0_6), (.int .i64 a0_7), (.int .u64 a0_8), (.int .u64 a0_9), (.int .u64 a0_10), (.int .i64 a0_11), (.int .u64 a0_12), (.bool a0_13)])] h = zay M a0_0 a0_1 a0_2 a0_3 a0_4 a0_5 a0_6 a0_7 a0_8 a0_9 a0_10 a0_11 a0_12 a0_13 h := by kernel_rfl
def zrb (M : Env) := lb M F.z02b [1, 3, 9, 10] [1, 3]
def zgq (x1 x3 x9 x10 : V) : List V := dd 1 (x1 :: dd 1 (x3 :: dd 5 (x9 :: x10 :: dd 11 [])))
def zmz (x1 x3 : V) : List V := dd 1 (x1 :: dd 1 (x3 :: dd 18 []))
def z020 (M : Env) := kf F.z97
def z029 (M : Env) := kq M F.z02i (z020 M)
def zpo (M : Env) := kb 0 (z029 M)
def z97 (M : Env) (a0 : V) (h : H) : Rf :=
 (boxc a0).bind fun cs0 =>
 let h1 := h.new (.cells cs0 .rw)
 (h1.ld1 (.ptr h.next 0)).bind fun v2 =>
 (lenSl v2).bind fun n3 =>
 (h1.mkSl 1 8 [(0:Int)] (n3 : Int) (n3 : Int)).bind fun p4 =>
 (lenSl p4.1).bind fun n5 =>
 (M.loop (zrb M) (zgq (.ptr h.next 0) p4.1 (.int .i64 (n5 : Int)) (0:Int)) p4.2).bind fun p6 => zpo M p6.1 p6.2.1 p6.2.2
def zmx (M : Env) (x1 x3 : V) (x9 x10 : Int) (h : H) : Rl :=
 match decide (x10 < x9) with
 | true => ((za 1 x3 x10).bind fun v0 =>
 (h.st 1 v0 x10).bind fun h1 =>
 some (.normal, (zgq x1 x3 x9 (.int .i64 (wr .i64 (x10 + 1)))), h1))
 | false => (some ((.exit 0), (zmz x1 x3), h))
def zqi (M : Env) (x1 x3 : V) (h : H) : Rf :=
 (M.call 335 [x3, (.fn 336 [x1])] h).bind fun p0 =>
 some (x3, p0.2)
theorem z02n : z04 M F.z97 [a0] h = z97 M a0 h := by kernel_rfl
theorem zxq : zrb M (zgq x1 x3 (.int .i64 x9) (.int .i64 x10)) h = zmx M x1 x3 x9 x10 h := by kernel_rfl
theorem zu2 : zpo M (.exit 0) (zmz x1 x3) h = zqi M x1 x3 h := by kernel_rfl
def ze4 (M : Env) (a0_0 a0_1 a0_2 a0_3 a0_4 a0_5 : Int) (a1 : V) (h : H) : Rf :=
 let h0 := h.new (.cells [a0_0, a0_1, a0_2, a0_3, a0_4, a0_5] .rw)
 (h0.ldN 6 (.ptr h.next 0)).bind fun v1 =>
 (M.call 263 [v1] h0).bind fun p2 =>
 match p2.1 with
 | .bool true => (
 (p2.2.ld1 (.ptr h.next 2)).bind fun v3 =>
 (M.call 178 [a1, v3] p2.2).bind fun p4 =>
 match p4.1 with
 | .bool true => (
 (p4.2.ldN 6 (.ptr h.next 0)).bind fun v5 =>
 (lenSl a1).bind fun n6 =>
 (M.call 181 [a1] p4.2).bind fun p7 =>
 match ckB (p7.2.ldN 6 (.ptr h.next 0)) v5 with
 | true => ((M.call 205 [v5, a1, p7.1] p7.2).bind fun p8 =>
 (asI .i64 p8.1).bind fun n9 =>
 some ((.bool (decide (n9 = (n6 : Int)))), p8.2))
 | false => none)
 | .bool false => (
 some (false, p4.2))
 | .tup [] => (
 (asB p4.1).bind fun b5 =>
 some ((match b5 with | true => (.tup []) | false => false : V), p4.2))
 | _ => none)
 | .bool false => (
 some (false, p2.2))
 | .tup [] => (
 (asB p2.1).bind fun b3 =>
 match (match b3 with | true => (.tup []) | false => false : V) with
 | .bool true => (
 (p2.2.ldN 6 (.ptr h.next 0)).bind fun v4 =>
 (lenSl a1).bind fun n5 =>
 (M.call 181 [a1] p2.2).bind fun p6 =>
 match ckB (p6.2.ldN 6 (.ptr h.next 0)) v4 with
 | true => ((M.call 205 [v4, a1, p6.1] p6.2).bind fun p7 =>
 (asI .i64 p7.1).bind fun n8 =>
 some ((.bool (decide (n8 = (n5 : Int)))), p7.2))
 | false => none)
 | .bool false => (
 some (false, p2.2))
 | .tup [] => (
 (asB (match b3 with | true => (.tup []) | false => false : V)).bind fun b4 =>
 some ((match b4 with | true => (.tup []) | false => false : V), p2.2))
 | _ => none)
 | _ => none
theorem z02f : z04 M F.ze4 [(.agg [(.int .i64 a0_0), (.int .i64 a0_1), (.int .i64 a0_2), (.int .i64 a0_3), (.int .i64 a0_4), (.int .i64 a0_5)]), a1] h = ze4 M a0_0 a0_1 a0_2 a0_3 a0_4 a0_5 a1 h := by kernel_rfl
def zvw (M : Env) := lb M F.z07g [0, 1, 2, 12, 13, 14] [6]
def zd5 (x0 x1 x2 x12 x13 x14 : V) : List V := x0 :: x1 :: x2 :: dd 9 (x12 :: x13 :: x14 :: dd 22 [])
def zb1 (x6 : V) : List V := dd 6 (x6 :: dd 30 [])
def z07f (M : Env) := kf F.zdm
def z07y (M : Env) := kq M F.z06o (z07f M)
def zn3 (M : Env) := kb 0 (z07y M)
def zdm (M : Env) (a0 a1 : V) (a2 : Int) (h : H) : Rf :=
 (M.call 331 [a1, a2] h).bind fun p0 =>
 (asB p0.1).bind fun b1 =>
 match b1 with
 | true => (some (false, p0.2))
 | false => ((lenSl a0).bind fun n2 =>
 (M.loop (zvw M) (zd5 a0 a1 a2 a0 (.int .i64 (n2 : Int)) (0:Int)) p0.2).bind fun p3 => zn3 M p3.1 p3.2.1 p3.2.2)
def zcx (M : Env) (x0 x1 : V) (x2 : Int) (x12 : V) (x13 x14 : Int) (h : H) : Rl :=
 match decide (x14 < x13) with
 | true => ((za 14 x12 x14).bind fun v0 =>
 (h.ldN 14 v0).bind fun v1 =>
 let h2 := h.new (.cells [(0:Int), (0:Int), (0:Int), (0:Int), (0:Int), false, (0:Int), (0:Int), (.int .u64 0), (.int .u64 0), (.int .u64 0), (0:Int), (.int .u64 0), false] .rw)
 (h2.st 14 (.ptr h.next 0) v1).bind fun h3 =>
 match (!decide (x14 = x2)) with
 | true => ((M.call 331 [x1, x14] h3).bind fun p4 =>
 (asB p4.1).bind fun b5 =>
 match (!b5) with
 | true => ((p4.2.ldN 14 (.ptr h.next 0)).bind fun v6 =>
 (za 14 x0 x2).bind fun v7 =>
 (p4.2.ldN 14 v7).bind fun v8 =>
 (M.call 183 [v6, v8] p4.2).bind fun p9 =>
 (asB p9.1).bind fun b10 =>
 match b10 with
 | true => (some (.ret, (zb1 false), p9.2))
 | false => (some (.normal, (zd5 x0 x1 x2 x12 x13 (.int .i64 (wr .i64 (x14 + 1)))), p9.2)))
 | false => (some (.normal, (zd5 x0 x1 x2 x12 x13 (.int .i64 (wr .i64 (x14 + 1)))), p4.2)))
 | false => (some (.normal, (zd5 x0 x1 x2 x12 x13 (.int .i64 (wr .i64 (x14 + 1)))), h3)))
 | false => (some ((.exit 0), (zb1 .dead), h))
def z02e (M : Env) (x6 : V) (h : H) : Rf :=
 some (true, h)
def z04g (M : Env) (x6 : Bool) (h : H) : Rf :=
 some (x6, h)
theorem z07j : z04 M F.zdm [a0, a1, (.int .i64 a2)] h = zdm M a0 a1 a2 h := by kernel_rfl
theorem z028 : zvw M (zd5 x0 x1 (.int .i64 x2) x12 (.int .i64 x13) (.int .i64 x14)) h = zcx M x0 x1 x2 x12 x13 x14 h := by kernel_rfl
theorem zy7 : zn3 M (.exit 0) (zb1 x6) h = z02e M x6 h := by kernel_rfl
theorem zzf : zn3 M .ret (zb1 (.bool x6)) h = z04g M x6 h := by kernel_rfl
def zbt (M : Env) := sc M F.z02d F.z024 [1, 7, 8, 9] [4, 5, 6]
def z0g (x1 x7 x8 x9 : V) : List V := dd 1 (x1 :: dd 5 (x7 :: x8 :: x9 :: dd 80 []))
def z2o (x4 x5 x6 : V) : List V := dd 4 (x4 :: x5 :: x6 :: dd 83 [])
def zk7 (M : Env) := kf F.z9e
def z9e (M : Env) (a0_0 a0_1 a0_2 a0_3 a0_4 a0_5 : Int) (a1 : V) (h : H) : Rf :=
 let h0 := h.new (.cells [a0_0, a0_1, a0_2, a0_3, a0_4, a0_5] .rw)
 (M.scope (zbt M) 0 ((.agg [a0_0, a0_1, a0_2, a0_3, a0_4, a0_5]) :: a1 :: (.ptr h.next 0) :: uu 1 (.nilsl :: false :: (0:Int) :: uu 83 [])) h0).bind fun p1 => zk7 M p1.1 p1.2.1 p1.2.2
def zr8 (M : Env) (x0 x1 x2 x4 : V) (x5 : Bool) (x6 : Int) (h : H) : Rl :=
 (h.ldN 6 x2).bind fun v0 =>
 (M.call 263 [v0] h).bind fun p1 =>
 (asB p1.1).bind fun b2 =>
 match (!b2) with
 | true => (some (.ret, (z2o .nilsl false (1:Int)), p1.2))
 | false => ((lenSl x1).bind fun n3 =>
 match decide (7 < (n3 : Int)) with
 | true => (some (.ret, (z2o .nilsl false (10:Int)), p1.2))
 | false => ((lenSl x1).bind fun n4 =>
 (p1.2.mkSl 1 8 [(0:Int)] 0 (n4 : Int)).bind fun p5 =>
 (p5.2.ldN 6 x2).bind fun v6 =>
 (M.call 96 [v6] p5.2).bind fun p7 =>
 (fill (repl [.nilp] 1) [] [(0, 1, .c p7.1)]).bind fun cs8 =>
 let h9 := p7.2.new (.cells cs8 .rw)
 (lenSl p5.1).bind fun n10 =>
 (lenSl x1).bind fun n11 =>
 match decide ((n10 : Int) = (n11 : Int)) with
 | true => (some (.ret, (z2o p5.1 true (0:Int)), h9))
 | false => ((lenSl x1).bind fun n12 =>
 match decide (0 = (n12 : Int)) with
 | true => (some (.goto 1, (z0g x1 p5.1 (.sl p7.2.next 0 1 (.ex 1)) (0:Int)), h9))
 | false => ((M.call 349 [x1, p5.1, (0:Int)] h9).bind fun p13 =>
 (asB p13.1).bind fun b14 =>
 match b14 with
 | true => ((lenSl p5.1).bind fun n15 =>
 (za 1 (.sl p7.2.next 0 1 (.ex 1)) (.int .i64 (n15 : Int))).bind fun v16 =>
 (p13.2.ld1 v16).bind fun v17 =>
 (M.call 115 [v17] p13.2).bind fun p18 =>
 (za 14 x1 (0:Int)).bind fun v19 =>
 (zm v19 0).bind fun v20 =>
 (p18.2.ld1 v20).bind fun v21 =>
 (za 14 x1 (0:Int)).bind fun v22 =>
 (zm v22 6).bind fun v23 =>
 (p18.2.ldN 5 v23).bind fun v24 =>
 (za 14 x1 (0:Int)).bind fun v25 =>
 (zm v25 11).bind fun v26 =>
 (p18.2.ldN 3 v26).bind fun v27 =>
 (M.call 103 [p18.1, v21, v24, v27] p18.2).bind fun p28 =>
 (asB p28.1).bind fun b29 =>
 match b29 with
 | true => (let h30 := p28.2.new (.cells [(0:Int)] .rw)
 (h30.append 1 8 p5.1 (.sl p28.2.next 0 1 (.ex 1))).bind fun p31 =>
 (lenSl p31.1).bind fun n32 =>
 (lenSl p31.1).bind fun n33 =>
 (z63 1 (.sl p7.2.next 0 1 (.ex 1)) none (some (.int .i64 (n32 : Int))) (some (.int .i64 (n33 : Int)))).bind fun v34 =>
 (fill (repl [.nilp] 1) [] [(0, 1, .c p18.1)]).bind fun cs35 =>
 let h36 := p31.2.new (.cells cs35 .rw)
 (h36.append 1 8 v34 (.sl p31.2.next 0 1 (.ex 1))).bind fun p37 =>
 some (.goto 0, (z0g x1 p31.1 p37.1 (0:Int)), p37.2))
 | false => (some (.goto 2, (z0g x1 p5.1 (.sl p7.2.next 0 1 (.ex 1)) (.int .i64 (wr .i64 (0 + 1)))), p28.2)))
 | false => (some (.goto 2, (z0g x1 p5.1 (.sl p7.2.next 0 1 (.ex 1)) (.int .i64 (wr .i64 (0 + 1)))), p13.2))))))
def zr0 (M : Env) (x1 x7 x8 : V) (x9 : Int) (h : H) : Rl :=
 (lenSl x7).bind fun n0 =>
 (lenSl x1).bind fun n1 =>
 match decide ((n0 : Int) = (n1 : Int)) with
 | true => (some (.ret, (z2o x7 true (0:Int)), h))
 | false => ((lenSl x1).bind fun n2 =>
 match decide (x9 = (n2 : Int)) with
 | true => (some (.goto 1, (z0g x1 x7 x8 x9), h))
 | false => ((M.call 349 [x1, x7, x9] h).bind fun p3 =>
 (asB p3.1).bind fun b4 =>
 match b4 with
 | true => ((lenSl x7).bind fun n5 =>
 (za 1 x8 (.int .i64 (n5 : Int))).bind fun v6 =>
 (p3.2.ld1 v6).bind fun v7 =>
 (M.call 115 [v7] p3.2).bind fun p8 =>
 (za 14 x1 x9).bind fun v9 =>
 (zm v9 0).bind fun v10 =>
 (p8.2.ld1 v10).bind fun v11 =>
 (za 14 x1 x9).bind fun v12 =>
 (zm v12 6).bind fun v13 =>
 (p8.2.ldN 5 v13).bind fun v14 =>
 (za 14 x1 x9).bind fun v15 =>
 (zm v15 11).bind fun v16 =>
 (p8.2.ldN 3 v16).bind fun v17 =>
 (M.call 103 [p8.1, v11, v14, v17] p8.2).bind fun p18 =>
 (asB p18.1).bind fun b19 =>
 match b19 with
 | true => (let h20 := p18.2.new (.cells [x9] .rw)
 (h20.append 1 8 x7 (.sl p18.2.next 0 1 (.ex 1))).bind fun p21 =>
 (lenSl p21.1).bind fun n22 =>
 (lenSl p21.1).bind fun n23 =>
 (z63 1 x8 none (some (.int .i64 (n22 : Int))) (some (.int .i64 (n23 : Int)))).bind fun v24 =>
 (fill (repl [.nilp] 1) [] [(0, 1, .c p8.1)]).bind fun cs25 =>
 let h26 := p21.2.new (.cells cs25 .rw)
 (h26.append 1 8 v24 (.sl p21.2.next 0 1 (.ex 1))).bind fun p27 =>
 some (.goto 0, (z0g x1 p21.1 p27.1 (0:Int)), p27.2))
 | false => (some (.goto 2, (z0g x1 x7 x8 (.int .i64 (wr .i64 (x9 + 1)))), p18.2)))
 | false => (some (.goto 2, (z0g x1 x7 x8 (.int .i64 (wr .i64 (x9 + 1)))), p3.2))))
def z5m (M : Env) (x1 x7 x8 : V) (x9 : Int) (h : H) : Rl :=
 (lenSl x1).bind fun n0 =>
 match decide (x9 = (n0 : Int)) with
 | true => (some (.goto 1, (z0g x1 x7 x8 x9), h))
 | false => ((M.call 349 [x1, x7, x9] h).bind fun p1 =>
 (asB p1.1).bind fun b2 =>
 match b2 with
 | true => ((lenSl x7).bind fun n3 =>
 (za 1 x8 (.int .i64 (n3 : Int))).bind fun v4 =>
 (p1.2.ld1 v4).bind fun v5 =>
 (M.call 115 [v5] p1.2).bind fun p6 =>
 (za 14 x1 x9).bind fun v7 =>
 (zm v7 0).bind fun v8 =>
 (p6.2.ld1 v8).bind fun v9 =>
 (za 14 x1 x9).bind fun v10 =>
 (zm v10 6).bind fun v11 =>
 (p6.2.ldN 5 v11).bind fun v12 =>
 (za 14 x1 x9).bind fun v13 =>
 (zm v13 11).bind fun v14 =>
 (p6.2.ldN 3 v14).bind fun v15 =>
 (M.call 103 [p6.1, v9, v12, v15] p6.2).bind fun p16 =>
 (asB p16.1).bind fun b17 =>
 match b17 with
 | true => (let h18 := p16.2.new (.cells [x9] .rw)
 (h18.append 1 8 x7 (.sl p16.2.next 0 1 (.ex 1))).bind fun p19 =>
 (lenSl p19.1).bind fun n20 =>
 (lenSl p19.1).bind fun n21 =>
 (z63 1 x8 none (some (.int .i64 (n20 : Int))) (some (.int .i64 (n21 : Int)))).bind fun v22 =>
 (fill (repl [.nilp] 1) [] [(0, 1, .c p6.1)]).bind fun cs23 =>
 let h24 := p19.2.new (.cells cs23 .rw)
 (h24.append 1 8 v22 (.sl p19.2.next 0 1 (.ex 1))).bind fun p25 =>
 some (.goto 0, (z0g x1 p19.1 p25.1 (0:Int)), p25.2))
 | false => (some (.goto 2, (z0g x1 x7 x8 (.int .i64 (wr .i64 (x9 + 1)))), p16.2)))
 | false => (some (.goto 2, (z0g x1 x7 x8 (.int .i64 (wr .i64 (x9 + 1)))), p1.2)))
def zkf (M : Env) (x1 x7 x8 : V) (x9 : Int) (h : H) : Rl :=
 (lenSl x7).bind fun n0 =>
 match decide ((n0 : Int) = 0) with
 | true => (some (.ret, (z2o .nilsl false (0:Int)), h))
 | false => ((lenSl x7).bind fun n1 =>
 (za 1 x7 (.int .i64 (wr .i64 ((n1 : Int) - 1)))).bind fun v2 =>
 (h.ld1 v2).bind fun v3 =>
 (asI .i64 v3).bind fun n4 =>
 (lenSl x7).bind fun n5 =>
 (z63 1 x7 none (some (.int .i64 (wr .i64 ((n5 : Int) - 1)))) none).bind fun v6 =>
 some (.goto 2, (z0g x1 v6 x8 (.int .i64 (wr .i64 (n4 + 1)))), h))
def zzu (M : Env) (x4 : V) (x5 : Bool) (x6 : Int) (h : H) : Rf :=
 some ((.tup [x4, x5, x6]), h)
theorem z023 : z04 M F.z9e [(.agg [(.int .i64 a0_0), (.int .i64 a0_1), (.int .i64 a0_2), (.int .i64 a0_3), (.int .i64 a0_4), (.int .i64 a0_5)]), a1] h = z9e M a0_0 a0_1 a0_2 a0_3 a0_4 a0_5 a1 h := by kernel_rfl
theorem zya : zbt M 0 (x0 :: x1 :: x2 :: uu 1 (x4 :: (.bool x5) :: (.int .i64 x6) :: uu 83 [])) h = zr8 M x0 x1 x2 x4 x5 x6 h := by kernel_rfl
theorem zub : zbt M 1 (z0g x1 x7 x8 (.int .i64 x9)) h = zr0 M x1 x7 x8 x9 h := by kernel_rfl
theorem zvq : zbt M 3 (z0g x1 x7 x8 (.int .i64 x9)) h = z5m M x1 x7 x8 x9 h := by kernel_rfl
theorem zu8 : zbt M 2 (z0g x1 x7 x8 (.int .i64 x9)) h = zkf M x1 x7 x8 x9 h := by kernel_rfl
theorem zp9 : zk7 M .ret (z2o x4 (.bool x5) (.int .i64 x6)) h = zzu M x4 x5 x6 h := by kernel_rfl
def z59 (M : Env) (a0_0 a0_1 a0_2 a0_3 a0_4 a0_5 : Int) (a1 : V) (a2 a3 : Int) (h : H) : Rf :=
 let h0 := h.new (.cells [a0_0, a0_1, a0_2, a0_3, a0_4, a0_5] .rw)
 (lenSl a1).bind fun n1 =>
 match decide ((n1 : Int) = 0) with
 | true => ((M.call 204 [] h0).bind fun p2 =>
 some (p2.1, p2.2))
 | false => ((lenSl a1).bind fun n2 =>
 match decide (7 < (n2 : Int)) with
 | true => ((M.call 204 [] h0).bind fun p3 =>
 some (p3.1, p3.2))
 | false => ((h0.ldN 6 (.ptr h.next 0)).bind fun v3 =>
 (M.call 85 [v3] h0).bind fun p4 =>
 (asB p4.1).bind fun b5 =>
 match (!b5) with
 | true => ((M.call 204 [] p4.2).bind fun p6 =>
 some (p6.1, p6.2))
 | false => ((lenSl a1).bind fun n6 =>
 (arith .rem .u64 (wr .u64 a2) (wr .u64 (n6 : Int))).bind fun n7 =>
 let h8 := p4.2.new (.cells [] .rw)
 (h8.append 14 112 (.sl p4.2.next 0 0 (.ex 0)) a1).bind fun p9 =>
 (za 14 p9.1 (.int .i64 (wr .i64 n7))).bind fun v10 =>
 (zm v10 11).bind fun v11 =>
 (zm v11 0).bind fun v12 =>
 (p9.2.st 1 v12 (.int .i64 (wr .i64 (20 + (wr .i64 a3))))).bind fun h13 =>
 (h13.ldN 6 (.ptr h.next 0)).bind fun v14 =>
 (M.call 208 [v14, p9.1] h13).bind fun p15 =>
 match p15.1 with
 | .tup vs16 => ((vs16[0]?).bind fun v17 =>
 match p15.1 with
 | .tup vs18 => ((vs18[1]?).bind fun v19 =>
 match p15.1 with
 | .tup vs20 => ((vs20[2]?).bind fun v21 =>
 (asB v19).bind fun b22 =>
 match (!b22) with
 | true => ((asI .i64 v21).bind fun n23 =>
 match decide (n23 = 0) with
 | true => ((p15.2.ldN 6 (.ptr h.next 0)).bind fun v24 =>
 (M.call 206 [v24, p9.1] p15.2).bind fun p25 =>
 (asB p25.1).bind fun b26 =>
 match (!b26) with
 | true => ((M.call 204 [] p25.2).bind fun p27 =>
 some (p27.1, p27.2))
 | false => (some (false, p25.2)))
 | false => (some (false, p15.2)))
 | false => (some (false, p15.2)))
 | _ => none)
 | _ => none)
 | _ => none)))
theorem zss : z04 M F.z59 [(.agg [(.int .i64 a0_0), (.int .i64 a0_1), (.int .i64 a0_2), (.int .i64 a0_3), (.int .i64 a0_4), (.int .i64 a0_5)]), a1, (.int .i64 a2), (.int .u8 a3)] h = z59 M a0_0 a0_1 a0_2 a0_3 a0_4 a0_5 a1 a2 a3 h := by kernel_rfl
end Wm.S
end
