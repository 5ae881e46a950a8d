/- PRINTED by my tool: what functions come to, stretch by stretch. -/
import Derived.KernelRfl
import Derived.Test.YthkimcdeejjmbaaWmShal
import Derived.Test.YthkimcdeejjmbaaWmFnsLinPoints
import Derived.Test.YthkimcdeejjmbaaWmFnc
import Derived.Test.YthkimcdeejjmbaaWmTxtLinPointsA
set_option linter.all false
noncomputable section
namespace Wm.S
open Wm
set_option maxRecDepth 100000
set_option autoImplicit true
set_option relaxedAutoImplicit true
def zl3 (M : Env) := jb M F.zvt [0, 1, 6, 7, 9, 10, 11]
def zkz (x0 x1 x6 x7 x9 x10 x11 : V) : List V := x0 :: x1 :: dd 4 (x6 :: x7 :: dd 1 (x9 :: x10 :: x11 :: dd 230 []))
def z6o (x0 x1 x6 x7 x9 x10 x11 : V) : List V := x0 :: x1 :: dd 4 (x6 :: x7 :: dd 1 (x9 :: x10 :: x11 :: dd 230 []))
def zky (M : Env) := jb M F.zw2 [0, 1, 6, 7, 9, 10, 11, 18, 19]
def zl2 (x0 x1 x6 x7 x9 x10 x11 x18 : V) : List V := x0 :: x1 :: dd 4 (x6 :: x7 :: dd 1 (x9 :: x10 :: x11 :: dd 6 (x18 :: dd 223 [])))
def zbv (x0 x1 x6 x7 x9 x10 x11 x18 x19 : V) : List V := x0 :: x1 :: dd 4 (x6 :: x7 :: dd 1 (x9 :: x10 :: x11 :: dd 6 (x18 :: x19 :: dd 222 [])))
def zes (M : Env) := jb M F.zw3 [0, 1, 6, 7, 9, 10, 11, 74]
def zfx (x0 x1 x6 x7 x9 x10 x11 : V) : List V := x0 :: x1 :: dd 4 (x6 :: x7 :: dd 1 (x9 :: x10 :: x11 :: dd 230 []))
def z3q (x0 x1 x6 x7 x9 x10 x11 x74 : V) : List V := x0 :: x1 :: dd 4 (x6 :: x7 :: dd 1 (x9 :: x10 :: x11 :: dd 62 (x74 :: dd 167 [])))
def zfs (M : Env) := jb M F.zvq []
def zfj (x0 x1 x6 x7 x9 x10 x11 : V) : List V := x0 :: x1 :: dd 4 (x6 :: x7 :: dd 1 (x9 :: x10 :: x11 :: dd 230 []))
def z0d : List V := dd 242 []
def zgu (M : Env) := kf F.z0n
def zoi (M : Env) := kq M F.zvl (zgu M)
def zv6 (M : Env) := kj [0, 1, 6, 7, 9, 10, 11]
def zw4 (M : Env) := kb 0 (zv6 M)
def zod (M : Env) := kq M F.zvg (zw4 M)
def zvr (M : Env) := kq M F.zwj (zgu M)
def zgq (M : Env) := kq M F.zwg (zvr M)
def zgm (M : Env) := kq M F.zvh (zgu M)
def z0n (M : Env) (a0 : V) (a1 a2_0 a2_1 a2_2 a2_3 a2_4 a3_0 a3_1 : Int) (a3_2 : Bool) (h : H) : Rf :=
 let h0 := h.new (.cells [a2_0, a2_1, (.int .u64 a2_2), (.int .u64 a2_3), (.int .u64 a2_4)] .rw)
 let h1 := h0.new (.cells [a3_0, (.int .u64 a3_1), a3_2] .rw)
 (h1.ld1 (.ptr h.next 2)).bind fun v2 =>
 (M.call 106 [a0, a1, v2] h1).bind fun p3 =>
 (zl3 M (zkz a0 a1 (.ptr h.next 0) (.ptr h0.next 0) p3.1 false false) p3.2).bind fun p4 => zoi M p4.1 p4.2.1 p4.2.2
def z3p (M : Env) (x0 : V) (x1 : Int) (x6 x7 : V) (x9 : Int) (x10 x11 : Bool) (h : H) : Rl :=
 (zn x6 0).bind fun v0 =>
 (h.ld1 v0).bind fun v1 =>
 (zky M (zl2 x0 x1 x6 x7 x9 x10 x11 v1) h).bind fun p2 => zod M p2.1 p2.2.1 p2.2.2
def zey (M : Env) (x0 : V) (x1 : Int) (x6 x7 : V) (x9 : Int) (x10 x11 : Bool) (h : H) : Rf :=
 (zes M (zfx x0 x1 x6 x7 x9 x10 x11) h).bind fun p0 => zgq M p0.1 p0.2.1 p0.2.2
def z3v (M : Env) (x0 : V) (x1 : Int) (x6 x7 : V) (x9 : Int) (x10 x11 : Bool) (x18 : Int) (h : H) : Rl :=
 match decide (x18 = 1) with
 | true => (some (.normal, (zbv x0 x1 x6 x7 x9 x10 x11 x18 (.bool (decide (x18 = 1)))), h))
 | false => (match decide (x18 = 8) with
 | true => (some (.normal, (zbv x0 x1 x6 x7 x9 x10 x11 x18 (.bool (decide (x18 = 8)))), h))
 | false => (some (.normal, (zbv x0 x1 x6 x7 x9 x10 x11 x18 (.bool (decide (x18 = 9)))), h)))
def z3u (M : Env) (x0 : V) (x1 : Int) (x6 x7 : V) (x9 : Int) (x10 x11 : Bool) (x18 : Int) (x19 : Bool) (h : H) : Rl :=
 match x19 with
 | true => (some (.normal, (z6o x0 x1 x6 x7 x9 true x11), h))
 | false => (match decide (x18 = 2) with
 | true => ((nilc x0).bind fun v0 =>
 (zn v0 6).bind fun v1 =>
 (h.ld1 v1).bind fun v2 =>
 (za 1 v2 x9).bind fun v3 =>
 (h.ld1 v3).bind fun v4 =>
 (zn x6 1).bind fun v5 =>
 (h.ld1 v5).bind fun v6 =>
 (za 1 v4 v6).bind fun v7 =>
 (h.ld1 v7).bind fun v8 =>
 (asI .i64 v8).bind fun n9 =>
 some (.normal, (z6o x0 x1 x6 x7 x9 (.bool (decide (0 ≤ n9))) x11), h))
 | false => (match decide (x18 = 5) with
 | true => ((h.ldN 5 x6).bind fun v0 =>
 (M.call 283 [x0, x1, v0] h).bind fun p1 =>
 some (.normal, (z6o x0 x1 x6 x7 x9 x10 p1.1), p1.2))
 | false => (match decide (x18 = 7) with
 | true => ((zn x6 3).bind fun v0 =>
 (h.ld1 v0).bind fun v1 =>
 (M.call 106 [x0, x1, v1] h).bind fun p2 =>
 (asI .i64 p2.1).bind fun n3 =>
 some (.normal, (z6o x0 x1 x6 x7 x9 x10 (.bool (decide (x9 = n3)))), p2.2))
 | false => (some (.normal, (z6o x0 x1 x6 x7 x9 x10 x11), h)))))
def z6n (M : Env) (x0 : V) (x1 : Int) (x6 x7 : V) (x9 : Int) (x10 x11 : Bool) (h : H) : Rl :=
 (zn x7 2).bind fun v0 =>
 (h.ld1 v0).bind fun v1 =>
 (eqV .bool v1 x11).bind fun b2 =>
 match (!b2) with
 | true => (some (.normal, (z3q x0 x1 x6 x7 x9 x10 x11 true), h))
 | false => (match x10 with
 | true => ((zn x7 1).bind fun v3 =>
 (h.ld1 v3).bind fun v4 =>
 (M.call 383 [x0, v4] h).bind fun p5 =>
 (asB p5.1).bind fun b6 =>
 match (!b6) with
 | true => (some (.normal, (z3q x0 x1 x6 x7 x9 x10 x11 true), p5.2))
 | false => (match (!x10) with
 | true => ((zn x7 1).bind fun v7 =>
 (p5.2.ld1 v7).bind fun v8 =>
 (asI .u64 v8).bind fun n9 =>
 some (.normal, (z3q x0 x1 x6 x7 x9 x10 x11 (.bool (!decide (n9 = 0)))), p5.2))
 | false => (some (.normal, (z3q x0 x1 x6 x7 x9 x10 x11 false), p5.2))))
 | false => (match (!x10) with
 | true => ((zn x7 1).bind fun v3 =>
 (h.ld1 v3).bind fun v4 =>
 (asI .u64 v4).bind fun n5 =>
 some (.normal, (z3q x0 x1 x6 x7 x9 x10 x11 (.bool (!decide (n5 = 0)))), h))
 | false => (some (.normal, (z3q x0 x1 x6 x7 x9 x10 x11 false), h))))
def zf7 (M : Env) (x0 : V) (x1 : Int) (x6 x7 : V) (x9 : Int) (x10 x11 x74 : Bool) (h : H) : Rf :=
 match x74 with
 | true => (some (false, h))
 | false => ((zfs M (zfj x0 x1 x6 x7 x9 x10 x11) h).bind fun p0 => zgm M p0.1 p0.2.1 p0.2.2)
def z07 (M : Env) (x0 : V) (x1 : Int) (x6 x7 : V) (x9 : Int) (x10 x11 : Bool) (h : H) : Rl :=
 (zn x6 0).bind fun v0 =>
 (h.ld1 v0).bind fun v1 =>
 (asI .i64 v1).bind fun n2 =>
 match decide (n2 = 1) with
 | true => ((nilc x0).bind fun v3 =>
 (zn v3 6).bind fun v4 =>
 (h.ld1 v4).bind fun v5 =>
 (zn x6 1).bind fun v6 =>
 (h.ld1 v6).bind fun v7 =>
 let h8 := h.new (.cells [(.int .i64 (-1))] .rw)
 (M.call 384 [(.sl h.next 0 1 (.ex 1)), v7] h8).bind fun p9 =>
 match ckB (p9.2.ld1 v4) v5 with
 | true => ((fill (repl [.nilsl] 1) [] [(0, 1, .c p9.1)]).bind fun cs10 =>
 let h11 := p9.2.new (.cells cs10 .rw)
 (h11.append 1 24 v5 (.sl p9.2.next 0 1 (.ex 1))).bind fun p12 =>
 (nilc x0).bind fun v13 =>
 (zn v13 6).bind fun v14 =>
 (p12.2.st 1 v14 p12.1).bind fun h15 =>
 (zn x7 1).bind fun v16 =>
 (h15.ld1 v16).bind fun v17 =>
 (nilc x0).bind fun v18 =>
 (zn v18 6).bind fun v19 =>
 (h15.ld1 v19).bind fun v20 =>
 (lenSl v20).bind fun n21 =>
 (M.call 385 [x0, x1, v17, (.int .i64 (wr .i64 ((n21 : Int) - 1)))] h15).bind fun p22 =>
 some (.normal, z0d, p22.2))
 | false => none)
 | false => ((asI .i64 v1).bind fun n3 =>
 match decide (n3 = 2) with
 | true => (match x10 with
 | true => ((zn x7 1).bind fun v4 =>
 (h.ld1 v4).bind fun v5 =>
 (nilc x0).bind fun v6 =>
 (zn v6 6).bind fun v7 =>
 (h.ld1 v7).bind fun v8 =>
 (za 1 v8 x9).bind fun v9 =>
 (h.ld1 v9).bind fun v10 =>
 (zn x6 1).bind fun v11 =>
 (h.ld1 v11).bind fun v12 =>
 (za 1 v10 v12).bind fun v13 =>
 (h.ld1 v13).bind fun v14 =>
 (M.call 385 [x0, x1, v5, v14] h).bind fun p15 =>
 some (.normal, z0d, p15.2))
 | false => (some (.normal, z0d, h)))
 | false => ((asI .i64 v1).bind fun n4 =>
 match decide (n4 = 3) with
 | true => ((nilc x0).bind fun v5 =>
 (zn v5 6).bind fun v6 =>
 (h.ld1 v6).bind fun v7 =>
 (za 1 v7 x9).bind fun v8 =>
 (h.ld1 v8).bind fun v9 =>
 (zn x6 1).bind fun v10 =>
 (h.ld1 v10).bind fun v11 =>
 (zn x6 3).bind fun v12 =>
 (h.ld1 v12).bind fun v13 =>
 (M.call 106 [x0, x1, v13] h).bind fun p14 =>
 match ckB (p14.2.ld1 v10) v11 with
 | true => (match ckB (p14.2.ld1 v8) v9 with
 | true => (match ckB (p14.2.ld1 v6) v7 with
 | true => ((za 1 v9 v11).bind fun v15 =>
 (p14.2.st 1 v15 p14.1).bind fun h16 =>
 some (.normal, z0d, h16))
 | false => none)
 | false => none)
 | false => none)
 | false => ((asI .i64 v1).bind fun n5 =>
 match decide (n5 = 4) with
 | true => ((nilc x0).bind fun v6 =>
 (zn v6 6).bind fun v7 =>
 (h.ld1 v7).bind fun v8 =>
 (za 1 v8 x9).bind fun v9 =>
 (h.ld1 v9).bind fun v10 =>
 (zn x6 1).bind fun v11 =>
 (h.ld1 v11).bind fun v12 =>
 (za 1 v10 v12).bind fun v13 =>
 (h.st 1 v13 (.int .i64 (-1))).bind fun h14 =>
 some (.normal, z0d, h14))
 | false => ((asI .i64 v1).bind fun n6 =>
 match decide (n6 = 5) with
 | true => (match x11 with
 | true => ((nilc x0).bind fun v7 =>
 (zn v7 6).bind fun v8 =>
 (h.ld1 v8).bind fun v9 =>
 (za 1 v9 x9).bind fun v10 =>
 (h.ld1 v10).bind fun v11 =>
 (zn x6 1).bind fun v12 =>
 (h.ld1 v12).bind fun v13 =>
 (zn x6 3).bind fun v14 =>
 (h.ld1 v14).bind fun v15 =>
 (M.call 106 [x0, x1, v15] h).bind fun p16 =>
 match ckB (p16.2.ld1 v12) v13 with
 | true => (match ckB (p16.2.ld1 v10) v11 with
 | true => (match ckB (p16.2.ld1 v8) v9 with
 | true => ((za 1 v11 v13).bind fun v17 =>
 (p16.2.st 1 v17 p16.1).bind fun h18 =>
 some (.normal, z0d, h18))
 | false => none)
 | false => none)
 | false => none)
 | false => (some (.normal, z0d, h)))
 | false => ((asI .i64 v1).bind fun n7 =>
 match decide (n7 = 6) with
 | true => ((nilc x0).bind fun v8 =>
 (zn v8 7).bind fun v9 =>
 (h.ld1 v9).bind fun v10 =>
 (za 1 v10 x1).bind fun v11 =>
 (h.ld1 v11).bind fun v12 =>
 (zn x6 2).bind fun v13 =>
 (h.ld1 v13).bind fun v14 =>
 (h.mapDel .int v12 v14).bind fun h15 =>
 some (.normal, z0d, h15))
 | false => ((asI .i64 v1).bind fun n8 =>
 match decide (n8 = 8) with
 | true => ((nilc x0).bind fun v9 =>
 (zn v9 9).bind fun v10 =>
 (h.ld1 v10).bind fun v11 =>
 (zn x7 1).bind fun v12 =>
 (h.ld1 v12).bind fun v13 =>
 (h.mapSet .int v11 v13 (1:Int)).bind fun h14 =>
 (nilc x0).bind fun v15 =>
 (zn v15 8).bind fun v16 =>
 (h14.ld1 v16).bind fun v17 =>
 (zn x7 1).bind fun v18 =>
 (h14.ld1 v18).bind fun v19 =>
 (M.call 386 [x0, x9] h14).bind fun p20 =>
 match ckB (p20.2.ld1 v18) v19 with
 | true => (match ckB (p20.2.ld1 v16) v17 with
 | true => ((fill [(.int .u64 0), .nilsl] [] [(0, 1, .c v19), (1, 1, .c p20.1)]).bind fun cs21 =>
 (za 2 v17 x1).bind fun v22 =>
 (p20.2.st 2 v22 (.agg cs21)).bind fun h23 =>
 some (.normal, z0d, h23))
 | false => none)
 | false => none)
 | false => ((asI .i64 v1).bind fun n9 =>
 match decide (n9 = 9) with
 | true => ((zn x7 1).bind fun v10 =>
 (h.ld1 v10).bind fun v11 =>
 (nilc x0).bind fun v12 =>
 (zn v12 8).bind fun v13 =>
 (h.ld1 v13).bind fun v14 =>
 (za 2 v14 x1).bind fun v15 =>
 (zn v15 1).bind fun v16 =>
 (h.ld1 v16).bind fun v17 =>
 (za 1 v17 (0:Int)).bind fun v18 =>
 (h.ld1 v18).bind fun v19 =>
 (M.call 385 [x0, x1, v11, v19] h).bind fun p20 =>
 (nilc x0).bind fun v21 =>
 (zn v21 8).bind fun v22 =>
 (p20.2.ld1 v22).bind fun v23 =>
 (nilc x0).bind fun v24 =>
 (zn v24 8).bind fun v25 =>
 (p20.2.ld1 v25).bind fun v26 =>
 (za 2 v26 x1).bind fun v27 =>
 (zn v27 1).bind fun v28 =>
 (p20.2.ld1 v28).bind fun v29 =>
 (z67 1 v29 (some (1:Int)) none none).bind fun v30 =>
 (za 2 v23 x1).bind fun v31 =>
 (zn v31 1).bind fun v32 =>
 (p20.2.st 1 v32 v30).bind fun h33 =>
 some (.normal, z0d, h33))
 | false => ((asI .i64 v1).bind fun n10 =>
 match decide (n10 = 10) with
 | true => ((nilc x0).bind fun v11 =>
 (zn v11 8).bind fun v12 =>
 (h.ld1 v12).bind fun v13 =>
 (za 2 v13 x1).bind fun v14 =>
 (h.st 2 v14 (.agg [(.int .u64 0), .nilsl])).bind fun h15 =>
 some (.normal, z0d, h15))
 | false => (some (.normal, z0d, h))))))))))
def ztn (M : Env) (h : H) : Rf :=
 some (true, h)
theorem zw0 : z06 M F.z0n [a0, (.int .i64 a1), (.agg [(.int .i64 a2_0), (.int .i64 a2_1), (.int .u64 a2_2), (.int .u64 a2_3), (.int .u64 a2_4)]), (.agg [(.int .i64 a3_0), (.int .u64 a3_1), (.bool a3_2)])] h = z0n M a0 a1 a2_0 a2_1 a2_2 a2_3 a2_4 a3_0 a3_1 a3_2 h := by kernel_rfl
theorem z4i : zl3 M (zkz x0 (.int .i64 x1) x6 x7 (.int .i64 x9) (.bool x10) (.bool x11)) h = z3p M x0 x1 x6 x7 x9 x10 x11 h := by kernel_rfl
theorem z3d : zoi M .normal (z6o x0 (.int .i64 x1) x6 x7 (.int .i64 x9) (.bool x10) (.bool x11)) h = zey M x0 x1 x6 x7 x9 x10 x11 h := by kernel_rfl
theorem z4k : zky M (zl2 x0 (.int .i64 x1) x6 x7 (.int .i64 x9) (.bool x10) (.bool x11) (.int .i64 x18)) h = z3v M x0 x1 x6 x7 x9 x10 x11 x18 h := by kernel_rfl
theorem z3g : zod M .normal (zbv x0 (.int .i64 x1) x6 x7 (.int .i64 x9) (.bool x10) (.bool x11) (.int .i64 x18) (.bool x19)) h = z3u M x0 x1 x6 x7 x9 x10 x11 x18 x19 h := by kernel_rfl
theorem zt5 : zes M (zfx x0 (.int .i64 x1) x6 x7 (.int .i64 x9) (.bool x10) (.bool x11)) h = z6n M x0 x1 x6 x7 x9 x10 x11 h := by kernel_rfl
theorem zqu : zgq M .normal (z3q x0 (.int .i64 x1) x6 x7 (.int .i64 x9) (.bool x10) (.bool x11) (.bool x74)) h = zf7 M x0 x1 x6 x7 x9 x10 x11 x74 h := by kernel_rfl
theorem zsi : zfs M (zfj x0 (.int .i64 x1) x6 x7 (.int .i64 x9) (.bool x10) (.bool x11)) h = z07 M x0 x1 x6 x7 x9 x10 x11 h := by kernel_rfl
theorem zrm : zgm M .normal z0d h = ztn M h := by kernel_rfl
def zl0 (M : Env) := jb M F.zva [0, 1, 6, 7, 9, 10]
def zl4 (x0 x1 x6 x7 x10 : V) : List V := x0 :: x1 :: dd 4 (x6 :: x7 :: dd 2 (x10 :: dd 74 []))
def z8s (x0 x1 x6 x7 x9 x10 : V) : List V := x0 :: x1 :: dd 4 (x6 :: x7 :: dd 1 (x9 :: x10 :: dd 74 []))
def zle (M : Env) := jb M F.zwe [0, 1, 6, 7, 10, 22]
def zlc (x0 x1 x6 x7 x10 : V) : List V := x0 :: x1 :: dd 4 (x6 :: x7 :: dd 2 (x10 :: dd 74 []))
def zf6 (x0 x1 x6 x7 x10 x22 : V) : List V := x0 :: x1 :: dd 4 (x6 :: x7 :: dd 2 (x10 :: dd 11 (x22 :: dd 62 [])))
def zwr (M : Env) := kf F.z29
def zo9 (M : Env) := kq M F.zwl (zwr M)
def zvb (M : Env) := kj [0, 1, 6, 7, 9, 10]
def zvw (M : Env) := kb 0 (zvb M)
def zoc (M : Env) := kq M F.zvi (zvw M)
def z29 (M : Env) (a0 : V) (a1 a2_0 a2_1 a2_2 a2_3 a2_4 a3_0 a3_1 : Int) (a3_2 : Bool) (h : H) : Rf :=
 let h0 := h.new (.cells [a2_0, a2_1, (.int .u64 a2_2), (.int .u64 a2_3), (.int .u64 a2_4)] .rw)
 let h1 := h0.new (.cells [a3_0, (.int .u64 a3_1), a3_2] .rw)
 (M.call 279 [a0, a1] h1).bind fun p2 =>
 (asB p2.1).bind fun b3 =>
 match (!b3) with
 | true => (some (false, p2.2))
 | false => ((zl0 M (zl4 a0 a1 (.ptr h.next 0) (.ptr h0.next 0) false) p2.2).bind fun p4 => zo9 M p4.1 p4.2.1 p4.2.2)
def zkx (M : Env) (x0 : V) (x1 : Int) (x6 x7 : V) (x10 : Bool) (h : H) : Rl :=
 (zle M (zlc x0 x1 x6 x7 x10) h).bind fun p0 => zoc M p0.1 p0.2.1 p0.2.2
def z1w (M : Env) (x0 : V) (x1 : Int) (x6 x7 : V) (x9 : Int) (x10 : Bool) (h : H) : Rf :=
 match (!decide (x9 = 0)) with
 | true => ((h.ldN 3 x7).bind fun v0 =>
 (eqV (.agg [(0, .int), (1, .int), (2, .bool)]) v0 (.agg [x9, (.int .u64 0), false])).bind fun b1 =>
 some (b1, h))
 | false => ((zn x7 0).bind fun v0 =>
 (h.ld1 v0).bind fun v1 =>
 (asI .i64 v1).bind fun n2 =>
 match decide (n2 = 4) with
 | true => (match x10 with
 | true => ((h.ldN 3 x7).bind fun v3 =>
 (eqV (.agg [(0, .int), (1, .int), (2, .bool)]) v3 (.agg [(4:Int), (.int .u64 0), false])).bind fun b4 =>
 match b4 with
 | true => ((zn x6 0).bind fun v5 =>
 (h.ld1 v5).bind fun v6 =>
 (asI .i64 v6).bind fun n7 =>
 match decide (n7 = 5) with
 | true => ((h.ldN 5 x6).bind fun v8 =>
 (M.call 283 [x0, x1, v8] h).bind fun p9 =>
 (asB p9.1).bind fun b10 =>
 some ((.bool (!(!b10))), p9.2))
 | false => (some (true, h)))
 | false => (some (false, h)))
 | false => (some (false, h)))
 | false => ((zn x7 0).bind fun v3 =>
 (h.ld1 v3).bind fun v4 =>
 (asI .i64 v4).bind fun n5 =>
 match decide (n5 = 0) with
 | true => ((h.ldN 5 x6).bind fun v6 =>
 (h.ldN 3 x7).bind fun v7 =>
 (M.call 284 [x0, x1, v6, v7] h).bind fun p8 =>
 some (p8.1, p8.2))
 | false => (some (false, h))))
def z6m (M : Env) (x0 : V) (x1 : Int) (x6 x7 : V) (x10 : Bool) (h : H) : Rl :=
 (zn x6 0).bind fun v0 =>
 (h.ld1 v0).bind fun v1 =>
 (asI .i64 v1).bind fun n2 =>
 match decide (n2 < 1) with
 | true => (some (.normal, (zf6 x0 x1 x6 x7 x10 true), h))
 | false => ((zn x6 0).bind fun v3 =>
 (h.ld1 v3).bind fun v4 =>
 (asI .i64 v4).bind fun n5 =>
 some (.normal, (zf6 x0 x1 x6 x7 x10 (.bool (decide (10 < n5)))), h))
def z6p (M : Env) (x0 : V) (x1 : Int) (x6 x7 : V) (x10 x22 : Bool) (h : H) : Rl :=
 match x22 with
 | true => (some (.normal, (z8s x0 x1 x6 x7 (8:Int) x10), h))
 | false => ((zn x6 0).bind fun v0 =>
 (h.ld1 v0).bind fun v1 =>
 (asI .i64 v1).bind fun n2 =>
 match decide (n2 = 1) with
 | true => ((h.ldN 5 x6).bind fun v3 =>
 (M.call 280 [x0, x1, v3] h).bind fun p4 =>
 some (.normal, (z8s x0 x1 x6 x7 p4.1 true), p4.2))
 | false => ((zn x6 0).bind fun v3 =>
 (h.ld1 v3).bind fun v4 =>
 (M.call 82 [v4] h).bind fun p5 =>
 (asB p5.1).bind fun b6 =>
 match b6 with
 | true => ((p5.2.ldN 5 x6).bind fun v7 =>
 (M.call 281 [x0, x1, v7] p5.2).bind fun p8 =>
 some (.normal, (z8s x0 x1 x6 x7 p8.1 x10), p8.2))
 | false => ((p5.2.ldN 5 x6).bind fun v7 =>
 (zn x6 0).bind fun v8 =>
 (p5.2.ld1 v8).bind fun v9 =>
 (M.call 282 [x0, x1, v7] p5.2).bind fun p10 =>
 match ckB (p10.2.ld1 v8) v9 with
 | true => ((M.call 83 [v9] p10.2).bind fun p11 =>
 some (.normal, (z8s x0 x1 x6 x7 p10.1 p11.1), p11.2))
 | false => none)))
theorem zvs : z06 M F.z29 [a0, (.int .i64 a1), (.agg [(.int .i64 a2_0), (.int .i64 a2_1), (.int .u64 a2_2), (.int .u64 a2_3), (.int .u64 a2_4)]), (.agg [(.int .i64 a3_0), (.int .u64 a3_1), (.bool a3_2)])] h = z29 M a0 a1 a2_0 a2_1 a2_2 a2_3 a2_4 a3_0 a3_1 a3_2 h := by kernel_rfl
theorem zsz : zl0 M (zl4 x0 (.int .i64 x1) x6 x7 (.bool x10)) h = zkx M x0 x1 x6 x7 x10 h := by kernel_rfl
theorem z6w : zo9 M .normal (z8s x0 (.int .i64 x1) x6 x7 (.int .i64 x9) (.bool x10)) h = z1w M x0 x1 x6 x7 x9 x10 h := by kernel_rfl
theorem z86 : zle M (zlc x0 (.int .i64 x1) x6 x7 (.bool x10)) h = z6m M x0 x1 x6 x7 x10 h := by kernel_rfl
theorem z75 : zoc M .normal (zf6 x0 (.int .i64 x1) x6 x7 (.bool x10) (.bool x22)) h = z6p M x0 x1 x6 x7 x10 x22 h := by kernel_rfl
def zto (M : Env) := lb M F.z04f [3, 15, 16] [3]
def zil (x3 x15 x16 : V) : List V := dd 3 (x3 :: dd 11 (x15 :: x16 :: dd 13 []))
def zoy (x3 : V) : List V := dd 3 (x3 :: dd 26 [])
def z04c (M : Env) := kf F.zbm
def z04g (M : Env) := kq M F.z03x (z04c M)
def zqz (M : Env) := kb 0 (z04g M)
def zbm (M : Env) (a0_0 a0_1 a0_2 a0_3 a0_4 a0_5 : Int) (h : H) : Rf :=
 let h0 := h.new (.cells [a0_0, a0_1, a0_2, a0_3, a0_4, a0_5] .rw)
 (h0.ldN 6 (.ptr h.next 0)).bind fun v1 =>
 (M.call 263 [v1] h0).bind fun p2 =>
 (asB p2.1).bind fun b3 =>
 match (!b3) with
 | true => (some (.nilp, p2.2))
 | false => ((p2.2.ldN 6 (.ptr h.next 0)).bind fun v4 =>
 (p2.2.ld1 (.ptr h.next 2)).bind fun v5 =>
 (asI .i64 v5).bind fun n6 =>
 (asI .i64 v5).bind fun n7 =>
 (p2.2.mkSl 2 32 [(.int .u64 0), .nilsl] n6 n7).bind fun p8 =>
 let h9 := p8.2.new (.map [])
 (fill [(0:Int), (0:Int), (0:Int), (0:Int), (0:Int), (0:Int), .nilsl, .nilsl, .nilsl, .nilmap] [] [(0, 6, .c v4), (8, 1, .c p8.1), (9, 1, .c (.map p8.2.next))]).bind fun cs10 =>
 (boxc (.agg cs10)).bind fun cs11 =>
 let h12 := h9.new (.cells cs11 .rw)
 (h12.ld1 (.ptr h.next 2)).bind fun v13 =>
 (M.loop (zto M) (zil (.ptr h9.next 0) v13 (0:Int)) h12).bind fun p14 => zqz M p14.1 p14.2.1 p14.2.2)
def zp7 (M : Env) (x3 : V) (x15 x16 : Int) (h : H) : Rl :=
 match decide (x16 < x15) with
 | true => ((nilc x3).bind fun v0 =>
 (zn v0 7).bind fun v1 =>
 (h.ld1 v1).bind fun v2 =>
 let h3 := h.new (.map [])
 let h4 := h3.new (.cells [(.map h.next)] .rw)
 (h4.append 1 8 v2 (.sl h3.next 0 1 (.ex 1))).bind fun p5 =>
 (nilc x3).bind fun v6 =>
 (zn v6 7).bind fun v7 =>
 (p5.2.st 1 v7 p5.1).bind fun h8 =>
 some (.normal, (zil x3 x15 (.int .i64 (wr .i64 (x16 + 1)))), h8))
 | false => (some ((.exit 0), (zoy x3), h))
def z00p (M : Env) (x3 : V) (h : H) : Rf :=
 some (x3, h)
theorem z059 : z06 M F.zbm [(.agg [(.int .i64 a0_0), (.int .i64 a0_1), (.int .i64 a0_2), (.int .i64 a0_3), (.int .i64 a0_4), (.int .i64 a0_5)])] h = zbm M a0_0 a0_1 a0_2 a0_3 a0_4 a0_5 h := by kernel_rfl
theorem zzo : zto M (zil x3 (.int .i64 x15) (.int .i64 x16)) h = zp7 M x3 x15 x16 h := by kernel_rfl
theorem zxl : zqz M (.exit 0) (zoy x3) h = z00p M x3 h := by kernel_rfl
def zlb (M : Env) := lb M F.zw7 [0, 3, 29, 30, 31] [0, 3]
def z8q (x0 x3 x29 x30 x31 : V) : List V := x0 :: dd 2 (x3 :: dd 25 (x29 :: x30 :: x31 :: dd 37 []))
def zfv (x0 x3 : V) : List V := x0 :: dd 2 (x3 :: dd 65 [])
def zld (M : Env) := lb M F.zw6 [3, 50, 51, 52] [3]
def z8p (x3 x50 x51 x52 : V) : List V := dd 3 (x3 :: dd 46 (x50 :: x51 :: x52 :: dd 16 []))
def zfw (x3 : V) : List V := dd 3 (x3 :: dd 65 [])
def zoh (M : Env) := kf F.z28
def zwc (M : Env) := kq M F.zv8 (zoh M)
def zgs (M : Env) := kb 0 (zwc M)
def zwb (M : Env) := kq M F.zvf (zoh M)
def zgx (M : Env) := kb 2 (zwb M)
def z28 (M : Env) (a0 : V) (h : H) : Rf :=
 (eqV .ptr a0 .nilp).bind fun b0 =>
 match b0 with
 | true => (some (.nilp, h))
 | false => ((nilc a0).bind fun v1 =>
 (zn v1 0).bind fun v2 =>
 (h.ldN 6 v2).bind fun v3 =>
 (nilc a0).bind fun v4 =>
 (zn v4 8).bind fun v5 =>
 (h.ld1 v5).bind fun v6 =>
 (nilc a0).bind fun v7 =>
 (zn v7 9).bind fun v8 =>
 (h.ld1 v8).bind fun v9 =>
 (M.call 285 [v6] h).bind fun p10 =>
 match ckB (p10.2.ld1 v8) v9 with
 | true => (match ckB (p10.2.ldN 6 v2) v3 with
 | true => ((M.call 286 [v9] p10.2).bind fun p11 =>
 match ckB (p11.2.ldN 6 v2) v3 with
 | true => ((fill [(0:Int), (0:Int), (0:Int), (0:Int), (0:Int), (0:Int), .nilsl, .nilsl, .nilsl, .nilmap] [] [(0, 6, .c v3), (8, 1, .c p10.1), (9, 1, .c p11.1)]).bind fun cs12 =>
 (boxc (.agg cs12)).bind fun cs13 =>
 let h14 := p11.2.new (.cells cs13 .rw)
 (nilc a0).bind fun v15 =>
 (zn v15 6).bind fun v16 =>
 (h14.ld1 v16).bind fun v17 =>
 (lenSl v17).bind fun n18 =>
 (M.loop (zlb M) (z8q a0 (.ptr p11.2.next 0) v17 (.int .i64 (n18 : Int)) (0:Int)) h14).bind fun p19 => zgs M p19.1 p19.2.1 p19.2.2)
 | false => none)
 | false => none)
 | false => none)
def zc0 (M : Env) (x0 x3 x29 : V) (x30 x31 : Int) (h : H) : Rl :=
 match decide (x31 < x30) with
 | true => ((za 1 x29 x31).bind fun v0 =>
 (h.ld1 v0).bind fun v1 =>
 (nilc x3).bind fun v2 =>
 (zn v2 6).bind fun v3 =>
 (h.ld1 v3).bind fun v4 =>
 (M.call 287 [v1] h).bind fun p5 =>
 match ckB (p5.2.ld1 v3) v4 with
 | true => ((fill (repl [.nilsl] 1) [] [(0, 1, .c p5.1)]).bind fun cs6 =>
 let h7 := p5.2.new (.cells cs6 .rw)
 (h7.append 1 24 v4 (.sl p5.2.next 0 1 (.ex 1))).bind fun p8 =>
 (nilc x3).bind fun v9 =>
 (zn v9 6).bind fun v10 =>
 (p8.2.st 1 v10 p8.1).bind fun h11 =>
 some (.normal, (z8q x0 x3 x29 x30 (.int .i64 (wr .i64 (x31 + 1)))), h11))
 | false => none)
 | false => (some ((.exit 0), (zfv x0 x3), h))
def zk6 (M : Env) (x0 x3 : V) (h : H) : Rf :=
 (nilc x0).bind fun v0 =>
 (zn v0 7).bind fun v1 =>
 (h.ld1 v1).bind fun v2 =>
 (lenSl v2).bind fun n3 =>
 (M.loop (zld M) (z8p x3 v2 (.int .i64 (n3 : Int)) (0:Int)) h).bind fun p4 => zgx M p4.1 p4.2.1 p4.2.2
def zbw (M : Env) (x3 x50 : V) (x51 x52 : Int) (h : H) : Rl :=
 match decide (x52 < x51) with
 | true => ((za 1 x50 x52).bind fun v0 =>
 (h.ld1 v0).bind fun v1 =>
 (nilc x3).bind fun v2 =>
 (zn v2 7).bind fun v3 =>
 (h.ld1 v3).bind fun v4 =>
 (M.call 286 [v1] h).bind fun p5 =>
 match ckB (p5.2.ld1 v3) v4 with
 | true => ((fill (repl [.nilmap] 1) [] [(0, 1, .c p5.1)]).bind fun cs6 =>
 let h7 := p5.2.new (.cells cs6 .rw)
 (h7.append 1 8 v4 (.sl p5.2.next 0 1 (.ex 1))).bind fun p8 =>
 (nilc x3).bind fun v9 =>
 (zn v9 7).bind fun v10 =>
 (p8.2.st 1 v10 p8.1).bind fun h11 =>
 some (.normal, (z8p x3 x50 x51 (.int .i64 (wr .i64 (x52 + 1)))), h11))
 | false => none)
 | false => (some ((.exit 2), (zfw x3), h))
def zt4 (M : Env) (x3 : V) (h : H) : Rf :=
 some (x3, h)
theorem zwf : z06 M F.z28 [a0] h = z28 M a0 h := by kernel_rfl
theorem zt2 : zlb M (z8q x0 x3 x29 (.int .i64 x30) (.int .i64 x31)) h = zc0 M x0 x3 x29 x30 x31 h := by kernel_rfl
theorem zql : zgs M (.exit 0) (zfv x0 x3) h = zk6 M x0 x3 h := by kernel_rfl
theorem zsv : zld M (z8p x3 x50 (.int .i64 x51) (.int .i64 x52)) h = zbw M x3 x50 x51 x52 h := by kernel_rfl
theorem zqi : zgx M (.exit 2) (zfw x3) h = zt4 M x3 h := by kernel_rfl
def z2t (M : Env) (a0 : V) (h : H) : Rf :=
 (eqV .sl a0 .nilsl).bind fun b0 =>
 match b0 with
 | true => (some (.nilsl, h))
 | false => (let h1 := h.new (.cells [] .rw)
 (h1.append 1 8 (.sl h.next 0 0 (.ex 0)) a0).bind fun p2 =>
 some (p2.1, p2.2))
theorem zqd : z06 M F.z2t [a0] h = z2t M a0 h := by kernel_rfl
def z0g (M : Env) (a0 : V) (h : H) : Rf :=
 (eqV .sl a0 .nilsl).bind fun b0 =>
 match b0 with
 | true => (some (.nilsl, h))
 | false => (let h1 := h.new (.cells [] .rw)
 (h1.append 2 32 (.sl h.next 0 0 (.ex 0)) a0).bind fun p2 =>
 some (p2.1, p2.2))
theorem zg7 : z06 M F.z0g [a0] h = z0g M a0 h := by kernel_rfl
def z0f (M : Env) (a0 : V) (h : H) : Rf :=
 (eqV .map a0 .nilmap).bind fun b0 =>
 match b0 with
 | true => (some (.nilmap, h))
 | false => ((h.cloneM (.ifc 159 a0)).bind fun p1 =>
 (zzj 159 p1.1).bind fun v2 =>
 some (v2, p1.2))
theorem zg8 : z06 M F.z0f [a0] h = z0f M a0 h := by kernel_rfl
def zs5 (M : Env) := lb M F.z03f [1, 2, 7, 12, 13, 14] [2, 6, 7]
def ze2 (x1 x2 x7 x12 x13 x14 : V) : List V := dd 1 (x1 :: x2 :: dd 4 (x7 :: dd 4 (x12 :: x13 :: x14 :: dd 38 [])))
def z57 (x2 x6 x7 : V) : List V := dd 2 (x2 :: dd 3 (x6 :: x7 :: dd 45 []))
def z03c (M : Env) := kf F.z9z
def z03n (M : Env) := kq M F.z033 (z03c M)
def zgi (M : Env) := kb 0 (z03n M)
def z9z (M : Env) (a0_0 a0_1 a0_2 a0_3 a0_4 a0_5 : Int) (a1 a2 : V) (h : H) : Rf :=
 let h0 := h.new (.cells [a0_0, a0_1, a0_2, a0_3, a0_4, a0_5] .rw)
 (h0.ldN 6 (.ptr h.next 0)).bind fun v1 =>
 (M.call 96 [v1] h0).bind fun p2 =>
 (lenSl a2).bind fun n3 =>
 (M.loop (zs5 M) (ze2 a1 a2 p2.1 a2 (.int .i64 (n3 : Int)) (0:Int)) p2.2).bind fun p4 => zgi M p4.1 p4.2.1 p4.2.2
def z9y (M : Env) (x1 x2 x7 x12 : V) (x13 x14 : Int) (h : H) : Rl :=
 match decide (x14 < x13) with
 | true => ((za 1 x12 x14).bind fun v0 =>
 (h.ld1 v0).bind fun v1 =>
 (asI .i64 v1).bind fun n2 =>
 match decide (n2 < 0) with
 | true => (some (.ret, (z57 x2 x14 x7), h))
 | false => ((lenSl x1).bind fun n3 =>
 (asI .i64 v1).bind fun n4 =>
 match decide ((n3 : Int) ≤ n4) with
 | true => (some (.ret, (z57 x2 x14 x7), h))
 | false => ((za 14 x1 v1).bind fun v5 =>
 (zn v5 0).bind fun v6 =>
 (h.ld1 v6).bind fun v7 =>
 (za 14 x1 v1).bind fun v8 =>
 (zn v8 6).bind fun v9 =>
 (h.ldN 5 v9).bind fun v10 =>
 (za 14 x1 v1).bind fun v11 =>
 (zn v11 11).bind fun v12 =>
 (h.ldN 3 v12).bind fun v13 =>
 (M.call 103 [x7, v7, v10, v13] h).bind fun p14 =>
 (asB p14.1).bind fun b15 =>
 match (!b15) with
 | true => (some (.ret, (z57 x2 x14 x7), p14.2))
 | false => (some (.normal, (ze2 x1 x2 x7 x12 x13 (.int .i64 (wr .i64 (x14 + 1)))), p14.2)))))
 | false => (some ((.exit 0), (z57 x2 .dead x7), h))
def zr6 (M : Env) (x2 x6 x7 : V) (h : H) : Rf :=
 (eqV .ptr x7 .nilp).bind fun b0 =>
 match b0 with
 | true => (some ((0:Int), h))
 | false => ((lenSl x2).bind fun n1 =>
 some ((.int .i64 (n1 : Int)), h))
def zzm (M : Env) (x2 : V) (x6 : Int) (x7 : V) (h : H) : Rf :=
 some (x6, h)
theorem z03m : z06 M F.z9z [(.agg [(.int .i64 a0_0), (.int .i64 a0_1), (.int .i64 a0_2), (.int .i64 a0_3), (.int .i64 a0_4), (.int .i64 a0_5)]), a1, a2] h = z9z M a0_0 a0_1 a0_2 a0_3 a0_4 a0_5 a1 a2 h := by kernel_rfl
theorem zz7 : zs5 M (ze2 x1 x2 x7 x12 (.int .i64 x13) (.int .i64 x14)) h = z9y M x1 x2 x7 x12 x13 x14 h := by kernel_rfl
theorem zwh : zgi M (.exit 0) (z57 x2 x6 x7) h = zr6 M x2 x6 x7 h := by kernel_rfl
theorem zxe : zgi M .ret (z57 x2 (.int .i64 x6) x7) h = zzm M x2 x6 x7 h := by kernel_rfl
def zaq (M : Env) := lb M F.zip [0, 1, 2, 3, 8] []
def z2d (x0 x1 x2 x3 x8 : V) : List V := x0 :: x1 :: x2 :: x3 :: dd 4 (x8 :: dd 44 [])
def z6i : List V := dd 53 []
def z6k (M : Env) := lb M F.zj8 [0, 1, 2, 3, 8, 9] [0, 1, 2, 3, 8]
def z2a (x0 x1 x2 x3 x8 x9 : V) : List V := x0 :: x1 :: x2 :: x3 :: dd 4 (x8 :: x9 :: dd 43 [])
def z41 (x0 x1 x2 x3 x8 : V) : List V := x0 :: x1 :: x2 :: x3 :: dd 4 (x8 :: dd 44 [])
def zim (M : Env) := kf F.z02
def z7d (M : Env) := kb 0 (zim M)
def ziy (M : Env) := kl [0, 1, 2, 3, 8] []
def zj3 (M : Env) := kq M F.zj1 (ziy M)
def zj4 (M : Env) := kb 1 (zj3 M)
def z4p (M : Env) := kb 2 (zj4 M)
def z02 (M : Env) (a0 : V) (a1 a2 : Int) (a3 : V) (h : H) : Rf :=
 (M.loop (zaq M) (z2d a0 a1 a2 a3 (.int .i64 (wr .i64 (a1 + 1)))) h).bind fun p0 => z7d M p0.1 p0.2.1 p0.2.2
def z6h (M : Env) (x0 : V) (x1 x2 : Int) (x3 : V) (x8 : Int) (h : H) : Rl :=
 match decide (x8 < x2) with
 | true => ((M.loop (z6k M) (z2a x0 x1 x2 x3 x8 x8) h).bind fun p0 => z4p M p0.1 p0.2.1 p0.2.2)
 | false => (some ((.exit 0), z6i, h))
def zgo (M : Env) (h : H) : Rf :=
 some ((.tup []), h)
def z43 (M : Env) (x0 : V) (x1 x2 : Int) (x3 : V) (x8 x9 : Int) (h : H) : Rl :=
 match decide (x1 < x9) with
 | true => ((za 1 x0 x9).bind fun v0 =>
 (h.ld1 v0).bind fun v1 =>
 (za 1 x0 (.int .i64 (wr .i64 (x9 - 1)))).bind fun v2 =>
 (h.ld1 v2).bind fun v3 =>
 z64 M x3 [v1, v3] h fun p4 =>
 (asI .i64 p4.1).bind fun n5 =>
 match decide (n5 < 0) with
 | true => ((za 1 x0 (.int .i64 (wr .i64 (x9 - 1)))).bind fun v6 =>
 (p4.2.ld1 v6).bind fun v7 =>
 (za 1 x0 x9).bind fun v8 =>
 (p4.2.ld1 v8).bind fun v9 =>
 (za 1 x0 x9).bind fun v10 =>
 (p4.2.st 1 v10 v7).bind fun h11 =>
 (za 1 x0 (.int .i64 (wr .i64 (x9 - 1)))).bind fun v12 =>
 (h11.st 1 v12 v9).bind fun h13 =>
 some (.normal, (z2a x0 x1 x2 x3 x8 (.int .i64 (wr .i64 (x9 - 1)))), h13))
 | false => (some ((.exit 2), (z41 x0 x1 x2 x3 x8), p4.2)))
 | false => (some ((.exit 2), (z41 x0 x1 x2 x3 x8), h))
def zah (M : Env) (x0 : V) (x1 x2 : Int) (x3 : V) (x8 : Int) (h : H) : Rl :=
 some (.normal, (z2d x0 x1 x2 x3 (.int .i64 (wr .i64 (x8 + 1)))), h)
theorem zih : z06 M F.z02 [a0, (.int .i64 a1), (.int .i64 a2), a3] h = z02 M a0 a1 a2 a3 h := by kernel_rfl
theorem zgy : zaq M (z2d x0 (.int .i64 x1) (.int .i64 x2) x3 (.int .i64 x8)) h = z6h M x0 x1 x2 x3 x8 h := by kernel_rfl
theorem zg0 : z7d M (.exit 0) z6i h = zgo M h := by kernel_rfl
theorem zgt : z6k M (z2a x0 (.int .i64 x1) (.int .i64 x2) x3 (.int .i64 x8) (.int .i64 x9)) h = z43 M x0 x1 x2 x3 x8 x9 h := by kernel_rfl
theorem zg1 : z4p M (.exit 2) (z41 x0 (.int .i64 x1) (.int .i64 x2) x3 (.int .i64 x8)) h = zah M x0 x1 x2 x3 x8 h := by kernel_rfl
def zd9 (M : Env) := lb M F.zmu [0, 2, 3, 4, 10] []
def z27 (x0 x2 x3 x4 x10 : V) : List V := x0 :: dd 1 (x2 :: x3 :: x4 :: dd 5 (x10 :: dd 71 []))
def z1h : List V := dd 82 []
def zmp (M : Env) := kf F.z0r
def z45 (M : Env) := kb 0 (zmp M)
def z0r (M : Env) (a0 : V) (a1 a2 a3 : Int) (a4 : V) (h : H) : Rf :=
 (M.loop (zd9 M) (z27 a0 a2 a3 a4 a1) h).bind fun p0 => z45 M p0.1 p0.2.1 p0.2.2
def z0x (M : Env) (x0 : V) (x2 x3 : Int) (x4 : V) (x10 : Int) (h : H) : Rl :=
 match (decide (x2 ≤ (wr .i64 ((wr .i64 (2 * x10)) + 1)))) with
 | true => (some ((.exit 0), z1h, h))
 | false => (match (decide ((wr .i64 ((wr .i64 ((wr .i64 (2 * x10)) + 1)) + 1)) < x2)) with
 | true => ((za 1 x0 (.int .i64 (wr .i64 (x3 + (wr .i64 ((wr .i64 (2 * x10)) + 1)))))).bind fun v0 =>
 (h.ld1 v0).bind fun v1 =>
 (za 1 x0 (.int .i64 (wr .i64 ((wr .i64 (x3 + (wr .i64 ((wr .i64 (2 * x10)) + 1)))) + 1)))).bind fun v2 =>
 (h.ld1 v2).bind fun v3 =>
 z64 M x4 [v1, v3] h fun p4 =>
 (asI .i64 p4.1).bind fun n5 =>
 match decide (n5 < 0) with
 | true => ((za 1 x0 (.int .i64 (wr .i64 (x3 + x10)))).bind fun v6 =>
 (p4.2.ld1 v6).bind fun v7 =>
 (za 1 x0 (.int .i64 (wr .i64 (x3 + (wr .i64 ((wr .i64 ((wr .i64 (2 * x10)) + 1)) + 1)))))).bind fun v8 =>
 (p4.2.ld1 v8).bind fun v9 =>
 z64 M x4 [v7, v9] p4.2 fun p10 =>
 (asI .i64 p10.1).bind fun n11 =>
 match (!(decide (n11 < 0))) with
 | true => (some (.ret, z1h, p10.2))
 | false => ((za 1 x0 (.int .i64 (wr .i64 (x3 + (wr .i64 ((wr .i64 ((wr .i64 (2 * x10)) + 1)) + 1)))))).bind fun v12 =>
 (p10.2.ld1 v12).bind fun v13 =>
 (za 1 x0 (.int .i64 (wr .i64 (x3 + x10)))).bind fun v14 =>
 (p10.2.ld1 v14).bind fun v15 =>
 (za 1 x0 (.int .i64 (wr .i64 (x3 + x10)))).bind fun v16 =>
 (p10.2.st 1 v16 v13).bind fun h17 =>
 (za 1 x0 (.int .i64 (wr .i64 (x3 + (wr .i64 ((wr .i64 ((wr .i64 (2 * x10)) + 1)) + 1)))))).bind fun v18 =>
 (h17.st 1 v18 v15).bind fun h19 =>
 some (.normal, (z27 x0 x2 x3 x4 (.int .i64 (wr .i64 ((wr .i64 ((wr .i64 (2 * x10)) + 1)) + 1)))), h19)))
 | false => ((za 1 x0 (.int .i64 (wr .i64 (x3 + x10)))).bind fun v6 =>
 (p4.2.ld1 v6).bind fun v7 =>
 (za 1 x0 (.int .i64 (wr .i64 (x3 + (wr .i64 ((wr .i64 (2 * x10)) + 1)))))).bind fun v8 =>
 (p4.2.ld1 v8).bind fun v9 =>
 z64 M x4 [v7, v9] p4.2 fun p10 =>
 (asI .i64 p10.1).bind fun n11 =>
 match (!(decide (n11 < 0))) with
 | true => (some (.ret, z1h, p10.2))
 | false => ((za 1 x0 (.int .i64 (wr .i64 (x3 + (wr .i64 ((wr .i64 (2 * x10)) + 1)))))).bind fun v12 =>
 (p10.2.ld1 v12).bind fun v13 =>
 (za 1 x0 (.int .i64 (wr .i64 (x3 + x10)))).bind fun v14 =>
 (p10.2.ld1 v14).bind fun v15 =>
 (za 1 x0 (.int .i64 (wr .i64 (x3 + x10)))).bind fun v16 =>
 (p10.2.st 1 v16 v13).bind fun h17 =>
 (za 1 x0 (.int .i64 (wr .i64 (x3 + (wr .i64 ((wr .i64 (2 * x10)) + 1)))))).bind fun v18 =>
 (h17.st 1 v18 v15).bind fun h19 =>
 some (.normal, (z27 x0 x2 x3 x4 (.int .i64 (wr .i64 ((wr .i64 (2 * x10)) + 1)))), h19))))
 | false => ((za 1 x0 (.int .i64 (wr .i64 (x3 + x10)))).bind fun v0 =>
 (h.ld1 v0).bind fun v1 =>
 (za 1 x0 (.int .i64 (wr .i64 (x3 + (wr .i64 ((wr .i64 (2 * x10)) + 1)))))).bind fun v2 =>
 (h.ld1 v2).bind fun v3 =>
 z64 M x4 [v1, v3] h fun p4 =>
 (asI .i64 p4.1).bind fun n5 =>
 match (!(decide (n5 < 0))) with
 | true => (some (.ret, z1h, p4.2))
 | false => ((za 1 x0 (.int .i64 (wr .i64 (x3 + (wr .i64 ((wr .i64 (2 * x10)) + 1)))))).bind fun v6 =>
 (p4.2.ld1 v6).bind fun v7 =>
 (za 1 x0 (.int .i64 (wr .i64 (x3 + x10)))).bind fun v8 =>
 (p4.2.ld1 v8).bind fun v9 =>
 (za 1 x0 (.int .i64 (wr .i64 (x3 + x10)))).bind fun v10 =>
 (p4.2.st 1 v10 v7).bind fun h11 =>
 (za 1 x0 (.int .i64 (wr .i64 (x3 + (wr .i64 ((wr .i64 (2 * x10)) + 1)))))).bind fun v12 =>
 (h11.st 1 v12 v9).bind fun h13 =>
 some (.normal, (z27 x0 x2 x3 x4 (.int .i64 (wr .i64 ((wr .i64 (2 * x10)) + 1)))), h13))))
def zk0 (M : Env) (h : H) : Rf :=
 some ((.tup []), h)
def zkm (M : Env) (h : H) : Rf :=
 some ((.tup []), h)
theorem zms : z06 M F.z0r [a0, (.int .i64 a1), (.int .i64 a2), (.int .i64 a3), a4] h = z0r M a0 a1 a2 a3 a4 h := by kernel_rfl
theorem zkd : zd9 M (z27 x0 (.int .i64 x2) (.int .i64 x3) x4 (.int .i64 x10)) h = z0x M x0 x2 x3 x4 x10 h := by kernel_rfl
theorem zhi : z45 M (.exit 0) z1h h = zk0 M h := by kernel_rfl
theorem ziv : z45 M .ret z1h h = zkm M h := by kernel_rfl
def zdb (M : Env) := lb M F.zmm [0, 3, 8, 9, 10, 11] [0, 3, 8, 9, 10]
def z5s (x0 x3 x8 x9 x10 x11 : V) : List V := x0 :: dd 2 (x3 :: dd 4 (x8 :: x9 :: x10 :: x11 :: dd 48 []))
def z8h (x0 x3 x8 x9 x10 : V) : List V := x0 :: dd 2 (x3 :: dd 4 (x8 :: x9 :: x10 :: dd 49 []))
def z8i (M : Env) := lb M F.znc [0, 3, 8, 9, 12] []
def z3h (x0 x3 x8 x9 x12 : V) : List V := x0 :: dd 2 (x3 :: dd 4 (x8 :: x9 :: dd 2 (x12 :: dd 47 [])))
def z8d : List V := dd 60 []
def ze3 (M : Env) := kf F.z0b
def zni (M : Env) := kq M F.zn5 (ze3 M)
def za2 (M : Env) := kb 0 (zni M)
def z65 (M : Env) := kb 2 (ze3 M)
def z0b (M : Env) (a0 : V) (a1 a2 : Int) (a3 : V) (h : H) : Rf :=
 (M.loop (zdb M) (z5s a0 a3 a1 (0:Int) (.int .i64 (wr .i64 (a2 - a1))) (.int .i64 (wr .i64 (Int.tdiv (wr .i64 ((wr .i64 (a2 - a1)) - 1)) 2)))) h).bind fun p0 => za2 M p0.1 p0.2.1 p0.2.2
def z8b (M : Env) (x0 x3 : V) (x8 x9 x10 x11 : Int) (h : H) : Rl :=
 match decide (0 ≤ x11) with
 | true => ((M.call 487 [x0, x11, x10, x8, x3] h).bind fun p0 =>
 some (.normal, (z5s x0 x3 x8 x9 x10 (.int .i64 (wr .i64 (x11 - 1)))), p0.2))
 | false => (some ((.exit 0), (z8h x0 x3 x8 x9 x10), h))
def zct (M : Env) (x0 x3 : V) (x8 x9 x10 : Int) (h : H) : Rf :=
 (M.loop (z8i M) (z3h x0 x3 x8 x9 (.int .i64 (wr .i64 (x10 - 1)))) h).bind fun p0 => z65 M p0.1 p0.2.1 p0.2.2
def z8f (M : Env) (x0 x3 : V) (x8 x9 x12 : Int) (h : H) : Rl :=
 match decide (0 ≤ x12) with
 | true => ((za 1 x0 (.int .i64 (wr .i64 (x8 + x12)))).bind fun v0 =>
 (h.ld1 v0).bind fun v1 =>
 (za 1 x0 x8).bind fun v2 =>
 (h.ld1 v2).bind fun v3 =>
 (za 1 x0 x8).bind fun v4 =>
 (h.st 1 v4 v1).bind fun h5 =>
 (za 1 x0 (.int .i64 (wr .i64 (x8 + x12)))).bind fun v6 =>
 (h5.st 1 v6 v3).bind fun h7 =>
 (M.call 487 [x0, x9, x12, x8, x3] h7).bind fun p8 =>
 some (.normal, (z3h x0 x3 x8 x9 (.int .i64 (wr .i64 (x12 - 1)))), p8.2))
 | false => (some ((.exit 2), z8d, h))
def zjy (M : Env) (h : H) : Rf :=
 some ((.tup []), h)
theorem zn7 : z06 M F.z0b [a0, (.int .i64 a1), (.int .i64 a2), a3] h = z0b M a0 a1 a2 a3 h := by kernel_rfl
theorem zke : zdb M (z5s x0 x3 (.int .i64 x8) (.int .i64 x9) (.int .i64 x10) (.int .i64 x11)) h = z8b M x0 x3 x8 x9 x10 x11 h := by kernel_rfl
theorem zib : za2 M (.exit 0) (z8h x0 x3 (.int .i64 x8) (.int .i64 x9) (.int .i64 x10)) h = zct M x0 x3 x8 x9 x10 h := by kernel_rfl
theorem zk9 : z8i M (z3h x0 x3 (.int .i64 x8) (.int .i64 x9) (.int .i64 x12)) h = z8f M x0 x3 x8 x9 x12 h := by kernel_rfl
theorem zi3 : z65 M (.exit 2) z8d h = zjy M h := by kernel_rfl
def zbi (M : Env) := lb M F.zjo [0, 8, 9] []
def z4d (x0 x8 x9 : V) : List V := x0 :: dd 7 (x8 :: x9 :: dd 24 [])
def z71 : List V := dd 34 []
def zjf (M : Env) := kf F.z0c
def z7h (M : Env) := kb 0 (zjf M)
def z0c (M : Env) (a0 : V) (a1 a2 : Int) (a3 : V) (h : H) : Rf :=
 (M.loop (zbi M) (z4d a0 a1 (.int .i64 (wr .i64 (a2 - 1)))) h).bind fun p0 => z7h M p0.1 p0.2.1 p0.2.2
def z77 (M : Env) (x0 : V) (x8 x9 : Int) (h : H) : Rl :=
 match decide (x8 < x9) with
 | true => ((za 1 x0 x9).bind fun v0 =>
 (h.ld1 v0).bind fun v1 =>
 (za 1 x0 x8).bind fun v2 =>
 (h.ld1 v2).bind fun v3 =>
 (za 1 x0 x8).bind fun v4 =>
 (h.st 1 v4 v1).bind fun h5 =>
 (za 1 x0 x9).bind fun v6 =>
 (h5.st 1 v6 v3).bind fun h7 =>
 some (.normal, (z4d x0 (.int .i64 (wr .i64 (x8 + 1))) (.int .i64 (wr .i64 (x9 - 1)))), h7))
 | false => (some ((.exit 0), z71, h))
def zh7 (M : Env) (h : H) : Rf :=
 some ((.tup []), h)
theorem zjl : z06 M F.z0c [a0, (.int .i64 a1), (.int .i64 a2), a3] h = z0c M a0 a1 a2 a3 h := by kernel_rfl
theorem zhd : zbi M (z4d x0 (.int .i64 x8) (.int .i64 x9)) h = z77 M x0 x8 x9 h := by kernel_rfl
theorem zg6 : z7h M (.exit 0) z71 h = zh7 M h := by kernel_rfl
def zaf (M : Env) := lb M F.zht [0, 1, 4, 11, 12] [11]
def z24 (x0 x1 x4 x11 x12 : V) : List V := x0 :: x1 :: dd 2 (x4 :: dd 6 (x11 :: x12 :: dd 77 []))
def z3k (x11 : V) : List V := dd 11 (x11 :: dd 78 [])
def z62 (M : Env) := lb M F.zi5 [0, 1, 4, 11, 12] [0, 1, 4, 11, 12]
def z23 (x0 x1 x4 x11 x12 : V) : List V := x0 :: x1 :: dd 2 (x4 :: dd 6 (x11 :: x12 :: dd 77 []))
def z3o (x0 x1 x4 x11 x12 : V) : List V := x0 :: x1 :: dd 2 (x4 :: dd 6 (x11 :: x12 :: dd 77 []))
def z63 (M : Env) := lb M F.zif [0, 1, 4, 11, 12] [0, 1, 4, 11, 12]
def z20 (x0 x1 x4 x11 x12 : V) : List V := x0 :: x1 :: dd 2 (x4 :: dd 6 (x11 :: x12 :: dd 77 []))
def z3l (x0 x1 x4 x11 x12 : V) : List V := x0 :: x1 :: dd 2 (x4 :: dd 6 (x11 :: x12 :: dd 77 []))
def zhl (M : Env) := kf F.zt
def zhq (M : Env) := kq M F.zhs (zhl M)
def z6x (M : Env) := kb 0 (zhq M)
def zhx (M : Env) := kl [0, 1, 4, 11, 12] [11]
def zbd (M : Env) := kb 1 (zhx M)
def zhw (M : Env) := kq M F.zi2 (zbd M)
def z44 (M : Env) := kb 2 (zhw M)
def zi6 (M : Env) := kq M F.zi4 (zbd M)
def z46 (M : Env) := kb 4 (zi6 M)
def zt (M : Env) (a0 : V) (a1 a2 a3 : Int) (a4 : V) (h : H) : Rf :=
 (za 1 a0 a3).bind fun v0 =>
 (h.ld1 v0).bind fun v1 =>
 (za 1 a0 a1).bind fun v2 =>
 (h.ld1 v2).bind fun v3 =>
 (za 1 a0 a1).bind fun v4 =>
 (h.st 1 v4 v1).bind fun h5 =>
 (za 1 a0 a3).bind fun v6 =>
 (h5.st 1 v6 v3).bind fun h7 =>
 (M.loop (zaf M) (z24 a0 a1 a4 (.int .i64 (wr .i64 (a1 + 1))) (.int .i64 (wr .i64 (a2 - 1)))) h7).bind fun p8 => z6x M p8.1 p8.2.1 p8.2.2
def zag (M : Env) (x0 : V) (x1 : Int) (x4 : V) (x11 x12 : Int) (h : H) : Rl :=
 (M.loop (z62 M) (z23 x0 x1 x4 x11 x12) h).bind fun p0 => z44 M p0.1 p0.2.1 p0.2.2
def zge (M : Env) (x11 : Int) (h : H) : Rf :=
 some (x11, h)
def z3n (M : Env) (x0 : V) (x1 : Int) (x4 : V) (x11 x12 : Int) (h : H) : Rl :=
 match decide (x11 ≤ x12) with
 | true => ((za 1 x0 x1).bind fun v0 =>
 (h.ld1 v0).bind fun v1 =>
 (za 1 x0 x11).bind fun v2 =>
 (h.ld1 v2).bind fun v3 =>
 z64 M x4 [v1, v3] h fun p4 =>
 (asI .i64 p4.1).bind fun n5 =>
 match (!(decide (n5 < 0))) with
 | true => (some (.normal, (z23 x0 x1 x4 (.int .i64 (wr .i64 (x11 + 1))) x12), p4.2))
 | false => (some ((.exit 2), (z3o x0 x1 x4 x11 x12), p4.2)))
 | false => (some ((.exit 2), (z3o x0 x1 x4 x11 x12), h))
def za7 (M : Env) (x0 : V) (x1 : Int) (x4 : V) (x11 x12 : Int) (h : H) : Rl :=
 (M.loop (z63 M) (z20 x0 x1 x4 x11 x12) h).bind fun p0 => z46 M p0.1 p0.2.1 p0.2.2
def z3m (M : Env) (x0 : V) (x1 : Int) (x4 : V) (x11 x12 : Int) (h : H) : Rl :=
 match decide (x11 ≤ x12) with
 | true => ((za 1 x0 x1).bind fun v0 =>
 (h.ld1 v0).bind fun v1 =>
 (za 1 x0 x12).bind fun v2 =>
 (h.ld1 v2).bind fun v3 =>
 z64 M x4 [v1, v3] h fun p4 =>
 (asI .i64 p4.1).bind fun n5 =>
 match decide (n5 < 0) with
 | true => (some (.normal, (z20 x0 x1 x4 x11 (.int .i64 (wr .i64 (x12 - 1)))), p4.2))
 | false => (some ((.exit 4), (z3l x0 x1 x4 x11 x12), p4.2)))
 | false => (some ((.exit 4), (z3l x0 x1 x4 x11 x12), h))
def z5t (M : Env) (x0 : V) (x1 : Int) (x4 : V) (x11 x12 : Int) (h : H) : Rl :=
 match decide (x12 < x11) with
 | true => (some ((.exit 0), (z3k x11), h))
 | false => ((za 1 x0 x12).bind fun v0 =>
 (h.ld1 v0).bind fun v1 =>
 (za 1 x0 x11).bind fun v2 =>
 (h.ld1 v2).bind fun v3 =>
 (za 1 x0 x11).bind fun v4 =>
 (h.st 1 v4 v1).bind fun h5 =>
 (za 1 x0 x12).bind fun v6 =>
 (h5.st 1 v6 v3).bind fun h7 =>
 some (.normal, (z24 x0 x1 x4 (.int .i64 (wr .i64 (x11 + 1))) (.int .i64 (wr .i64 (x12 - 1)))), h7))
theorem zhm : z06 M F.zt [a0, (.int .i64 a1), (.int .i64 a2), (.int .i64 a3), a4] h = zt M a0 a1 a2 a3 a4 h := by kernel_rfl
theorem zgg : zaf M (z24 x0 (.int .i64 x1) x4 (.int .i64 x11) (.int .i64 x12)) h = zag M x0 x1 x4 x11 x12 h := by kernel_rfl
theorem zf1 : z6x M (.exit 0) (z3k (.int .i64 x11)) h = zge M x11 h := by kernel_rfl
theorem zgc : z62 M (z23 x0 (.int .i64 x1) x4 (.int .i64 x11) (.int .i64 x12)) h = z3n M x0 x1 x4 x11 x12 h := by kernel_rfl
theorem zf9 : z44 M (.exit 2) (z3o x0 (.int .i64 x1) x4 (.int .i64 x11) (.int .i64 x12)) h = za7 M x0 x1 x4 x11 x12 h := by kernel_rfl
theorem zgb : z63 M (z20 x0 (.int .i64 x1) x4 (.int .i64 x11) (.int .i64 x12)) h = z3m M x0 x1 x4 x11 x12 h := by kernel_rfl
theorem zfk : z46 M (.exit 4) (z3l x0 (.int .i64 x1) x4 (.int .i64 x11) (.int .i64 x12)) h = z5t M x0 x1 x4 x11 x12 h := by kernel_rfl
end Wm.S
end
