/- PRINTED by my tool: what functions come to, stretch by stretch. -/
import Derived.KernelRfl
import Derived.Test.YthkimcdeejjmbaaWmShal
import Derived.Test.YthkimcdeejjmbaaWmFnsLinNone
import Derived.Test.YthkimcdeejjmbaaWmFnc
import Derived.Test.YthkimcdeejjmbaaWmTxtLinNoneA
set_option linter.all false
noncomputable section
namespace Wm.S
open Wm
set_option maxRecDepth 100000
set_option autoImplicit true
set_option relaxedAutoImplicit true
def zkj (M : Env) := jb M F.zur [0, 1, 6, 7, 9, 10, 11]
def zku (x0 x1 x6 x7 x9 x10 x11 : V) : List V := x0 :: x1 :: dd 4 (x6 :: x7 :: dd 1 (x9 :: x10 :: x11 :: dd 230 []))
def z6i (x0 x1 x6 x7 x9 x10 x11 : V) : List V := x0 :: x1 :: dd 4 (x6 :: x7 :: dd 1 (x9 :: x10 :: x11 :: dd 230 []))
def zki (M : Env) := jb M F.zup [0, 1, 6, 7, 9, 10, 11, 18, 19]
def zkl (x0 x1 x6 x7 x9 x10 x11 x18 : V) : List V := x0 :: x1 :: dd 4 (x6 :: x7 :: dd 1 (x9 :: x10 :: x11 :: dd 6 (x18 :: dd 223 [])))
def zbz (x0 x1 x6 x7 x9 x10 x11 x18 x19 : V) : List V := x0 :: x1 :: dd 4 (x6 :: x7 :: dd 1 (x9 :: x10 :: x11 :: dd 6 (x18 :: x19 :: dd 222 [])))
def zfd (M : Env) := jb M F.zuu [0, 1, 6, 7, 9, 10, 11, 74]
def zef (x0 x1 x6 x7 x9 x10 x11 : V) : List V := x0 :: x1 :: dd 4 (x6 :: x7 :: dd 1 (x9 :: x10 :: x11 :: dd 230 []))
def z3k (x0 x1 x6 x7 x9 x10 x11 x74 : V) : List V := x0 :: x1 :: dd 4 (x6 :: x7 :: dd 1 (x9 :: x10 :: x11 :: dd 62 (x74 :: dd 167 [])))
def zf0 (M : Env) := jb M F.zv4 []
def zff (x0 x1 x6 x7 x9 x10 x11 : V) : List V := x0 :: x1 :: dd 4 (x6 :: x7 :: dd 1 (x9 :: x10 :: x11 :: dd 230 []))
def z0d : List V := dd 242 []
def zgf (M : Env) := kf F.z0n
def zo4 (M : Env) := kq M F.zu9 (zgf M)
def zu1 (M : Env) := kj [0, 1, 6, 7, 9, 10, 11]
def zu6 (M : Env) := kb 0 (zu1 M)
def znx (M : Env) := kq M F.zvh (zu6 M)
def zvl (M : Env) := kq M F.zv1 (zgf M)
def zgl (M : Env) := kq M F.zvb (zvl M)
def zgd (M : Env) := kq M F.zvf (zgf M)
def z0n (M : Env) (a0 : V) (a1 a2_0 a2_1 a2_2 a2_3 a2_4 a3_0 a3_1 : Int) (a3_2 : Bool) (h : H) : Rf :=
 let h0 := h.new (.cells [a2_0, a2_1, (.int .u64 a2_2), (.int .u64 a2_3), (.int .u64 a2_4)] .rw)
 let h1 := h0.new (.cells [a3_0, (.int .u64 a3_1), a3_2] .rw)
 (h1.ld1 (.ptr h.next 2)).bind fun v2 =>
 (M.call 106 [a0, a1, v2] h1).bind fun p3 =>
 (zkj M (zku a0 a1 (.ptr h.next 0) (.ptr h0.next 0) p3.1 false false) p3.2).bind fun p4 => zo4 M p4.1 p4.2.1 p4.2.2
def z3n (M : Env) (x0 : V) (x1 : Int) (x6 x7 : V) (x9 : Int) (x10 x11 : Bool) (h : H) : Rl :=
 (zm x6 0).bind fun v0 =>
 (h.ld1 v0).bind fun v1 =>
 (zki M (zkl x0 x1 x6 x7 x9 x10 x11 v1) h).bind fun p2 => znx M p2.1 p2.2.1 p2.2.2
def zfg (M : Env) (x0 : V) (x1 : Int) (x6 x7 : V) (x9 : Int) (x10 x11 : Bool) (h : H) : Rf :=
 (zfd M (zef x0 x1 x6 x7 x9 x10 x11) h).bind fun p0 => zgl M p0.1 p0.2.1 p0.2.2
def z3l (M : Env) (x0 : V) (x1 : Int) (x6 x7 : V) (x9 : Int) (x10 x11 : Bool) (x18 : Int) (h : H) : Rl :=
 match decide (x18 = 1) with
 | true => (some (.normal, (zbz x0 x1 x6 x7 x9 x10 x11 x18 (.bool (decide (x18 = 1)))), h))
 | false => (match decide (x18 = 8) with
 | true => (some (.normal, (zbz x0 x1 x6 x7 x9 x10 x11 x18 (.bool (decide (x18 = 8)))), h))
 | false => (some (.normal, (zbz x0 x1 x6 x7 x9 x10 x11 x18 (.bool (decide (x18 = 9)))), h)))
def z3q (M : Env) (x0 : V) (x1 : Int) (x6 x7 : V) (x9 : Int) (x10 x11 : Bool) (x18 : Int) (x19 : Bool) (h : H) : Rl :=
 match x19 with
 | true => (some (.normal, (z6i x0 x1 x6 x7 x9 true x11), h))
 | false => (match decide (x18 = 2) with
 | true => ((nilc x0).bind fun v0 =>
 (zm v0 6).bind fun v1 =>
 (h.ld1 v1).bind fun v2 =>
 (za 1 v2 x9).bind fun v3 =>
 (h.ld1 v3).bind fun v4 =>
 (zm x6 1).bind fun v5 =>
 (h.ld1 v5).bind fun v6 =>
 (za 1 v4 v6).bind fun v7 =>
 (h.ld1 v7).bind fun v8 =>
 (asI .i64 v8).bind fun n9 =>
 some (.normal, (z6i x0 x1 x6 x7 x9 (.bool (decide (0 ≤ n9))) x11), h))
 | false => (match decide (x18 = 5) with
 | true => ((h.ldN 5 x6).bind fun v0 =>
 (M.call 283 [x0, x1, v0] h).bind fun p1 =>
 some (.normal, (z6i x0 x1 x6 x7 x9 x10 p1.1), p1.2))
 | false => (match decide (x18 = 7) with
 | true => ((zm x6 3).bind fun v0 =>
 (h.ld1 v0).bind fun v1 =>
 (M.call 106 [x0, x1, v1] h).bind fun p2 =>
 (asI .i64 p2.1).bind fun n3 =>
 some (.normal, (z6i x0 x1 x6 x7 x9 x10 (.bool (decide (x9 = n3)))), p2.2))
 | false => (some (.normal, (z6i x0 x1 x6 x7 x9 x10 x11), h)))))
def z6j (M : Env) (x0 : V) (x1 : Int) (x6 x7 : V) (x9 : Int) (x10 x11 : Bool) (h : H) : Rl :=
 (zm x7 2).bind fun v0 =>
 (h.ld1 v0).bind fun v1 =>
 (eqV .bool v1 x11).bind fun b2 =>
 match (!b2) with
 | true => (some (.normal, (z3k x0 x1 x6 x7 x9 x10 x11 true), h))
 | false => (match x10 with
 | true => ((zm x7 1).bind fun v3 =>
 (h.ld1 v3).bind fun v4 =>
 (M.call 383 [x0, v4] h).bind fun p5 =>
 (asB p5.1).bind fun b6 =>
 match (!b6) with
 | true => (some (.normal, (z3k x0 x1 x6 x7 x9 x10 x11 true), p5.2))
 | false => (match (!x10) with
 | true => ((zm x7 1).bind fun v7 =>
 (p5.2.ld1 v7).bind fun v8 =>
 (asI .u64 v8).bind fun n9 =>
 some (.normal, (z3k x0 x1 x6 x7 x9 x10 x11 (.bool (!decide (n9 = 0)))), p5.2))
 | false => (some (.normal, (z3k x0 x1 x6 x7 x9 x10 x11 false), p5.2))))
 | false => (match (!x10) with
 | true => ((zm x7 1).bind fun v3 =>
 (h.ld1 v3).bind fun v4 =>
 (asI .u64 v4).bind fun n5 =>
 some (.normal, (z3k x0 x1 x6 x7 x9 x10 x11 (.bool (!decide (n5 = 0)))), h))
 | false => (some (.normal, (z3k x0 x1 x6 x7 x9 x10 x11 false), h))))
def zez (M : Env) (x0 : V) (x1 : Int) (x6 x7 : V) (x9 : Int) (x10 x11 x74 : Bool) (h : H) : Rf :=
 match x74 with
 | true => (some (false, h))
 | false => ((zf0 M (zff x0 x1 x6 x7 x9 x10 x11) h).bind fun p0 => zgd M p0.1 p0.2.1 p0.2.2)
def z06 (M : Env) (x0 : V) (x1 : Int) (x6 x7 : V) (x9 : Int) (x10 x11 : Bool) (h : H) : Rl :=
 (zm x6 0).bind fun v0 =>
 (h.ld1 v0).bind fun v1 =>
 (asI .i64 v1).bind fun n2 =>
 match decide (n2 = 1) with
 | true => ((nilc x0).bind fun v3 =>
 (zm v3 6).bind fun v4 =>
 (h.ld1 v4).bind fun v5 =>
 (zm x6 1).bind fun v6 =>
 (h.ld1 v6).bind fun v7 =>
 let h8 := h.new (.cells [(.int .i64 (-1))] .rw)
 (M.call 384 [(.sl h.next 0 1 (.ex 1)), v7] h8).bind fun p9 =>
 match ckB (p9.2.ld1 v4) v5 with
 | true => ((fill (repl [.nilsl] 1) [] [(0, 1, .c p9.1)]).bind fun cs10 =>
 let h11 := p9.2.new (.cells cs10 .rw)
 (h11.append 1 24 v5 (.sl p9.2.next 0 1 (.ex 1))).bind fun p12 =>
 (nilc x0).bind fun v13 =>
 (zm v13 6).bind fun v14 =>
 (p12.2.st 1 v14 p12.1).bind fun h15 =>
 (zm x7 1).bind fun v16 =>
 (h15.ld1 v16).bind fun v17 =>
 (nilc x0).bind fun v18 =>
 (zm v18 6).bind fun v19 =>
 (h15.ld1 v19).bind fun v20 =>
 (lenSl v20).bind fun n21 =>
 (M.call 385 [x0, x1, v17, (.int .i64 (wr .i64 ((n21 : Int) - 1)))] h15).bind fun p22 =>
 some (.normal, z0d, p22.2))
 | false => none)
 | false => ((asI .i64 v1).bind fun n3 =>
 match decide (n3 = 2) with
 | true => (match x10 with
 | true => ((zm x7 1).bind fun v4 =>
 (h.ld1 v4).bind fun v5 =>
 (nilc x0).bind fun v6 =>
 (zm v6 6).bind fun v7 =>
 (h.ld1 v7).bind fun v8 =>
 (za 1 v8 x9).bind fun v9 =>
 (h.ld1 v9).bind fun v10 =>
 (zm x6 1).bind fun v11 =>
 (h.ld1 v11).bind fun v12 =>
 (za 1 v10 v12).bind fun v13 =>
 (h.ld1 v13).bind fun v14 =>
 (M.call 385 [x0, x1, v5, v14] h).bind fun p15 =>
 some (.normal, z0d, p15.2))
 | false => (some (.normal, z0d, h)))
 | false => ((asI .i64 v1).bind fun n4 =>
 match decide (n4 = 3) with
 | true => ((nilc x0).bind fun v5 =>
 (zm v5 6).bind fun v6 =>
 (h.ld1 v6).bind fun v7 =>
 (za 1 v7 x9).bind fun v8 =>
 (h.ld1 v8).bind fun v9 =>
 (zm x6 1).bind fun v10 =>
 (h.ld1 v10).bind fun v11 =>
 (zm x6 3).bind fun v12 =>
 (h.ld1 v12).bind fun v13 =>
 (M.call 106 [x0, x1, v13] h).bind fun p14 =>
 match ckB (p14.2.ld1 v10) v11 with
 | true => (match ckB (p14.2.ld1 v8) v9 with
 | true => (match ckB (p14.2.ld1 v6) v7 with
 | true => ((za 1 v9 v11).bind fun v15 =>
 (p14.2.st 1 v15 p14.1).bind fun h16 =>
 some (.normal, z0d, h16))
 | false => none)
 | false => none)
 | false => none)
 | false => ((asI .i64 v1).bind fun n5 =>
 match decide (n5 = 4) with
 | true => ((nilc x0).bind fun v6 =>
 (zm v6 6).bind fun v7 =>
 (h.ld1 v7).bind fun v8 =>
 (za 1 v8 x9).bind fun v9 =>
 (h.ld1 v9).bind fun v10 =>
 (zm x6 1).bind fun v11 =>
 (h.ld1 v11).bind fun v12 =>
 (za 1 v10 v12).bind fun v13 =>
 (h.st 1 v13 (.int .i64 (-1))).bind fun h14 =>
 some (.normal, z0d, h14))
 | false => ((asI .i64 v1).bind fun n6 =>
 match decide (n6 = 5) with
 | true => (match x11 with
 | true => ((nilc x0).bind fun v7 =>
 (zm v7 6).bind fun v8 =>
 (h.ld1 v8).bind fun v9 =>
 (za 1 v9 x9).bind fun v10 =>
 (h.ld1 v10).bind fun v11 =>
 (zm x6 1).bind fun v12 =>
 (h.ld1 v12).bind fun v13 =>
 (zm x6 3).bind fun v14 =>
 (h.ld1 v14).bind fun v15 =>
 (M.call 106 [x0, x1, v15] h).bind fun p16 =>
 match ckB (p16.2.ld1 v12) v13 with
 | true => (match ckB (p16.2.ld1 v10) v11 with
 | true => (match ckB (p16.2.ld1 v8) v9 with
 | true => ((za 1 v11 v13).bind fun v17 =>
 (p16.2.st 1 v17 p16.1).bind fun h18 =>
 some (.normal, z0d, h18))
 | false => none)
 | false => none)
 | false => none)
 | false => (some (.normal, z0d, h)))
 | false => ((asI .i64 v1).bind fun n7 =>
 match decide (n7 = 6) with
 | true => ((nilc x0).bind fun v8 =>
 (zm v8 7).bind fun v9 =>
 (h.ld1 v9).bind fun v10 =>
 (za 1 v10 x1).bind fun v11 =>
 (h.ld1 v11).bind fun v12 =>
 (zm x6 2).bind fun v13 =>
 (h.ld1 v13).bind fun v14 =>
 (h.mapDel .int v12 v14).bind fun h15 =>
 some (.normal, z0d, h15))
 | false => ((asI .i64 v1).bind fun n8 =>
 match decide (n8 = 8) with
 | true => ((nilc x0).bind fun v9 =>
 (zm v9 9).bind fun v10 =>
 (h.ld1 v10).bind fun v11 =>
 (zm x7 1).bind fun v12 =>
 (h.ld1 v12).bind fun v13 =>
 (h.mapSet .int v11 v13 (1:Int)).bind fun h14 =>
 (nilc x0).bind fun v15 =>
 (zm v15 8).bind fun v16 =>
 (h14.ld1 v16).bind fun v17 =>
 (zm x7 1).bind fun v18 =>
 (h14.ld1 v18).bind fun v19 =>
 (M.call 386 [x0, x9] h14).bind fun p20 =>
 match ckB (p20.2.ld1 v18) v19 with
 | true => (match ckB (p20.2.ld1 v16) v17 with
 | true => ((fill [(.int .u64 0), .nilsl] [] [(0, 1, .c v19), (1, 1, .c p20.1)]).bind fun cs21 =>
 (za 2 v17 x1).bind fun v22 =>
 (p20.2.st 2 v22 (.agg cs21)).bind fun h23 =>
 some (.normal, z0d, h23))
 | false => none)
 | false => none)
 | false => ((asI .i64 v1).bind fun n9 =>
 match decide (n9 = 9) with
 | true => ((zm x7 1).bind fun v10 =>
 (h.ld1 v10).bind fun v11 =>
 (nilc x0).bind fun v12 =>
 (zm v12 8).bind fun v13 =>
 (h.ld1 v13).bind fun v14 =>
 (za 2 v14 x1).bind fun v15 =>
 (zm v15 1).bind fun v16 =>
 (h.ld1 v16).bind fun v17 =>
 (za 1 v17 (0:Int)).bind fun v18 =>
 (h.ld1 v18).bind fun v19 =>
 (M.call 385 [x0, x1, v11, v19] h).bind fun p20 =>
 (nilc x0).bind fun v21 =>
 (zm v21 8).bind fun v22 =>
 (p20.2.ld1 v22).bind fun v23 =>
 (nilc x0).bind fun v24 =>
 (zm v24 8).bind fun v25 =>
 (p20.2.ld1 v25).bind fun v26 =>
 (za 2 v26 x1).bind fun v27 =>
 (zm v27 1).bind fun v28 =>
 (p20.2.ld1 v28).bind fun v29 =>
 (z63 1 v29 (some (1:Int)) none none).bind fun v30 =>
 (za 2 v23 x1).bind fun v31 =>
 (zm v31 1).bind fun v32 =>
 (p20.2.st 1 v32 v30).bind fun h33 =>
 some (.normal, z0d, h33))
 | false => ((asI .i64 v1).bind fun n10 =>
 match decide (n10 = 10) with
 | true => ((nilc x0).bind fun v11 =>
 (zm v11 8).bind fun v12 =>
 (h.ld1 v12).bind fun v13 =>
 (za 2 v13 x1).bind fun v14 =>
 (h.st 2 v14 (.agg [(.int .u64 0), .nilsl])).bind fun h15 =>
 some (.normal, z0d, h15))
 | false => (some (.normal, z0d, h))))))))))
def zsm (M : Env) (h : H) : Rf :=
 some (true, h)
theorem zui : z04 M F.z0n [a0, (.int .i64 a1), (.agg [(.int .i64 a2_0), (.int .i64 a2_1), (.int .u64 a2_2), (.int .u64 a2_3), (.int .u64 a2_4)]), (.agg [(.int .i64 a3_0), (.int .u64 a3_1), (.bool a3_2)])] h = z0n M a0 a1 a2_0 a2_1 a2_2 a2_3 a2_4 a3_0 a3_1 a3_2 h := by kernel_rfl
theorem z4d : zkj M (zku x0 (.int .i64 x1) x6 x7 (.int .i64 x9) (.bool x10) (.bool x11)) h = z3n M x0 x1 x6 x7 x9 x10 x11 h := by kernel_rfl
theorem z37 : zo4 M .normal (z6i x0 (.int .i64 x1) x6 x7 (.int .i64 x9) (.bool x10) (.bool x11)) h = zfg M x0 x1 x6 x7 x9 x10 x11 h := by kernel_rfl
theorem z4c : zki M (zkl x0 (.int .i64 x1) x6 x7 (.int .i64 x9) (.bool x10) (.bool x11) (.int .i64 x18)) h = z3l M x0 x1 x6 x7 x9 x10 x11 x18 h := by kernel_rfl
theorem z3c : znx M .normal (zbz x0 (.int .i64 x1) x6 x7 (.int .i64 x9) (.bool x10) (.bool x11) (.int .i64 x18) (.bool x19)) h = z3q M x0 x1 x6 x7 x9 x10 x11 x18 x19 h := by kernel_rfl
theorem zrt : zfd M (zef x0 (.int .i64 x1) x6 x7 (.int .i64 x9) (.bool x10) (.bool x11)) h = z6j M x0 x1 x6 x7 x9 x10 x11 h := by kernel_rfl
theorem zqs : zgl M .normal (z3k x0 (.int .i64 x1) x6 x7 (.int .i64 x9) (.bool x10) (.bool x11) (.bool x74)) h = zez M x0 x1 x6 x7 x9 x10 x11 x74 h := by kernel_rfl
theorem zrv : zf0 M (zff x0 (.int .i64 x1) x6 x7 (.int .i64 x9) (.bool x10) (.bool x11)) h = z06 M x0 x1 x6 x7 x9 x10 x11 h := by kernel_rfl
theorem zqe : zgd M .normal z0d h = zsm M h := by kernel_rfl
def zkn (M : Env) := jb M F.zuc [0, 1, 6, 7, 9, 10]
def zkp (x0 x1 x6 x7 x10 : V) : List V := x0 :: x1 :: dd 4 (x6 :: x7 :: dd 2 (x10 :: dd 74 []))
def z8h (x0 x1 x6 x7 x9 x10 : V) : List V := x0 :: x1 :: dd 4 (x6 :: x7 :: dd 1 (x9 :: x10 :: dd 74 []))
def zkt (M : Env) := jb M F.zuj [0, 1, 6, 7, 10, 22]
def zkv (x0 x1 x6 x7 x10 : V) : List V := x0 :: x1 :: dd 4 (x6 :: x7 :: dd 2 (x10 :: dd 74 []))
def zev (x0 x1 x6 x7 x10 x22 : V) : List V := x0 :: x1 :: dd 4 (x6 :: x7 :: dd 2 (x10 :: dd 11 (x22 :: dd 62 [])))
def zux (M : Env) := kf F.z26
def znz (M : Env) := kq M F.zv0 (zux M)
def zuq (M : Env) := kj [0, 1, 6, 7, 9, 10]
def zuk (M : Env) := kb 0 (zuq M)
def zo0 (M : Env) := kq M F.zuo (zuk M)
def z26 (M : Env) (a0 : V) (a1 a2_0 a2_1 a2_2 a2_3 a2_4 a3_0 a3_1 : Int) (a3_2 : Bool) (h : H) : Rf :=
 let h0 := h.new (.cells [a2_0, a2_1, (.int .u64 a2_2), (.int .u64 a2_3), (.int .u64 a2_4)] .rw)
 let h1 := h0.new (.cells [a3_0, (.int .u64 a3_1), a3_2] .rw)
 (M.call 279 [a0, a1] h1).bind fun p2 =>
 (asB p2.1).bind fun b3 =>
 match (!b3) with
 | true => (some (false, p2.2))
 | false => ((zkn M (zkp a0 a1 (.ptr h.next 0) (.ptr h0.next 0) false) p2.2).bind fun p4 => znz M p4.1 p4.2.1 p4.2.2)
def zko (M : Env) (x0 : V) (x1 : Int) (x6 x7 : V) (x10 : Bool) (h : H) : Rl :=
 (zkt M (zkv x0 x1 x6 x7 x10) h).bind fun p0 => zo0 M p0.1 p0.2.1 p0.2.2
def z1x (M : Env) (x0 : V) (x1 : Int) (x6 x7 : V) (x9 : Int) (x10 : Bool) (h : H) : Rf :=
 match (!decide (x9 = 0)) with
 | true => ((h.ldN 3 x7).bind fun v0 =>
 (eqV (.agg [(0, .int), (1, .int), (2, .bool)]) v0 (.agg [x9, (.int .u64 0), false])).bind fun b1 =>
 some (b1, h))
 | false => ((zm x7 0).bind fun v0 =>
 (h.ld1 v0).bind fun v1 =>
 (asI .i64 v1).bind fun n2 =>
 match decide (n2 = 4) with
 | true => (match x10 with
 | true => ((h.ldN 3 x7).bind fun v3 =>
 (eqV (.agg [(0, .int), (1, .int), (2, .bool)]) v3 (.agg [(4:Int), (.int .u64 0), false])).bind fun b4 =>
 match b4 with
 | true => ((zm x6 0).bind fun v5 =>
 (h.ld1 v5).bind fun v6 =>
 (asI .i64 v6).bind fun n7 =>
 match decide (n7 = 5) with
 | true => ((h.ldN 5 x6).bind fun v8 =>
 (M.call 283 [x0, x1, v8] h).bind fun p9 =>
 (asB p9.1).bind fun b10 =>
 some ((.bool (!(!b10))), p9.2))
 | false => (some (true, h)))
 | false => (some (false, h)))
 | false => (some (false, h)))
 | false => ((zm x7 0).bind fun v3 =>
 (h.ld1 v3).bind fun v4 =>
 (asI .i64 v4).bind fun n5 =>
 match decide (n5 = 0) with
 | true => ((h.ldN 5 x6).bind fun v6 =>
 (h.ldN 3 x7).bind fun v7 =>
 (M.call 284 [x0, x1, v6, v7] h).bind fun p8 =>
 some (p8.1, p8.2))
 | false => (some (false, h))))
def z6k (M : Env) (x0 : V) (x1 : Int) (x6 x7 : V) (x10 : Bool) (h : H) : Rl :=
 (zm x6 0).bind fun v0 =>
 (h.ld1 v0).bind fun v1 =>
 (asI .i64 v1).bind fun n2 =>
 match decide (n2 < 1) with
 | true => (some (.normal, (zev x0 x1 x6 x7 x10 true), h))
 | false => ((zm x6 0).bind fun v3 =>
 (h.ld1 v3).bind fun v4 =>
 (asI .i64 v4).bind fun n5 =>
 some (.normal, (zev x0 x1 x6 x7 x10 (.bool (decide (10 < n5)))), h))
def z6h (M : Env) (x0 : V) (x1 : Int) (x6 x7 : V) (x10 x22 : Bool) (h : H) : Rl :=
 match x22 with
 | true => (some (.normal, (z8h x0 x1 x6 x7 (8:Int) x10), h))
 | false => ((zm x6 0).bind fun v0 =>
 (h.ld1 v0).bind fun v1 =>
 (asI .i64 v1).bind fun n2 =>
 match decide (n2 = 1) with
 | true => ((h.ldN 5 x6).bind fun v3 =>
 (M.call 280 [x0, x1, v3] h).bind fun p4 =>
 some (.normal, (z8h x0 x1 x6 x7 p4.1 true), p4.2))
 | false => ((zm x6 0).bind fun v3 =>
 (h.ld1 v3).bind fun v4 =>
 (M.call 82 [v4] h).bind fun p5 =>
 (asB p5.1).bind fun b6 =>
 match b6 with
 | true => ((p5.2.ldN 5 x6).bind fun v7 =>
 (M.call 281 [x0, x1, v7] p5.2).bind fun p8 =>
 some (.normal, (z8h x0 x1 x6 x7 p8.1 x10), p8.2))
 | false => ((p5.2.ldN 5 x6).bind fun v7 =>
 (zm x6 0).bind fun v8 =>
 (p5.2.ld1 v8).bind fun v9 =>
 (M.call 282 [x0, x1, v7] p5.2).bind fun p10 =>
 match ckB (p10.2.ld1 v8) v9 with
 | true => ((M.call 83 [v9] p10.2).bind fun p11 =>
 some (.normal, (z8h x0 x1 x6 x7 p10.1 p11.1), p11.2))
 | false => none)))
theorem zue : z04 M F.z26 [a0, (.int .i64 a1), (.agg [(.int .i64 a2_0), (.int .i64 a2_1), (.int .u64 a2_2), (.int .u64 a2_3), (.int .u64 a2_4)]), (.agg [(.int .i64 a3_0), (.int .u64 a3_1), (.bool a3_2)])] h = z26 M a0 a1 a2_0 a2_1 a2_2 a2_3 a2_4 a3_0 a3_1 a3_2 h := by kernel_rfl
theorem zrp : zkn M (zkp x0 (.int .i64 x1) x6 x7 (.bool x10)) h = zko M x0 x1 x6 x7 x10 h := by kernel_rfl
theorem z6o : znz M .normal (z8h x0 (.int .i64 x1) x6 x7 (.int .i64 x9) (.bool x10)) h = z1x M x0 x1 x6 x7 x9 x10 h := by kernel_rfl
theorem z7g : zkt M (zkv x0 (.int .i64 x1) x6 x7 (.bool x10)) h = z6k M x0 x1 x6 x7 x10 h := by kernel_rfl
theorem z6v : zo0 M .normal (zev x0 (.int .i64 x1) x6 x7 (.bool x10) (.bool x22)) h = z6h M x0 x1 x6 x7 x10 x22 h := by kernel_rfl
def zsk (M : Env) := lb M F.z04n [3, 15, 16] [3]
def zi2 (x3 x15 x16 : V) : List V := dd 3 (x3 :: dd 11 (x15 :: x16 :: dd 13 []))
def zos (x3 : V) : List V := dd 3 (x3 :: dd 26 [])
def z03z (M : Env) := kf F.zb3
def z04b (M : Env) := kq M F.z031 (z03z M)
def zqb (M : Env) := kb 0 (z04b M)
def zb3 (M : Env) (a0_0 a0_1 a0_2 a0_3 a0_4 a0_5 : Int) (h : H) : Rf :=
 let h0 := h.new (.cells [a0_0, a0_1, a0_2, a0_3, a0_4, a0_5] .rw)
 (h0.ldN 6 (.ptr h.next 0)).bind fun v1 =>
 (M.call 263 [v1] h0).bind fun p2 =>
 (asB p2.1).bind fun b3 =>
 match (!b3) with
 | true => (some (.nilp, p2.2))
 | false => ((p2.2.ldN 6 (.ptr h.next 0)).bind fun v4 =>
 (p2.2.ld1 (.ptr h.next 2)).bind fun v5 =>
 (asI .i64 v5).bind fun n6 =>
 (asI .i64 v5).bind fun n7 =>
 (p2.2.mkSl 2 32 [(.int .u64 0), .nilsl] n6 n7).bind fun p8 =>
 let h9 := p8.2.new (.map [])
 (fill [(0:Int), (0:Int), (0:Int), (0:Int), (0:Int), (0:Int), .nilsl, .nilsl, .nilsl, .nilmap] [] [(0, 6, .c v4), (8, 1, .c p8.1), (9, 1, .c (.map p8.2.next))]).bind fun cs10 =>
 (boxc (.agg cs10)).bind fun cs11 =>
 let h12 := h9.new (.cells cs11 .rw)
 (h12.ld1 (.ptr h.next 2)).bind fun v13 =>
 (M.loop (zsk M) (zi2 (.ptr h9.next 0) v13 (0:Int)) h12).bind fun p14 => zqb M p14.1 p14.2.1 p14.2.2)
def zog (M : Env) (x3 : V) (x15 x16 : Int) (h : H) : Rl :=
 match decide (x16 < x15) with
 | true => ((nilc x3).bind fun v0 =>
 (zm v0 7).bind fun v1 =>
 (h.ld1 v1).bind fun v2 =>
 let h3 := h.new (.map [])
 let h4 := h3.new (.cells [(.map h.next)] .rw)
 (h4.append 1 8 v2 (.sl h3.next 0 1 (.ex 1))).bind fun p5 =>
 (nilc x3).bind fun v6 =>
 (zm v6 7).bind fun v7 =>
 (p5.2.st 1 v7 p5.1).bind fun h8 =>
 some (.normal, (zi2 x3 x15 (.int .i64 (wr .i64 (x16 + 1)))), h8))
 | false => (some ((.exit 0), (zos x3), h))
def zyo (M : Env) (x3 : V) (h : H) : Rf :=
 some (x3, h)
theorem z038 : z04 M F.zb3 [(.agg [(.int .i64 a0_0), (.int .i64 a0_1), (.int .i64 a0_2), (.int .i64 a0_3), (.int .i64 a0_4), (.int .i64 a0_5)])] h = zb3 M a0_0 a0_1 a0_2 a0_3 a0_4 a0_5 h := by kernel_rfl
theorem zz0 : zsk M (zi2 x3 (.int .i64 x15) (.int .i64 x16)) h = zog M x3 x15 x16 h := by kernel_rfl
theorem zwj : zqb M (.exit 0) (zos x3) h = zyo M x3 h := by kernel_rfl
def zkx (M : Env) := lb M F.zvg [0, 3, 29, 30, 31] [0, 3]
def z8j (x0 x3 x29 x30 x31 : V) : List V := x0 :: dd 2 (x3 :: dd 25 (x29 :: x30 :: x31 :: dd 37 []))
def zej (x0 x3 : V) : List V := x0 :: dd 2 (x3 :: dd 65 [])
def zkw (M : Env) := lb M F.zu3 [3, 50, 51, 52] [3]
def z8g (x3 x50 x51 x52 : V) : List V := dd 3 (x3 :: dd 46 (x50 :: x51 :: x52 :: dd 16 []))
def zf2 (x3 : V) : List V := dd 3 (x3 :: dd 65 [])
def zo5 (M : Env) := kf F.z25
def zvk (M : Env) := kq M F.zve (zo5 M)
def zgb (M : Env) := kb 0 (zvk M)
def zua (M : Env) := kq M F.zuv (zo5 M)
def zgn (M : Env) := kb 2 (zua M)
def z25 (M : Env) (a0 : V) (h : H) : Rf :=
 (eqV .ptr a0 .nilp).bind fun b0 =>
 match b0 with
 | true => (some (.nilp, h))
 | false => ((nilc a0).bind fun v1 =>
 (zm v1 0).bind fun v2 =>
 (h.ldN 6 v2).bind fun v3 =>
 (nilc a0).bind fun v4 =>
 (zm v4 8).bind fun v5 =>
 (h.ld1 v5).bind fun v6 =>
 (nilc a0).bind fun v7 =>
 (zm v7 9).bind fun v8 =>
 (h.ld1 v8).bind fun v9 =>
 (M.call 285 [v6] h).bind fun p10 =>
 match ckB (p10.2.ld1 v8) v9 with
 | true => (match ckB (p10.2.ldN 6 v2) v3 with
 | true => ((M.call 286 [v9] p10.2).bind fun p11 =>
 match ckB (p11.2.ldN 6 v2) v3 with
 | true => ((fill [(0:Int), (0:Int), (0:Int), (0:Int), (0:Int), (0:Int), .nilsl, .nilsl, .nilsl, .nilmap] [] [(0, 6, .c v3), (8, 1, .c p10.1), (9, 1, .c p11.1)]).bind fun cs12 =>
 (boxc (.agg cs12)).bind fun cs13 =>
 let h14 := p11.2.new (.cells cs13 .rw)
 (nilc a0).bind fun v15 =>
 (zm v15 6).bind fun v16 =>
 (h14.ld1 v16).bind fun v17 =>
 (lenSl v17).bind fun n18 =>
 (M.loop (zkx M) (z8j a0 (.ptr p11.2.next 0) v17 (.int .i64 (n18 : Int)) (0:Int)) h14).bind fun p19 => zgb M p19.1 p19.2.1 p19.2.2)
 | false => none)
 | false => none)
 | false => none)
def zbu (M : Env) (x0 x3 x29 : V) (x30 x31 : Int) (h : H) : Rl :=
 match decide (x31 < x30) with
 | true => ((za 1 x29 x31).bind fun v0 =>
 (h.ld1 v0).bind fun v1 =>
 (nilc x3).bind fun v2 =>
 (zm v2 6).bind fun v3 =>
 (h.ld1 v3).bind fun v4 =>
 (M.call 287 [v1] h).bind fun p5 =>
 match ckB (p5.2.ld1 v3) v4 with
 | true => ((fill (repl [.nilsl] 1) [] [(0, 1, .c p5.1)]).bind fun cs6 =>
 let h7 := p5.2.new (.cells cs6 .rw)
 (h7.append 1 24 v4 (.sl p5.2.next 0 1 (.ex 1))).bind fun p8 =>
 (nilc x3).bind fun v9 =>
 (zm v9 6).bind fun v10 =>
 (p8.2.st 1 v10 p8.1).bind fun h11 =>
 some (.normal, (z8j x0 x3 x29 x30 (.int .i64 (wr .i64 (x31 + 1)))), h11))
 | false => none)
 | false => (some ((.exit 0), (zej x0 x3), h))
def zjp (M : Env) (x0 x3 : V) (h : H) : Rf :=
 (nilc x0).bind fun v0 =>
 (zm v0 7).bind fun v1 =>
 (h.ld1 v1).bind fun v2 =>
 (lenSl v2).bind fun n3 =>
 (M.loop (zkw M) (z8g x3 v2 (.int .i64 (n3 : Int)) (0:Int)) h).bind fun p4 => zgn M p4.1 p4.2.1 p4.2.2
def zbr (M : Env) (x3 x50 : V) (x51 x52 : Int) (h : H) : Rl :=
 match decide (x52 < x51) with
 | true => ((za 1 x50 x52).bind fun v0 =>
 (h.ld1 v0).bind fun v1 =>
 (nilc x3).bind fun v2 =>
 (zm v2 7).bind fun v3 =>
 (h.ld1 v3).bind fun v4 =>
 (M.call 286 [v1] h).bind fun p5 =>
 match ckB (p5.2.ld1 v3) v4 with
 | true => ((fill (repl [.nilmap] 1) [] [(0, 1, .c p5.1)]).bind fun cs6 =>
 let h7 := p5.2.new (.cells cs6 .rw)
 (h7.append 1 8 v4 (.sl p5.2.next 0 1 (.ex 1))).bind fun p8 =>
 (nilc x3).bind fun v9 =>
 (zm v9 7).bind fun v10 =>
 (p8.2.st 1 v10 p8.1).bind fun h11 =>
 some (.normal, (z8g x3 x50 x51 (.int .i64 (wr .i64 (x52 + 1)))), h11))
 | false => none)
 | false => (some ((.exit 2), (zf2 x3), h))
def zrs (M : Env) (x3 : V) (h : H) : Rf :=
 some (x3, h)
theorem zu5 : z04 M F.z25 [a0] h = z25 M a0 h := by kernel_rfl
theorem zs0 : zkx M (z8j x0 x3 x29 (.int .i64 x30) (.int .i64 x31)) h = zbu M x0 x3 x29 x30 x31 h := by kernel_rfl
theorem zq1 : zgb M (.exit 0) (zej x0 x3) h = zjp M x0 x3 h := by kernel_rfl
theorem zrl : zkw M (z8g x3 x50 (.int .i64 x51) (.int .i64 x52)) h = zbr M x3 x50 x51 x52 h := by kernel_rfl
theorem zq0 : zgn M (.exit 2) (zf2 x3) h = zrs M x3 h := by kernel_rfl
def z2q (M : Env) (a0 : V) (h : H) : Rf :=
 (eqV .sl a0 .nilsl).bind fun b0 =>
 match b0 with
 | true => (some (.nilsl, h))
 | false => (let h1 := h.new (.cells [] .rw)
 (h1.append 1 8 (.sl h.next 0 0 (.ex 0)) a0).bind fun p2 =>
 some (p2.1, p2.2))
theorem zpq : z04 M F.z2q [a0] h = z2q M a0 h := by kernel_rfl
def z0f (M : Env) (a0 : V) (h : H) : Rf :=
 (eqV .sl a0 .nilsl).bind fun b0 =>
 match b0 with
 | true => (some (.nilsl, h))
 | false => (let h1 := h.new (.cells [] .rw)
 (h1.append 2 32 (.sl h.next 0 0 (.ex 0)) a0).bind fun p2 =>
 some (p2.1, p2.2))
theorem zfw : z04 M F.z0f [a0] h = z0f M a0 h := by kernel_rfl
def z0e (M : Env) (a0 : V) (h : H) : Rf :=
 (eqV .map a0 .nilmap).bind fun b0 =>
 match b0 with
 | true => (some (.nilmap, h))
 | false => ((h.cloneM (.ifc 159 a0)).bind fun p1 =>
 (zzj 159 p1.1).bind fun v2 =>
 some (v2, p1.2))
theorem zfx : z04 M F.z0e [a0] h = z0e M a0 h := by kernel_rfl
def zrg (M : Env) := lb M F.z021 [1, 2, 7, 12, 13, 14] [2, 6, 7]
def zdx (x1 x2 x7 x12 x13 x14 : V) : List V := dd 1 (x1 :: x2 :: dd 4 (x7 :: dd 4 (x12 :: x13 :: x14 :: dd 38 [])))
def z51 (x2 x6 x7 : V) : List V := dd 2 (x2 :: dd 3 (x6 :: x7 :: dd 45 []))
def z02g (M : Env) := kf F.z9f
def z02l (M : Env) := kq M F.z022 (z02g M)
def zg5 (M : Env) := kb 0 (z02l M)
def z9f (M : Env) (a0_0 a0_1 a0_2 a0_3 a0_4 a0_5 : Int) (a1 a2 : V) (h : H) : Rf :=
 let h0 := h.new (.cells [a0_0, a0_1, a0_2, a0_3, a0_4, a0_5] .rw)
 (h0.ldN 6 (.ptr h.next 0)).bind fun v1 =>
 (M.call 96 [v1] h0).bind fun p2 =>
 (lenSl a2).bind fun n3 =>
 (M.loop (zrg M) (zdx a1 a2 p2.1 a2 (.int .i64 (n3 : Int)) (0:Int)) p2.2).bind fun p4 => zg5 M p4.1 p4.2.1 p4.2.2
def z9t (M : Env) (x1 x2 x7 x12 : V) (x13 x14 : Int) (h : H) : Rl :=
 match decide (x14 < x13) with
 | true => ((za 1 x12 x14).bind fun v0 =>
 (h.ld1 v0).bind fun v1 =>
 (asI .i64 v1).bind fun n2 =>
 match decide (n2 < 0) with
 | true => (some (.ret, (z51 x2 x14 x7), h))
 | false => ((lenSl x1).bind fun n3 =>
 (asI .i64 v1).bind fun n4 =>
 match decide ((n3 : Int) ≤ n4) with
 | true => (some (.ret, (z51 x2 x14 x7), h))
 | false => ((za 14 x1 v1).bind fun v5 =>
 (zm v5 0).bind fun v6 =>
 (h.ld1 v6).bind fun v7 =>
 (za 14 x1 v1).bind fun v8 =>
 (zm v8 6).bind fun v9 =>
 (h.ldN 5 v9).bind fun v10 =>
 (za 14 x1 v1).bind fun v11 =>
 (zm v11 11).bind fun v12 =>
 (h.ldN 3 v12).bind fun v13 =>
 (M.call 103 [x7, v7, v10, v13] h).bind fun p14 =>
 (asB p14.1).bind fun b15 =>
 match (!b15) with
 | true => (some (.ret, (z51 x2 x14 x7), p14.2))
 | false => (some (.normal, (zdx x1 x2 x7 x12 x13 (.int .i64 (wr .i64 (x14 + 1)))), p14.2)))))
 | false => (some ((.exit 0), (z51 x2 .dead x7), h))
def zqg (M : Env) (x2 x6 x7 : V) (h : H) : Rf :=
 (eqV .ptr x7 .nilp).bind fun b0 =>
 match b0 with
 | true => (some ((0:Int), h))
 | false => ((lenSl x2).bind fun n1 =>
 some ((.int .i64 (n1 : Int)), h))
def zz9 (M : Env) (x2 : V) (x6 : Int) (x7 : V) (h : H) : Rf :=
 some (x6, h)
theorem z025 : z04 M F.z9f [(.agg [(.int .i64 a0_0), (.int .i64 a0_1), (.int .i64 a0_2), (.int .i64 a0_3), (.int .i64 a0_4), (.int .i64 a0_5)]), a1, a2] h = z9f M a0_0 a0_1 a0_2 a0_3 a0_4 a0_5 a1 a2 h := by kernel_rfl
theorem zxr : zrg M (zdx x1 x2 x7 x12 (.int .i64 x13) (.int .i64 x14)) h = z9t M x1 x2 x7 x12 x13 x14 h := by kernel_rfl
theorem zuh : zg5 M (.exit 0) (z51 x2 x6 x7) h = zqg M x2 x6 x7 h := by kernel_rfl
theorem zvx : zg5 M .ret (z51 x2 (.int .i64 x6) x7) h = zz9 M x2 x6 x7 h := by kernel_rfl
def zap (M : Env) := lb M F.zih [0, 1, 2, 3, 8] []
def z28 (x0 x1 x2 x3 x8 : V) : List V := x0 :: x1 :: x2 :: x3 :: dd 4 (x8 :: dd 44 [])
def z6d : List V := dd 53 []
def z6e (M : Env) := lb M F.zi7 [0, 1, 2, 3, 8, 9] [0, 1, 2, 3, 8]
def z2b (x0 x1 x2 x3 x8 x9 : V) : List V := x0 :: x1 :: x2 :: x3 :: dd 4 (x8 :: x9 :: dd 43 [])
def z3x (x0 x1 x2 x3 x8 : V) : List V := x0 :: x1 :: x2 :: x3 :: dd 4 (x8 :: dd 44 [])
def zis (M : Env) := kf F.z01
def z75 (M : Env) := kb 0 (zis M)
def zib (M : Env) := kl [0, 1, 2, 3, 8] []
def zil (M : Env) := kq M F.zig (zib M)
def zin (M : Env) := kb 1 (zil M)
def z4h (M : Env) := kb 2 (zin M)
def z01 (M : Env) (a0 : V) (a1 a2 : Int) (a3 : V) (h : H) : Rf :=
 (M.loop (zap M) (z28 a0 a1 a2 a3 (.int .i64 (wr .i64 (a1 + 1)))) h).bind fun p0 => z75 M p0.1 p0.2.1 p0.2.2
def z6a (M : Env) (x0 : V) (x1 x2 : Int) (x3 : V) (x8 : Int) (h : H) : Rl :=
 match decide (x8 < x2) with
 | true => ((M.loop (z6e M) (z2b x0 x1 x2 x3 x8 x8) h).bind fun p0 => z4h M p0.1 p0.2.1 p0.2.2)
 | false => (some ((.exit 0), z6d, h))
def zgh (M : Env) (h : H) : Rf :=
 some ((.tup []), h)
def z3y (M : Env) (x0 : V) (x1 x2 : Int) (x3 : V) (x8 x9 : Int) (h : H) : Rl :=
 match decide (x1 < x9) with
 | true => ((za 1 x0 x9).bind fun v0 =>
 (h.ld1 v0).bind fun v1 =>
 (za 1 x0 (.int .i64 (wr .i64 (x9 - 1)))).bind fun v2 =>
 (h.ld1 v2).bind fun v3 =>
 z67 M x3 [v1, v3] h fun p4 =>
 (asI .i64 p4.1).bind fun n5 =>
 match decide (n5 < 0) with
 | true => ((za 1 x0 (.int .i64 (wr .i64 (x9 - 1)))).bind fun v6 =>
 (p4.2.ld1 v6).bind fun v7 =>
 (za 1 x0 x9).bind fun v8 =>
 (p4.2.ld1 v8).bind fun v9 =>
 (za 1 x0 x9).bind fun v10 =>
 (p4.2.st 1 v10 v7).bind fun h11 =>
 (za 1 x0 (.int .i64 (wr .i64 (x9 - 1)))).bind fun v12 =>
 (h11.st 1 v12 v9).bind fun h13 =>
 some (.normal, (z2b x0 x1 x2 x3 x8 (.int .i64 (wr .i64 (x9 - 1)))), h13))
 | false => (some ((.exit 2), (z3x x0 x1 x2 x3 x8), p4.2)))
 | false => (some ((.exit 2), (z3x x0 x1 x2 x3 x8), h))
def za5 (M : Env) (x0 : V) (x1 x2 : Int) (x3 : V) (x8 : Int) (h : H) : Rl :=
 some (.normal, (z28 x0 x1 x2 x3 (.int .i64 (wr .i64 (x8 + 1)))), h)
theorem zic : z04 M F.z01 [a0, (.int .i64 a1), (.int .i64 a2), a3] h = z01 M a0 a1 a2 a3 h := by kernel_rfl
theorem zgc : zap M (z28 x0 (.int .i64 x1) (.int .i64 x2) x3 (.int .i64 x8)) h = z6a M x0 x1 x2 x3 x8 h := by kernel_rfl
theorem zfo : z75 M (.exit 0) z6d h = zgh M h := by kernel_rfl
theorem zgm : z6e M (z2b x0 (.int .i64 x1) (.int .i64 x2) x3 (.int .i64 x8) (.int .i64 x9)) h = z3y M x0 x1 x2 x3 x8 x9 h := by kernel_rfl
theorem zfp : z4h M (.exit 2) (z3x x0 (.int .i64 x1) (.int .i64 x2) x3 (.int .i64 x8)) h = za5 M x0 x1 x2 x3 x8 h := by kernel_rfl
def zcn (M : Env) := lb M F.zn1 [0, 2, 3, 4, 10] []
def z27 (x0 x2 x3 x4 x10 : V) : List V := x0 :: dd 1 (x2 :: x3 :: x4 :: dd 5 (x10 :: dd 71 []))
def z1e : List V := dd 82 []
def zm5 (M : Env) := kf F.z0p
def z42 (M : Env) := kb 0 (zm5 M)
def z0p (M : Env) (a0 : V) (a1 a2 a3 : Int) (a4 : V) (h : H) : Rf :=
 (M.loop (zcn M) (z27 a0 a2 a3 a4 a1) h).bind fun p0 => z42 M p0.1 p0.2.1 p0.2.2
def z0x (M : Env) (x0 : V) (x2 x3 : Int) (x4 : V) (x10 : Int) (h : H) : Rl :=
 match (decide (x2 ≤ (wr .i64 ((wr .i64 (2 * x10)) + 1)))) with
 | true => (some ((.exit 0), z1e, h))
 | false => (match (decide ((wr .i64 ((wr .i64 ((wr .i64 (2 * x10)) + 1)) + 1)) < x2)) with
 | true => ((za 1 x0 (.int .i64 (wr .i64 (x3 + (wr .i64 ((wr .i64 (2 * x10)) + 1)))))).bind fun v0 =>
 (h.ld1 v0).bind fun v1 =>
 (za 1 x0 (.int .i64 (wr .i64 ((wr .i64 (x3 + (wr .i64 ((wr .i64 (2 * x10)) + 1)))) + 1)))).bind fun v2 =>
 (h.ld1 v2).bind fun v3 =>
 z67 M x4 [v1, v3] h fun p4 =>
 (asI .i64 p4.1).bind fun n5 =>
 match decide (n5 < 0) with
 | true => ((za 1 x0 (.int .i64 (wr .i64 (x3 + x10)))).bind fun v6 =>
 (p4.2.ld1 v6).bind fun v7 =>
 (za 1 x0 (.int .i64 (wr .i64 (x3 + (wr .i64 ((wr .i64 ((wr .i64 (2 * x10)) + 1)) + 1)))))).bind fun v8 =>
 (p4.2.ld1 v8).bind fun v9 =>
 z67 M x4 [v7, v9] p4.2 fun p10 =>
 (asI .i64 p10.1).bind fun n11 =>
 match (!(decide (n11 < 0))) with
 | true => (some (.ret, z1e, p10.2))
 | false => ((za 1 x0 (.int .i64 (wr .i64 (x3 + (wr .i64 ((wr .i64 ((wr .i64 (2 * x10)) + 1)) + 1)))))).bind fun v12 =>
 (p10.2.ld1 v12).bind fun v13 =>
 (za 1 x0 (.int .i64 (wr .i64 (x3 + x10)))).bind fun v14 =>
 (p10.2.ld1 v14).bind fun v15 =>
 (za 1 x0 (.int .i64 (wr .i64 (x3 + x10)))).bind fun v16 =>
 (p10.2.st 1 v16 v13).bind fun h17 =>
 (za 1 x0 (.int .i64 (wr .i64 (x3 + (wr .i64 ((wr .i64 ((wr .i64 (2 * x10)) + 1)) + 1)))))).bind fun v18 =>
 (h17.st 1 v18 v15).bind fun h19 =>
 some (.normal, (z27 x0 x2 x3 x4 (.int .i64 (wr .i64 ((wr .i64 ((wr .i64 (2 * x10)) + 1)) + 1)))), h19)))
 | false => ((za 1 x0 (.int .i64 (wr .i64 (x3 + x10)))).bind fun v6 =>
 (p4.2.ld1 v6).bind fun v7 =>
 (za 1 x0 (.int .i64 (wr .i64 (x3 + (wr .i64 ((wr .i64 (2 * x10)) + 1)))))).bind fun v8 =>
 (p4.2.ld1 v8).bind fun v9 =>
 z67 M x4 [v7, v9] p4.2 fun p10 =>
 (asI .i64 p10.1).bind fun n11 =>
 match (!(decide (n11 < 0))) with
 | true => (some (.ret, z1e, p10.2))
 | false => ((za 1 x0 (.int .i64 (wr .i64 (x3 + (wr .i64 ((wr .i64 (2 * x10)) + 1)))))).bind fun v12 =>
 (p10.2.ld1 v12).bind fun v13 =>
 (za 1 x0 (.int .i64 (wr .i64 (x3 + x10)))).bind fun v14 =>
 (p10.2.ld1 v14).bind fun v15 =>
 (za 1 x0 (.int .i64 (wr .i64 (x3 + x10)))).bind fun v16 =>
 (p10.2.st 1 v16 v13).bind fun h17 =>
 (za 1 x0 (.int .i64 (wr .i64 (x3 + (wr .i64 ((wr .i64 (2 * x10)) + 1)))))).bind fun v18 =>
 (h17.st 1 v18 v15).bind fun h19 =>
 some (.normal, (z27 x0 x2 x3 x4 (.int .i64 (wr .i64 ((wr .i64 (2 * x10)) + 1)))), h19))))
 | false => ((za 1 x0 (.int .i64 (wr .i64 (x3 + x10)))).bind fun v0 =>
 (h.ld1 v0).bind fun v1 =>
 (za 1 x0 (.int .i64 (wr .i64 (x3 + (wr .i64 ((wr .i64 (2 * x10)) + 1)))))).bind fun v2 =>
 (h.ld1 v2).bind fun v3 =>
 z67 M x4 [v1, v3] h fun p4 =>
 (asI .i64 p4.1).bind fun n5 =>
 match (!(decide (n5 < 0))) with
 | true => (some (.ret, z1e, p4.2))
 | false => ((za 1 x0 (.int .i64 (wr .i64 (x3 + (wr .i64 ((wr .i64 (2 * x10)) + 1)))))).bind fun v6 =>
 (p4.2.ld1 v6).bind fun v7 =>
 (za 1 x0 (.int .i64 (wr .i64 (x3 + x10)))).bind fun v8 =>
 (p4.2.ld1 v8).bind fun v9 =>
 (za 1 x0 (.int .i64 (wr .i64 (x3 + x10)))).bind fun v10 =>
 (p4.2.st 1 v10 v7).bind fun h11 =>
 (za 1 x0 (.int .i64 (wr .i64 (x3 + (wr .i64 ((wr .i64 (2 * x10)) + 1)))))).bind fun v12 =>
 (h11.st 1 v12 v9).bind fun h13 =>
 some (.normal, (z27 x0 x2 x3 x4 (.int .i64 (wr .i64 ((wr .i64 (2 * x10)) + 1)))), h13))))
def zjy (M : Env) (h : H) : Rf :=
 some ((.tup []), h)
def zkh (M : Env) (h : H) : Rf :=
 some ((.tup []), h)
theorem zm7 : z04 M F.z0p [a0, (.int .i64 a1), (.int .i64 a2), (.int .i64 a3), a4] h = z0p M a0 a1 a2 a3 a4 h := by kernel_rfl
theorem zjz : zcn M (z27 x0 (.int .i64 x2) (.int .i64 x3) x4 (.int .i64 x10)) h = z0x M x0 x2 x3 x4 x10 h := by kernel_rfl
theorem zhs : z42 M (.exit 0) z1e h = zjy M h := by kernel_rfl
theorem zi5 : z42 M .ret z1e h = zkh M h := by kernel_rfl
def zcv (M : Env) := lb M F.zn5 [0, 3, 8, 9, 10, 11] [0, 3, 8, 9, 10]
def z5d (x0 x3 x8 x9 x10 x11 : V) : List V := x0 :: dd 2 (x3 :: dd 4 (x8 :: x9 :: x10 :: x11 :: dd 48 []))
def z8b (x0 x3 x8 x9 x10 : V) : List V := x0 :: dd 2 (x3 :: dd 4 (x8 :: x9 :: x10 :: dd 49 []))
def z88 (M : Env) := lb M F.zn2 [0, 3, 8, 9, 12] []
def z38 (x0 x3 x8 x9 x12 : V) : List V := x0 :: dd 2 (x3 :: dd 4 (x8 :: x9 :: dd 2 (x12 :: dd 47 [])))
def z8f : List V := dd 60 []
def zdy (M : Env) := kf F.z0b
def zm2 (M : Env) := kq M F.zmg (zdy M)
def z9s (M : Env) := kb 0 (zm2 M)
def z68 (M : Env) := kb 2 (zdy M)
def z0b (M : Env) (a0 : V) (a1 a2 : Int) (a3 : V) (h : H) : Rf :=
 (M.loop (zcv M) (z5d a0 a3 a1 (0:Int) (.int .i64 (wr .i64 (a2 - a1))) (.int .i64 (wr .i64 (Int.tdiv (wr .i64 ((wr .i64 (a2 - a1)) - 1)) 2)))) h).bind fun p0 => z9s M p0.1 p0.2.1 p0.2.2
def z84 (M : Env) (x0 x3 : V) (x8 x9 x10 x11 : Int) (h : H) : Rl :=
 match decide (0 ≤ x11) with
 | true => ((M.call 487 [x0, x11, x10, x8, x3] h).bind fun p0 =>
 some (.normal, (z5d x0 x3 x8 x9 x10 (.int .i64 (wr .i64 (x11 - 1)))), p0.2))
 | false => (some ((.exit 0), (z8b x0 x3 x8 x9 x10), h))
def zc9 (M : Env) (x0 x3 : V) (x8 x9 x10 : Int) (h : H) : Rf :=
 (M.loop (z88 M) (z38 x0 x3 x8 x9 (.int .i64 (wr .i64 (x10 - 1)))) h).bind fun p0 => z68 M p0.1 p0.2.1 p0.2.2
def z89 (M : Env) (x0 x3 : V) (x8 x9 x12 : Int) (h : H) : Rl :=
 match decide (0 ≤ x12) with
 | true => ((za 1 x0 (.int .i64 (wr .i64 (x8 + x12)))).bind fun v0 =>
 (h.ld1 v0).bind fun v1 =>
 (za 1 x0 x8).bind fun v2 =>
 (h.ld1 v2).bind fun v3 =>
 (za 1 x0 x8).bind fun v4 =>
 (h.st 1 v4 v1).bind fun h5 =>
 (za 1 x0 (.int .i64 (wr .i64 (x8 + x12)))).bind fun v6 =>
 (h5.st 1 v6 v3).bind fun h7 =>
 (M.call 487 [x0, x9, x12, x8, x3] h7).bind fun p8 =>
 some (.normal, (z38 x0 x3 x8 x9 (.int .i64 (wr .i64 (x12 - 1)))), p8.2))
 | false => (some ((.exit 2), z8f, h))
def zjh (M : Env) (h : H) : Rf :=
 some ((.tup []), h)
theorem zmq : z04 M F.z0b [a0, (.int .i64 a1), (.int .i64 a2), a3] h = z0b M a0 a1 a2 a3 h := by kernel_rfl
theorem zjt : zcv M (z5d x0 x3 (.int .i64 x8) (.int .i64 x9) (.int .i64 x10) (.int .i64 x11)) h = z84 M x0 x3 x8 x9 x10 x11 h := by kernel_rfl
theorem zhp : z9s M (.exit 0) (z8b x0 x3 (.int .i64 x8) (.int .i64 x9) (.int .i64 x10)) h = zc9 M x0 x3 x8 x9 x10 h := by kernel_rfl
theorem zji : z88 M (z38 x0 x3 (.int .i64 x8) (.int .i64 x9) (.int .i64 x12)) h = z89 M x0 x3 x8 x9 x12 h := by kernel_rfl
theorem zh4 : z68 M (.exit 2) z8f h = zjh M h := by kernel_rfl
def zbc (M : Env) := lb M F.zj1 [0, 8, 9] []
def z47 (x0 x8 x9 : V) : List V := x0 :: dd 7 (x8 :: x9 :: dd 24 [])
def z70 : List V := dd 34 []
def ziw (M : Env) := kf F.z0c
def z7a (M : Env) := kb 0 (ziw M)
def z0c (M : Env) (a0 : V) (a1 a2 : Int) (a3 : V) (h : H) : Rf :=
 (M.loop (zbc M) (z47 a0 a1 (.int .i64 (wr .i64 (a2 - 1)))) h).bind fun p0 => z7a M p0.1 p0.2.1 p0.2.2
def z6t (M : Env) (x0 : V) (x8 x9 : Int) (h : H) : Rl :=
 match decide (x8 < x9) with
 | true => ((za 1 x0 x9).bind fun v0 =>
 (h.ld1 v0).bind fun v1 =>
 (za 1 x0 x8).bind fun v2 =>
 (h.ld1 v2).bind fun v3 =>
 (za 1 x0 x8).bind fun v4 =>
 (h.st 1 v4 v1).bind fun h5 =>
 (za 1 x0 x9).bind fun v6 =>
 (h5.st 1 v6 v3).bind fun h7 =>
 some (.normal, (z47 x0 (.int .i64 (wr .i64 (x8 + 1))) (.int .i64 (wr .i64 (x9 - 1)))), h7))
 | false => (some ((.exit 0), z70, h))
def zh2 (M : Env) (h : H) : Rf :=
 some ((.tup []), h)
theorem zjc : z04 M F.z0c [a0, (.int .i64 a1), (.int .i64 a2), a3] h = z0c M a0 a1 a2 a3 h := by kernel_rfl
theorem zgz : zbc M (z47 x0 (.int .i64 x8) (.int .i64 x9)) h = z6t M x0 x8 x9 h := by kernel_rfl
theorem zfv : z7a M (.exit 0) z70 h = zh2 M h := by kernel_rfl
def za6 (M : Env) := lb M F.zhu [0, 1, 4, 11, 12] [11]
def z22 (x0 x1 x4 x11 x12 : V) : List V := x0 :: x1 :: dd 2 (x4 :: dd 6 (x11 :: x12 :: dd 77 []))
def z3j (x11 : V) : List V := dd 11 (x11 :: dd 78 [])
def z5y (M : Env) := lb M F.zhj [0, 1, 4, 11, 12] [0, 1, 4, 11, 12]
def z1z (x0 x1 x4 x11 x12 : V) : List V := x0 :: x1 :: dd 2 (x4 :: dd 6 (x11 :: x12 :: dd 77 []))
def z3g (x0 x1 x4 x11 x12 : V) : List V := x0 :: x1 :: dd 2 (x4 :: dd 6 (x11 :: x12 :: dd 77 []))
def z5x (M : Env) := lb M F.zhg [0, 1, 4, 11, 12] [0, 1, 4, 11, 12]
def z1y (x0 x1 x4 x11 x12 : V) : List V := x0 :: x1 :: dd 2 (x4 :: dd 6 (x11 :: x12 :: dd 77 []))
def z3i (x0 x1 x4 x11 x12 : V) : List V := x0 :: x1 :: dd 2 (x4 :: dd 6 (x11 :: x12 :: dd 77 []))
def zhy (M : Env) := kf F.zt
def zh7 (M : Env) := kq M F.zho (zhy M)
def z6p (M : Env) := kb 0 (zh7 M)
def zhk (M : Env) := kl [0, 1, 4, 11, 12] [11]
def zb8 (M : Env) := kb 1 (zhk M)
def zhx (M : Env) := kq M F.zhq (zb8 M)
def z41 (M : Env) := kb 2 (zhx M)
def zhn (M : Env) := kq M F.zh5 (zb8 M)
def z46 (M : Env) := kb 4 (zhn M)
def zt (M : Env) (a0 : V) (a1 a2 a3 : Int) (a4 : V) (h : H) : Rf :=
 (za 1 a0 a3).bind fun v0 =>
 (h.ld1 v0).bind fun v1 =>
 (za 1 a0 a1).bind fun v2 =>
 (h.ld1 v2).bind fun v3 =>
 (za 1 a0 a1).bind fun v4 =>
 (h.st 1 v4 v1).bind fun h5 =>
 (za 1 a0 a3).bind fun v6 =>
 (h5.st 1 v6 v3).bind fun h7 =>
 (M.loop (za6 M) (z22 a0 a1 a4 (.int .i64 (wr .i64 (a1 + 1))) (.int .i64 (wr .i64 (a2 - 1)))) h7).bind fun p8 => z6p M p8.1 p8.2.1 p8.2.2
def za8 (M : Env) (x0 : V) (x1 : Int) (x4 : V) (x11 x12 : Int) (h : H) : Rl :=
 (M.loop (z5y M) (z1z x0 x1 x4 x11 x12) h).bind fun p0 => z41 M p0.1 p0.2.1 p0.2.2
def zg4 (M : Env) (x11 : Int) (h : H) : Rf :=
 some (x11, h)
def z3h (M : Env) (x0 : V) (x1 : Int) (x4 : V) (x11 x12 : Int) (h : H) : Rl :=
 match decide (x11 ≤ x12) with
 | true => ((za 1 x0 x1).bind fun v0 =>
 (h.ld1 v0).bind fun v1 =>
 (za 1 x0 x11).bind fun v2 =>
 (h.ld1 v2).bind fun v3 =>
 z67 M x4 [v1, v3] h fun p4 =>
 (asI .i64 p4.1).bind fun n5 =>
 match (!(decide (n5 < 0))) with
 | true => (some (.normal, (z1z x0 x1 x4 (.int .i64 (wr .i64 (x11 + 1))) x12), p4.2))
 | false => (some ((.exit 2), (z3g x0 x1 x4 x11 x12), p4.2)))
 | false => (some ((.exit 2), (z3g x0 x1 x4 x11 x12), h))
def z9z (M : Env) (x0 : V) (x1 : Int) (x4 : V) (x11 x12 : Int) (h : H) : Rl :=
 (M.loop (z5x M) (z1y x0 x1 x4 x11 x12) h).bind fun p0 => z46 M p0.1 p0.2.1 p0.2.2
def z3f (M : Env) (x0 : V) (x1 : Int) (x4 : V) (x11 x12 : Int) (h : H) : Rl :=
 match decide (x11 ≤ x12) with
 | true => ((za 1 x0 x1).bind fun v0 =>
 (h.ld1 v0).bind fun v1 =>
 (za 1 x0 x12).bind fun v2 =>
 (h.ld1 v2).bind fun v3 =>
 z67 M x4 [v1, v3] h fun p4 =>
 (asI .i64 p4.1).bind fun n5 =>
 match decide (n5 < 0) with
 | true => (some (.normal, (z1y x0 x1 x4 x11 (.int .i64 (wr .i64 (x12 - 1)))), p4.2))
 | false => (some ((.exit 4), (z3i x0 x1 x4 x11 x12), p4.2)))
 | false => (some ((.exit 4), (z3i x0 x1 x4 x11 x12), h))
def z5q (M : Env) (x0 : V) (x1 : Int) (x4 : V) (x11 x12 : Int) (h : H) : Rl :=
 match decide (x12 < x11) with
 | true => (some ((.exit 0), (z3j x11), h))
 | false => ((za 1 x0 x12).bind fun v0 =>
 (h.ld1 v0).bind fun v1 =>
 (za 1 x0 x11).bind fun v2 =>
 (h.ld1 v2).bind fun v3 =>
 (za 1 x0 x11).bind fun v4 =>
 (h.st 1 v4 v1).bind fun h5 =>
 (za 1 x0 x12).bind fun v6 =>
 (h5.st 1 v6 v3).bind fun h7 =>
 some (.normal, (z22 x0 x1 x4 (.int .i64 (wr .i64 (x11 + 1))) (.int .i64 (wr .i64 (x12 - 1)))), h7))
theorem zhz : z04 M F.zt [a0, (.int .i64 a1), (.int .i64 a2), (.int .i64 a3), a4] h = zt M a0 a1 a2 a3 a4 h := by kernel_rfl
theorem zfz : za6 M (z22 x0 (.int .i64 x1) x4 (.int .i64 x11) (.int .i64 x12)) h = za8 M x0 x1 x4 x11 x12 h := by kernel_rfl
theorem zeo : z6p M (.exit 0) (z3j (.int .i64 x11)) h = zg4 M x11 h := by kernel_rfl
theorem zg3 : z5y M (z1z x0 (.int .i64 x1) x4 (.int .i64 x11) (.int .i64 x12)) h = z3h M x0 x1 x4 x11 x12 h := by kernel_rfl
theorem zeg : z41 M (.exit 2) (z3g x0 (.int .i64 x1) x4 (.int .i64 x11) (.int .i64 x12)) h = z9z M x0 x1 x4 x11 x12 h := by kernel_rfl
theorem zg1 : z5x M (z1y x0 (.int .i64 x1) x4 (.int .i64 x11) (.int .i64 x12)) h = z3f M x0 x1 x4 x11 x12 h := by kernel_rfl
theorem zew : z46 M (.exit 4) (z3i x0 (.int .i64 x1) x4 (.int .i64 x11) (.int .i64 x12)) h = z5q M x0 x1 x4 x11 x12 h := by kernel_rfl
end Wm.S
end
