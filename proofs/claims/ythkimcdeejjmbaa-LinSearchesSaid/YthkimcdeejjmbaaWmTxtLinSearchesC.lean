/- PRINTED by my tool: what functions come to, stretch by stretch. -/
import Derived.KernelRfl
import Derived.Test.YthkimcdeejjmbaaWmShal
import Derived.Test.YthkimcdeejjmbaaWmFnsLinSearches
import Derived.Test.YthkimcdeejjmbaaWmTxtLinSearchesA
set_option linter.all false
noncomputable section
namespace Wm.S
open Wm
set_option maxRecDepth 100000
set_option autoImplicit true
set_option relaxedAutoImplicit true
def zfy (M : Env) := jb M F.zsk [0, 1, 5, 7, 8]
def zft (x0 x1 x5 x7 x8 : V) : List V := x0 :: x1 :: dd 3 (x5 :: dd 1 (x7 :: x8 :: dd 124 []))
def z1l (x0 x1 x5 x7 x8 : V) : List V := x0 :: x1 :: dd 3 (x5 :: dd 1 (x7 :: x8 :: dd 124 []))
def zg3 (M : Env) := jb M F.zrs [0, 1, 5, 7, 8, 17, 18]
def zg0 (x0 x1 x5 x7 x8 x17 : V) : List V := x0 :: x1 :: dd 3 (x5 :: dd 1 (x7 :: x8 :: dd 8 (x17 :: dd 115 [])))
def zd7 (x0 x1 x5 x7 x8 x17 x18 : V) : List V := x0 :: x1 :: dd 3 (x5 :: dd 1 (x7 :: x8 :: dd 8 (x17 :: x18 :: dd 114 [])))
def zcg (M : Env) := jb M F.zsb [0, 1, 5, 7, 62]
def zcn (x0 x1 x5 x7 : V) : List V := x0 :: x1 :: dd 3 (x5 :: dd 1 (x7 :: dd 125 []))
def z2p (x0 x1 x5 x7 x62 : V) : List V := x0 :: x1 :: dd 3 (x5 :: dd 1 (x7 :: dd 54 (x62 :: dd 70 [])))
def z9z (M : Env) := jb M F.zsg [0, 1, 5, 89]
def z9r (x0 x1 x5 x7 : V) : List V := x0 :: x1 :: dd 3 (x5 :: dd 1 (x7 :: dd 125 []))
def z9w (x0 x1 x5 x89 : V) : List V := x0 :: x1 :: dd 3 (x5 :: dd 83 (x89 :: dd 43 []))
def zhv (M : Env) := kf F.z0i
def zhn (M : Env) := kq M F.zsd (zhv M)
def zrh (M : Env) := kj [0, 1, 5, 7, 8]
def zsn (M : Env) := kb 0 (zrh M)
def zhp (M : Env) := kq M F.zsf (zsn M)
def zsh (M : Env) := kq M F.zro (zhv M)
def zhm (M : Env) := kb 1 (zsh M)
def zed (M : Env) := kq M F.zse (zhm M)
def zbl (M : Env) := kq M F.zsa (zhm M)
def z0i (M : Env) (a0 : V) (a1 a2_0 a2_1 a2_2 a2_3 a2_4 : Int) (h : H) : Rf :=
 let h0 := h.new (.cells [a2_0, a2_1, (.int .u64 a2_2), (.int .u64 a2_3), (.int .u64 a2_4)] .rw)
 (h0.ld1 (.ptr h.next 2)).bind fun v1 =>
 (M.call 106 [a0, a1, v1] h0).bind fun p2 =>
 (asI .i64 p2.1).bind fun n3 =>
 (zfy M (zft a0 a1 (.ptr h.next 0) p2.1 (.bool (decide (0 ≤ n3)))) p2.2).bind fun p4 => zhn M p4.1 p4.2.1 p4.2.2
def z0z (M : Env) (x0 : V) (x1 : Int) (x5 : V) (x7 : Int) (x8 : Bool) (h : H) : Rl :=
 (zb x5 0).bind fun v0 =>
 (h.ld1 v0).bind fun v1 =>
 (zg3 M (zg0 x0 x1 x5 x7 x8 v1) h).bind fun p2 => zhp M p2.1 p2.2.1 p2.2.2
def za0 (M : Env) (x0 : V) (x1 : Int) (x5 : V) (x7 : Int) (x8 : Bool) (h : H) : Rf :=
 match (!x8) with
 | true => (some ((2:Int), h))
 | false => ((zcg M (zcn x0 x1 x5 x7) h).bind fun p0 => zed M p0.1 p0.2.1 p0.2.2)
def z0x (M : Env) (x0 : V) (x1 : Int) (x5 : V) (x7 : Int) (x8 : Bool) (x17 : Int) (h : H) : Rl :=
 match decide (x17 = 3) with
 | true => (some (.normal, (zd7 x0 x1 x5 x7 x8 x17 (.bool (decide (x17 = 3)))), h))
 | false => (some (.normal, (zd7 x0 x1 x5 x7 x8 x17 (.bool (decide (x17 = 7)))), h))
def z0y (M : Env) (x0 : V) (x1 : Int) (x5 : V) (x7 : Int) (x8 : Bool) (x17 : Int) (x18 : Bool) (h : H) : Rl :=
 match x18 with
 | true => (match x8 with
 | true => ((zb x5 3).bind fun v0 =>
 (h.ld1 v0).bind fun v1 =>
 (M.call 106 [x0, x1, v1] h).bind fun p2 =>
 (asI .i64 p2.1).bind fun n3 =>
 some (.normal, (z1l x0 x1 x5 x7 (.bool (decide (0 ≤ n3)))), p2.2))
 | false => (some (.normal, (z1l x0 x1 x5 x7 false), h)))
 | false => (match decide (x17 = 5) with
 | true => (match x8 with
 | true => ((zb x5 3).bind fun v0 =>
 (h.ld1 v0).bind fun v1 =>
 (asI .u64 v1).bind fun n2 =>
 match decide (n2 = 0) with
 | true => ((zb x5 4).bind fun v3 =>
 (h.ld1 v3).bind fun v4 =>
 (asI .u64 v4).bind fun n5 =>
 match decide (n5 = 0) with
 | true => (some (.normal, (z1l x0 x1 x5 x7 true), h))
 | false => ((zb x5 4).bind fun v6 =>
 (h.ld1 v6).bind fun v7 =>
 (M.call 106 [x0, x1, v7] h).bind fun p8 =>
 (asI .i64 p8.1).bind fun n9 =>
 some (.normal, (z1l x0 x1 x5 x7 (.bool (decide (0 ≤ n9)))), p8.2)))
 | false => ((zb x5 3).bind fun v3 =>
 (h.ld1 v3).bind fun v4 =>
 (M.call 106 [x0, x1, v4] h).bind fun p5 =>
 (asI .i64 p5.1).bind fun n6 =>
 match decide (0 ≤ n6) with
 | true => ((zb x5 4).bind fun v7 =>
 (p5.2.ld1 v7).bind fun v8 =>
 (asI .u64 v8).bind fun n9 =>
 match decide (n9 = 0) with
 | true => (some (.normal, (z1l x0 x1 x5 x7 true), p5.2))
 | false => ((zb x5 4).bind fun v10 =>
 (p5.2.ld1 v10).bind fun v11 =>
 (M.call 106 [x0, x1, v11] p5.2).bind fun p12 =>
 (asI .i64 p12.1).bind fun n13 =>
 some (.normal, (z1l x0 x1 x5 x7 (.bool (decide (0 ≤ n13)))), p12.2)))
 | false => (some (.normal, (z1l x0 x1 x5 x7 false), p5.2))))
 | false => (some (.normal, (z1l x0 x1 x5 x7 false), h)))
 | false => (some (.normal, (z1l x0 x1 x5 x7 x8), h)))
def z2s (M : Env) (x0 : V) (x1 : Int) (x5 : V) (x7 : Int) (h : H) : Rl :=
 (zb x5 0).bind fun v0 =>
 (h.ld1 v0).bind fun v1 =>
 (asI .i64 v1).bind fun n2 =>
 match decide (n2 = 2) with
 | true => ((zb x5 1).bind fun v3 =>
 (h.ld1 v3).bind fun v4 =>
 (asI .i64 v4).bind fun n5 =>
 match decide (n5 < 0) with
 | true => (some (.normal, (z2p x0 x1 x5 x7 true), h))
 | false => ((zb x5 1).bind fun v6 =>
 (h.ld1 v6).bind fun v7 =>
 (nilc x0).bind fun v8 =>
 (zb v8 6).bind fun v9 =>
 (h.ld1 v9).bind fun v10 =>
 (zd 1 v10 x7).bind fun v11 =>
 (h.ld1 v11).bind fun v12 =>
 (lenSl v12).bind fun n13 =>
 (asI .i64 v7).bind fun n14 =>
 some (.normal, (z2p x0 x1 x5 x7 (.bool (decide ((n13 : Int) ≤ n14)))), h)))
 | false => ((zb x5 0).bind fun v3 =>
 (h.ld1 v3).bind fun v4 =>
 (M.call 83 [v4] h).bind fun p5 =>
 match p5.1 with
 | .bool true => (
 (zb x5 1).bind fun v6 =>
 (p5.2.ld1 v6).bind fun v7 =>
 (asI .i64 v7).bind fun n8 =>
 match decide (n8 < 0) with
 | true => (some (.normal, (z2p x0 x1 x5 x7 true), p5.2))
 | false => ((zb x5 1).bind fun v9 =>
 (p5.2.ld1 v9).bind fun v10 =>
 (nilc x0).bind fun v11 =>
 (zb v11 6).bind fun v12 =>
 (p5.2.ld1 v12).bind fun v13 =>
 (zd 1 v13 x7).bind fun v14 =>
 (p5.2.ld1 v14).bind fun v15 =>
 (lenSl v15).bind fun n16 =>
 (asI .i64 v10).bind fun n17 =>
 some (.normal, (z2p x0 x1 x5 x7 (.bool (decide ((n16 : Int) ≤ n17)))), p5.2)))
 | .bool false => (
 some (.normal, (z2p x0 x1 x5 x7 false), p5.2))
 | .tup [] => (
 match p5.1 with
 | .bool true => (
 none)
 | .bool false => (
 some (.normal, (z2p x0 x1 x5 x7 false), p5.2))
 | .tup [] => (
 (asB p5.1).bind fun b6 =>
 some (.normal, (z2p x0 x1 x5 x7 (match b6 with | true => (.tup []) | false => false : V)), p5.2))
 | _ => none)
 | _ => none)
def z2x (M : Env) (x0 : V) (x1 : Int) (x5 : V) (x7 : Int) (x62 : Bool) (h : H) : Rf :=
 match x62 with
 | true => (some ((3:Int), h))
 | false => ((z9z M (z9r x0 x1 x5 x7) h).bind fun p0 => zbl M p0.1 p0.2.1 p0.2.2)
def z3o (M : Env) (x0 : V) (x1 : Int) (x5 : V) (x7 : Int) (h : H) : Rl :=
 (zb x5 0).bind fun v0 =>
 (h.ld1 v0).bind fun v1 =>
 (asI .i64 v1).bind fun n2 =>
 match decide (n2 = 2) with
 | true => ((nilc x0).bind fun v3 =>
 (zb v3 6).bind fun v4 =>
 (h.ld1 v4).bind fun v5 =>
 (zd 1 v5 x7).bind fun v6 =>
 (h.ld1 v6).bind fun v7 =>
 (zb x5 1).bind fun v8 =>
 (h.ld1 v8).bind fun v9 =>
 (zd 1 v7 v9).bind fun v10 =>
 (h.ld1 v10).bind fun v11 =>
 (asI .i64 v11).bind fun n12 =>
 match decide (0 ≤ n12) with
 | true => ((nilc x0).bind fun v13 =>
 (zb v13 0).bind fun v14 =>
 (zb v14 3).bind fun v15 =>
 (h.ld1 v15).bind fun v16 =>
 (M.call 105 [x0, x1] h).bind fun p17 =>
 match ckB (p17.2.ld1 v15) v16 with
 | true => ((asI .i64 p17.1).bind fun n18 =>
 (asI .i64 v16).bind fun n19 =>
 some (.normal, (z9w x0 x1 x5 (.bool (decide (n19 ≤ n18)))), p17.2))
 | false => none)
 | false => (some (.normal, (z9w x0 x1 x5 false), h)))
 | false => (some (.normal, (z9w x0 x1 x5 false), h))
def z3w (M : Env) (x0 : V) (x1 : Int) (x5 : V) (x89 : Bool) (h : H) : Rf :=
 match x89 with
 | true => (some ((5:Int), h))
 | false => ((zb x5 0).bind fun v0 =>
 (h.ld1 v0).bind fun v1 =>
 (asI .i64 v1).bind fun n2 =>
 match decide (n2 = 8) with
 | true => ((nilc x0).bind fun v3 =>
 (zb v3 8).bind fun v4 =>
 (h.ld1 v4).bind fun v5 =>
 (zd 2 v5 x1).bind fun v6 =>
 (zb v6 0).bind fun v7 =>
 (h.ld1 v7).bind fun v8 =>
 (asI .u64 v8).bind fun n9 =>
 match (!decide (n9 = 0)) with
 | true => (some ((7:Int), h))
 | false => (some ((0:Int), h)))
 | false => (some ((0:Int), h)))
theorem zsp : z0g M F.z0i [a0, (.int .i64 a1), (.agg [(.int .i64 a2_0), (.int .i64 a2_1), (.int .u64 a2_2), (.int .u64 a2_3), (.int .u64 a2_4)])] h = z0i M a0 a1 a2_0 a2_1 a2_2 a2_3 a2_4 h := by kernel_rfl
theorem z15 : zfy M (zft x0 (.int .i64 x1) x5 (.int .i64 x7) (.bool x8)) h = z0z M x0 x1 x5 x7 x8 h := by kernel_rfl
theorem z0q : zhn M .normal (z1l x0 (.int .i64 x1) x5 (.int .i64 x7) (.bool x8)) h = za0 M x0 x1 x5 x7 x8 h := by kernel_rfl
theorem z13 : zg3 M (zg0 x0 (.int .i64 x1) x5 (.int .i64 x7) (.bool x8) (.int .i64 x17)) h = z0x M x0 x1 x5 x7 x8 x17 h := by kernel_rfl
theorem z0s : zhp M .normal (zd7 x0 (.int .i64 x1) x5 (.int .i64 x7) (.bool x8) (.int .i64 x17) (.bool x18)) h = z0y M x0 x1 x5 x7 x8 x17 x18 h := by kernel_rfl
theorem z3b : zcg M (zcn x0 (.int .i64 x1) x5 (.int .i64 x7)) h = z2s M x0 x1 x5 x7 h := by kernel_rfl
theorem z2j : zed M .normal (z2p x0 (.int .i64 x1) x5 (.int .i64 x7) (.bool x62)) h = z2x M x0 x1 x5 x7 x62 h := by kernel_rfl
theorem z4i : z9z M (z9r x0 (.int .i64 x1) x5 (.int .i64 x7)) h = z3o M x0 x1 x5 x7 h := by kernel_rfl
theorem z3p : zbl M .normal (z9w x0 (.int .i64 x1) x5 (.bool x89)) h = z3w M x0 x1 x5 x89 h := by kernel_rfl
def z3n (M : Env) (a0 : V) (a1 a2_0 a2_1 a2_2 a2_3 a2_4 : Int) (h : H) : Rf :=
 let h0 := h.new (.cells [a2_0, a2_1, (.int .u64 a2_2), (.int .u64 a2_3), (.int .u64 a2_4)] .rw)
 (h0.ld1 (.ptr h.next 2)).bind fun v1 =>
 (h0.ld1 (.ptr h.next 1)).bind fun v2 =>
 (h0.ld1 (.ptr h.next 4)).bind fun v3 =>
 (M.call 106 [a0, a1, v1] h0).bind fun p4 =>
 match ckB (p4.2.ld1 (.ptr h.next 4)) v3 with
 | true => (match ckB (p4.2.ld1 (.ptr h.next 1)) v2 with
 | true => ((M.call 116 [a0, p4.1, v2] p4.2).bind fun p5 =>
 match ckB (p5.2.ld1 (.ptr h.next 4)) v3 with
 | true => ((M.call 106 [a0, a1, v3] p5.2).bind fun p6 =>
 (asI .i64 p5.1).bind fun n7 =>
 (asI .i64 p6.1).bind fun n8 =>
 some ((.bool (decide (n7 = n8))), p6.2))
 | false => none)
 | false => none)
 | false => none
theorem zpb : z0g M F.z3n [a0, (.int .i64 a1), (.agg [(.int .i64 a2_0), (.int .i64 a2_1), (.int .u64 a2_2), (.int .u64 a2_3), (.int .u64 a2_4)])] h = z3n M a0 a1 a2_0 a2_1 a2_2 a2_3 a2_4 h := by kernel_rfl
def zfv (M : Env) (a0 : Int) (h : H) : Rf :=
 match decide (a0 = 9) with
 | true => (some (true, h))
 | false => (some ((.bool (decide (a0 = 10))), h))
theorem z02n : z0g M F.zfv [(.int .i64 a0)] h = zfv M a0 h := by kernel_rfl
def zdc (M : Env) (a0 : Int) (h : H) : Rf :=
 match decide (3 ≤ a0) with
 | true => (some ((.bool (decide (a0 ≤ 5))), h))
 | false => (some (false, h))
theorem zyl : z0g M F.zdc [(.int .i64 a0)] h = zdc M a0 h := by kernel_rfl
def zg7 (M : Env) := jb M F.zs6 [0, 1, 6, 7, 9, 10, 11]
def zga (x0 x1 x6 x7 x9 x10 x11 : V) : List V := x0 :: x1 :: dd 4 (x6 :: x7 :: dd 1 (x9 :: x10 :: x11 :: dd 230 []))
def z4o (x0 x1 x6 x7 x9 x10 x11 : V) : List V := x0 :: x1 :: dd 4 (x6 :: x7 :: dd 1 (x9 :: x10 :: x11 :: dd 230 []))
def zg8 (M : Env) := jb M F.zrl [0, 1, 6, 7, 9, 10, 11, 18, 19]
def zfz (x0 x1 x6 x7 x9 x10 x11 x18 : V) : List V := x0 :: x1 :: dd 4 (x6 :: x7 :: dd 1 (x9 :: x10 :: x11 :: dd 6 (x18 :: dd 223 [])))
def z9s (x0 x1 x6 x7 x9 x10 x11 x18 x19 : V) : List V := x0 :: x1 :: dd 4 (x6 :: x7 :: dd 1 (x9 :: x10 :: x11 :: dd 6 (x18 :: x19 :: dd 222 [])))
def zco (M : Env) := jb M F.zsm [0, 1, 6, 7, 9, 10, 11, 74]
def zcz (x0 x1 x6 x7 x9 x10 x11 : V) : List V := x0 :: x1 :: dd 4 (x6 :: x7 :: dd 1 (x9 :: x10 :: x11 :: dd 230 []))
def z2u (x0 x1 x6 x7 x9 x10 x11 x74 : V) : List V := x0 :: x1 :: dd 4 (x6 :: x7 :: dd 1 (x9 :: x10 :: x11 :: dd 62 (x74 :: dd 167 [])))
def zcq (M : Env) := jb M F.zrv []
def zd2 (x0 x1 x6 x7 x9 x10 x11 : V) : List V := x0 :: x1 :: dd 4 (x6 :: x7 :: dd 1 (x9 :: x10 :: x11 :: dd 230 []))
def z0a : List V := dd 242 []
def zeb (M : Env) := kf F.z0h
def zht (M : Env) := kq M F.zrq (zeb M)
def zsj (M : Env) := kj [0, 1, 6, 7, 9, 10, 11]
def zso (M : Env) := kb 0 (zsj M)
def zhs (M : Env) := kq M F.zs5 (zso M)
def zsq (M : Env) := kq M F.zs7 (zeb M)
def ze9 (M : Env) := kq M F.zrw (zsq M)
def ze8 (M : Env) := kq M F.zry (zeb M)
def z0h (M : Env) (a0 : V) (a1 a2_0 a2_1 a2_2 a2_3 a2_4 a3_0 a3_1 : Int) (a3_2 : Bool) (h : H) : Rf :=
 let h0 := h.new (.cells [a2_0, a2_1, (.int .u64 a2_2), (.int .u64 a2_3), (.int .u64 a2_4)] .rw)
 let h1 := h0.new (.cells [a3_0, (.int .u64 a3_1), a3_2] .rw)
 (h1.ld1 (.ptr h.next 2)).bind fun v2 =>
 (M.call 106 [a0, a1, v2] h1).bind fun p3 =>
 (zg7 M (zga a0 a1 (.ptr h.next 0) (.ptr h0.next 0) p3.1 false false) p3.2).bind fun p4 => zht M p4.1 p4.2.1 p4.2.2
def z2w (M : Env) (x0 : V) (x1 : Int) (x6 x7 : V) (x9 : Int) (x10 x11 : Bool) (h : H) : Rl :=
 (zb x6 0).bind fun v0 =>
 (h.ld1 v0).bind fun v1 =>
 (zg8 M (zfz x0 x1 x6 x7 x9 x10 x11 v1) h).bind fun p2 => zhs M p2.1 p2.2.1 p2.2.2
def zda (M : Env) (x0 : V) (x1 : Int) (x6 x7 : V) (x9 : Int) (x10 x11 : Bool) (h : H) : Rf :=
 (zco M (zcz x0 x1 x6 x7 x9 x10 x11) h).bind fun p0 => ze9 M p0.1 p0.2.1 p0.2.2
def z2t (M : Env) (x0 : V) (x1 : Int) (x6 x7 : V) (x9 : Int) (x10 x11 : Bool) (x18 : Int) (h : H) : Rl :=
 match decide (x18 = 1) with
 | true => (some (.normal, (z9s x0 x1 x6 x7 x9 x10 x11 x18 (.bool (decide (x18 = 1)))), h))
 | false => (match decide (x18 = 8) with
 | true => (some (.normal, (z9s x0 x1 x6 x7 x9 x10 x11 x18 (.bool (decide (x18 = 8)))), h))
 | false => (some (.normal, (z9s x0 x1 x6 x7 x9 x10 x11 x18 (.bool (decide (x18 = 9)))), h)))
def z2q (M : Env) (x0 : V) (x1 : Int) (x6 x7 : V) (x9 : Int) (x10 x11 : Bool) (x18 : Int) (x19 : Bool) (h : H) : Rl :=
 match x19 with
 | true => (some (.normal, (z4o x0 x1 x6 x7 x9 true x11), h))
 | false => (match decide (x18 = 2) with
 | true => ((nilc x0).bind fun v0 =>
 (zb v0 6).bind fun v1 =>
 (h.ld1 v1).bind fun v2 =>
 (zd 1 v2 x9).bind fun v3 =>
 (h.ld1 v3).bind fun v4 =>
 (zb x6 1).bind fun v5 =>
 (h.ld1 v5).bind fun v6 =>
 (zd 1 v4 v6).bind fun v7 =>
 (h.ld1 v7).bind fun v8 =>
 (asI .i64 v8).bind fun n9 =>
 some (.normal, (z4o x0 x1 x6 x7 x9 (.bool (decide (0 ≤ n9))) x11), h))
 | false => (match decide (x18 = 5) with
 | true => ((h.ldN 5 x6).bind fun v0 =>
 (M.call 283 [x0, x1, v0] h).bind fun p1 =>
 some (.normal, (z4o x0 x1 x6 x7 x9 x10 p1.1), p1.2))
 | false => (match decide (x18 = 7) with
 | true => ((zb x6 3).bind fun v0 =>
 (h.ld1 v0).bind fun v1 =>
 (M.call 106 [x0, x1, v1] h).bind fun p2 =>
 (asI .i64 p2.1).bind fun n3 =>
 some (.normal, (z4o x0 x1 x6 x7 x9 x10 (.bool (decide (x9 = n3)))), p2.2))
 | false => (some (.normal, (z4o x0 x1 x6 x7 x9 x10 x11), h)))))
def z4p (M : Env) (x0 : V) (x1 : Int) (x6 x7 : V) (x9 : Int) (x10 x11 : Bool) (h : H) : Rl :=
 (zb x7 2).bind fun v0 =>
 (h.ld1 v0).bind fun v1 =>
 (eqV .bool v1 x11).bind fun b2 =>
 match (!b2) with
 | true => (some (.normal, (z2u x0 x1 x6 x7 x9 x10 x11 true), h))
 | false => (match x10 with
 | true => ((zb x7 1).bind fun v3 =>
 (h.ld1 v3).bind fun v4 =>
 (M.call 383 [x0, v4] h).bind fun p5 =>
 (asB p5.1).bind fun b6 =>
 match (!b6) with
 | true => (some (.normal, (z2u x0 x1 x6 x7 x9 x10 x11 true), p5.2))
 | false => (match (!x10) with
 | true => ((zb x7 1).bind fun v7 =>
 (p5.2.ld1 v7).bind fun v8 =>
 (asI .u64 v8).bind fun n9 =>
 some (.normal, (z2u x0 x1 x6 x7 x9 x10 x11 (.bool (!decide (n9 = 0)))), p5.2))
 | false => (some (.normal, (z2u x0 x1 x6 x7 x9 x10 x11 false), p5.2))))
 | false => (match (!x10) with
 | true => ((zb x7 1).bind fun v3 =>
 (h.ld1 v3).bind fun v4 =>
 (asI .u64 v4).bind fun n5 =>
 some (.normal, (z2u x0 x1 x6 x7 x9 x10 x11 (.bool (!decide (n5 = 0)))), h))
 | false => (some (.normal, (z2u x0 x1 x6 x7 x9 x10 x11 false), h))))
def zcf (M : Env) (x0 : V) (x1 : Int) (x6 x7 : V) (x9 : Int) (x10 x11 x74 : Bool) (h : H) : Rf :=
 match x74 with
 | true => (some (false, h))
 | false => ((zcq M (zd2 x0 x1 x6 x7 x9 x10 x11) h).bind fun p0 => ze8 M p0.1 p0.2.1 p0.2.2)
def z06 (M : Env) (x0 : V) (x1 : Int) (x6 x7 : V) (x9 : Int) (x10 x11 : Bool) (h : H) : Rl :=
 (zb x6 0).bind fun v0 =>
 (h.ld1 v0).bind fun v1 =>
 (asI .i64 v1).bind fun n2 =>
 match decide (n2 = 1) with
 | true => ((nilc x0).bind fun v3 =>
 (zb v3 6).bind fun v4 =>
 (h.ld1 v4).bind fun v5 =>
 (zb x6 1).bind fun v6 =>
 (h.ld1 v6).bind fun v7 =>
 let h8 := h.new (.cells [(.int .i64 (-1))] .rw)
 (M.call 384 [(.sl h.next 0 1 (.ex 1)), v7] h8).bind fun p9 =>
 match ckB (p9.2.ld1 v4) v5 with
 | true => ((fill (repl [.nilsl] 1) [] [(0, 1, .c p9.1)]).bind fun cs10 =>
 let h11 := p9.2.new (.cells cs10 .rw)
 (h11.append 1 24 v5 (.sl p9.2.next 0 1 (.ex 1))).bind fun p12 =>
 (nilc x0).bind fun v13 =>
 (zb v13 6).bind fun v14 =>
 (p12.2.st 1 v14 p12.1).bind fun h15 =>
 (zb x7 1).bind fun v16 =>
 (h15.ld1 v16).bind fun v17 =>
 (nilc x0).bind fun v18 =>
 (zb v18 6).bind fun v19 =>
 (h15.ld1 v19).bind fun v20 =>
 (lenSl v20).bind fun n21 =>
 (M.call 385 [x0, x1, v17, (.int .i64 (wr .i64 ((n21 : Int) - 1)))] h15).bind fun p22 =>
 some (.normal, z0a, p22.2))
 | false => none)
 | false => ((asI .i64 v1).bind fun n3 =>
 match decide (n3 = 2) with
 | true => (match x10 with
 | true => ((zb x7 1).bind fun v4 =>
 (h.ld1 v4).bind fun v5 =>
 (nilc x0).bind fun v6 =>
 (zb v6 6).bind fun v7 =>
 (h.ld1 v7).bind fun v8 =>
 (zd 1 v8 x9).bind fun v9 =>
 (h.ld1 v9).bind fun v10 =>
 (zb x6 1).bind fun v11 =>
 (h.ld1 v11).bind fun v12 =>
 (zd 1 v10 v12).bind fun v13 =>
 (h.ld1 v13).bind fun v14 =>
 (M.call 385 [x0, x1, v5, v14] h).bind fun p15 =>
 some (.normal, z0a, p15.2))
 | false => (some (.normal, z0a, h)))
 | false => ((asI .i64 v1).bind fun n4 =>
 match decide (n4 = 3) with
 | true => ((nilc x0).bind fun v5 =>
 (zb v5 6).bind fun v6 =>
 (h.ld1 v6).bind fun v7 =>
 (zd 1 v7 x9).bind fun v8 =>
 (h.ld1 v8).bind fun v9 =>
 (zb x6 1).bind fun v10 =>
 (h.ld1 v10).bind fun v11 =>
 (zb x6 3).bind fun v12 =>
 (h.ld1 v12).bind fun v13 =>
 (M.call 106 [x0, x1, v13] h).bind fun p14 =>
 match ckB (p14.2.ld1 v10) v11 with
 | true => (match ckB (p14.2.ld1 v8) v9 with
 | true => (match ckB (p14.2.ld1 v6) v7 with
 | true => ((zd 1 v9 v11).bind fun v15 =>
 (p14.2.st 1 v15 p14.1).bind fun h16 =>
 some (.normal, z0a, h16))
 | false => none)
 | false => none)
 | false => none)
 | false => ((asI .i64 v1).bind fun n5 =>
 match decide (n5 = 4) with
 | true => ((nilc x0).bind fun v6 =>
 (zb v6 6).bind fun v7 =>
 (h.ld1 v7).bind fun v8 =>
 (zd 1 v8 x9).bind fun v9 =>
 (h.ld1 v9).bind fun v10 =>
 (zb x6 1).bind fun v11 =>
 (h.ld1 v11).bind fun v12 =>
 (zd 1 v10 v12).bind fun v13 =>
 (h.st 1 v13 (.int .i64 (-1))).bind fun h14 =>
 some (.normal, z0a, h14))
 | false => ((asI .i64 v1).bind fun n6 =>
 match decide (n6 = 5) with
 | true => (match x11 with
 | true => ((nilc x0).bind fun v7 =>
 (zb v7 6).bind fun v8 =>
 (h.ld1 v8).bind fun v9 =>
 (zd 1 v9 x9).bind fun v10 =>
 (h.ld1 v10).bind fun v11 =>
 (zb x6 1).bind fun v12 =>
 (h.ld1 v12).bind fun v13 =>
 (zb x6 3).bind fun v14 =>
 (h.ld1 v14).bind fun v15 =>
 (M.call 106 [x0, x1, v15] h).bind fun p16 =>
 match ckB (p16.2.ld1 v12) v13 with
 | true => (match ckB (p16.2.ld1 v10) v11 with
 | true => (match ckB (p16.2.ld1 v8) v9 with
 | true => ((zd 1 v11 v13).bind fun v17 =>
 (p16.2.st 1 v17 p16.1).bind fun h18 =>
 some (.normal, z0a, h18))
 | false => none)
 | false => none)
 | false => none)
 | false => (some (.normal, z0a, h)))
 | false => ((asI .i64 v1).bind fun n7 =>
 match decide (n7 = 6) with
 | true => ((nilc x0).bind fun v8 =>
 (zb v8 7).bind fun v9 =>
 (h.ld1 v9).bind fun v10 =>
 (zd 1 v10 x1).bind fun v11 =>
 (h.ld1 v11).bind fun v12 =>
 (zb x6 2).bind fun v13 =>
 (h.ld1 v13).bind fun v14 =>
 (h.mapDel .int v12 v14).bind fun h15 =>
 some (.normal, z0a, h15))
 | false => ((asI .i64 v1).bind fun n8 =>
 match decide (n8 = 8) with
 | true => ((nilc x0).bind fun v9 =>
 (zb v9 9).bind fun v10 =>
 (h.ld1 v10).bind fun v11 =>
 (zb x7 1).bind fun v12 =>
 (h.ld1 v12).bind fun v13 =>
 (h.mapSet .int v11 v13 (1:Int)).bind fun h14 =>
 (nilc x0).bind fun v15 =>
 (zb v15 8).bind fun v16 =>
 (h14.ld1 v16).bind fun v17 =>
 (zb x7 1).bind fun v18 =>
 (h14.ld1 v18).bind fun v19 =>
 (M.call 386 [x0, x9] h14).bind fun p20 =>
 match ckB (p20.2.ld1 v18) v19 with
 | true => (match ckB (p20.2.ld1 v16) v17 with
 | true => ((fill [(.int .u64 0), .nilsl] [] [(0, 1, .c v19), (1, 1, .c p20.1)]).bind fun cs21 =>
 (zd 2 v17 x1).bind fun v22 =>
 (p20.2.st 2 v22 (.agg cs21)).bind fun h23 =>
 some (.normal, z0a, h23))
 | false => none)
 | false => none)
 | false => ((asI .i64 v1).bind fun n9 =>
 match decide (n9 = 9) with
 | true => ((zb x7 1).bind fun v10 =>
 (h.ld1 v10).bind fun v11 =>
 (nilc x0).bind fun v12 =>
 (zb v12 8).bind fun v13 =>
 (h.ld1 v13).bind fun v14 =>
 (zd 2 v14 x1).bind fun v15 =>
 (zb v15 1).bind fun v16 =>
 (h.ld1 v16).bind fun v17 =>
 (zd 1 v17 (0:Int)).bind fun v18 =>
 (h.ld1 v18).bind fun v19 =>
 (M.call 385 [x0, x1, v11, v19] h).bind fun p20 =>
 (nilc x0).bind fun v21 =>
 (zb v21 8).bind fun v22 =>
 (p20.2.ld1 v22).bind fun v23 =>
 (nilc x0).bind fun v24 =>
 (zb v24 8).bind fun v25 =>
 (p20.2.ld1 v25).bind fun v26 =>
 (zd 2 v26 x1).bind fun v27 =>
 (zb v27 1).bind fun v28 =>
 (p20.2.ld1 v28).bind fun v29 =>
 (z4f 1 v29 (some (1:Int)) none none).bind fun v30 =>
 (zd 2 v23 x1).bind fun v31 =>
 (zb v31 1).bind fun v32 =>
 (p20.2.st 1 v32 v30).bind fun h33 =>
 some (.normal, z0a, h33))
 | false => ((asI .i64 v1).bind fun n10 =>
 match decide (n10 = 10) with
 | true => ((nilc x0).bind fun v11 =>
 (zb v11 8).bind fun v12 =>
 (h.ld1 v12).bind fun v13 =>
 (zd 2 v13 x1).bind fun v14 =>
 (h.st 2 v14 (.agg [(.int .u64 0), .nilsl])).bind fun h15 =>
 some (.normal, z0a, h15))
 | false => (some (.normal, z0a, h))))))))))
def zpv (M : Env) (h : H) : Rf :=
 some (true, h)
theorem zrx : z0g M F.z0h [a0, (.int .i64 a1), (.agg [(.int .i64 a2_0), (.int .i64 a2_1), (.int .u64 a2_2), (.int .u64 a2_3), (.int .u64 a2_4)]), (.agg [(.int .i64 a3_0), (.int .u64 a3_1), (.bool a3_2)])] h = z0h M a0 a1 a2_0 a2_1 a2_2 a2_3 a2_4 a3_0 a3_1 a3_2 h := by kernel_rfl
theorem z3c : zg7 M (zga x0 (.int .i64 x1) x6 x7 (.int .i64 x9) (.bool x10) (.bool x11)) h = z2w M x0 x1 x6 x7 x9 x10 x11 h := by kernel_rfl
theorem z2k : zht M .normal (z4o x0 (.int .i64 x1) x6 x7 (.int .i64 x9) (.bool x10) (.bool x11)) h = zda M x0 x1 x6 x7 x9 x10 x11 h := by kernel_rfl
theorem z3d : zg8 M (zfz x0 (.int .i64 x1) x6 x7 (.int .i64 x9) (.bool x10) (.bool x11) (.int .i64 x18)) h = z2t M x0 x1 x6 x7 x9 x10 x11 x18 h := by kernel_rfl
theorem z2o : zhs M .normal (z9s x0 (.int .i64 x1) x6 x7 (.int .i64 x9) (.bool x10) (.bool x11) (.int .i64 x18) (.bool x19)) h = z2q M x0 x1 x6 x7 x9 x10 x11 x18 x19 h := by kernel_rfl
theorem zoz : zco M (zcz x0 (.int .i64 x1) x6 x7 (.int .i64 x9) (.bool x10) (.bool x11)) h = z4p M x0 x1 x6 x7 x9 x10 x11 h := by kernel_rfl
theorem zmy : ze9 M .normal (z2u x0 (.int .i64 x1) x6 x7 (.int .i64 x9) (.bool x10) (.bool x11) (.bool x74)) h = zcf M x0 x1 x6 x7 x9 x10 x11 x74 h := by kernel_rfl
theorem zp4 : zcq M (zd2 x0 (.int .i64 x1) x6 x7 (.int .i64 x9) (.bool x10) (.bool x11)) h = z06 M x0 x1 x6 x7 x9 x10 x11 h := by kernel_rfl
theorem zn7 : ze8 M .normal z0a h = zpv M h := by kernel_rfl
def zgb (M : Env) := jb M F.zrp [0, 1, 6, 7, 9, 10]
def zg4 (x0 x1 x6 x7 x10 : V) : List V := x0 :: x1 :: dd 4 (x6 :: x7 :: dd 2 (x10 :: dd 74 []))
def z6o (x0 x1 x6 x7 x9 x10 : V) : List V := x0 :: x1 :: dd 4 (x6 :: x7 :: dd 1 (x9 :: x10 :: dd 74 []))
def zfu (M : Env) := jb M F.zs2 [0, 1, 6, 7, 10, 22]
def zg6 (x0 x1 x6 x7 x10 : V) : List V := x0 :: x1 :: dd 4 (x6 :: x7 :: dd 2 (x10 :: dd 74 []))
def zd9 (x0 x1 x6 x7 x10 x22 : V) : List V := x0 :: x1 :: dd 4 (x6 :: x7 :: dd 2 (x10 :: dd 11 (x22 :: dd 62 [])))
def zs0 (M : Env) := kf F.z1t
def zhr (M : Env) := kq M F.zr9 (zs0 M)
def zre (M : Env) := kj [0, 1, 6, 7, 9, 10]
def zsi (M : Env) := kb 0 (zre M)
def zho (M : Env) := kq M F.zrg (zsi M)
def z1t (M : Env) (a0 : V) (a1 a2_0 a2_1 a2_2 a2_3 a2_4 a3_0 a3_1 : Int) (a3_2 : Bool) (h : H) : Rf :=
 let h0 := h.new (.cells [a2_0, a2_1, (.int .u64 a2_2), (.int .u64 a2_3), (.int .u64 a2_4)] .rw)
 let h1 := h0.new (.cells [a3_0, (.int .u64 a3_1), a3_2] .rw)
 (M.call 279 [a0, a1] h1).bind fun p2 =>
 (asB p2.1).bind fun b3 =>
 match (!b3) with
 | true => (some (false, p2.2))
 | false => ((zgb M (zg4 a0 a1 (.ptr h.next 0) (.ptr h0.next 0) false) p2.2).bind fun p4 => zhr M p4.1 p4.2.1 p4.2.2)
def zfw (M : Env) (x0 : V) (x1 : Int) (x6 x7 : V) (x10 : Bool) (h : H) : Rl :=
 (zfu M (zg6 x0 x1 x6 x7 x10) h).bind fun p0 => zho M p0.1 p0.2.1 p0.2.2
def z1m (M : Env) (x0 : V) (x1 : Int) (x6 x7 : V) (x9 : Int) (x10 : Bool) (h : H) : Rf :=
 match (!decide (x9 = 0)) with
 | true => ((h.ldN 3 x7).bind fun v0 =>
 (eqV (.agg [(0, .int), (1, .int), (2, .bool)]) v0 (.agg [x9, (.int .u64 0), false])).bind fun b1 =>
 some (b1, h))
 | false => ((zb x7 0).bind fun v0 =>
 (h.ld1 v0).bind fun v1 =>
 (asI .i64 v1).bind fun n2 =>
 match decide (n2 = 4) with
 | true => (match x10 with
 | true => ((h.ldN 3 x7).bind fun v3 =>
 (eqV (.agg [(0, .int), (1, .int), (2, .bool)]) v3 (.agg [(4:Int), (.int .u64 0), false])).bind fun b4 =>
 match b4 with
 | true => ((zb x6 0).bind fun v5 =>
 (h.ld1 v5).bind fun v6 =>
 (asI .i64 v6).bind fun n7 =>
 match decide (n7 = 5) with
 | true => ((h.ldN 5 x6).bind fun v8 =>
 (M.call 283 [x0, x1, v8] h).bind fun p9 =>
 (asB p9.1).bind fun b10 =>
 some ((.bool (!(!b10))), p9.2))
 | false => (some (true, h)))
 | false => (some (false, h)))
 | false => (some (false, h)))
 | false => ((zb x7 0).bind fun v3 =>
 (h.ld1 v3).bind fun v4 =>
 (asI .i64 v4).bind fun n5 =>
 match decide (n5 = 0) with
 | true => ((h.ldN 5 x6).bind fun v6 =>
 (h.ldN 3 x7).bind fun v7 =>
 (M.call 284 [x0, x1, v6, v7] h).bind fun p8 =>
 some (p8.1, p8.2))
 | false => (some (false, h))))
def z4n (M : Env) (x0 : V) (x1 : Int) (x6 x7 : V) (x10 : Bool) (h : H) : Rl :=
 (zb x6 0).bind fun v0 =>
 (h.ld1 v0).bind fun v1 =>
 (asI .i64 v1).bind fun n2 =>
 match decide (n2 < 1) with
 | true => (some (.normal, (zd9 x0 x1 x6 x7 x10 true), h))
 | false => ((zb x6 0).bind fun v3 =>
 (h.ld1 v3).bind fun v4 =>
 (asI .i64 v4).bind fun n5 =>
 some (.normal, (zd9 x0 x1 x6 x7 x10 (.bool (decide (10 < n5)))), h))
def z4q (M : Env) (x0 : V) (x1 : Int) (x6 x7 : V) (x10 x22 : Bool) (h : H) : Rl :=
 match x22 with
 | true => (some (.normal, (z6o x0 x1 x6 x7 (8:Int) x10), h))
 | false => ((zb x6 0).bind fun v0 =>
 (h.ld1 v0).bind fun v1 =>
 (asI .i64 v1).bind fun n2 =>
 match decide (n2 = 1) with
 | true => ((h.ldN 5 x6).bind fun v3 =>
 (M.call 280 [x0, x1, v3] h).bind fun p4 =>
 some (.normal, (z6o x0 x1 x6 x7 p4.1 true), p4.2))
 | false => ((zb x6 0).bind fun v3 =>
 (h.ld1 v3).bind fun v4 =>
 (M.call 82 [v4] h).bind fun p5 =>
 (asB p5.1).bind fun b6 =>
 match b6 with
 | true => ((p5.2.ldN 5 x6).bind fun v7 =>
 (M.call 281 [x0, x1, v7] p5.2).bind fun p8 =>
 some (.normal, (z6o x0 x1 x6 x7 p8.1 x10), p8.2))
 | false => ((p5.2.ldN 5 x6).bind fun v7 =>
 (zb x6 0).bind fun v8 =>
 (p5.2.ld1 v8).bind fun v9 =>
 (M.call 282 [x0, x1, v7] p5.2).bind fun p10 =>
 match ckB (p10.2.ld1 v8) v9 with
 | true => ((M.call 83 [v9] p10.2).bind fun p11 =>
 some (.normal, (z6o x0 x1 x6 x7 p10.1 p11.1), p11.2))
 | false => none)))
theorem zrb : z0g M F.z1t [a0, (.int .i64 a1), (.agg [(.int .i64 a2_0), (.int .i64 a2_1), (.int .u64 a2_2), (.int .u64 a2_3), (.int .u64 a2_4)]), (.agg [(.int .i64 a3_0), (.int .u64 a3_1), (.bool a3_2)])] h = z1t M a0 a1 a2_0 a2_1 a2_2 a2_3 a2_4 a3_0 a3_1 a3_2 h := by kernel_rfl
theorem zp3 : zgb M (zg4 x0 (.int .i64 x1) x6 x7 (.bool x10)) h = zfw M x0 x1 x6 x7 x10 h := by kernel_rfl
theorem z58 : zhr M .normal (z6o x0 (.int .i64 x1) x6 x7 (.int .i64 x9) (.bool x10)) h = z1m M x0 x1 x6 x7 x9 x10 h := by kernel_rfl
theorem z69 : zfu M (zg6 x0 (.int .i64 x1) x6 x7 (.bool x10)) h = z4n M x0 x1 x6 x7 x10 h := by kernel_rfl
theorem z57 : zho M .normal (zd9 x0 (.int .i64 x1) x6 x7 (.bool x10) (.bool x22)) h = z4q M x0 x1 x6 x7 x10 x22 h := by kernel_rfl
def zpp (M : Env) := lb M F.zzo [3, 15, 16] [3]
def zf5 (x3 x15 x16 : V) : List V := dd 3 (x3 :: dd 11 (x15 :: x16 :: dd 13 []))
def zi1 (x3 : V) : List V := dd 3 (x3 :: dd 26 [])
def zz4 (M : Env) := kf F.z9l
def zzs (M : Env) := kq M F.zzq (zz4 M)
def zng (M : Env) := kb 0 (zzs M)
def z9l (M : Env) (a0_0 a0_1 a0_2 a0_3 a0_4 a0_5 : Int) (h : H) : Rf :=
 let h0 := h.new (.cells [a0_0, a0_1, a0_2, a0_3, a0_4, a0_5] .rw)
 (h0.ldN 6 (.ptr h.next 0)).bind fun v1 =>
 (M.call 263 [v1] h0).bind fun p2 =>
 (asB p2.1).bind fun b3 =>
 match (!b3) with
 | true => (some (.nilp, p2.2))
 | false => ((p2.2.ldN 6 (.ptr h.next 0)).bind fun v4 =>
 (p2.2.ld1 (.ptr h.next 2)).bind fun v5 =>
 (asI .i64 v5).bind fun n6 =>
 (asI .i64 v5).bind fun n7 =>
 (p2.2.mkSl 2 32 [(.int .u64 0), .nilsl] n6 n7).bind fun p8 =>
 let h9 := p8.2.new (.map [])
 (fill [(0:Int), (0:Int), (0:Int), (0:Int), (0:Int), (0:Int), .nilsl, .nilsl, .nilsl, .nilmap] [] [(0, 6, .c v4), (8, 1, .c p8.1), (9, 1, .c (.map p8.2.next))]).bind fun cs10 =>
 (boxc (.agg cs10)).bind fun cs11 =>
 let h12 := h9.new (.cells cs11 .rw)
 (h12.ld1 (.ptr h.next 2)).bind fun v13 =>
 (M.loop (zpp M) (zf5 (.ptr h9.next 0) v13 (0:Int)) h12).bind fun p14 => zng M p14.1 p14.2.1 p14.2.2)
def zid (M : Env) (x3 : V) (x15 x16 : Int) (h : H) : Rl :=
 match decide (x16 < x15) with
 | true => ((nilc x3).bind fun v0 =>
 (zb v0 7).bind fun v1 =>
 (h.ld1 v1).bind fun v2 =>
 let h3 := h.new (.map [])
 let h4 := h3.new (.cells [(.map h.next)] .rw)
 (h4.append 1 8 v2 (.sl h3.next 0 1 (.ex 1))).bind fun p5 =>
 (nilc x3).bind fun v6 =>
 (zb v6 7).bind fun v7 =>
 (p5.2.st 1 v7 p5.1).bind fun h8 =>
 some (.normal, (zf5 x3 x15 (.int .i64 (wr .i64 (x16 + 1)))), h8))
 | false => (some ((.exit 0), (zi1 x3), h))
def zvs (M : Env) (x3 : V) (h : H) : Rf :=
 some (x3, h)
theorem zz6 : z0g M F.z9l [(.agg [(.int .i64 a0_0), (.int .i64 a0_1), (.int .i64 a0_2), (.int .i64 a0_3), (.int .i64 a0_4), (.int .i64 a0_5)])] h = z9l M a0_0 a0_1 a0_2 a0_3 a0_4 a0_5 h := by kernel_rfl
theorem zw2 : zpp M (zf5 x3 (.int .i64 x15) (.int .i64 x16)) h = zid M x3 x15 x16 h := by kernel_rfl
theorem zt8 : zng M (.exit 0) (zi1 x3) h = zvs M x3 h := by kernel_rfl
def z6r (M : Env) (a0_0 a0_1 a0_2 a0_3 a0_4 a0_5 : Int) (h : H) : Rf :=
 let h0 := h.new (.cells [a0_0, a0_1, a0_2, a0_3, a0_4, a0_5] .rw)
 let h1 := h0.new (.cells [(0:Int), (0:Int), (0:Int), (0:Int), (0:Int), (0:Int), .nilsl, .nilsl, .nilsl, .nilsl, .nilsl] .rw)
 (h1.ldN 6 (.ptr h.next 0)).bind fun v2 =>
 (h1.ld1 (.ptr h.next 2)).bind fun v3 =>
 (h1.ld1 (.ptr h.next 2)).bind fun v4 =>
 (asI .i64 v3).bind fun n5 =>
 (asI .i64 v3).bind fun n6 =>
 (h1.mkSl 1 8 [(.int .u64 0)] n5 n6).bind fun p7 =>
 (asI .i64 v4).bind fun n8 =>
 (asI .i64 v4).bind fun n9 =>
 (p7.2.mkSl 1 24 [.nilsl] n8 n9).bind fun p10 =>
 (fill [(0:Int), (0:Int), (0:Int), (0:Int), (0:Int), (0:Int), .nilsl, .nilsl, .nilsl, .nilsl, .nilsl] [] [(0, 6, .c v2), (8, 1, .c p7.1), (9, 1, .c p10.1)]).bind fun cs11 =>
 (p10.2.st 11 (.ptr h0.next 0) (.agg cs11)).bind fun h12 =>
 finV h12 [.cell true 11 (.ptr h0.next 0)]
theorem zu8 : z0g M F.z6r [(.agg [(.int .i64 a0_0), (.int .i64 a0_1), (.int .i64 a0_2), (.int .i64 a0_3), (.int .i64 a0_4), (.int .i64 a0_5)])] h = z6r M a0_0 a0_1 a0_2 a0_3 a0_4 a0_5 h := by kernel_rfl
def zg2 (M : Env) := lb M F.zrm [0, 3, 29, 30, 31] [0, 3]
def z6s (x0 x3 x29 x30 x31 : V) : List V := x0 :: dd 2 (x3 :: dd 25 (x29 :: x30 :: x31 :: dd 37 []))
def zcr (x0 x3 : V) : List V := x0 :: dd 2 (x3 :: dd 65 [])
def zfx (M : Env) := lb M F.zrn [3, 50, 51, 52] [3]
def z6p (x3 x50 x51 x52 : V) : List V := dd 3 (x3 :: dd 46 (x50 :: x51 :: x52 :: dd 16 []))
def zd8 (x3 : V) : List V := dd 3 (x3 :: dd 65 [])
def zhu (M : Env) := kf F.z1r
def zra (M : Env) := kq M F.zs3 (zhu M)
def zec (M : Env) := kb 0 (zra M)
def zri (M : Env) := kq M F.zsl (zhu M)
def zea (M : Env) := kb 2 (zri M)
def z1r (M : Env) (a0 : V) (h : H) : Rf :=
 (eqV .ptr a0 .nilp).bind fun b0 =>
 match b0 with
 | true => (some (.nilp, h))
 | false => ((nilc a0).bind fun v1 =>
 (zb v1 0).bind fun v2 =>
 (h.ldN 6 v2).bind fun v3 =>
 (nilc a0).bind fun v4 =>
 (zb v4 8).bind fun v5 =>
 (h.ld1 v5).bind fun v6 =>
 (nilc a0).bind fun v7 =>
 (zb v7 9).bind fun v8 =>
 (h.ld1 v8).bind fun v9 =>
 (M.call 285 [v6] h).bind fun p10 =>
 match ckB (p10.2.ld1 v8) v9 with
 | true => (match ckB (p10.2.ldN 6 v2) v3 with
 | true => ((M.call 286 [v9] p10.2).bind fun p11 =>
 match ckB (p11.2.ldN 6 v2) v3 with
 | true => ((fill [(0:Int), (0:Int), (0:Int), (0:Int), (0:Int), (0:Int), .nilsl, .nilsl, .nilsl, .nilmap] [] [(0, 6, .c v3), (8, 1, .c p10.1), (9, 1, .c p11.1)]).bind fun cs12 =>
 (boxc (.agg cs12)).bind fun cs13 =>
 let h14 := p11.2.new (.cells cs13 .rw)
 (nilc a0).bind fun v15 =>
 (zb v15 6).bind fun v16 =>
 (h14.ld1 v16).bind fun v17 =>
 (lenSl v17).bind fun n18 =>
 (M.loop (zg2 M) (z6s a0 (.ptr p11.2.next 0) v17 (.int .i64 (n18 : Int)) (0:Int)) h14).bind fun p19 => zec M p19.1 p19.2.1 p19.2.2)
 | false => none)
 | false => none)
 | false => none)
def z9u (M : Env) (x0 x3 x29 : V) (x30 x31 : Int) (h : H) : Rl :=
 match decide (x31 < x30) with
 | true => ((zd 1 x29 x31).bind fun v0 =>
 (h.ld1 v0).bind fun v1 =>
 (nilc x3).bind fun v2 =>
 (zb v2 6).bind fun v3 =>
 (h.ld1 v3).bind fun v4 =>
 (M.call 287 [v1] h).bind fun p5 =>
 match ckB (p5.2.ld1 v3) v4 with
 | true => ((fill (repl [.nilsl] 1) [] [(0, 1, .c p5.1)]).bind fun cs6 =>
 let h7 := p5.2.new (.cells cs6 .rw)
 (h7.append 1 24 v4 (.sl p5.2.next 0 1 (.ex 1))).bind fun p8 =>
 (nilc x3).bind fun v9 =>
 (zb v9 6).bind fun v10 =>
 (p8.2.st 1 v10 p8.1).bind fun h11 =>
 some (.normal, (z6s x0 x3 x29 x30 (.int .i64 (wr .i64 (x31 + 1)))), h11))
 | false => none)
 | false => (some ((.exit 0), (zcr x0 x3), h))
def zfi (M : Env) (x0 x3 : V) (h : H) : Rf :=
 (nilc x0).bind fun v0 =>
 (zb v0 7).bind fun v1 =>
 (h.ld1 v1).bind fun v2 =>
 (lenSl v2).bind fun n3 =>
 (M.loop (zfx M) (z6p x3 v2 (.int .i64 (n3 : Int)) (0:Int)) h).bind fun p4 => zea M p4.1 p4.2.1 p4.2.2
def z9x (M : Env) (x3 x50 : V) (x51 x52 : Int) (h : H) : Rl :=
 match decide (x52 < x51) with
 | true => ((zd 1 x50 x52).bind fun v0 =>
 (h.ld1 v0).bind fun v1 =>
 (nilc x3).bind fun v2 =>
 (zb v2 7).bind fun v3 =>
 (h.ld1 v3).bind fun v4 =>
 (M.call 286 [v1] h).bind fun p5 =>
 match ckB (p5.2.ld1 v3) v4 with
 | true => ((fill (repl [.nilmap] 1) [] [(0, 1, .c p5.1)]).bind fun cs6 =>
 let h7 := p5.2.new (.cells cs6 .rw)
 (h7.append 1 8 v4 (.sl p5.2.next 0 1 (.ex 1))).bind fun p8 =>
 (nilc x3).bind fun v9 =>
 (zb v9 7).bind fun v10 =>
 (p8.2.st 1 v10 p8.1).bind fun h11 =>
 some (.normal, (z6p x3 x50 x51 (.int .i64 (wr .i64 (x52 + 1)))), h11))
 | false => none)
 | false => (some ((.exit 2), (zd8 x3), h))
def zoq (M : Env) (x3 : V) (h : H) : Rf :=
 some (x3, h)
theorem zrk : z0g M F.z1r [a0] h = z1r M a0 h := by kernel_rfl
theorem zop : zg2 M (z6s x0 x3 x29 (.int .i64 x30) (.int .i64 x31)) h = z9u M x0 x3 x29 x30 x31 h := by kernel_rfl
theorem zlo : zec M (.exit 0) (zcr x0 x3) h = zfi M x0 x3 h := by kernel_rfl
theorem zoh : zfx M (z6p x3 x50 (.int .i64 x51) (.int .i64 x52)) h = z9x M x3 x50 x51 x52 h := by kernel_rfl
theorem zlh : zea M (.exit 2) (zd8 x3) h = zoq M x3 h := by kernel_rfl
def z26 (M : Env) (a0 : V) (h : H) : Rf :=
 (eqV .sl a0 .nilsl).bind fun b0 =>
 match b0 with
 | true => (some (.nilsl, h))
 | false => (let h1 := h.new (.cells [] .rw)
 (h1.append 1 8 (.sl h.next 0 0 (.ex 0)) a0).bind fun p2 =>
 some (p2.1, p2.2))
theorem zki : z0g M F.z26 [a0] h = z26 M a0 h := by kernel_rfl
def z0c (M : Env) (a0 : V) (h : H) : Rf :=
 (eqV .sl a0 .nilsl).bind fun b0 =>
 match b0 with
 | true => (some (.nilsl, h))
 | false => (let h1 := h.new (.cells [] .rw)
 (h1.append 2 32 (.sl h.next 0 0 (.ex 0)) a0).bind fun p2 =>
 some (p2.1, p2.2))
theorem zdp : z0g M F.z0c [a0] h = z0c M a0 h := by kernel_rfl
def z0b (M : Env) (a0 : V) (h : H) : Rf :=
 (eqV .map a0 .nilmap).bind fun b0 =>
 match b0 with
 | true => (some (.nilmap, h))
 | false => ((h.cloneM (.ifc 159 a0)).bind fun p1 =>
 (zv7 159 p1.1).bind fun v2 =>
 some (v2, p1.2))
theorem zdw : z0g M F.z0b [a0] h = z0b M a0 h := by kernel_rfl
def zfd (M : Env) := lb M F.zpz [1, 2, 7, 8] [2, 6]
def z6d (x1 x2 x7 x8 : V) : List V := dd 1 (x1 :: x2 :: dd 4 (x7 :: x8 :: dd 50 []))
def z1f (x2 x6 : V) : List V := dd 2 (x2 :: dd 3 (x6 :: dd 52 []))
def zqd (M : Env) := kf F.z27
def zqq (M : Env) := kq M F.zqp (zqd M)
def z7m (M : Env) := kb 0 (zqq M)
def z27 (M : Env) (a0_0 a0_1 a0_2 a0_3 a0_4 a0_5 : Int) (a1 a2 : V) (h : H) : Rf :=
 let h0 := h.new (.cells [a0_0, a0_1, a0_2, a0_3, a0_4, a0_5] .rw)
 (h0.ldN 6 (.ptr h.next 0)).bind fun v1 =>
 (M.call 99 [v1] h0).bind fun p2 =>
 let h3 := p2.2.new (.cells [(0:Int), (0:Int), (0:Int), (0:Int), (0:Int), (0:Int), .nilsl, .nilsl, .nilsl, .nilsl, .nilsl] .rw)
 (h3.st 11 (.ptr p2.2.next 0) p2.1).bind fun h4 =>
 (M.loop (zfd M) (z6d a1 a2 (.ptr p2.2.next 0) (0:Int)) h4).bind fun p5 => z7m M p5.1 p5.2.1 p5.2.2
def z39 (M : Env) (x1 x2 x7 : V) (x8 : Int) (h : H) : Rl :=
 (lenSl x2).bind fun n0 =>
 match decide (x8 < (n0 : Int)) with
 | true => ((zd 1 x2 x8).bind fun v1 =>
 (h.ld1 v1).bind fun v2 =>
 (asI .i64 v2).bind fun n3 =>
 match decide (n3 < 0) with
 | true => (some (.ret, (z1f x2 x8), h))
 | false => ((lenSl x1).bind fun n4 =>
 (asI .i64 v2).bind fun n5 =>
 match decide ((n4 : Int) ≤ n5) with
 | true => (some (.ret, (z1f x2 x8), h))
 | false => ((h.ldN 11 x7).bind fun v6 =>
 (zd 14 x1 v2).bind fun v7 =>
 (zb v7 0).bind fun v8 =>
 (h.ld1 v8).bind fun v9 =>
 (zd 14 x1 v2).bind fun v10 =>
 (zb v10 6).bind fun v11 =>
 (h.ldN 5 v11).bind fun v12 =>
 (zd 14 x1 v2).bind fun v13 =>
 (zb v13 11).bind fun v14 =>
 (h.ldN 3 v14).bind fun v15 =>
 (M.call 102 [v6, v9, v12, v15] h).bind fun p16 =>
 match p16.1 with
 | .tup vs17 => ((vs17[0]?).bind fun v18 =>
 match p16.1 with
 | .tup vs19 => ((vs19[1]?).bind fun v20 =>
 let h21 := p16.2.new (.cells [(0:Int), (0:Int), (0:Int), (0:Int), (0:Int), (0:Int), .nilsl, .nilsl, .nilsl, .nilsl, .nilsl] .rw)
 (h21.st 11 (.ptr p16.2.next 0) v18).bind fun h22 =>
 (asB v20).bind fun b23 =>
 match (!b23) with
 | true => (some (.ret, (z1f x2 x8), h22))
 | false => ((h22.ldN 11 (.ptr p16.2.next 0)).bind fun v24 =>
 (h22.st 11 x7 v24).bind fun h25 =>
 some (.normal, (z6d x1 x2 x7 (.int .i64 (wr .i64 (x8 + 1)))), h25)))
 | _ => none)
 | _ => none)))
 | false => (some ((.exit 0), (z1f x2 .dead), h))
def zf8 (M : Env) (x2 x6 : V) (h : H) : Rf :=
 (lenSl x2).bind fun n0 =>
 some ((.int .i64 (n0 : Int)), h)
def zp9 (M : Env) (x2 : V) (x6 : Int) (h : H) : Rf :=
 some (x6, h)
theorem zqm : z0g M F.z27 [(.agg [(.int .i64 a0_0), (.int .i64 a0_1), (.int .i64 a0_2), (.int .i64 a0_3), (.int .i64 a0_4), (.int .i64 a0_5)]), a1, a2] h = z27 M a0_0 a0_1 a0_2 a0_3 a0_4 a0_5 a1 a2 h := by kernel_rfl
theorem zo0 : zfd M (z6d x1 x2 x7 (.int .i64 x8)) h = z39 M x1 x2 x7 x8 h := by kernel_rfl
theorem zka : z7m M (.exit 0) (z1f x2 x6) h = zf8 M x2 x6 h := by kernel_rfl
theorem zko : z7m M .ret (z1f x2 (.int .i64 x6)) h = zp9 M x2 x6 h := by kernel_rfl
def zev (M : Env) := lb M F.zpa [0, 1, 5, 6] [4]
def z3r (x0 x1 x5 x6 : V) : List V := x0 :: x1 :: dd 3 (x5 :: x6 :: dd 54 [])
def z0f (x4 : V) : List V := dd 4 (x4 :: dd 56 [])
def zb5 (M : Env) := lb M F.zp2 [0, 1, 5, 6, 7, 8] [0, 1, 4, 5, 6]
def z55 (x0 x1 x5 x6 x7 x8 : V) : List V := x0 :: x1 :: dd 3 (x5 :: x6 :: x7 :: x8 :: dd 52 [])
def z21 (x0 x1 x4 x5 x6 : V) : List V := x0 :: x1 :: dd 2 (x4 :: x5 :: x6 :: dd 54 [])
def zos (M : Env) := kf F.z0t
def zoy (M : Env) := kq M F.zp0 (zos M)
def z65 (M : Env) := kb 0 (zoy M)
def zot (M : Env) := kl [0, 1, 5, 6] [4]
def zol (M : Env) := kq M F.zpe (zot M)
def zof (M : Env) := kb 1 (zol M)
def z67 (M : Env) := kb 2 (zof M)
def z0t (M : Env) (a0 a1 : V) (h : H) : Rf :=
 (lenSl a1).bind fun n0 =>
 (lenSl a0).bind fun n1 =>
 match (!decide ((n0 : Int) = (n1 : Int))) with
 | true => (some (false, h))
 | false => ((lenSl a0).bind fun n2 =>
 (h.mkSl 1 1 [false] (n2 : Int) (n2 : Int)).bind fun p3 =>
 (M.loop (zev M) (z3r a0 a1 p3.1 (0:Int)) p3.2).bind fun p4 => z65 M p4.1 p4.2.1 p4.2.2)
def z2i (M : Env) (x0 x1 x5 : V) (x6 : Int) (h : H) : Rl :=
 (lenSl x1).bind fun n0 =>
 match decide (x6 < (n0 : Int)) with
 | true => ((zd 1 x1 x6).bind fun v1 =>
 (h.ld1 v1).bind fun v2 =>
 (asI .i64 v2).bind fun n3 =>
 match decide (n3 < 0) with
 | true => (some (.ret, (z0f false), h))
 | false => ((lenSl x0).bind fun n4 =>
 (asI .i64 v2).bind fun n5 =>
 match decide ((n4 : Int) ≤ n5) with
 | true => (some (.ret, (z0f false), h))
 | false => ((zd 1 x5 v2).bind fun v6 =>
 (h.ld1 v6).bind fun v7 =>
 (asB v7).bind fun b8 =>
 match b8 with
 | true => (some (.ret, (z0f false), h))
 | false => ((zd 1 x5 v2).bind fun v9 =>
 (h.st 1 v9 true).bind fun h10 =>
 (M.loop (zb5 M) (z55 x0 x1 x5 x6 v2 (0:Int)) h10).bind fun p11 => z67 M p11.1 p11.2.1 p11.2.2))))
 | false => (some ((.exit 0), (z0f .dead), h))
def zkp (M : Env) (x4 : V) (h : H) : Rf :=
 some (true, h)
def znf (M : Env) (x4 : Bool) (h : H) : Rf :=
 some (x4, h)
def z7n (M : Env) (x0 x1 x5 : V) (x6 x7 x8 : Int) (h : H) : Rl :=
 match decide (x8 < x6) with
 | true => ((zd 14 x0 x7).bind fun v0 =>
 (h.ldN 14 v0).bind fun v1 =>
 (zd 1 x1 x8).bind fun v2 =>
 (h.ld1 v2).bind fun v3 =>
 (zd 14 x0 v3).bind fun v4 =>
 (h.ldN 14 v4).bind fun v5 =>
 (M.call 184 [v1, v5] h).bind fun p6 =>
 (asB p6.1).bind fun b7 =>
 match b7 with
 | true => (some (.ret, (z21 x0 x1 false x5 x6), p6.2))
 | false => (some (.normal, (z55 x0 x1 x5 x6 x7 (.int .i64 (wr .i64 (x8 + 1)))), p6.2)))
 | false => (some ((.exit 2), (z21 x0 x1 .dead x5 x6), h))
def zem (M : Env) (x0 x1 x4 x5 : V) (x6 : Int) (h : H) : Rl :=
 some (.normal, (z3r x0 x1 x5 (.int .i64 (wr .i64 (x6 + 1)))), h)
def znz (M : Env) (x0 x1 : V) (x4 : Bool) (x5 x6 : V) (h : H) : Rl :=
 some (.ret, (z0f x4), h)
theorem zpg : z0g M F.z0t [a0, a1] h = z0t M a0 a1 h := by kernel_rfl
theorem zlg : zev M (z3r x0 x1 x5 (.int .i64 x6)) h = z2i M x0 x1 x5 x6 h := by kernel_rfl
theorem zi6 : z65 M (.exit 0) (z0f x4) h = zkp M x4 h := by kernel_rfl
theorem zip : z65 M .ret (z0f (.bool x4)) h = znf M x4 h := by kernel_rfl
theorem zkl : zb5 M (z55 x0 x1 x5 (.int .i64 x6) (.int .i64 x7) (.int .i64 x8)) h = z7n M x0 x1 x5 x6 x7 x8 h := by kernel_rfl
theorem zi0 : z67 M (.exit 2) (z21 x0 x1 x4 x5 (.int .i64 x6)) h = zem M x0 x1 x4 x5 x6 h := by kernel_rfl
theorem zix : z67 M .ret (z21 x0 x1 (.bool x4) x5 x6) h = znz M x0 x1 x4 x5 x6 h := by kernel_rfl
def zt0 (M : Env) := lb M F.z01g [0, 1, 2, 12, 13, 14] [6]
def zbf (x0 x1 x2 x12 x13 x14 : V) : List V := x0 :: x1 :: x2 :: dd 9 (x12 :: x13 :: x14 :: dd 22 [])
def z8z (x6 : V) : List V := dd 6 (x6 :: dd 30 [])
def z01w (M : Env) := kf F.zbq
def z01r (M : Env) := kq M F.z022 (z01w M)
def zh2 (M : Env) := kb 0 (z01r M)
def zbq (M : Env) (a0 a1 : V) (a2 : Int) (h : H) : Rf :=
 (M.call 331 [a1, a2] h).bind fun p0 =>
 (asB p0.1).bind fun b1 =>
 match b1 with
 | true => (some (false, p0.2))
 | false => ((lenSl a0).bind fun n2 =>
 (M.loop (zt0 M) (zbf a0 a1 a2 a0 (.int .i64 (n2 : Int)) (0:Int)) p0.2).bind fun p3 => zh2 M p3.1 p3.2.1 p3.2.2)
def zb8 (M : Env) (x0 x1 : V) (x2 : Int) (x12 : V) (x13 x14 : Int) (h : H) : Rl :=
 match decide (x14 < x13) with
 | true => ((zd 14 x12 x14).bind fun v0 =>
 (h.ldN 14 v0).bind fun v1 =>
 let h2 := h.new (.cells [(0:Int), (0:Int), (0:Int), (0:Int), (0:Int), false, (0:Int), (0:Int), (.int .u64 0), (.int .u64 0), (.int .u64 0), (0:Int), (.int .u64 0), false] .rw)
 (h2.st 14 (.ptr h.next 0) v1).bind fun h3 =>
 match (!decide (x14 = x2)) with
 | true => ((M.call 331 [x1, x14] h3).bind fun p4 =>
 (asB p4.1).bind fun b5 =>
 match (!b5) with
 | true => ((p4.2.ldN 14 (.ptr h.next 0)).bind fun v6 =>
 (zd 14 x0 x2).bind fun v7 =>
 (p4.2.ldN 14 v7).bind fun v8 =>
 (M.call 183 [v6, v8] p4.2).bind fun p9 =>
 (asB p9.1).bind fun b10 =>
 match b10 with
 | true => (some (.ret, (z8z false), p9.2))
 | false => (some (.normal, (zbf x0 x1 x2 x12 x13 (.int .i64 (wr .i64 (x14 + 1)))), p9.2)))
 | false => (some (.normal, (zbf x0 x1 x2 x12 x13 (.int .i64 (wr .i64 (x14 + 1)))), p4.2)))
 | false => (some (.normal, (zbf x0 x1 x2 x12 x13 (.int .i64 (wr .i64 (x14 + 1)))), h3)))
 | false => (some ((.exit 0), (z8z .dead), h))
def zxz (M : Env) (x6 : V) (h : H) : Rf :=
 some (true, h)
def zyu (M : Env) (x6 : Bool) (h : H) : Rf :=
 some (x6, h)
theorem z01m : z0g M F.zbq [a0, a1, (.int .i64 a2)] h = zbq M a0 a1 a2 h := by kernel_rfl
theorem zy1 : zt0 M (zbf x0 x1 (.int .i64 x2) x12 (.int .i64 x13) (.int .i64 x14)) h = zb8 M x0 x1 x2 x12 x13 x14 h := by kernel_rfl
theorem zur : zh2 M (.exit 0) (z8z x6) h = zxz M x6 h := by kernel_rfl
theorem zv2 : zh2 M .ret (z8z (.bool x6)) h = zyu M x6 h := by kernel_rfl
end Wm.S
end
