/- PRINTED by my tool: what functions come to, stretch by stretch. -/
import Derived.KernelRfl
import Derived.Test.YthkimcdeejjmbaaWmShal
import Derived.Test.YthkimcdeejjmbaaWmFnsLinSearches
import Derived.Test.YthkimcdeejjmbaaWmTxtLinSearchesA
set_option linter.all false
noncomputable section
namespace Wm.S
open Wm
set_option maxRecDepth 100000
set_option autoImplicit true
set_option relaxedAutoImplicit true
def z2a (M : Env) (a0_0 a0_1 a0_2 a0_3 a0_4 a0_5 : Int) (a0_6 a0_7 a0_8 a0_9 a0_10 : V) (a1 a2 a3 : Int) (h : H) : Rf :=
 let h0 := h.new (.cells [a0_0, a0_1, a0_2, a0_3, a0_4, a0_5, a0_6, a0_7, a0_8, a0_9, a0_10] .rw)
 let h1 := h0.new (.cells [(0:Int), (0:Int), (0:Int), (0:Int), (0:Int), (0:Int), .nilsl, .nilsl, .nilsl, .nilsl, .nilsl] .rw)
 (h1.ld1 (.ptr h.next 10)).bind fun v2 =>
 let h3 := h1.new (.cells [(.int .u64 a2)] .rw)
 (h3.append 1 8 v2 (.sl h1.next 0 1 (.ex 1))).bind fun p4 =>
 (p4.2.st 1 (.ptr h.next 10) p4.1).bind fun h5 =>
 (h5.ld1 (.ptr h.next 7)).bind fun v6 =>
 let h7 := h5.new (.cells [a1, (.int .u64 a2), a3] .rw)
 (h7.append 3 24 v6 (.sl h5.next 0 1 (.ex 1))).bind fun p8 =>
 (p8.2.st 1 (.ptr h.next 7) p8.1).bind fun h9 =>
 (h9.ldN 11 (.ptr h.next 0)).bind fun v10 =>
 (h9.st 11 (.ptr h0.next 0) v10).bind fun h11 =>
 finV h11 [.cell true 11 (.ptr h0.next 0)]
theorem zls : z0g M F.z2a [(.agg [(.int .i64 a0_0), (.int .i64 a0_1), (.int .i64 a0_2), (.int .i64 a0_3), (.int .i64 a0_4), (.int .i64 a0_5), a0_6, a0_7, a0_8, a0_9, a0_10]), (.int .i64 a1), (.int .u64 a2), (.int .i64 a3)] h = z2a M a0_0 a0_1 a0_2 a0_3 a0_4 a0_5 a0_6 a0_7 a0_8 a0_9 a0_10 a1 a2 a3 h := by kernel_rfl
def ze6 (M : Env) := jb M F.zmo [1, 4, 6, 7, 8, 9]
def ze3 (x1 x4 x6 x7 x8 : V) : List V := dd 1 (x1 :: dd 2 (x4 :: dd 1 (x6 :: x7 :: x8 :: dd 350 [])))
def z4b (x1 x4 x6 x7 x8 x9 : V) : List V := dd 1 (x1 :: dd 2 (x4 :: dd 1 (x6 :: x7 :: x8 :: x9 :: dd 349 [])))
def zae (M : Env) := jb M F.znj [1, 4, 6, 7, 8, 11, 12]
def zag (x1 x4 x6 x7 x8 x11 : V) : List V := dd 1 (x1 :: dd 2 (x4 :: dd 1 (x6 :: x7 :: x8 :: dd 2 (x11 :: dd 347 []))))
def za8 (x1 x4 x6 x7 x8 x11 x12 : V) : List V := dd 1 (x1 :: dd 2 (x4 :: dd 1 (x6 :: x7 :: x8 :: dd 2 (x11 :: x12 :: dd 346 []))))
def za7 (M : Env) := jb M F.zn6 [4, 7, 8, 13]
def za5 (x4 x6 x7 x8 x12 : V) : List V := dd 4 (x4 :: dd 1 (x6 :: x7 :: x8 :: dd 3 (x12 :: dd 346 [])))
def z34 (x4 x7 x8 x13 : V) : List V := dd 4 (x4 :: dd 2 (x7 :: x8 :: dd 4 (x13 :: dd 345 [])))
def zac (M : Env) := jb M F.zn2 [1, 4, 6, 7, 8, 11, 12, 14]
def zah (x1 x4 x6 x7 x8 x11 x12 : V) : List V := dd 1 (x1 :: dd 2 (x4 :: dd 1 (x6 :: x7 :: x8 :: dd 2 (x11 :: x12 :: dd 346 []))))
def z35 (x1 x4 x6 x7 x8 x11 x12 x14 : V) : List V := dd 1 (x1 :: dd 2 (x4 :: dd 1 (x6 :: x7 :: x8 :: dd 2 (x11 :: x12 :: dd 1 (x14 :: dd 344 [])))))
def z5k (M : Env) := jb M F.zm2 [1, 4, 6, 7, 8, 11, 14, 15]
def z5y (x1 x4 x6 x7 x8 x11 x12 x14 : V) : List V := dd 1 (x1 :: dd 2 (x4 :: dd 1 (x6 :: x7 :: x8 :: dd 2 (x11 :: x12 :: dd 1 (x14 :: dd 344 [])))))
def z5v (x1 x4 x6 x7 x8 x11 x14 x15 : V) : List V := dd 1 (x1 :: dd 2 (x4 :: dd 1 (x6 :: x7 :: x8 :: dd 2 (x11 :: dd 2 (x14 :: x15 :: dd 343 [])))))
def z5p (M : Env) := jb M F.zlt [1, 4, 6, 7, 8, 11, 14, 15, 179]
def z5n (x1 x4 x6 x7 x8 x11 x14 x15 : V) : List V := dd 1 (x1 :: dd 2 (x4 :: dd 1 (x6 :: x7 :: x8 :: dd 2 (x11 :: dd 2 (x14 :: x15 :: dd 343 [])))))
def z11 (x1 x4 x6 x7 x8 x11 x14 x15 x179 : V) : List V := dd 1 (x1 :: dd 2 (x4 :: dd 1 (x6 :: x7 :: x8 :: dd 2 (x11 :: dd 2 (x14 :: x15 :: dd 163 (x179 :: dd 179 []))))))
def z8w (M : Env) := jb M F.zl0 [8, 16]
def z8u (x1 x4 x6 x7 x8 x11 x14 x15 x16 : V) : List V := dd 1 (x1 :: dd 2 (x4 :: dd 1 (x6 :: x7 :: x8 :: dd 2 (x11 :: dd 2 (x14 :: x15 :: x16 :: dd 342 [])))))
def z01 (x8 x16 : V) : List V := dd 8 (x8 :: dd 7 (x16 :: dd 342 []))
def zdk (M : Env) := lb M F.zm6 [1, 6, 7, 8, 16, 17, 18] [1, 7, 8, 16, 17]
def z5x (x1 x6 x7 x8 x16 x17 x18 : V) : List V := dd 1 (x1 :: dd 4 (x6 :: x7 :: x8 :: dd 7 (x16 :: x17 :: x18 :: dd 340 [])))
def z97 (x1 x7 x8 x16 x17 : V) : List V := dd 1 (x1 :: dd 5 (x7 :: x8 :: dd 7 (x16 :: x17 :: dd 341 [])))
def zdh (M : Env) := jb M F.zl8 [1, 4, 6, 7, 8, 11, 15, 16, 184, 231]
def zdg (x1 x4 x6 x7 x8 x11 x15 x16 x184 : V) : List V := dd 1 (x1 :: dd 2 (x4 :: dd 1 (x6 :: x7 :: x8 :: dd 2 (x11 :: dd 3 (x15 :: x16 :: dd 167 (x184 :: dd 174 []))))))
def z9j (x1 x4 x6 x7 x8 x11 x15 x16 x184 x231 : V) : List V := dd 1 (x1 :: dd 2 (x4 :: dd 1 (x6 :: x7 :: x8 :: dd 2 (x11 :: dd 3 (x15 :: x16 :: dd 167 (x184 :: dd 46 (x231 :: dd 127 [])))))))
def zdf (M : Env) := jb M F.zlf [1, 4, 6, 8, 11, 16, 239]
def zdn (x1 x4 x6 x8 x11 x15 x16 : V) : List V := dd 1 (x1 :: dd 2 (x4 :: dd 1 (x6 :: dd 1 (x8 :: dd 2 (x11 :: dd 3 (x15 :: x16 :: dd 342 []))))))
def z9a (x1 x4 x6 x8 x11 x16 x239 : V) : List V := dd 1 (x1 :: dd 2 (x4 :: dd 1 (x6 :: dd 1 (x8 :: dd 2 (x11 :: dd 4 (x16 :: dd 222 (x239 :: dd 119 [])))))))
def zdm (M : Env) := lb M F.zmc [1, 4, 6, 8, 16, 19] [8, 16]
def z3y (x1 x4 x6 x8 x16 x19 : V) : List V := dd 1 (x1 :: dd 2 (x4 :: dd 1 (x6 :: dd 1 (x8 :: dd 7 (x16 :: dd 2 (x19 :: dd 339 []))))))
def z8t (x8 x16 : V) : List V := dd 8 (x8 :: dd 7 (x16 :: dd 342 []))
def zdi (M : Env) := jb M F.zlc [1, 4, 6, 8, 16, 19, 291]
def zdo (x1 x4 x6 x8 x16 x19 : V) : List V := dd 1 (x1 :: dd 2 (x4 :: dd 1 (x6 :: dd 1 (x8 :: dd 7 (x16 :: dd 2 (x19 :: dd 339 []))))))
def z9n (x1 x4 x6 x8 x16 x19 x291 : V) : List V := dd 1 (x1 :: dd 2 (x4 :: dd 1 (x6 :: dd 1 (x8 :: dd 7 (x16 :: dd 2 (x19 :: dd 271 (x291 :: dd 67 [])))))))
def z2m (M : Env) := kf F.zk
def zb2 (M : Env) := kq M F.znk (z2m M)
def zbj (M : Env) := kq M F.zn1 (z2m M)
def znp (M : Env) := kq M F.zna (z2m M)
def zbg (M : Env) := kq M F.znq (znp M)
def zbe (M : Env) := kq M F.znt (z2m M)
def z77 (M : Env) := kq M F.znm (z2m M)
def zn4 (M : Env) := kq M F.zl7 (z2m M)
def z73 (M : Env) := kq M F.zma (zn4 M)
def zbb (M : Env) := kq M F.zkk (z2m M)
def zkn (M : Env) := kj [8, 16]
def z6t (M : Env) := kb 0 (zkn M)
def zl2 (M : Env) := kq M F.zmd (z6t M)
def zan (M : Env) := kb 1 (zl2 M)
def zeg (M : Env) := kq M F.zky (z6t M)
def zei (M : Env) := kq M F.zle (z6t M)
def zat (M : Env) := kb 3 (z6t M)
def zkj (M : Env) := kl [1, 4, 6, 8, 16, 19] [8, 16]
def zlv (M : Env) := kq M F.zlk (zkj M)
def zl5 (M : Env) := kb 4 (zlv M)
def zel (M : Env) := kq M F.zl9 (zl5 M)
def zk (M : Env) (a0_0 a0_1 a0_2 a0_3 a0_4 a0_5 : Int) (a0_6 a0_7 a0_8 a0_9 a0_10 : V) (a1 a2_0 a2_1 a2_2 a2_3 a2_4 a3_0 a3_1 : Int) (a3_2 : Bool) (h : H) : Rf :=
 let h0 := h.new (.cells [a0_0, a0_1, a0_2, a0_3, a0_4, a0_5, a0_6, a0_7, a0_8, a0_9, a0_10] .rw)
 let h1 := h0.new (.cells [a2_0, a2_1, (.int .u64 a2_2), (.int .u64 a2_3), (.int .u64 a2_4)] .rw)
 let h2 := h1.new (.cells [a3_0, (.int .u64 a3_1), a3_2] .rw)
 let h3 := h2.new (.cells [(0:Int), (0:Int), (0:Int), (0:Int), (0:Int), (0:Int), .nilsl, .nilsl, .nilsl, .nilsl, .nilsl] .rw)
 (ze6 M (ze3 a1 (.ptr h.next 0) (.ptr h0.next 0) (.ptr h1.next 0) (.ptr h2.next 0)) h3).bind fun p4 => zb2 M p4.1 p4.2.1 p4.2.2
def z24 (M : Env) (x1 : Int) (x4 x6 x7 x8 : V) (h : H) : Rl :=
 match decide (x1 < 0) with
 | true => ((h.ldN 11 x4).bind fun v0 =>
 (h.st 11 x8 v0).bind fun h1 =>
 some (.ret, (z4b x1 x4 x6 x7 x8 false), h1))
 | false => ((zb x4 0).bind fun v0 =>
 (zb v0 2).bind fun v1 =>
 (h.ld1 v1).bind fun v2 =>
 (asI .i64 v2).bind fun n3 =>
 match decide (n3 ≤ x1) with
 | true => ((h.ldN 11 x4).bind fun v4 =>
 (h.st 11 x8 v4).bind fun h5 =>
 some (.ret, (z4b x1 x4 x6 x7 x8 false), h5))
 | false => (some (.normal, (z4b x1 x4 x6 x7 x8 .dead), h)))
def z4e (M : Env) (x1 : Int) (x4 x6 x7 x8 x9 : V) (h : H) : Rf :=
 (h.ldN 11 x4).bind fun v0 =>
 (h.ldN 5 x6).bind fun v1 =>
 (M.call 274 [v0, x1, v1] h).bind fun p2 =>
 (asI .i64 p2.1).bind fun n3 =>
 match (!decide (n3 = 0)) with
 | true => ((p2.2.ldN 11 x4).bind fun v4 =>
 (zb x7 0).bind fun v5 =>
 (p2.2.ld1 v5).bind fun v6 =>
 (asI .i64 v6).bind fun n7 =>
 (asI .i64 p2.1).bind fun n8 =>
 match decide (n7 = n8) with
 | true => ((zb x7 1).bind fun v9 =>
 (p2.2.ld1 v9).bind fun v10 =>
 (asI .u64 v10).bind fun n11 =>
 match decide (n11 = 0) with
 | true => ((zb x7 2).bind fun v12 =>
 (p2.2.ld1 v12).bind fun v13 =>
 (asB v13).bind fun b14 =>
 (p2.2.st 11 x8 v4).bind fun h15 =>
 match ckB (h15.ld1 v12) v13 with
 | true => (finV h15 [.cell true 11 x8, .v (.bool (!b14))])
 | false => none)
 | false => ((p2.2.st 11 x8 v4).bind fun h12 =>
 finV h12 [.cell true 11 x8, .v false]))
 | false => ((p2.2.st 11 x8 v4).bind fun h9 =>
 finV h9 [.cell true 11 x8, .v false]))
 | false => ((p2.2.ldN 11 x4).bind fun v4 =>
 (zb x6 2).bind fun v5 =>
 (p2.2.ld1 v5).bind fun v6 =>
 (M.call 229 [v4, x1, v6] p2.2).bind fun p7 =>
 (zae M (zag x1 x4 x6 x7 x8 p7.1) p7.2).bind fun p8 => zbj M p8.1 p8.2.1 p8.2.2)
def za6 (M : Env) (x1 x4 x6 x7 x8 : V) (x9 : Bool) (h : H) : Rf :=
 finV h [.cell true 11 x8, .v x9]
def zaa (M : Env) (x1 : Int) (x4 x6 x7 x8 : V) (x11 : Int) (h : H) : Rl :=
 (zb x6 0).bind fun v0 =>
 (h.ld1 v0).bind fun v1 =>
 (asI .i64 v1).bind fun n2 =>
 match decide (n2 = 5) with
 | true => ((zb x4 6).bind fun v3 =>
 (h.ld1 v3).bind fun v4 =>
 (zd 1 v4 x11).bind fun v5 =>
 (h.ld1 v5).bind fun v6 =>
 (zb x6 1).bind fun v7 =>
 (h.ld1 v7).bind fun v8 =>
 (zd 1 v6 v8).bind fun v9 =>
 (h.ld1 v9).bind fun v10 =>
 (h.ldN 11 x4).bind fun v11 =>
 (zb x6 4).bind fun v12 =>
 (h.ld1 v12).bind fun v13 =>
 (M.call 229 [v11, x1, v13] h).bind fun p14 =>
 match ckB (p14.2.ld1 v9) v10 with
 | true => (match ckB (p14.2.ld1 v7) v8 with
 | true => (match ckB (p14.2.ld1 v5) v6 with
 | true => (match ckB (p14.2.ld1 v3) v4 with
 | true => ((asI .i64 v10).bind fun n15 =>
 (asI .i64 p14.1).bind fun n16 =>
 some (.normal, (za8 x1 x4 x6 x7 x8 x11 (.bool (decide (n15 = n16)))), p14.2))
 | false => none)
 | false => none)
 | false => none)
 | false => none)
 | false => (some (.normal, (za8 x1 x4 x6 x7 x8 x11 false), h))
def z6g (M : Env) (x1 : Int) (x4 x6 x7 x8 : V) (x11 : Int) (x12 : Bool) (h : H) : Rf :=
 (zb x7 0).bind fun v0 =>
 (h.ld1 v0).bind fun v1 =>
 (asI .i64 v1).bind fun n2 =>
 match decide (n2 = 4) with
 | true => ((za7 M (za5 x4 x6 x7 x8 x12) h).bind fun p3 => zbg M p3.1 p3.2.1 p3.2.2)
 | false => ((zac M (zah x1 x4 x6 x7 x8 x11 x12) h).bind fun p3 => zbe M p3.1 p3.2.1 p3.2.2)
def za1 (M : Env) (x4 x6 x7 x8 : V) (x12 : Bool) (h : H) : Rl :=
 (zb x6 0).bind fun v0 =>
 (h.ld1 v0).bind fun v1 =>
 (asI .i64 v1).bind fun n2 =>
 match decide (n2 = 1) with
 | true => (some (.normal, (z34 x4 x7 x8 true), h))
 | false => ((zb x6 0).bind fun v3 =>
 (h.ld1 v3).bind fun v4 =>
 (asI .i64 v4).bind fun n5 =>
 match decide (n5 = 3) with
 | true => (some (.normal, (z34 x4 x7 x8 true), h))
 | false => ((zb x6 0).bind fun v6 =>
 (h.ld1 v6).bind fun v7 =>
 (asI .i64 v7).bind fun n8 =>
 match decide (n8 = 4) with
 | true => (some (.normal, (z34 x4 x7 x8 true), h))
 | false => (some (.normal, (z34 x4 x7 x8 x12), h))))
def z6f (M : Env) (x4 x7 x8 : V) (x13 : Bool) (h : H) : Rf :=
 (h.ldN 11 x4).bind fun v0 =>
 match x13 with
 | true => ((zb x7 1).bind fun v1 =>
 (h.ld1 v1).bind fun v2 =>
 (asI .u64 v2).bind fun n3 =>
 match decide (n3 = 0) with
 | true => ((zb x7 2).bind fun v4 =>
 (h.ld1 v4).bind fun v5 =>
 (asB v5).bind fun b6 =>
 (h.st 11 x8 v0).bind fun h7 =>
 match ckB (h7.ld1 v4) v5 with
 | true => (finV h7 [.cell true 11 x8, .v (.bool (!b6))])
 | false => none)
 | false => ((h.st 11 x8 v0).bind fun h4 =>
 finV h4 [.cell true 11 x8, .v false]))
 | false => ((h.st 11 x8 v0).bind fun h1 =>
 finV h1 [.cell true 11 x8, .v false])
def z31 (M : Env) (x1 : Int) (x4 x6 x7 x8 : V) (x11 : Int) (x12 : Bool) (h : H) : Rl :=
 (zb x6 0).bind fun v0 =>
 (h.ld1 v0).bind fun v1 =>
 (asI .i64 v1).bind fun n2 =>
 match decide (n2 = 1) with
 | true => (some (.normal, (z35 x1 x4 x6 x7 x8 x11 x12 true), h))
 | false => ((zb x6 0).bind fun v3 =>
 (h.ld1 v3).bind fun v4 =>
 (asI .i64 v4).bind fun n5 =>
 match decide (n5 = 8) with
 | true => (some (.normal, (z35 x1 x4 x6 x7 x8 x11 x12 true), h))
 | false => ((zb x6 0).bind fun v6 =>
 (h.ld1 v6).bind fun v7 =>
 (asI .i64 v7).bind fun n8 =>
 match decide (n8 = 9) with
 | true => (some (.normal, (z35 x1 x4 x6 x7 x8 x11 x12 true), h))
 | false => ((zb x6 0).bind fun v9 =>
 (h.ld1 v9).bind fun v10 =>
 (asI .i64 v10).bind fun n11 =>
 match decide (n11 = 2) with
 | true => ((zb x4 6).bind fun v12 =>
 (h.ld1 v12).bind fun v13 =>
 (zd 1 v13 x11).bind fun v14 =>
 (h.ld1 v14).bind fun v15 =>
 (zb x6 1).bind fun v16 =>
 (h.ld1 v16).bind fun v17 =>
 (zd 1 v15 v17).bind fun v18 =>
 (h.ld1 v18).bind fun v19 =>
 (asI .i64 v19).bind fun n20 =>
 some (.normal, (z35 x1 x4 x6 x7 x8 x11 x12 (.bool (decide (0 ≤ n20)))), h))
 | false => (some (.normal, (z35 x1 x4 x6 x7 x8 x11 x12 false), h)))))
def z33 (M : Env) (x1 : Int) (x4 x6 x7 x8 : V) (x11 : Int) (x12 x14 : Bool) (h : H) : Rf :=
 (z5k M (z5y x1 x4 x6 x7 x8 x11 x12 x14) h).bind fun p0 => z77 M p0.1 p0.2.1 p0.2.2
def z5q (M : Env) (x1 : Int) (x4 x6 x7 x8 : V) (x11 : Int) (x12 x14 : Bool) (h : H) : Rl :=
 match x12 with
 | true => (some (.normal, (z5v x1 x4 x6 x7 x8 x11 x14 true), h))
 | false => ((zb x6 0).bind fun v0 =>
 (h.ld1 v0).bind fun v1 =>
 (asI .i64 v1).bind fun n2 =>
 match decide (n2 = 7) with
 | true => ((h.ldN 11 x4).bind fun v3 =>
 (zb x6 3).bind fun v4 =>
 (h.ld1 v4).bind fun v5 =>
 (M.call 229 [v3, x1, v5] h).bind fun p6 =>
 (asI .i64 p6.1).bind fun n7 =>
 some (.normal, (z5v x1 x4 x6 x7 x8 x11 x14 (.bool (decide (x11 = n7)))), p6.2))
 | false => (some (.normal, (z5v x1 x4 x6 x7 x8 x11 x14 false), h)))
def z61 (M : Env) (x1 : Int) (x4 x6 x7 x8 : V) (x11 : Int) (x14 x15 : Bool) (h : H) : Rf :=
 (z5p M (z5n x1 x4 x6 x7 x8 x11 x14 x15) h).bind fun p0 => z73 M p0.1 p0.2.1 p0.2.2
def z20 (M : Env) (x1 : Int) (x4 x6 x7 x8 : V) (x11 : Int) (x14 x15 : Bool) (h : H) : Rl :=
 (zb x7 0).bind fun v0 =>
 (h.ld1 v0).bind fun v1 =>
 (asI .i64 v1).bind fun n2 =>
 match (!decide (n2 = 0)) with
 | true => (some (.normal, (z11 x1 x4 x6 x7 x8 x11 x14 x15 true), h))
 | false => ((zb x7 2).bind fun v3 =>
 (h.ld1 v3).bind fun v4 =>
 (eqV .bool v4 x15).bind fun b5 =>
 match (!b5) with
 | true => (some (.normal, (z11 x1 x4 x6 x7 x8 x11 x14 x15 true), h))
 | false => (match x14 with
 | true => ((h.ldN 11 x4).bind fun v6 =>
 (zb x7 1).bind fun v7 =>
 (h.ld1 v7).bind fun v8 =>
 (M.call 275 [v6, v8] h).bind fun p9 =>
 (asB p9.1).bind fun b10 =>
 match (!b10) with
 | true => (some (.normal, (z11 x1 x4 x6 x7 x8 x11 x14 x15 true), p9.2))
 | false => (match (!x14) with
 | true => ((zb x7 1).bind fun v11 =>
 (p9.2.ld1 v11).bind fun v12 =>
 (asI .u64 v12).bind fun n13 =>
 some (.normal, (z11 x1 x4 x6 x7 x8 x11 x14 x15 (.bool (!decide (n13 = 0)))), p9.2))
 | false => (some (.normal, (z11 x1 x4 x6 x7 x8 x11 x14 x15 false), p9.2))))
 | false => (match (!x14) with
 | true => ((zb x7 1).bind fun v6 =>
 (h.ld1 v6).bind fun v7 =>
 (asI .u64 v7).bind fun n8 =>
 some (.normal, (z11 x1 x4 x6 x7 x8 x11 x14 x15 (.bool (!decide (n8 = 0)))), h))
 | false => (some (.normal, (z11 x1 x4 x6 x7 x8 x11 x14 x15 false), h)))))
def z5s (M : Env) (x1 : Int) (x4 x6 x7 x8 : V) (x11 : Int) (x14 x15 x179 : Bool) (h : H) : Rf :=
 match x179 with
 | true => ((h.ldN 11 x4).bind fun v0 =>
 (h.st 11 x8 v0).bind fun h1 =>
 finV h1 [.cell true 11 x8, .v false])
 | false => ((h.ldN 11 x4).bind fun v0 =>
 (M.call 276 [v0] h).bind fun p1 =>
 let h2 := p1.2.new (.cells [(0:Int), (0:Int), (0:Int), (0:Int), (0:Int), (0:Int), .nilsl, .nilsl, .nilsl, .nilsl, .nilsl] .rw)
 (h2.st 11 (.ptr p1.2.next 0) p1.1).bind fun h3 =>
 (z8w M (z8u x1 x4 x6 x7 x8 x11 x14 x15 (.ptr p1.2.next 0)) h3).bind fun p4 => zbb M p4.1 p4.2.1 p4.2.2)
def zn (M : Env) (x1 : Int) (x4 x6 x7 x8 : V) (x11 : Int) (x14 x15 : Bool) (x16 : V) (h : H) : Rl :=
 (zb x6 0).bind fun v0 =>
 (h.ld1 v0).bind fun v1 =>
 (asI .i64 v1).bind fun n2 =>
 match decide (n2 = 1) with
 | true => ((zb x6 1).bind fun v3 =>
 (h.ld1 v3).bind fun v4 =>
 (asI .i64 v4).bind fun n5 =>
 (asI .i64 v4).bind fun n6 =>
 (h.mkSl 1 8 [(0:Int)] n5 n6).bind fun p7 =>
 (M.loop (zdk M) (z5x x1 x6 x7 x8 x16 p7.1 (0:Int)) p7.2).bind fun p8 => zan M p8.1 p8.2.1 p8.2.2)
 | false => ((asI .i64 v1).bind fun n3 =>
 match decide (n3 = 2) with
 | true => (match x14 with
 | true => ((h.ldN 11 x16).bind fun v4 =>
 (zb x7 1).bind fun v5 =>
 (h.ld1 v5).bind fun v6 =>
 (zb x4 6).bind fun v7 =>
 (h.ld1 v7).bind fun v8 =>
 (zd 1 v8 x11).bind fun v9 =>
 (h.ld1 v9).bind fun v10 =>
 (zb x6 1).bind fun v11 =>
 (h.ld1 v11).bind fun v12 =>
 (zd 1 v10 v12).bind fun v13 =>
 (h.ld1 v13).bind fun v14 =>
 (M.call 277 [v4, x1, v6, v14] h).bind fun p15 =>
 (p15.2.st 11 x16 p15.1).bind fun h16 =>
 some (.normal, (z01 x8 x16), h16))
 | false => (some (.normal, (z01 x8 x16), h)))
 | false => ((zdh M (zdg x1 x4 x6 x7 x8 x11 x15 x16 v1) h).bind fun p4 => zeg M p4.1 p4.2.1 p4.2.2))
def zde (M : Env) (x8 x16 : V) (h : H) : Rf :=
 (h.ldN 11 x16).bind fun v0 =>
 (h.st 11 x8 v0).bind fun h1 =>
 finV h1 [.cell true 11 x8, .v true]
def z8l (M : Env) (x1 : Int) (x6 x7 x8 x16 x17 : V) (x18 : Int) (h : H) : Rl :=
 (zb x6 1).bind fun v0 =>
 (h.ld1 v0).bind fun v1 =>
 (asI .i64 v1).bind fun n2 =>
 match decide (x18 < n2) with
 | true => ((zd 1 x17 x18).bind fun v3 =>
 (h.st 1 v3 (.int .i64 (-1))).bind fun h4 =>
 some (.normal, (z5x x1 x6 x7 x8 x16 x17 (.int .i64 (wr .i64 (x18 + 1)))), h4))
 | false => (some ((.exit 1), (z97 x1 x7 x8 x16 x17), h))
def z85 (M : Env) (x1 : Int) (x7 x8 x16 x17 : V) (h : H) : Rl :=
 (zb x16 6).bind fun v0 =>
 (h.ld1 v0).bind fun v1 =>
 (fill (repl [.nilsl] 1) [] [(0, 1, .c x17)]).bind fun cs2 =>
 let h3 := h.new (.cells cs2 .rw)
 (h3.append 1 24 v1 (.sl h.next 0 1 (.ex 1))).bind fun p4 =>
 (zb x16 6).bind fun v5 =>
 (p4.2.st 1 v5 p4.1).bind fun h6 =>
 (h6.ldN 11 x16).bind fun v7 =>
 (zb x7 1).bind fun v8 =>
 (h6.ld1 v8).bind fun v9 =>
 (zb x16 6).bind fun v10 =>
 (h6.ld1 v10).bind fun v11 =>
 (lenSl v11).bind fun n12 =>
 (M.call 277 [v7, x1, v9, (.int .i64 (wr .i64 ((n12 : Int) - 1)))] h6).bind fun p13 =>
 (p13.2.st 11 x16 p13.1).bind fun h14 =>
 some (.normal, (z01 x8 x16), h14)
def z0l (M : Env) (x1 : Int) (x4 x6 x7 x8 : V) (x11 : Int) (x15 : Bool) (x16 : V) (x184 : Int) (h : H) : Rl :=
 match decide (x184 = 3) with
 | true => (some (.normal, (z9j x1 x4 x6 x7 x8 x11 x15 x16 x184 (.bool (decide (x184 = 3)))), h))
 | false => (some (.normal, (z9j x1 x4 x6 x7 x8 x11 x15 x16 x184 (.bool (decide (x184 = 5)))), h))
def z0k (M : Env) (x1 : Int) (x4 x6 x7 x8 : V) (x11 : Int) (x15 : Bool) (x16 : V) (x184 : Int) (x231 : Bool) (h : H) : Rl :=
 match x231 with
 | true => ((zdf M (zdn x1 x4 x6 x8 x11 x15 x16) h).bind fun p0 => zei M p0.1 p0.2.1 p0.2.2)
 | false => (match decide (x184 = 4) with
 | true => ((zb x16 6).bind fun v0 =>
 (h.ld1 v0).bind fun v1 =>
 (zd 1 v1 x11).bind fun v2 =>
 (h.ld1 v2).bind fun v3 =>
 (zb x6 1).bind fun v4 =>
 (h.ld1 v4).bind fun v5 =>
 (zd 1 v3 v5).bind fun v6 =>
 (h.st 1 v6 (.int .i64 (-1))).bind fun h7 =>
 some (.normal, (z01 x8 x16), h7))
 | false => (match decide (x184 = 6) with
 | true => ((zb x16 7).bind fun v0 =>
 (h.st 1 v0 .nilsl).bind fun h1 =>
 (M.loop (zdm M) (z3y x1 x4 x6 x8 x16 (0:Int)) h1).bind fun p2 => zat M p2.1 p2.2.1 p2.2.2)
 | false => (match decide (x184 = 8) with
 | true => ((zb x16 10).bind fun v0 =>
 (h.ld1 v0).bind fun v1 =>
 (zb x7 1).bind fun v2 =>
 (h.ld1 v2).bind fun v3 =>
 (fill (repl [(.int .u64 0)] 1) [] [(0, 1, .c v3)]).bind fun cs4 =>
 let h5 := h.new (.cells cs4 .rw)
 (h5.append 1 8 v1 (.sl h.next 0 1 (.ex 1))).bind fun p6 =>
 (zb x16 10).bind fun v7 =>
 (p6.2.st 1 v7 p6.1).bind fun h8 =>
 (zb x16 8).bind fun v9 =>
 (h8.ld1 v9).bind fun v10 =>
 (zb x7 1).bind fun v11 =>
 (h8.ld1 v11).bind fun v12 =>
 (zd 1 v10 x1).bind fun v13 =>
 (h8.st 1 v13 v12).bind fun h14 =>
 (zb x16 9).bind fun v15 =>
 (h14.ld1 v15).bind fun v16 =>
 (h14.ldN 11 x4).bind fun v17 =>
 (M.call 278 [v17, x11] h14).bind fun p18 =>
 match ckB (p18.2.ld1 v15) v16 with
 | true => ((zd 1 v16 x1).bind fun v19 =>
 (p18.2.st 1 v19 p18.1).bind fun h20 =>
 some (.normal, (z01 x8 x16), h20))
 | false => none)
 | false => (match decide (x184 = 9) with
 | true => ((h.ldN 11 x16).bind fun v0 =>
 (zb x7 1).bind fun v1 =>
 (h.ld1 v1).bind fun v2 =>
 (zb x4 9).bind fun v3 =>
 (h.ld1 v3).bind fun v4 =>
 (zd 1 v4 x1).bind fun v5 =>
 (h.ld1 v5).bind fun v6 =>
 (zd 1 v6 (0:Int)).bind fun v7 =>
 (h.ld1 v7).bind fun v8 =>
 (M.call 277 [v0, x1, v2, v8] h).bind fun p9 =>
 (p9.2.st 11 x16 p9.1).bind fun h10 =>
 (zb x16 9).bind fun v11 =>
 (h10.ld1 v11).bind fun v12 =>
 (zb x4 9).bind fun v13 =>
 (h10.ld1 v13).bind fun v14 =>
 (zd 1 v14 x1).bind fun v15 =>
 (h10.ld1 v15).bind fun v16 =>
 (z4f 1 v16 (some (1:Int)) none none).bind fun v17 =>
 (zd 1 v12 x1).bind fun v18 =>
 (h10.st 1 v18 v17).bind fun h19 =>
 some (.normal, (z01 x8 x16), h19))
 | false => (match decide (x184 = 10) with
 | true => ((zb x16 8).bind fun v0 =>
 (h.ld1 v0).bind fun v1 =>
 (zd 1 v1 x1).bind fun v2 =>
 (h.st 1 v2 (.int .u64 0)).bind fun h3 =>
 (zb x16 9).bind fun v4 =>
 (h3.ld1 v4).bind fun v5 =>
 (zd 1 v5 x1).bind fun v6 =>
 (h3.st 1 v6 .nilsl).bind fun h7 =>
 some (.normal, (z01 x8 x16), h7))
 | false => (some (.normal, (z01 x8 x16), h)))))))
def z5z (M : Env) (x1 : Int) (x4 x6 x8 : V) (x11 : Int) (x15 : Bool) (x16 : V) (h : H) : Rl :=
 (zb x6 0).bind fun v0 =>
 (h.ld1 v0).bind fun v1 =>
 (asI .i64 v1).bind fun n2 =>
 match decide (n2 = 3) with
 | true => (some (.normal, (z9a x1 x4 x6 x8 x11 x16 true), h))
 | false => (some (.normal, (z9a x1 x4 x6 x8 x11 x16 x15), h))
def z5h (M : Env) (x1 : Int) (x4 x6 x8 : V) (x11 : Int) (x16 : V) (x239 : Bool) (h : H) : Rl :=
 match x239 with
 | true => ((zb x16 6).bind fun v0 =>
 (h.ld1 v0).bind fun v1 =>
 (zd 1 v1 x11).bind fun v2 =>
 (h.ld1 v2).bind fun v3 =>
 (zb x6 1).bind fun v4 =>
 (h.ld1 v4).bind fun v5 =>
 (h.ldN 11 x4).bind fun v6 =>
 (zb x6 3).bind fun v7 =>
 (h.ld1 v7).bind fun v8 =>
 (M.call 229 [v6, x1, v8] h).bind fun p9 =>
 match ckB (p9.2.ld1 v4) v5 with
 | true => (match ckB (p9.2.ld1 v2) v3 with
 | true => (match ckB (p9.2.ld1 v0) v1 with
 | true => ((zd 1 v3 v5).bind fun v10 =>
 (p9.2.st 1 v10 p9.1).bind fun h11 =>
 some (.normal, (z01 x8 x16), h11))
 | false => none)
 | false => none)
 | false => none)
 | false => (some (.normal, (z01 x8 x16), h))
def z43 (M : Env) (x1 : Int) (x4 x6 x8 x16 : V) (x19 : Int) (h : H) : Rl :=
 (zb x4 7).bind fun v0 =>
 (h.ld1 v0).bind fun v1 =>
 (lenSl v1).bind fun n2 =>
 match decide (x19 < (n2 : Int)) with
 | true => ((zdi M (zdo x1 x4 x6 x8 x16 x19) h).bind fun p3 => zel M p3.1 p3.2.1 p3.2.2)
 | false => (some ((.exit 3), (z8t x8 x16), h))
def zia (M : Env) (x8 x16 : V) (h : H) : Rl :=
 some (.normal, (z01 x8 x16), h)
def z5w (M : Env) (x1 : Int) (x4 x6 x8 x16 : V) (x19 : Int) (h : H) : Rl :=
 (zb x4 7).bind fun v0 =>
 (h.ld1 v0).bind fun v1 =>
 (zd 3 v1 x19).bind fun v2 =>
 (zb v2 0).bind fun v3 =>
 (h.ld1 v3).bind fun v4 =>
 (asI .i64 v4).bind fun n5 =>
 match (!decide (n5 = x1)) with
 | true => (some (.normal, (z9n x1 x4 x6 x8 x16 x19 true), h))
 | false => ((zb x4 7).bind fun v6 =>
 (h.ld1 v6).bind fun v7 =>
 (zd 3 v7 x19).bind fun v8 =>
 (zb v8 1).bind fun v9 =>
 (h.ld1 v9).bind fun v10 =>
 (zb x6 2).bind fun v11 =>
 (h.ld1 v11).bind fun v12 =>
 (asI .u64 v10).bind fun n13 =>
 (asI .u64 v12).bind fun n14 =>
 some (.normal, (z9n x1 x4 x6 x8 x16 x19 (.bool (!decide (n13 = n14)))), h))
def z5j (M : Env) (x1 : Int) (x4 x6 x8 x16 : V) (x19 : Int) (x291 : Bool) (h : H) : Rl :=
 match x291 with
 | true => ((zb x16 7).bind fun v0 =>
 (h.ld1 v0).bind fun v1 =>
 (zb x4 7).bind fun v2 =>
 (h.ld1 v2).bind fun v3 =>
 (zd 3 v3 x19).bind fun v4 =>
 (h.ldN 3 v4).bind fun v5 =>
 (fill (repl [(0:Int), (.int .u64 0), (0:Int)] 1) [] [(0, 3, .c v5)]).bind fun cs6 =>
 let h7 := h.new (.cells cs6 .rw)
 (h7.append 3 24 v1 (.sl h.next 0 1 (.ex 1))).bind fun p8 =>
 (zb x16 7).bind fun v9 =>
 (p8.2.st 1 v9 p8.1).bind fun h10 =>
 some (.normal, (z3y x1 x4 x6 x8 x16 (.int .i64 (wr .i64 (x19 + 1)))), h10))
 | false => (some (.normal, (z3y x1 x4 x6 x8 x16 (.int .i64 (wr .i64 (x19 + 1)))), h))
theorem zn0 : z0g M F.zk [(.agg [(.int .i64 a0_0), (.int .i64 a0_1), (.int .i64 a0_2), (.int .i64 a0_3), (.int .i64 a0_4), (.int .i64 a0_5), a0_6, a0_7, a0_8, a0_9, a0_10]), (.int .i64 a1), (.agg [(.int .i64 a2_0), (.int .i64 a2_1), (.int .u64 a2_2), (.int .u64 a2_3), (.int .u64 a2_4)]), (.agg [(.int .i64 a3_0), (.int .u64 a3_1), (.bool a3_2)])] h = zk M a0_0 a0_1 a0_2 a0_3 a0_4 a0_5 a0_6 a0_7 a0_8 a0_9 a0_10 a1 a2_0 a2_1 a2_2 a2_3 a2_4 a3_0 a3_1 a3_2 h := by kernel_rfl
theorem zj5 : ze6 M (ze3 (.int .i64 x1) x4 x6 x7 x8) h = z24 M x1 x4 x6 x7 x8 h := by kernel_rfl
theorem z4u : zb2 M .normal (z4b (.int .i64 x1) x4 x6 x7 x8 x9) h = z4e M x1 x4 x6 x7 x8 x9 h := by kernel_rfl
theorem zc4 : zb2 M .ret (z4b x1 x4 x6 x7 x8 (.bool x9)) h = za6 M x1 x4 x6 x7 x8 x9 h := by kernel_rfl
theorem zdl : zae M (zag (.int .i64 x1) x4 x6 x7 x8 (.int .i64 x11)) h = zaa M x1 x4 x6 x7 x8 x11 h := by kernel_rfl
theorem zc9 : zbj M .normal (za8 (.int .i64 x1) x4 x6 x7 x8 (.int .i64 x11) (.bool x12)) h = z6g M x1 x4 x6 x7 x8 x11 x12 h := by kernel_rfl
theorem zj3 : za7 M (za5 x4 x6 x7 x8 (.bool x12)) h = za1 M x4 x6 x7 x8 x12 h := by kernel_rfl
theorem zhi : zbg M .normal (z34 x4 x7 x8 (.bool x13)) h = z6f M x4 x7 x8 x13 h := by kernel_rfl
theorem z41 : zac M (zah (.int .i64 x1) x4 x6 x7 x8 (.int .i64 x11) (.bool x12)) h = z31 M x1 x4 x6 x7 x8 x11 x12 h := by kernel_rfl
theorem z3l : zbe M .normal (z35 (.int .i64 x1) x4 x6 x7 x8 (.int .i64 x11) (.bool x12) (.bool x14)) h = z33 M x1 x4 x6 x7 x8 x11 x12 x14 h := by kernel_rfl
theorem z87 : z5k M (z5y (.int .i64 x1) x4 x6 x7 x8 (.int .i64 x11) (.bool x12) (.bool x14)) h = z5q M x1 x4 x6 x7 x8 x11 x12 x14 h := by kernel_rfl
theorem z7b : z77 M .normal (z5v (.int .i64 x1) x4 x6 x7 x8 (.int .i64 x11) (.bool x14) (.bool x15)) h = z61 M x1 x4 x6 x7 x8 x11 x14 x15 h := by kernel_rfl
theorem zig : z5p M (z5n (.int .i64 x1) x4 x6 x7 x8 (.int .i64 x11) (.bool x14) (.bool x15)) h = z20 M x1 x4 x6 x7 x8 x11 x14 x15 h := by kernel_rfl
theorem zhc : z73 M .normal (z11 (.int .i64 x1) x4 x6 x7 x8 (.int .i64 x11) (.bool x14) (.bool x15) (.bool x179)) h = z5s M x1 x4 x6 x7 x8 x11 x14 x15 x179 h := by kernel_rfl
theorem zii : z8w M (z8u (.int .i64 x1) x4 x6 x7 x8 (.int .i64 x11) (.bool x14) (.bool x15) x16) h = zn M x1 x4 x6 x7 x8 x11 x14 x15 x16 h := by kernel_rfl
theorem zha : zbb M .normal (z01 x8 x16) h = zde M x8 x16 h := by kernel_rfl
theorem zic : zdk M (z5x (.int .i64 x1) x6 x7 x8 x16 x17 (.int .i64 x18)) h = z8l M x1 x6 x7 x8 x16 x17 x18 h := by kernel_rfl
theorem zgk : zan M (.exit 1) (z97 (.int .i64 x1) x7 x8 x16 x17) h = z85 M x1 x7 x8 x16 x17 h := by kernel_rfl
theorem z0u : zdh M (zdg (.int .i64 x1) x4 x6 x7 x8 (.int .i64 x11) (.bool x15) x16 (.int .i64 x184)) h = z0l M x1 x4 x6 x7 x8 x11 x15 x16 x184 h := by kernel_rfl
theorem z0j : zeg M .normal (z9j (.int .i64 x1) x4 x6 x7 x8 (.int .i64 x11) (.bool x15) x16 (.int .i64 x184) (.bool x231)) h = z0k M x1 x4 x6 x7 x8 x11 x15 x16 x184 x231 h := by kernel_rfl
theorem z8d : zdf M (zdn (.int .i64 x1) x4 x6 x8 (.int .i64 x11) (.bool x15) x16) h = z5z M x1 x4 x6 x8 x11 x15 x16 h := by kernel_rfl
theorem z7e : zei M .normal (z9a (.int .i64 x1) x4 x6 x8 (.int .i64 x11) x16 (.bool x239)) h = z5h M x1 x4 x6 x8 x11 x16 x239 h := by kernel_rfl
theorem zi4 : zdm M (z3y (.int .i64 x1) x4 x6 x8 x16 (.int .i64 x19)) h = z43 M x1 x4 x6 x8 x16 x19 h := by kernel_rfl
theorem zge : zat M (.exit 3) (z8t x8 x16) h = zia M x8 x16 h := by kernel_rfl
theorem z80 : zdi M (zdo (.int .i64 x1) x4 x6 x8 x16 (.int .i64 x19)) h = z5w M x1 x4 x6 x8 x16 x19 h := by kernel_rfl
theorem z7d : zel M .normal (z9n (.int .i64 x1) x4 x6 x8 x16 (.int .i64 x19) (.bool x291)) h = z5j M x1 x4 x6 x8 x16 x19 x291 h := by kernel_rfl
def z37 (M : Env) (a0 : V) (a1 : Int) (h : H) : Rf :=
 (eqV .ptr a0 .nilp).bind fun b0 =>
 match (!b0) with
 | true => (match decide (0 ≤ a1) with
 | true => ((nilc a0).bind fun v1 =>
 (zb v1 0).bind fun v2 =>
 (zb v2 2).bind fun v3 =>
 (h.ld1 v3).bind fun v4 =>
 (asI .i64 v4).bind fun n5 =>
 some ((.bool (decide (a1 < n5))), h))
 | false => (some (false, h)))
 | false => (some (false, h))
theorem zph : z0g M F.z37 [a0, (.int .i64 a1)] h = z37 M a0 a1 h := by kernel_rfl
def z45 (M : Env) (a0 : V) (a1 : Int) (h : H) : Rf :=
 (M.call 279 [a0, a1] h).bind fun p0 =>
 (asB p0.1).bind fun b1 =>
 match (!b1) with
 | true => (some ((0:Int), p0.2))
 | false => ((nilc a0).bind fun v2 =>
 (zb v2 7).bind fun v3 =>
 (p0.2.ld1 v3).bind fun v4 =>
 (zd 1 v4 a1).bind fun v5 =>
 (p0.2.ld1 v5).bind fun v6 =>
 (p0.2.entries v6).bind fun es7 =>
 some ((.int .i64 ((es7.length : Nat) : Int)), p0.2))
theorem zs9 : z0g M F.z45 [a0, (.int .i64 a1)] h = z45 M a0 a1 h := by kernel_rfl
def z3a (M : Env) (a0 : V) (a1 a2 : Int) (h : H) : Rf :=
 (M.call 279 [a0, a1] h).bind fun p0 =>
 (asB p0.1).bind fun b1 =>
 match b1 with
 | true => ((nilc a0).bind fun v2 =>
 (zb v2 7).bind fun v3 =>
 (p0.2.ld1 v3).bind fun v4 =>
 (zd 1 v4 a1).bind fun v5 =>
 (p0.2.ld1 v5).bind fun v6 =>
 (p0.2.look .int (0:Int) true v6 (.int .u64 a2)).bind fun v7 =>
 match v7 with
 | .tup vs8 => ((vs8[0]?).bind fun v9 =>
 match v7 with
 | .tup vs10 => ((vs10[1]?).bind fun v11 =>
 (asB v11).bind fun b12 =>
 match b12 with
 | true => (some (v9, p0.2))
 | false => (some ((.int .i64 (-1)), p0.2)))
 | _ => none)
 | _ => none)
 | false => (some ((.int .i64 (-1)), p0.2))
theorem zsc : z0g M F.z3a [a0, (.int .i64 a1), (.int .u64 a2)] h = z3a M a0 a1 a2 h := by kernel_rfl
def z1w (M : Env) (a0 : V) (a1 a2 : Int) (h : H) : Rf :=
 (eqV .ptr a0 .nilp).bind fun b0 =>
 match b0 with
 | true => (some ((.int .i64 (-1)), h))
 | false => (match decide (a1 < 0) with
 | true => (some ((.int .i64 (-1)), h))
 | false => ((nilc a0).bind fun v1 =>
 (zb v1 6).bind fun v2 =>
 (h.ld1 v2).bind fun v3 =>
 (lenSl v3).bind fun n4 =>
 match decide ((n4 : Int) ≤ a1) with
 | true => (some ((.int .i64 (-1)), h))
 | false => (match decide (a2 < 0) with
 | true => (some ((.int .i64 (-1)), h))
 | false => ((nilc a0).bind fun v5 =>
 (zb v5 6).bind fun v6 =>
 (h.ld1 v6).bind fun v7 =>
 (zd 1 v7 a1).bind fun v8 =>
 (h.ld1 v8).bind fun v9 =>
 (lenSl v9).bind fun n10 =>
 match decide ((n10 : Int) ≤ a2) with
 | true => (some ((.int .i64 (-1)), h))
 | false => ((nilc a0).bind fun v11 =>
 (zb v11 6).bind fun v12 =>
 (h.ld1 v12).bind fun v13 =>
 (zd 1 v13 a1).bind fun v14 =>
 (h.ld1 v14).bind fun v15 =>
 (zd 1 v15 a2).bind fun v16 =>
 (h.ld1 v16).bind fun v17 =>
 some (v17, h))))))
theorem zq3 : z0g M F.z1w [a0, (.int .i64 a1), (.int .i64 a2)] h = z1w M a0 a1 a2 h := by kernel_rfl
def z2y (M : Env) (a0 : V) (a1 : Int) (h : H) : Rf :=
 match (!decide (a1 = 0)) with
 | true => ((nilc a0).bind fun v0 =>
 (zb v0 9).bind fun v1 =>
 (h.ld1 v1).bind fun v2 =>
 (h.look .int (0:Int) false v2 (.int .u64 a1)).bind fun v3 =>
 (asI .i64 v3).bind fun n4 =>
 some ((.bool (decide (n4 = 0))), h))
 | false => (some (false, h))
theorem zqx : z0g M F.z2y [a0, (.int .u64 a1)] h = z2y M a0 a1 h := by kernel_rfl
def zc8 (M : Env) := lb M F.zis [7, 8] [7]
def z4t (x7 x8 : V) : List V := dd 7 (x7 :: x8 :: dd 39 [])
def z7v (x7 : V) : List V := dd 7 (x7 :: dd 40 [])
def zjn (M : Env) := kf F.z0r
def zjs (M : Env) := kq M F.zjd (zjn M)
def z99 (M : Env) := kb 0 (zjs M)
def z0r (M : Env) (a0 : V) (a1 : Int) (h : H) : Rf :=
 match decide (a1 < 0) with
 | true => (none)
 | false => ((lenSl a0).bind fun n0 =>
 (M.call 445 [(.int .u64 (wr .u64 (n0 : Int))), (.int .u64 (wr .u64 a1))] h).bind fun p1 =>
 match p1.1 with
 | .tup vs2 => ((vs2[0]?).bind fun v3 =>
 match p1.1 with
 | .tup vs4 => ((vs4[1]?).bind fun v5 =>
 (asI .u64 v3).bind fun n6 =>
 match decide (0 < n6) with
 | true => (none)
 | false => ((asI .u64 v5).bind fun n7 =>
 match decide (9223372036854775807 < n7) with
 | true => (none)
 | false => ((z64 v5).bind fun n8 =>
 (p1.2.mkSl 1 8 [(0:Int)] (wr .i64 n8) (wr .i64 n8)).bind fun p9 =>
 (p9.2.copy 1 p9.1 a0).bind fun p10 =>
 (M.loop (zc8 M) (z4t p9.1 p10.1) p10.2).bind fun p11 => z99 M p11.1 p11.2.1 p11.2.2)))
 | _ => none)
 | _ => none)
def z7u (M : Env) (x7 : V) (x8 : Int) (h : H) : Rl :=
 (lenSl x7).bind fun n0 =>
 match decide (x8 < (n0 : Int)) with
 | true => ((z4f 1 x7 (some x8) none none).bind fun v1 =>
 (z4f 1 x7 none (some x8) none).bind fun v2 =>
 (h.copy 1 v1 v2).bind fun p3 =>
 (asI .i64 p3.1).bind fun n4 =>
 some (.normal, (z4t x7 (.int .i64 (wr .i64 (x8 + n4)))), p3.2))
 | false => (some ((.exit 0), (z7v x7), h))
def zgm (M : Env) (x7 : V) (h : H) : Rf :=
 some (x7, h)
theorem zjc : z0g M F.z0r [a0, (.int .i64 a1)] h = z0r M a0 a1 h := by kernel_rfl
theorem zgs : zc8 M (z4t x7 (.int .i64 x8)) h = z7u M x7 x8 h := by kernel_rfl
theorem zfc : z99 M (.exit 0) (z7v x7) h = zgm M x7 h := by kernel_rfl
def z1k (M : Env) (a0 : V) (a1 : Int) (h : H) : Rf :=
 (M.call 404 [a0, a1] h).bind fun p0 =>
 (asI .i64 p0.1).bind fun n1 =>
 some ((.bool (decide (0 ≤ n1))), p0.2)
theorem zhk : z0g M F.z1k [a0, (.int .i64 a1)] h = z1k M a0 a1 h := by kernel_rfl
def zcs (M : Env) := lb M F.zke [0, 1, 7, 8] [4]
def z59 (x0 x1 x7 x8 : V) : List V := x0 :: x1 :: dd 5 (x7 :: x8 :: dd 10 [])
def z2c (x4 : V) : List V := dd 4 (x4 :: dd 14 [])
def zkh (M : Env) := kf F.z0w
def zkg (M : Env) := kq M F.zkf (zkh M)
def z48 (M : Env) := kb 0 (zkg M)
def z0w (M : Env) (a0 : V) (a1 : Int) (h : H) : Rf :=
 (lenSl a0).bind fun n0 =>
 (M.loop (zcs M) (z59 a0 a1 (.int .i64 (n0 : Int)) (0:Int)) h).bind fun p1 => z48 M p1.1 p1.2.1 p1.2.2
def z5e (M : Env) (x0 : V) (x1 x7 x8 : Int) (h : H) : Rl :=
 match decide (x8 < x7) with
 | true => ((zd 1 x0 x8).bind fun v0 =>
 (h.ld1 v0).bind fun v1 =>
 (asI .i64 v1).bind fun n2 =>
 match decide (x1 = n2) with
 | true => (some (.ret, (z2c x8), h))
 | false => (some (.normal, (z59 x0 x1 x7 (.int .i64 (wr .i64 (x8 + 1)))), h)))
 | false => (some ((.exit 0), (z2c .dead), h))
def zhl (M : Env) (x4 : V) (h : H) : Rf :=
 some ((.int .i64 (-1)), h)
def zi5 (M : Env) (x4 : Int) (h : H) : Rf :=
 some (x4, h)
theorem zk1 : z0g M F.z0w [a0, (.int .i64 a1)] h = z0w M a0 a1 h := by kernel_rfl
theorem zhj : zcs M (z59 x0 (.int .i64 x1) (.int .i64 x7) (.int .i64 x8)) h = z5e M x0 x1 x7 x8 h := by kernel_rfl
theorem zfr : z48 M (.exit 0) (z2c x4) h = zhl M x4 h := by kernel_rfl
theorem zgg : z48 M .ret (z2c (.int .i64 x4)) h = zi5 M x4 h := by kernel_rfl
def zep (M : Env) := lb M F.zpf [0, 5, 6] [5]
def z4v (x0 x5 x6 : V) : List V := x0 :: dd 4 (x5 :: x6 :: dd 39 [])
def zb6 (x5 : V) : List V := dd 5 (x5 :: dd 40 [])
def zb0 (M : Env) := lb M F.zp5 [0, 5, 6, 26, 27, 28] [0, 5, 6]
def z2l (x0 x5 x6 x26 x27 x28 : V) : List V := x0 :: dd 4 (x5 :: x6 :: dd 19 (x26 :: x27 :: x28 :: dd 17 []))
def zbd (x0 x5 x6 : V) : List V := x0 :: dd 4 (x5 :: x6 :: dd 39 [])
def zp1 (M : Env) := kf F.z12
def zpc (M : Env) := kq M F.zok (zp1 M)
def zc3 (M : Env) := kb 0 (zpc M)
def zor (M : Env) := kl [0, 5, 6] [5]
def zoi (M : Env) := kq M F.zoo (zor M)
def zoj (M : Env) := kb 1 (zoi M)
def z8i (M : Env) := kb 2 (zoj M)
def z12 (M : Env) (a0 : V) (a1 : Int) (h : H) : Rf :=
 let h0 := h.new (.cells [a1] .rw)
 (M.loop (zep M) (z4v a0 (.sl h.next 0 1 (.ex 1)) (0:Int)) h0).bind fun p1 => zc3 M p1.1 p1.2.1 p1.2.2
def zb4 (M : Env) (x0 x5 : V) (x6 : Int) (h : H) : Rl :=
 (lenSl x5).bind fun n0 =>
 match decide (x6 < (n0 : Int)) with
 | true => ((nilc x0).bind fun v1 =>
 (zb v1 6).bind fun v2 =>
 (h.ld1 v2).bind fun v3 =>
 (zd 1 x5 x6).bind fun v4 =>
 (h.ld1 v4).bind fun v5 =>
 (zd 1 v3 v5).bind fun v6 =>
 (h.ld1 v6).bind fun v7 =>
 (lenSl v7).bind fun n8 =>
 (M.loop (zb0 M) (z2l x0 x5 x6 v7 (.int .i64 (n8 : Int)) (0:Int)) h).bind fun p9 => z8i M p9.1 p9.2.1 p9.2.2)
 | false => (some ((.exit 0), (zb6 x5), h))
def zmb (M : Env) (x5 : V) (h : H) : Rf :=
 some (x5, h)
def z53 (M : Env) (x0 x5 : V) (x6 : Int) (x26 : V) (x27 x28 : Int) (h : H) : Rl :=
 match decide (x28 < x27) with
 | true => ((zd 1 x26 x28).bind fun v0 =>
 (h.ld1 v0).bind fun v1 =>
 (asI .i64 v1).bind fun n2 =>
 match decide (0 ≤ n2) with
 | true => ((M.call 331 [x5, v1] h).bind fun p3 =>
 (asB p3.1).bind fun b4 =>
 match (!b4) with
 | true => ((fill (repl [(0:Int)] 1) [] [(0, 1, .c v1)]).bind fun cs5 =>
 let h6 := p3.2.new (.cells cs5 .rw)
 (h6.append 1 8 x5 (.sl p3.2.next 0 1 (.ex 1))).bind fun p7 =>
 some (.normal, (z2l x0 p7.1 x6 x26 x27 (.int .i64 (wr .i64 (x28 + 1)))), p7.2))
 | false => (some (.normal, (z2l x0 x5 x6 x26 x27 (.int .i64 (wr .i64 (x28 + 1)))), p3.2)))
 | false => (some (.normal, (z2l x0 x5 x6 x26 x27 (.int .i64 (wr .i64 (x28 + 1)))), h)))
 | false => (some ((.exit 2), (zbd x0 x5 x6), h))
def zek (M : Env) (x0 x5 : V) (x6 : Int) (h : H) : Rl :=
 some (.normal, (z4v x0 x5 (.int .i64 (wr .i64 (x6 + 1)))), h)
theorem zov : z0g M F.z12 [a0, (.int .i64 a1)] h = z12 M a0 a1 h := by kernel_rfl
theorem zlp : zep M (z4v x0 x5 (.int .i64 x6)) h = zb4 M x0 x5 x6 h := by kernel_rfl
theorem zi3 : zc3 M (.exit 0) (zb6 x5) h = zmb M x5 h := by kernel_rfl
theorem zkt : zb0 M (z2l x0 x5 (.int .i64 x6) x26 (.int .i64 x27) (.int .i64 x28)) h = z53 M x0 x5 x6 x26 x27 x28 h := by kernel_rfl
theorem zi2 : z8i M (.exit 2) (zbd x0 x5 (.int .i64 x6)) h = zek M x0 x5 x6 h := by kernel_rfl
def z56 (M : Env) (a0 : V) (a1 a2 a3 : Int) (h : H) : Rf :=
 (nilc a0).bind fun v0 =>
 (zb v0 9).bind fun v1 =>
 (h.ld1 v1).bind fun v2 =>
 (h.mapSet .int v2 (.int .u64 a2) (1:Int)).bind fun h3 =>
 (nilc a0).bind fun v4 =>
 (zb v4 7).bind fun v5 =>
 (h3.ld1 v5).bind fun v6 =>
 (zd 1 v6 a1).bind fun v7 =>
 (h3.ld1 v7).bind fun v8 =>
 (h3.mapSet .int v8 (.int .u64 a2) a3).bind fun h9 =>
 some ((.tup []), h9)
theorem zrr : z0g M F.z56 [a0, (.int .i64 a1), (.int .u64 a2), (.int .i64 a3)] h = z56 M a0 a1 a2 a3 h := by kernel_rfl
def zff (M : Env) := jb M F.zqw [0, 1, 7]
def zfa (x0 x1 x5 : V) : List V := x0 :: x1 :: dd 3 (x5 :: dd 25 [])
def zc0 (x0 x1 x7 : V) : List V := x0 :: x1 :: dd 5 (x7 :: dd 23 [])
def zql (M : Env) := kf F.z1x
def zq9 (M : Env) := kq M F.zq4 (zql M)
def zqa (M : Env) := kb 0 (zq9 M)
def zgx (M : Env) := kq M F.zq8 (zqa M)
def z1x (M : Env) (a0 : V) (a1 a2_0 a2_1 a2_2 a2_3 a2_4 : Int) (h : H) : Rf :=
 let h0 := h.new (.cells [a2_0, a2_1, (.int .u64 a2_2), (.int .u64 a2_3), (.int .u64 a2_4)] .rw)
 (zff M (zfa a0 a1 (.ptr h.next 0)) h0).bind fun p1 => zgx M p1.1 p1.2.1 p1.2.2
def z6b (M : Env) (x0 : V) (x1 : Int) (x5 : V) (h : H) : Rl :=
 (zb x5 1).bind fun v0 =>
 (h.ld1 v0).bind fun v1 =>
 (asI .i64 v1).bind fun n2 =>
 match decide (n2 < 0) with
 | true => (some (.normal, (zc0 x0 x1 true), h))
 | false => ((zb x5 1).bind fun v3 =>
 (h.ld1 v3).bind fun v4 =>
 (nilc x0).bind fun v5 =>
 (zb v5 0).bind fun v6 =>
 (zb v6 1).bind fun v7 =>
 (h.ld1 v7).bind fun v8 =>
 (asI .i64 v4).bind fun n9 =>
 (asI .i64 v8).bind fun n10 =>
 some (.normal, (zc0 x0 x1 (.bool (decide (n10 < n9)))), h))
def z66 (M : Env) (x0 : V) (x1 : Int) (x7 : Bool) (h : H) : Rf :=
 match x7 with
 | true => (some ((1:Int), h))
 | false => ((nilc x0).bind fun v0 =>
 (zb v0 0).bind fun v1 =>
 (zb v1 3).bind fun v2 =>
 (h.ld1 v2).bind fun v3 =>
 (M.call 105 [x0, x1] h).bind fun p4 =>
 match ckB (p4.2.ld1 v2) v3 with
 | true => ((asI .i64 p4.1).bind fun n5 =>
 (asI .i64 v3).bind fun n6 =>
 match decide (n6 ≤ n5) with
 | true => (some ((5:Int), p4.2))
 | false => (some ((0:Int), p4.2)))
 | false => none)
theorem zqz : z0g M F.z1x [a0, (.int .i64 a1), (.agg [(.int .i64 a2_0), (.int .i64 a2_1), (.int .u64 a2_2), (.int .u64 a2_3), (.int .u64 a2_4)])] h = z1x M a0 a1 a2_0 a2_1 a2_2 a2_3 a2_4 h := by kernel_rfl
theorem z7y : zff M (zfa x0 (.int .i64 x1) x5) h = z6b M x0 x1 x5 h := by kernel_rfl
theorem z6v : zgx M .normal (zc0 x0 (.int .i64 x1) (.bool x7)) h = z66 M x0 x1 x7 h := by kernel_rfl
def zg9 (M : Env) := jb M F.zrc [0, 1, 5, 7, 15]
def zg1 (x0 x1 x5 x7 : V) : List V := x0 :: x1 :: dd 3 (x5 :: dd 1 (x7 :: dd 37 []))
def zcl (x0 x1 x5 x7 x15 : V) : List V := x0 :: x1 :: dd 3 (x5 :: dd 1 (x7 :: dd 7 (x15 :: dd 29 [])))
def zs4 (M : Env) := kf F.z25
def zrz (M : Env) := kq M F.zr8 (zs4 M)
def zrj (M : Env) := kb 0 (zrz M)
def zhq (M : Env) := kq M F.zs1 (zrj M)
def z25 (M : Env) (a0 : V) (a1 a2_0 a2_1 a2_2 a2_3 a2_4 : Int) (h : H) : Rf :=
 let h0 := h.new (.cells [a2_0, a2_1, (.int .u64 a2_2), (.int .u64 a2_3), (.int .u64 a2_4)] .rw)
 (nilc a0).bind fun v1 =>
 (zb v1 8).bind fun v2 =>
 (h0.ld1 v2).bind fun v3 =>
 (zd 2 v3 a1).bind fun v4 =>
 (h0.ldN 2 v4).bind fun v5 =>
 let h6 := h0.new (.cells [(.int .u64 0), .nilsl] .rw)
 (h6.st 2 (.ptr h0.next 0) v5).bind fun h7 =>
 (zg9 M (zg1 a0 a1 (.ptr h.next 0) (.ptr h0.next 0)) h7).bind fun p8 => zhq M p8.1 p8.2.1 p8.2.2
def z3t (M : Env) (x0 : V) (x1 : Int) (x5 x7 : V) (h : H) : Rl :=
 (zb x5 2).bind fun v0 =>
 (h.ld1 v0).bind fun v1 =>
 (asI .u64 v1).bind fun n2 =>
 match decide (n2 = 0) with
 | true => (some (.normal, (zcl x0 x1 x5 x7 true), h))
 | false => ((zb x7 0).bind fun v3 =>
 (h.ld1 v3).bind fun v4 =>
 (zb x5 2).bind fun v5 =>
 (h.ld1 v5).bind fun v6 =>
 (asI .u64 v4).bind fun n7 =>
 (asI .u64 v6).bind fun n8 =>
 some (.normal, (zcl x0 x1 x5 x7 (.bool (!decide (n7 = n8)))), h))
def z3q (M : Env) (x0 : V) (x1 : Int) (x5 x7 : V) (x15 : Bool) (h : H) : Rf :=
 match x15 with
 | true => (some ((6:Int), h))
 | false => ((zb x5 0).bind fun v0 =>
 (h.ld1 v0).bind fun v1 =>
 (asI .i64 v1).bind fun n2 =>
 match decide (n2 = 10) with
 | true => (some ((0:Int), h))
 | false => ((zb x7 1).bind fun v3 =>
 (h.ld1 v3).bind fun v4 =>
 (lenSl v4).bind fun n5 =>
 match decide ((n5 : Int) = 0) with
 | true => (some ((6:Int), h))
 | false => ((nilc x0).bind fun v6 =>
 (zb v6 0).bind fun v7 =>
 (zb v7 3).bind fun v8 =>
 (h.ld1 v8).bind fun v9 =>
 (M.call 105 [x0, x1] h).bind fun p10 =>
 match ckB (p10.2.ld1 v8) v9 with
 | true => ((asI .i64 p10.1).bind fun n11 =>
 (asI .i64 v9).bind fun n12 =>
 match decide (n12 ≤ n11) with
 | true => (some ((5:Int), p10.2))
 | false => (some ((0:Int), p10.2)))
 | false => none)))
theorem zrd : z0g M F.z25 [a0, (.int .i64 a1), (.agg [(.int .i64 a2_0), (.int .i64 a2_1), (.int .u64 a2_2), (.int .u64 a2_3), (.int .u64 a2_4)])] h = z25 M a0 a1 a2_0 a2_1 a2_2 a2_3 a2_4 h := by kernel_rfl
theorem z4h : zg9 M (zg1 x0 (.int .i64 x1) x5 x7) h = z3t M x0 x1 x5 x7 h := by kernel_rfl
theorem z3v : zhq M .normal (zcl x0 (.int .i64 x1) x5 x7 (.bool x15)) h = z3q M x0 x1 x5 x7 x15 h := by kernel_rfl
end Wm.S
end
