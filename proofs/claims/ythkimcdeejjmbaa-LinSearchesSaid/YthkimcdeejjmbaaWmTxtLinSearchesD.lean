/- PRINTED by my tool: what functions come to, stretch by stretch. -/
import Derived.KernelRfl
import Derived.Test.YthkimcdeejjmbaaWmShal
import Derived.Test.YthkimcdeejjmbaaWmFnsLinSearches
import Derived.Test.YthkimcdeejjmbaaWmTxtLinSearchesA
set_option linter.all false
noncomputable section
namespace Wm.S
open Wm
set_option maxRecDepth 100000
set_option autoImplicit true
set_option relaxedAutoImplicit true
def z9t (M : Env) := sc M F.zxt F.zxv [1, 7, 8, 9] [4, 5, 6]
def z0d (x1 x7 x8 x9 : V) : List V := dd 1 (x1 :: dd 5 (x7 :: x8 :: x9 :: dd 80 []))
def z1p (x4 x5 x6 : V) : List V := dd 4 (x4 :: x5 :: x6 :: dd 83 [])
def ze2 (M : Env) := kf F.z5c
def z5c (M : Env) (a0_0 a0_1 a0_2 a0_3 a0_4 a0_5 : Int) (a1 : V) (h : H) : Rf :=
 let h0 := h.new (.cells [a0_0, a0_1, a0_2, a0_3, a0_4, a0_5] .rw)
 (M.scope (z9t M) 0 ((.agg [a0_0, a0_1, a0_2, a0_3, a0_4, a0_5]) :: a1 :: (.ptr h.next 0) :: uu 1 (.nilsl :: false :: (0:Int) :: uu 83 [])) h0).bind fun p1 => ze2 M p1.1 p1.2.1 p1.2.2
def zo9 (M : Env) (x0 x1 x2 x4 : V) (x5 : Bool) (x6 : Int) (h : H) : Rl :=
 (h.ldN 6 x2).bind fun v0 =>
 (M.call 263 [v0] h).bind fun p1 =>
 (asB p1.1).bind fun b2 =>
 match (!b2) with
 | true => (some (.ret, (z1p .nilsl false (1:Int)), p1.2))
 | false => ((lenSl x1).bind fun n3 =>
 match decide (7 < (n3 : Int)) with
 | true => (some (.ret, (z1p .nilsl false (10:Int)), p1.2))
 | false => ((lenSl x1).bind fun n4 =>
 (p1.2.mkSl 1 8 [(0:Int)] 0 (n4 : Int)).bind fun p5 =>
 (p5.2.ldN 6 x2).bind fun v6 =>
 (M.call 96 [v6] p5.2).bind fun p7 =>
 (fill (repl [.nilp] 1) [] [(0, 1, .c p7.1)]).bind fun cs8 =>
 let h9 := p7.2.new (.cells cs8 .rw)
 (lenSl p5.1).bind fun n10 =>
 (lenSl x1).bind fun n11 =>
 match decide ((n10 : Int) = (n11 : Int)) with
 | true => (some (.ret, (z1p p5.1 true (0:Int)), h9))
 | false => ((lenSl x1).bind fun n12 =>
 match decide (0 = (n12 : Int)) with
 | true => (some (.goto 1, (z0d x1 p5.1 (.sl p7.2.next 0 1 (.ex 1)) (0:Int)), h9))
 | false => ((M.call 349 [x1, p5.1, (0:Int)] h9).bind fun p13 =>
 (asB p13.1).bind fun b14 =>
 match b14 with
 | true => ((lenSl p5.1).bind fun n15 =>
 (zd 1 (.sl p7.2.next 0 1 (.ex 1)) (.int .i64 (n15 : Int))).bind fun v16 =>
 (p13.2.ld1 v16).bind fun v17 =>
 (M.call 115 [v17] p13.2).bind fun p18 =>
 (zd 14 x1 (0:Int)).bind fun v19 =>
 (zb v19 0).bind fun v20 =>
 (p18.2.ld1 v20).bind fun v21 =>
 (zd 14 x1 (0:Int)).bind fun v22 =>
 (zb v22 6).bind fun v23 =>
 (p18.2.ldN 5 v23).bind fun v24 =>
 (zd 14 x1 (0:Int)).bind fun v25 =>
 (zb v25 11).bind fun v26 =>
 (p18.2.ldN 3 v26).bind fun v27 =>
 (M.call 103 [p18.1, v21, v24, v27] p18.2).bind fun p28 =>
 (asB p28.1).bind fun b29 =>
 match b29 with
 | true => (let h30 := p28.2.new (.cells [(0:Int)] .rw)
 (h30.append 1 8 p5.1 (.sl p28.2.next 0 1 (.ex 1))).bind fun p31 =>
 (lenSl p31.1).bind fun n32 =>
 (lenSl p31.1).bind fun n33 =>
 (z4f 1 (.sl p7.2.next 0 1 (.ex 1)) none (some (.int .i64 (n32 : Int))) (some (.int .i64 (n33 : Int)))).bind fun v34 =>
 (fill (repl [.nilp] 1) [] [(0, 1, .c p18.1)]).bind fun cs35 =>
 let h36 := p31.2.new (.cells cs35 .rw)
 (h36.append 1 8 v34 (.sl p31.2.next 0 1 (.ex 1))).bind fun p37 =>
 some (.goto 0, (z0d x1 p31.1 p37.1 (0:Int)), p37.2))
 | false => (some (.goto 2, (z0d x1 p5.1 (.sl p7.2.next 0 1 (.ex 1)) (.int .i64 (wr .i64 (0 + 1)))), p28.2)))
 | false => (some (.goto 2, (z0d x1 p5.1 (.sl p7.2.next 0 1 (.ex 1)) (.int .i64 (wr .i64 (0 + 1)))), p13.2))))))
def zmg (M : Env) (x1 x7 x8 : V) (x9 : Int) (h : H) : Rl :=
 (lenSl x7).bind fun n0 =>
 (lenSl x1).bind fun n1 =>
 match decide ((n0 : Int) = (n1 : Int)) with
 | true => (some (.ret, (z1p x7 true (0:Int)), h))
 | false => ((lenSl x1).bind fun n2 =>
 match decide (x9 = (n2 : Int)) with
 | true => (some (.goto 1, (z0d x1 x7 x8 x9), h))
 | false => ((M.call 349 [x1, x7, x9] h).bind fun p3 =>
 (asB p3.1).bind fun b4 =>
 match b4 with
 | true => ((lenSl x7).bind fun n5 =>
 (zd 1 x8 (.int .i64 (n5 : Int))).bind fun v6 =>
 (p3.2.ld1 v6).bind fun v7 =>
 (M.call 115 [v7] p3.2).bind fun p8 =>
 (zd 14 x1 x9).bind fun v9 =>
 (zb v9 0).bind fun v10 =>
 (p8.2.ld1 v10).bind fun v11 =>
 (zd 14 x1 x9).bind fun v12 =>
 (zb v12 6).bind fun v13 =>
 (p8.2.ldN 5 v13).bind fun v14 =>
 (zd 14 x1 x9).bind fun v15 =>
 (zb v15 11).bind fun v16 =>
 (p8.2.ldN 3 v16).bind fun v17 =>
 (M.call 103 [p8.1, v11, v14, v17] p8.2).bind fun p18 =>
 (asB p18.1).bind fun b19 =>
 match b19 with
 | true => (let h20 := p18.2.new (.cells [x9] .rw)
 (h20.append 1 8 x7 (.sl p18.2.next 0 1 (.ex 1))).bind fun p21 =>
 (lenSl p21.1).bind fun n22 =>
 (lenSl p21.1).bind fun n23 =>
 (z4f 1 x8 none (some (.int .i64 (n22 : Int))) (some (.int .i64 (n23 : Int)))).bind fun v24 =>
 (fill (repl [.nilp] 1) [] [(0, 1, .c p8.1)]).bind fun cs25 =>
 let h26 := p21.2.new (.cells cs25 .rw)
 (h26.append 1 8 v24 (.sl p21.2.next 0 1 (.ex 1))).bind fun p27 =>
 some (.goto 0, (z0d x1 p21.1 p27.1 (0:Int)), p27.2))
 | false => (some (.goto 2, (z0d x1 x7 x8 (.int .i64 (wr .i64 (x9 + 1)))), p18.2)))
 | false => (some (.goto 2, (z0d x1 x7 x8 (.int .i64 (wr .i64 (x9 + 1)))), p3.2))))
def z46 (M : Env) (x1 x7 x8 : V) (x9 : Int) (h : H) : Rl :=
 (lenSl x1).bind fun n0 =>
 match decide (x9 = (n0 : Int)) with
 | true => (some (.goto 1, (z0d x1 x7 x8 x9), h))
 | false => ((M.call 349 [x1, x7, x9] h).bind fun p1 =>
 (asB p1.1).bind fun b2 =>
 match b2 with
 | true => ((lenSl x7).bind fun n3 =>
 (zd 1 x8 (.int .i64 (n3 : Int))).bind fun v4 =>
 (p1.2.ld1 v4).bind fun v5 =>
 (M.call 115 [v5] p1.2).bind fun p6 =>
 (zd 14 x1 x9).bind fun v7 =>
 (zb v7 0).bind fun v8 =>
 (p6.2.ld1 v8).bind fun v9 =>
 (zd 14 x1 x9).bind fun v10 =>
 (zb v10 6).bind fun v11 =>
 (p6.2.ldN 5 v11).bind fun v12 =>
 (zd 14 x1 x9).bind fun v13 =>
 (zb v13 11).bind fun v14 =>
 (p6.2.ldN 3 v14).bind fun v15 =>
 (M.call 103 [p6.1, v9, v12, v15] p6.2).bind fun p16 =>
 (asB p16.1).bind fun b17 =>
 match b17 with
 | true => (let h18 := p16.2.new (.cells [x9] .rw)
 (h18.append 1 8 x7 (.sl p16.2.next 0 1 (.ex 1))).bind fun p19 =>
 (lenSl p19.1).bind fun n20 =>
 (lenSl p19.1).bind fun n21 =>
 (z4f 1 x8 none (some (.int .i64 (n20 : Int))) (some (.int .i64 (n21 : Int)))).bind fun v22 =>
 (fill (repl [.nilp] 1) [] [(0, 1, .c p6.1)]).bind fun cs23 =>
 let h24 := p19.2.new (.cells cs23 .rw)
 (h24.append 1 8 v22 (.sl p19.2.next 0 1 (.ex 1))).bind fun p25 =>
 some (.goto 0, (z0d x1 p19.1 p25.1 (0:Int)), p25.2))
 | false => (some (.goto 2, (z0d x1 x7 x8 (.int .i64 (wr .i64 (x9 + 1)))), p16.2)))
 | false => (some (.goto 2, (z0d x1 x7 x8 (.int .i64 (wr .i64 (x9 + 1)))), p1.2)))
def zfn (M : Env) (x1 x7 x8 : V) (x9 : Int) (h : H) : Rl :=
 (lenSl x7).bind fun n0 =>
 match decide ((n0 : Int) = 0) with
 | true => (some (.ret, (z1p .nilsl false (0:Int)), h))
 | false => ((lenSl x7).bind fun n1 =>
 (zd 1 x7 (.int .i64 (wr .i64 ((n1 : Int) - 1)))).bind fun v2 =>
 (h.ld1 v2).bind fun v3 =>
 (asI .i64 v3).bind fun n4 =>
 (lenSl x7).bind fun n5 =>
 (z4f 1 x7 none (some (.int .i64 (wr .i64 ((n5 : Int) - 1)))) none).bind fun v6 =>
 some (.goto 2, (z0d x1 v6 x8 (.int .i64 (wr .i64 (n4 + 1)))), h))
def zvo (M : Env) (x4 : V) (x5 : Bool) (x6 : Int) (h : H) : Rf :=
 some ((.tup [x4, x5, x6]), h)
theorem zr1 : z0g M F.z5c [(.agg [(.int .i64 a0_0), (.int .i64 a0_1), (.int .i64 a0_2), (.int .i64 a0_3), (.int .i64 a0_4), (.int .i64 a0_5)]), a1] h = z5c M a0_0 a0_1 a0_2 a0_3 a0_4 a0_5 a1 h := by kernel_rfl
theorem zmn : z9t M 0 (x0 :: x1 :: x2 :: uu 1 (x4 :: (.bool x5) :: (.int .i64 x6) :: uu 83 [])) h = zo9 M x0 x1 x2 x4 x5 x6 h := by kernel_rfl
theorem zrf : z9t M 1 (z0d x1 x7 x8 (.int .i64 x9)) h = zmg M x1 x7 x8 x9 h := by kernel_rfl
theorem zs8 : z9t M 3 (z0d x1 x7 x8 (.int .i64 x9)) h = z46 M x1 x7 x8 x9 h := by kernel_rfl
theorem zrt : z9t M 2 (z0d x1 x7 x8 (.int .i64 x9)) h = zfn M x1 x7 x8 x9 h := by kernel_rfl
theorem zes : ze2 M .ret (z1p x4 (.bool x5) (.int .i64 x6)) h = zvo M x4 x5 x6 h := by kernel_rfl
def zgq (M : Env) := lb M F.zth [0, 3] [0, 3]
def zak (x0 x3 : V) : List V := x0 :: dd 2 (x3 :: dd 82 [])
def zam (x0 x3 : V) : List V := x0 :: dd 2 (x3 :: dd 82 [])
def zdu (M : Env) := lb M F.zt6 [0, 3, 4] [0, 3, 4]
def z7c (x0 x3 x4 : V) : List V := x0 :: dd 2 (x3 :: x4 :: dd 81 [])
def ze0 (x0 x3 x4 : V) : List V := x0 :: dd 2 (x3 :: x4 :: dd 81 [])
def zdx (M : Env) := lb M F.zt2 [0, 6, 7] []
def z71 (x0 x6 x7 : V) : List V := x0 :: dd 5 (x6 :: x7 :: dd 78 [])
def zdy : List V := dd 86 []
def zey (M : Env) := kf F.z1g
def ztd (M : Env) := kq M F.ztm (zey M)
def zeo (M : Env) := kb 0 (ztd M)
def zsu (M : Env) := kq M F.zto (zey M)
def zbw (M : Env) := kb 2 (zsu M)
def zsz (M : Env) := kq M F.zt1 (zey M)
def zbs (M : Env) := kb 4 (zsz M)
def z1g (M : Env) (a0 : V) (h : H) : Rf :=
 (lenSl a0).bind fun n0 =>
 (M.loop (zgq M) (zak a0 (.int .i64 (wr .i64 ((n0 : Int) - 2)))) h).bind fun p1 => zeo M p1.1 p1.2.1 p1.2.2
def zai (M : Env) (x0 : V) (x3 : Int) (h : H) : Rl :=
 match decide (0 ≤ x3) with
 | true => ((zd 1 x0 x3).bind fun v0 =>
 (h.ld1 v0).bind fun v1 =>
 (zd 1 x0 (.int .i64 (wr .i64 (x3 + 1)))).bind fun v2 =>
 (h.ld1 v2).bind fun v3 =>
 (asI .i64 v1).bind fun n4 =>
 (asI .i64 v3).bind fun n5 =>
 match decide (n5 < n4) with
 | true => (some (.normal, (zak x0 (.int .i64 (wr .i64 (x3 - 1)))), h))
 | false => (some ((.exit 0), (zam x0 x3), h)))
 | false => (some ((.exit 0), (zam x0 x3), h))
def zcx (M : Env) (x0 : V) (x3 : Int) (h : H) : Rf :=
 match decide (x3 < 0) with
 | true => (some (false, h))
 | false => ((lenSl x0).bind fun n0 =>
 (M.loop (zdu M) (z7c x0 x3 (.int .i64 (wr .i64 ((n0 : Int) - 1)))) h).bind fun p1 => zbw M p1.1 p1.2.1 p1.2.2)
def zdr (M : Env) (x0 : V) (x3 x4 : Int) (h : H) : Rl :=
 (zd 1 x0 x4).bind fun v0 =>
 (h.ld1 v0).bind fun v1 =>
 (zd 1 x0 x3).bind fun v2 =>
 (h.ld1 v2).bind fun v3 =>
 (asI .i64 v1).bind fun n4 =>
 (asI .i64 v3).bind fun n5 =>
 match decide (n4 < n5) with
 | true => (some (.normal, (z7c x0 x3 (.int .i64 (wr .i64 (x4 - 1)))), h))
 | false => (some ((.exit 2), (ze0 x0 x3 x4), h))
def zcb (M : Env) (x0 : V) (x3 x4 : Int) (h : H) : Rf :=
 (zd 1 x0 x3).bind fun v0 =>
 (h.ld1 v0).bind fun v1 =>
 (zd 1 x0 x4).bind fun v2 =>
 (h.ld1 v2).bind fun v3 =>
 (zd 1 x0 x3).bind fun v4 =>
 (h.st 1 v4 v3).bind fun h5 =>
 (zd 1 x0 x4).bind fun v6 =>
 (h5.st 1 v6 v1).bind fun h7 =>
 (lenSl x0).bind fun n8 =>
 (M.loop (zdx M) (z71 x0 (.int .i64 (wr .i64 ((n8 : Int) - 1))) (.int .i64 (wr .i64 (x3 + 1)))) h7).bind fun p9 => zbs M p9.1 p9.2.1 p9.2.2
def zdt (M : Env) (x0 : V) (x6 x7 : Int) (h : H) : Rl :=
 match decide (x7 < x6) with
 | true => ((zd 1 x0 x7).bind fun v0 =>
 (h.ld1 v0).bind fun v1 =>
 (zd 1 x0 x6).bind fun v2 =>
 (h.ld1 v2).bind fun v3 =>
 (zd 1 x0 x7).bind fun v4 =>
 (h.st 1 v4 v3).bind fun h5 =>
 (zd 1 x0 x6).bind fun v6 =>
 (h5.st 1 v6 v1).bind fun h7 =>
 some (.normal, (z71 x0 (.int .i64 (wr .i64 (x6 - 1))) (.int .i64 (wr .i64 (x7 + 1)))), h7))
 | false => (some ((.exit 4), zdy, h))
def zpr (M : Env) (h : H) : Rf :=
 some (true, h)
theorem zss : z0g M F.z1g [a0] h = z1g M a0 h := by kernel_rfl
theorem zpu : zgq M (zak x0 (.int .i64 x3)) h = zai M x0 x3 h := by kernel_rfl
theorem zmm : zeo M (.exit 0) (zam x0 (.int .i64 x3)) h = zcx M x0 x3 h := by kernel_rfl
theorem zpq : zdu M (z7c x0 (.int .i64 x3) (.int .i64 x4)) h = zdr M x0 x3 x4 h := by kernel_rfl
theorem zmj : zbw M (.exit 2) (ze0 x0 (.int .i64 x3) (.int .i64 x4)) h = zcb M x0 x3 x4 h := by kernel_rfl
theorem zpt : zdx M (z71 x0 (.int .i64 x6) (.int .i64 x7)) h = zdt M x0 x6 x7 h := by kernel_rfl
theorem zmz : zbs M (.exit 4) zdy h = zpr M h := by kernel_rfl
def zdd (M : Env) := lb M F.zm9 [1, 2, 5, 6, 7, 8, 9] [1, 2, 5, 6, 7, 8]
def z5m (x1 x2 x5 x6 x7 x8 x9 : V) : List V := dd 1 (x1 :: x2 :: dd 2 (x5 :: x6 :: x7 :: x8 :: x9 :: dd 149 []))
def z9k (x1 x2 x5 x6 x7 x8 : V) : List V := dd 1 (x1 :: x2 :: dd 2 (x5 :: x6 :: x7 :: x8 :: dd 150 []))
def z9e (M : Env) := lb M F.zm0 [1, 2, 5, 6, 7, 8, 10] [4, 5, 6, 7]
def z10 (x1 x2 x5 x6 x7 x8 x10 : V) : List V := dd 1 (x1 :: x2 :: dd 2 (x5 :: x6 :: x7 :: x8 :: dd 1 (x10 :: dd 148 [])))
def z0n (x4 x5 x6 x7 : V) : List V := dd 4 (x4 :: x5 :: x6 :: x7 :: dd 151 [])
def z1e (M : Env) := lb M F.zm5 [5, 8, 11, 12] [11]
def z0m (x5 x8 x11 x12 : V) : List V := dd 5 (x5 :: dd 2 (x8 :: dd 2 (x11 :: x12 :: dd 146 [])))
def z5r (x11 : V) : List V := dd 11 (x11 :: dd 147 [])
def zej (M : Env) := kf F.z07
def zkr (M : Env) := kq M F.zlz (zej M)
def zaj (M : Env) := kb 1 (zkr M)
def zlj (M : Env) := kq M F.zkz (zej M)
def z3g (M : Env) := kb 3 (zlj M)
def zla (M : Env) := kl [1, 2, 5, 6, 7, 8, 10] [4, 5, 6, 7]
def zlx (M : Env) := kq M F.zln (zla M)
def zl4 (M : Env) := kb 4 (zlx M)
def zm4 (M : Env) := kq M F.zlu (zl4 M)
def z1a (M : Env) := kb 5 (zm4 M)
def z07 (M : Env) (a0_0 a0_1 a0_2 a0_3 a0_4 a0_5 : Int) (a1 : V) (h : H) : Rf :=
 let h0 := h.new (.cells [a0_0, a0_1, a0_2, a0_3, a0_4, a0_5] .rw)
 (h0.ldN 6 (.ptr h.next 0)).bind fun v1 =>
 (M.call 208 [v1, a1] h0).bind fun p2 =>
 match p2.1 with
 | .tup vs3 => ((vs3[0]?).bind fun v4 =>
 match p2.1 with
 | .tup vs5 => ((vs5[1]?).bind fun v6 =>
 match p2.1 with
 | .tup vs7 => ((vs7[2]?).bind fun v8 =>
 (p2.2.ldN 6 (.ptr h.next 0)).bind fun v9 =>
 (M.call 85 [v9] p2.2).bind fun p10 =>
 (asB p10.1).bind fun b11 =>
 match (!b11) with
 | true => ((lenSl v4).bind fun n12 =>
 match decide ((n12 : Int) = 0) with
 | true => ((asB v6).bind fun b13 =>
 match (!b13) with
 | true => ((asI .i64 v8).bind fun n14 =>
 match decide (n14 = 1) with
 | true => ((M.call 204 [] p10.2).bind fun p15 =>
 some (p15.1, p15.2))
 | false => (some (false, p10.2)))
 | false => (some (false, p10.2)))
 | false => (some (false, p10.2)))
 | false => ((lenSl a1).bind fun n12 =>
 match decide (7 < (n12 : Int)) with
 | true => ((lenSl v4).bind fun n13 =>
 match decide ((n13 : Int) = 0) with
 | true => ((asB v6).bind fun b14 =>
 match (!b14) with
 | true => ((asI .i64 v8).bind fun n15 =>
 match decide (n15 = 10) with
 | true => ((M.call 204 [] p10.2).bind fun p16 =>
 some (p16.1, p16.2))
 | false => (some (false, p10.2)))
 | false => (some (false, p10.2)))
 | false => (some (false, p10.2)))
 | false => ((lenSl a1).bind fun n13 =>
 match decide (5 < (n13 : Int)) with
 | true => ((asI .i64 v8).bind fun n14 =>
 match decide (n14 = 0) with
 | true => ((asB v6).bind fun b15 =>
 match (!b15) with
 | true => ((M.call 204 [] p10.2).bind fun p16 =>
 some (p16.1, p16.2))
 | false => ((M.call 186 [a1, v4] p10.2).bind fun p16 =>
 match p16.1 with
 | .bool true => (
 (p16.2.ldN 6 (.ptr h.next 0)).bind fun v17 =>
 (M.call 207 [v17, a1, v4] p16.2).bind fun p18 =>
 (lenSl a1).bind fun n19 =>
 (asI .i64 p18.1).bind fun n20 =>
 match decide (n20 = (n19 : Int)) with
 | true => ((M.call 204 [] p18.2).bind fun p21 =>
 some (p21.1, p21.2))
 | false => (some (false, p18.2)))
 | .bool false => (
 some (false, p16.2))
 | .tup [] => (
 (asB p16.1).bind fun b17 =>
 match (match b17 with | true => (.tup []) | false => false : V) with
 | .bool true => (
 (M.call 204 [] p16.2).bind fun p18 =>
 some (p18.1, p18.2))
 | .bool false => (
 some (false, p16.2))
 | .tup [] => (
 (asB (match b17 with | true => (.tup []) | false => false : V)).bind fun b18 =>
 some ((match b18 with | true => (.tup []) | false => false : V), p16.2))
 | _ => none)
 | _ => none))
 | false => (some (false, p10.2)))
 | false => ((lenSl a1).bind fun n14 =>
 (p10.2.mkSl 1 8 [(0:Int)] (n14 : Int) (n14 : Int)).bind fun p15 =>
 (M.loop (zdd M) (z5m a1 (.ptr h.next 0) v4 v6 v8 p15.1 (0:Int)) p15.2).bind fun p16 => zaj M p16.1 p16.2.1 p16.2.2))))
 | _ => none)
 | _ => none)
 | _ => none
def z9g (M : Env) (x1 x2 x5 : V) (x6 : Bool) (x7 : Int) (x8 : V) (x9 : Int) (h : H) : Rl :=
 (lenSl x1).bind fun n0 =>
 match decide (x9 < (n0 : Int)) with
 | true => ((zd 1 x8 x9).bind fun v1 =>
 (h.st 1 v1 x9).bind fun h2 =>
 some (.normal, (z5m x1 x2 x5 x6 x7 x8 (.int .i64 (wr .i64 (x9 + 1)))), h2))
 | false => (some ((.exit 1), (z9k x1 x2 x5 x6 x7 x8), h))
def zcm (M : Env) (x1 x2 x5 : V) (x6 : Bool) (x7 : Int) (x8 : V) (h : H) : Rf :=
 (M.loop (z9e M) (z10 x1 x2 x5 x6 x7 x8 true) h).bind fun p0 => z3g M p0.1 p0.2.1 p0.2.2
def z42 (M : Env) (x1 x2 x5 : V) (x6 : Bool) (x7 : Int) (x8 : V) (x10 : Bool) (h : H) : Rl :=
 match x10 with
 | true => ((M.call 186 [x1, x8] h).bind fun p0 =>
 match p0.1 with
 | .bool true => (
 (p0.2.ldN 6 x2).bind fun v1 =>
 (M.call 207 [v1, x1, x8] p0.2).bind fun p2 =>
 (lenSl x1).bind fun n3 =>
 (asI .i64 p2.1).bind fun n4 =>
 match decide (n4 = (n3 : Int)) with
 | true => (match x6 with
 | true => (match decide (x7 = 0) with
 | true => ((lenSl x5).bind fun n5 =>
 (lenSl x8).bind fun n6 =>
 (M.loop (z1e M) (z0m x5 x8 (.bool (decide ((n5 : Int) = (n6 : Int)))) (0:Int)) p2.2).bind fun p7 => z1a M p7.1 p7.2.1 p7.2.2)
 | false => ((M.loop (z1e M) (z0m x5 x8 false (0:Int)) p2.2).bind fun p5 => z1a M p5.1 p5.2.1 p5.2.2))
 | false => ((M.loop (z1e M) (z0m x5 x8 false (0:Int)) p2.2).bind fun p5 => z1a M p5.1 p5.2.1 p5.2.2))
 | false => ((M.call 209 [x8] p2.2).bind fun p5 =>
 some (.normal, (z10 x1 x2 x5 x6 x7 x8 p5.1), p5.2)))
 | .bool false => (
 (M.call 209 [x8] p0.2).bind fun p1 =>
 some (.normal, (z10 x1 x2 x5 x6 x7 x8 p1.1), p1.2))
 | .tup [] => (
 (asB p0.1).bind fun b1 =>
 (asB (match b1 with | true => (.tup []) | false => false : V)).bind fun b2 =>
 match b2 with
 | true => (match x6 with
 | true => (match decide (x7 = 0) with
 | true => ((lenSl x5).bind fun n3 =>
 (lenSl x8).bind fun n4 =>
 (M.loop (z1e M) (z0m x5 x8 (.bool (decide ((n3 : Int) = (n4 : Int)))) (0:Int)) p0.2).bind fun p5 => z1a M p5.1 p5.2.1 p5.2.2)
 | false => ((M.loop (z1e M) (z0m x5 x8 false (0:Int)) p0.2).bind fun p3 => z1a M p3.1 p3.2.1 p3.2.2))
 | false => ((M.loop (z1e M) (z0m x5 x8 false (0:Int)) p0.2).bind fun p3 => z1a M p3.1 p3.2.1 p3.2.2))
 | false => ((M.call 209 [x8] p0.2).bind fun p3 =>
 some (.normal, (z10 x1 x2 x5 x6 x7 x8 p3.1), p3.2)))
 | _ => none)
 | false => (some ((.exit 3), (z0n .dead x5 x6 x7), h))
def zck (M : Env) (x4 x5 : V) (x6 : Bool) (x7 : Int) (h : H) : Rf :=
 match (!x6) with
 | true => ((lenSl x5).bind fun n0 =>
 match decide ((n0 : Int) = 0) with
 | true => (match decide (x7 = 0) with
 | true => ((M.call 204 [] h).bind fun p1 =>
 some (p1.1, p1.2))
 | false => (some (false, h)))
 | false => (some (false, h)))
 | false => (some (false, h))
def zj1 (M : Env) (x4 : Bool) (x5 x6 x7 : V) (h : H) : Rf :=
 some (x4, h)
def z8v (M : Env) (x5 x8 : V) (x11 : Bool) (x12 : Int) (h : H) : Rl :=
 (lenSl x8).bind fun n0 =>
 match decide (x12 < (n0 : Int)) with
 | true => (match x11 with
 | true => ((zd 1 x5 x12).bind fun v1 =>
 (h.ld1 v1).bind fun v2 =>
 (zd 1 x8 x12).bind fun v3 =>
 (h.ld1 v3).bind fun v4 =>
 (asI .i64 v2).bind fun n5 =>
 (asI .i64 v4).bind fun n6 =>
 some (.normal, (z0m x5 x8 (.bool (decide (n5 = n6))) (.int .i64 (wr .i64 (x12 + 1)))), h))
 | false => (some ((.exit 5), (z5r x11), h)))
 | false => (some ((.exit 5), (z5r x11), h))
def zce (M : Env) (x11 : Bool) (h : H) : Rl :=
 match x11 with
 | true => ((M.call 204 [] h).bind fun p0 =>
 some (.ret, (z0n p0.1 .dead .dead .dead), p0.2))
 | false => (some (.ret, (z0n false .dead .dead .dead), h))
theorem zkm : z0g M F.z07 [(.agg [(.int .i64 a0_0), (.int .i64 a0_1), (.int .i64 a0_2), (.int .i64 a0_3), (.int .i64 a0_4), (.int .i64 a0_5)]), a1] h = z07 M a0_0 a0_1 a0_2 a0_3 a0_4 a0_5 a1 h := by kernel_rfl
theorem zih : zdd M (z5m x1 x2 x5 (.bool x6) (.int .i64 x7) x8 (.int .i64 x9)) h = z9g M x1 x2 x5 x6 x7 x8 x9 h := by kernel_rfl
theorem zgd : zaj M (.exit 1) (z9k x1 x2 x5 (.bool x6) (.int .i64 x7) x8) h = zcm M x1 x2 x5 x6 x7 x8 h := by kernel_rfl
theorem zhy : z9e M (z10 x1 x2 x5 (.bool x6) (.int .i64 x7) x8 (.bool x10)) h = z42 M x1 x2 x5 x6 x7 x8 x10 h := by kernel_rfl
theorem zgh : z3g M (.exit 3) (z0n x4 x5 (.bool x6) (.int .i64 x7)) h = zck M x4 x5 x6 x7 h := by kernel_rfl
theorem zgv : z3g M .ret (z0n (.bool x4) x5 x6 x7) h = zj1 M x4 x5 x6 x7 h := by kernel_rfl
theorem zhx : z1e M (z0m x5 x8 (.bool x11) (.int .i64 x12)) h = z8v M x5 x8 x11 x12 h := by kernel_rfl
theorem zgi : z1a M (.exit 5) (z5r (.bool x11)) h = zce M x11 h := by kernel_rfl
end Wm.S
end
