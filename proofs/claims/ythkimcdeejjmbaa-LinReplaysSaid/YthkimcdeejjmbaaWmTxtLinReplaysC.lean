/- PRINTED by my tool: what functions come to, stretch by stretch. -/
import Derived.KernelRfl
import Derived.Test.YthkimcdeejjmbaaWmShal
import Derived.Test.YthkimcdeejjmbaaWmFnsLinReplays
import Derived.Test.YthkimcdeejjmbaaWmFnc
import Derived.Test.YthkimcdeejjmbaaWmTxtLinReplaysA
set_option linter.all false
noncomputable section
namespace Wm.S
open Wm
set_option maxRecDepth 100000
set_option autoImplicit true
set_option relaxedAutoImplicit true
def zqq (M:Env):=jb M F.z04v [0,1,5,7,8]
def zqp (x0 x1 x5 x7 x8:V):List V:=x0 :: x1 :: dd 3 (x5 :: dd 1 (x7 :: x8 :: dd 124 []))
def z2a (x0 x1 x5 x7 x8:V):List V:=x0 :: x1 :: dd 3 (x5 :: dd 1 (x7 :: x8 :: dd 124 []))
def zr4 (M:Env):=jb M F.z04a [0,1,5,7,8,17,18]
def zr1 (x0 x1 x5 x7 x8 x17:V):List V:=x0 :: x1 :: dd 3 (x5 :: dd 1 (x7 :: x8 :: dd 8 (x17 :: dd 115 [])))
def zkx (x0 x1 x5 x7 x8 x17 x18:V):List V:=x0 :: x1 :: dd 3 (x5 :: dd 1 (x7 :: x8 :: dd 8 (x17 :: x18 :: dd 114 [])))
def zkw (M:Env):=jb M F.z04u [0,1,5,7,62]
def zk8 (x0 x1 x5 x7:V):List V:=x0 :: x1 :: dd 3 (x5 :: dd 1 (x7 :: dd 125 []))
def z4k (x0 x1 x5 x7 x62:V):List V:=x0 :: x1 :: dd 3 (x5 :: dd 1 (x7 :: dd 54 (x62 :: dd 70 [])))
def zg4 (M:Env):=jb M F.z04l [0,1,5,89]
def zg2 (x0 x1 x5 x7:V):List V:=x0 :: x1 :: dd 3 (x5 :: dd 1 (x7 :: dd 125 []))
def zg1 (x0 x1 x5 x89:V):List V:=x0 :: x1 :: dd 3 (x5 :: dd 83 (x89 :: dd 43 []))
def zup (M:Env):=kf F.z0p
def zuq (M:Env):=kq M F.z04x (zup M)
def z05o (M:Env):=kj [0,1,5,7,8]
def z05u (M:Env):=kb 0 (z05o M)
def zur (M:Env):=kq M F.z063 (z05u M)
def z05i (M:Env):=kq M F.z064 (zup M)
def zui (M:Env):=kb 1 (z05i M)
def zm5 (M:Env):=kq M F.z04y (zui M)
def zi5 (M:Env):=kq M F.z05p (zui M)
def z0p (M:Env) (a0:V) (a1 a2_0 a2_1 a2_2 a2_3 a2_4:Int) (h:H):Rf :=
 let h0:=h.new (.cells [a2_0,a2_1,(.int .u64 a2_2),(.int .u64 a2_3),(.int .u64 a2_4)] .rw)
 (h0.ld1 (.ptr h.next 2)).bind fun v1 =>
 (M.call 106 [a0,a1,v1] h0).bind fun p2 =>
 (asI .i64 p2.1).bind fun n3 =>
 (zqq M (zqp a0 a1 (.ptr h.next 0) p2.1 (.bool (decide (0<=n3)))) p2.2).bind fun p4=>zuq M p4.1 p4.2.1 p4.2.2
def z1a (M:Env) (x0:V) (x1:Int) (x5:V) (x7:Int) (x8:Bool) (h:H):Rl :=
 (za x5 0).bind fun v0 =>
 (h.ld1 v0).bind fun v1 =>
 (zr4 M (zr1 x0 x1 x5 x7 x8 v1) h).bind fun p2=>zur M p2.1 p2.2.1 p2.2.2
def zfw (M:Env) (x0:V) (x1:Int) (x5:V) (x7:Int) (x8:Bool) (h:H):Rf :=
 match (!x8) with
 | true=>(some ((2:Int),h))
 | false=>((zkw M (zk8 x0 x1 x5 x7) h).bind fun p0=>zm5 M p0.1 p0.2.1 p0.2.2)
def z1b (M:Env) (x0:V) (x1:Int) (x5:V) (x7:Int) (x8:Bool) (x17:Int) (h:H):Rl :=
 match decide (x17=3) with
 | true=>(some (.normal,(zkx x0 x1 x5 x7 x8 x17 (.bool (decide (x17=3)))),h))
 | false=>(some (.normal,(zkx x0 x1 x5 x7 x8 x17 (.bool (decide (x17=7)))),h))
def z19 (M:Env) (x0:V) (x1:Int) (x5:V) (x7:Int) (x8:Bool) (x17:Int) (x18:Bool) (h:H):Rl :=
 match x18 with
 | true=>(match x8 with
 | true=>((za x5 3).bind fun v0 =>
 (h.ld1 v0).bind fun v1 =>
 (M.call 106 [x0,x1,v1] h).bind fun p2 =>
 (asI .i64 p2.1).bind fun n3 =>
 some (.normal,(z2a x0 x1 x5 x7 (.bool (decide (0<=n3)))),p2.2))
 | false=>(some (.normal,(z2a x0 x1 x5 x7 false),h)))
 | false=>(match decide (x17=5) with
 | true=>(match x8 with
 | true=>((za x5 3).bind fun v0 =>
 (h.ld1 v0).bind fun v1 =>
 (asI .u64 v1).bind fun n2 =>
 match decide (n2=0) with
 | true=>((za x5 4).bind fun v3 =>
 (h.ld1 v3).bind fun v4 =>
 (asI .u64 v4).bind fun n5 =>
 match decide (n5=0) with
 | true=>(some (.normal,(z2a x0 x1 x5 x7 true),h))
 | false=>((za x5 4).bind fun v6 =>
 (h.ld1 v6).bind fun v7 =>
 (M.call 106 [x0,x1,v7] h).bind fun p8 =>
 (asI .i64 p8.1).bind fun n9 =>
 some (.normal,(z2a x0 x1 x5 x7 (.bool (decide (0<=n9)))),p8.2)))
 | false=>((za x5 3).bind fun v3 =>
 (h.ld1 v3).bind fun v4 =>
 (M.call 106 [x0,x1,v4] h).bind fun p5 =>
 (asI .i64 p5.1).bind fun n6 =>
 match decide (0<=n6) with
 | true=>((za x5 4).bind fun v7 =>
 (p5.2.ld1 v7).bind fun v8 =>
 (asI .u64 v8).bind fun n9 =>
 match decide (n9=0) with
 | true=>(some (.normal,(z2a x0 x1 x5 x7 true),p5.2))
 | false=>((za x5 4).bind fun v10 =>
 (p5.2.ld1 v10).bind fun v11 =>
 (M.call 106 [x0,x1,v11] p5.2).bind fun p12 =>
 (asI .i64 p12.1).bind fun n13 =>
 some (.normal,(z2a x0 x1 x5 x7 (.bool (decide (0<=n13)))),p12.2)))
 | false=>(some (.normal,(z2a x0 x1 x5 x7 false),p5.2))))
 | false=>(some (.normal,(z2a x0 x1 x5 x7 false),h)))
 | false=>(some (.normal,(z2a x0 x1 x5 x7 x8),h)))
def z4i (M:Env) (x0:V) (x1:Int) (x5:V) (x7:Int) (h:H):Rl :=
 (za x5 0).bind fun v0 =>
 (h.ld1 v0).bind fun v1 =>
 (asI .i64 v1).bind fun n2 =>
 match decide (n2=2) with
 | true=>((za x5 1).bind fun v3 =>
 (h.ld1 v3).bind fun v4 =>
 (asI .i64 v4).bind fun n5 =>
 match decide (n5<0) with
 | true=>(some (.normal,(z4k x0 x1 x5 x7 true),h))
 | false=>((za x5 1).bind fun v6 =>
 (h.ld1 v6).bind fun v7 =>
 (nilc x0).bind fun v8 =>
 (za v8 6).bind fun v9 =>
 (h.ld1 v9).bind fun v10 =>
 (z0 1 v10 x7).bind fun v11 =>
 (h.ld1 v11).bind fun v12 =>
 (lenSl v12).bind fun n13 =>
 (asI .i64 v7).bind fun n14 =>
 some (.normal,(z4k x0 x1 x5 x7 (.bool (decide ((n13:Int)<=n14)))),h)))
 | false=>((za x5 0).bind fun v3 =>
 (h.ld1 v3).bind fun v4 =>
 (M.call 83 [v4] h).bind fun p5 =>
 match p5.1 with
 | .bool true=>(
 (za x5 1).bind fun v6 =>
 (p5.2.ld1 v6).bind fun v7 =>
 (asI .i64 v7).bind fun n8 =>
 match decide (n8<0) with
 | true=>(some (.normal,(z4k x0 x1 x5 x7 true),p5.2))
 | false=>((za x5 1).bind fun v9 =>
 (p5.2.ld1 v9).bind fun v10 =>
 (nilc x0).bind fun v11 =>
 (za v11 6).bind fun v12 =>
 (p5.2.ld1 v12).bind fun v13 =>
 (z0 1 v13 x7).bind fun v14 =>
 (p5.2.ld1 v14).bind fun v15 =>
 (lenSl v15).bind fun n16 =>
 (asI .i64 v10).bind fun n17 =>
 some (.normal,(z4k x0 x1 x5 x7 (.bool (decide ((n16:Int)<=n17)))),p5.2)))
 | .bool false=>(
 some (.normal,(z4k x0 x1 x5 x7 false),p5.2))
 | .tup []=>(
 match p5.1 with
 | .bool true=>(
 none)
 | .bool false=>(
 some (.normal,(z4k x0 x1 x5 x7 false),p5.2))
 | .tup []=>(
 (asB p5.1).bind fun b6 =>
 some (.normal,(z4k x0 x1 x5 x7 (match b6 with | true=>(.tup []) | false=>false:V)),p5.2))
 | _=>none)
 | _=>none)
def z4p (M:Env) (x0:V) (x1:Int) (x5:V) (x7:Int) (x62:Bool) (h:H):Rf :=
 match x62 with
 | true=>(some ((3:Int),h))
 | false=>((zg4 M (zg2 x0 x1 x5 x7) h).bind fun p0=>zi5 M p0.1 p0.2.1 p0.2.2)
def z6f (M:Env) (x0:V) (x1:Int) (x5:V) (x7:Int) (h:H):Rl :=
 (za x5 0).bind fun v0 =>
 (h.ld1 v0).bind fun v1 =>
 (asI .i64 v1).bind fun n2 =>
 match decide (n2=2) with
 | true=>((nilc x0).bind fun v3 =>
 (za v3 6).bind fun v4 =>
 (h.ld1 v4).bind fun v5 =>
 (z0 1 v5 x7).bind fun v6 =>
 (h.ld1 v6).bind fun v7 =>
 (za x5 1).bind fun v8 =>
 (h.ld1 v8).bind fun v9 =>
 (z0 1 v7 v9).bind fun v10 =>
 (h.ld1 v10).bind fun v11 =>
 (asI .i64 v11).bind fun n12 =>
 match decide (0<=n12) with
 | true=>((nilc x0).bind fun v13 =>
 (za v13 0).bind fun v14 =>
 (za v14 3).bind fun v15 =>
 (h.ld1 v15).bind fun v16 =>
 (M.call 105 [x0,x1] h).bind fun p17 =>
 match ckB (p17.2.ld1 v15) v16 with
 | true=>((asI .i64 p17.1).bind fun n18 =>
 (asI .i64 v16).bind fun n19 =>
 some (.normal,(zg1 x0 x1 x5 (.bool (decide (n19<=n18)))),p17.2))
 | false=>none)
 | false=>(some (.normal,(zg1 x0 x1 x5 false),h)))
 | false=>(some (.normal,(zg1 x0 x1 x5 false),h))
def z6c (M:Env) (x0:V) (x1:Int) (x5:V) (x89:Bool) (h:H):Rf :=
 match x89 with
 | true=>(some ((5:Int),h))
 | false=>((za x5 0).bind fun v0 =>
 (h.ld1 v0).bind fun v1 =>
 (asI .i64 v1).bind fun n2 =>
 match decide (n2=8) with
 | true=>((nilc x0).bind fun v3 =>
 (za v3 8).bind fun v4 =>
 (h.ld1 v4).bind fun v5 =>
 (z0 2 v5 x1).bind fun v6 =>
 (za v6 0).bind fun v7 =>
 (h.ld1 v7).bind fun v8 =>
 (asI .u64 v8).bind fun n9 =>
 match (!decide (n9=0)) with
 | true=>(some ((7:Int),h))
 | false=>(some ((0:Int),h)))
 | false=>(some ((0:Int),h)))
theorem z055:z06 M F.z0p [a0,(.int .i64 a1),(.agg [(.int .i64 a2_0),(.int .i64 a2_1),(.int .u64 a2_2),(.int .u64 a2_3),(.int .u64 a2_4)])] h=z0p M a0 a1 a2_0 a2_1 a2_2 a2_3 a2_4 h:=by kernel_rfl
theorem z1k:zqq M (zqp x0 (.int .i64 x1) x5 (.int .i64 x7) (.bool x8)) h=z1a M x0 x1 x5 x7 x8 h:=by kernel_rfl
theorem z15:zuq M .normal (z2a x0 (.int .i64 x1) x5 (.int .i64 x7) (.bool x8)) h=zfw M x0 x1 x5 x7 x8 h:=by kernel_rfl
theorem z1g:zr4 M (zr1 x0 (.int .i64 x1) x5 (.int .i64 x7) (.bool x8) (.int .i64 x17)) h=z1b M x0 x1 x5 x7 x8 x17 h:=by kernel_rfl
theorem z11:zur M .normal (zkx x0 (.int .i64 x1) x5 (.int .i64 x7) (.bool x8) (.int .i64 x17) (.bool x18)) h=z19 M x0 x1 x5 x7 x8 x17 x18 h:=by kernel_rfl
theorem z5m:zkw M (zk8 x0 (.int .i64 x1) x5 (.int .i64 x7)) h=z4i M x0 x1 x5 x7 h:=by kernel_rfl
theorem z44:zm5 M .normal (z4k x0 (.int .i64 x1) x5 (.int .i64 x7) (.bool x62)) h=z4p M x0 x1 x5 x7 x62 h:=by kernel_rfl
theorem z7l:zg4 M (zg2 x0 (.int .i64 x1) x5 (.int .i64 x7)) h=z6f M x0 x1 x5 x7 h:=by kernel_rfl
theorem z6a:zi5 M .normal (zg1 x0 (.int .i64 x1) x5 (.bool x89)) h=z6c M x0 x1 x5 x89 h:=by kernel_rfl
def z64 (M:Env) (a0:V) (a1 a2_0 a2_1 a2_2 a2_3 a2_4:Int) (h:H):Rf :=
 let h0:=h.new (.cells [a2_0,a2_1,(.int .u64 a2_2),(.int .u64 a2_3),(.int .u64 a2_4)] .rw)
 (h0.ld1 (.ptr h.next 2)).bind fun v1 =>
 (h0.ld1 (.ptr h.next 1)).bind fun v2 =>
 (h0.ld1 (.ptr h.next 4)).bind fun v3 =>
 (M.call 106 [a0,a1,v1] h0).bind fun p4 =>
 match ckB (p4.2.ld1 (.ptr h.next 4)) v3 with
 | true=>(match ckB (p4.2.ld1 (.ptr h.next 1)) v2 with
 | true=>((M.call 116 [a0,p4.1,v2] p4.2).bind fun p5 =>
 match ckB (p5.2.ld1 (.ptr h.next 4)) v3 with
 | true=>((M.call 106 [a0,a1,v3] p5.2).bind fun p6 =>
 (asI .i64 p5.1).bind fun n7 =>
 (asI .i64 p6.1).bind fun n8 =>
 some ((.bool (decide (n7=n8))),p6.2))
 | false=>none)
 | false=>none)
 | false=>none
theorem z01k:z06 M F.z64 [a0,(.int .i64 a1),(.agg [(.int .i64 a2_0),(.int .i64 a2_1),(.int .u64 a2_2),(.int .u64 a2_3),(.int .u64 a2_4)])] h=z64 M a0 a1 a2_0 a2_1 a2_2 a2_3 a2_4 h:=by kernel_rfl
def zr3 (M:Env) (a0:Int) (h:H):Rf :=
 match decide (a0=9) with
 | true=>(some (true,h))
 | false=>(some ((.bool (decide (a0=10))),h))
theorem z0hm:z06 M F.zr3 [(.int .i64 a0)] h=zr3 M a0 h:=by kernel_rfl
def zl8 (M:Env) (a0:Int) (h:H):Rf :=
 match decide (3<=a0) with
 | true=>(some ((.bool (decide (a0<=5))),h))
 | false=>(some (false,h))
theorem z0eu:z06 M F.zl8 [(.int .i64 a0)] h=zl8 M a0 h:=by kernel_rfl
def zqm (M:Env):=jb M F.z04f [0,1,6,7,9,10,11]
def zqu (x0 x1 x6 x7 x9 x10 x11:V):List V:=x0 :: x1 :: dd 4 (x6 :: x7 :: dd 1 (x9 :: x10 :: x11 :: dd 230 []))
def z8d (x0 x1 x6 x7 x9 x10 x11:V):List V:=x0 :: x1 :: dd 4 (x6 :: x7 :: dd 1 (x9 :: x10 :: x11 :: dd 230 []))
def zr6 (M:Env):=jb M F.z05q [0,1,6,7,9,10,11,18,19]
def zqo (x0 x1 x6 x7 x9 x10 x11 x18:V):List V:=x0 :: x1 :: dd 4 (x6 :: x7 :: dd 1 (x9 :: x10 :: x11 :: dd 6 (x18 :: dd 223 [])))
def zfz (x0 x1 x6 x7 x9 x10 x11 x18 x19:V):List V:=x0 :: x1 :: dd 4 (x6 :: x7 :: dd 1 (x9 :: x10 :: x11 :: dd 6 (x18 :: x19 :: dd 222 [])))
def zkg (M:Env):=jb M F.z05s [0,1,6,7,9,10,11,74]
def zkq (x0 x1 x6 x7 x9 x10 x11:V):List V:=x0 :: x1 :: dd 4 (x6 :: x7 :: dd 1 (x9 :: x10 :: x11 :: dd 230 []))
def z4j (x0 x1 x6 x7 x9 x10 x11 x74:V):List V:=x0 :: x1 :: dd 4 (x6 :: x7 :: dd 1 (x9 :: x10 :: x11 :: dd 62 (x74 :: dd 167 [])))
def zjv (M:Env):=jb M F.z054 []
def zki (x0 x1 x6 x7 x9 x10 x11:V):List V:=x0 :: x1 :: dd 4 (x6 :: x7 :: dd 1 (x9 :: x10 :: x11 :: dd 230 []))
def z0m:List V:=dd 242 []
def zm7 (M:Env):=kf F.z0q
def zun (M:Env):=kq M F.z04k (zm7 M)
def z047 (M:Env):=kj [0,1,6,7,9,10,11]
def z04o (M:Env):=kb 0 (z047 M)
def zuh (M:Env):=kq M F.z04d (z04o M)
def z05r (M:Env):=kq M F.z04p (zm7 M)
def zm6 (M:Env):=kq M F.z045 (z05r M)
def zme (M:Env):=kq M F.z057 (zm7 M)
def z0q (M:Env) (a0:V) (a1 a2_0 a2_1 a2_2 a2_3 a2_4 a3_0 a3_1:Int) (a3_2:Bool) (h:H):Rf :=
 let h0:=h.new (.cells [a2_0,a2_1,(.int .u64 a2_2),(.int .u64 a2_3),(.int .u64 a2_4)] .rw)
 let h1:=h0.new (.cells [a3_0,(.int .u64 a3_1),a3_2] .rw)
 (h1.ld1 (.ptr h.next 2)).bind fun v2 =>
 (M.call 106 [a0,a1,v2] h1).bind fun p3 =>
 (zqm M (zqu a0 a1 (.ptr h.next 0) (.ptr h0.next 0) p3.1 false false) p3.2).bind fun p4=>zun M p4.1 p4.2.1 p4.2.2
def z4o (M:Env) (x0:V) (x1:Int) (x6 x7:V) (x9:Int) (x10 x11:Bool) (h:H):Rl :=
 (za x6 0).bind fun v0 =>
 (h.ld1 v0).bind fun v1 =>
 (zr6 M (zqo x0 x1 x6 x7 x9 x10 x11 v1) h).bind fun p2=>zuh M p2.1 p2.2.1 p2.2.2
def zkt (M:Env) (x0:V) (x1:Int) (x6 x7:V) (x9:Int) (x10 x11:Bool) (h:H):Rf :=
 (zkg M (zkq x0 x1 x6 x7 x9 x10 x11) h).bind fun p0=>zm6 M p0.1 p0.2.1 p0.2.2
def z4q (M:Env) (x0:V) (x1:Int) (x6 x7:V) (x9:Int) (x10 x11:Bool) (x18:Int) (h:H):Rl :=
 match decide (x18=1) with
 | true=>(some (.normal,(zfz x0 x1 x6 x7 x9 x10 x11 x18 (.bool (decide (x18=1)))),h))
 | false=>(match decide (x18=8) with
 | true=>(some (.normal,(zfz x0 x1 x6 x7 x9 x10 x11 x18 (.bool (decide (x18=8)))),h))
 | false=>(some (.normal,(zfz x0 x1 x6 x7 x9 x10 x11 x18 (.bool (decide (x18=9)))),h)))
def z4t (M:Env) (x0:V) (x1:Int) (x6 x7:V) (x9:Int) (x10 x11:Bool) (x18:Int) (x19:Bool) (h:H):Rl :=
 match x19 with
 | true=>(some (.normal,(z8d x0 x1 x6 x7 x9 true x11),h))
 | false=>(match decide (x18=2) with
 | true=>((nilc x0).bind fun v0 =>
 (za v0 6).bind fun v1 =>
 (h.ld1 v1).bind fun v2 =>
 (z0 1 v2 x9).bind fun v3 =>
 (h.ld1 v3).bind fun v4 =>
 (za x6 1).bind fun v5 =>
 (h.ld1 v5).bind fun v6 =>
 (z0 1 v4 v6).bind fun v7 =>
 (h.ld1 v7).bind fun v8 =>
 (asI .i64 v8).bind fun n9 =>
 some (.normal,(z8d x0 x1 x6 x7 x9 (.bool (decide (0<=n9))) x11),h))
 | false=>(match decide (x18=5) with
 | true=>((h.ldN 5 x6).bind fun v0 =>
 (M.call 283 [x0,x1,v0] h).bind fun p1 =>
 some (.normal,(z8d x0 x1 x6 x7 x9 x10 p1.1),p1.2))
 | false=>(match decide (x18=7) with
 | true=>((za x6 3).bind fun v0 =>
 (h.ld1 v0).bind fun v1 =>
 (M.call 106 [x0,x1,v1] h).bind fun p2 =>
 (asI .i64 p2.1).bind fun n3 =>
 some (.normal,(z8d x0 x1 x6 x7 x9 x10 (.bool (decide (x9=n3)))),p2.2))
 | false=>(some (.normal,(z8d x0 x1 x6 x7 x9 x10 x11),h)))))
def z8a (M:Env) (x0:V) (x1:Int) (x6 x7:V) (x9:Int) (x10 x11:Bool) (h:H):Rl :=
 (za x7 2).bind fun v0 =>
 (h.ld1 v0).bind fun v1 =>
 (eqV .bool v1 x11).bind fun b2 =>
 match (!b2) with
 | true=>(some (.normal,(z4j x0 x1 x6 x7 x9 x10 x11 true),h))
 | false=>(match x10 with
 | true=>((za x7 1).bind fun v3 =>
 (h.ld1 v3).bind fun v4 =>
 (M.call 383 [x0,v4] h).bind fun p5 =>
 (asB p5.1).bind fun b6 =>
 match (!b6) with
 | true=>(some (.normal,(z4j x0 x1 x6 x7 x9 x10 x11 true),p5.2))
 | false=>(match (!x10) with
 | true=>((za x7 1).bind fun v7 =>
 (p5.2.ld1 v7).bind fun v8 =>
 (asI .u64 v8).bind fun n9 =>
 some (.normal,(z4j x0 x1 x6 x7 x9 x10 x11 (.bool (!decide (n9=0)))),p5.2))
 | false=>(some (.normal,(z4j x0 x1 x6 x7 x9 x10 x11 false),p5.2))))
 | false=>(match (!x10) with
 | true=>((za x7 1).bind fun v3 =>
 (h.ld1 v3).bind fun v4 =>
 (asI .u64 v4).bind fun n5 =>
 some (.normal,(z4j x0 x1 x6 x7 x9 x10 x11 (.bool (!decide (n5=0)))),h))
 | false=>(some (.normal,(z4j x0 x1 x6 x7 x9 x10 x11 false),h))))
def zjl (M:Env) (x0:V) (x1:Int) (x6 x7:V) (x9:Int) (x10 x11 x74:Bool) (h:H):Rf :=
 match x74 with
 | true=>(some (false,h))
 | false=>((zjv M (zki x0 x1 x6 x7 x9 x10 x11) h).bind fun p0=>zme M p0.1 p0.2.1 p0.2.2)
def z0g (M:Env) (x0:V) (x1:Int) (x6 x7:V) (x9:Int) (x10 x11:Bool) (h:H):Rl :=
 (za x6 0).bind fun v0 =>
 (h.ld1 v0).bind fun v1 =>
 (asI .i64 v1).bind fun n2 =>
 match decide (n2=1) with
 | true=>((nilc x0).bind fun v3 =>
 (za v3 6).bind fun v4 =>
 (h.ld1 v4).bind fun v5 =>
 (za x6 1).bind fun v6 =>
 (h.ld1 v6).bind fun v7 =>
 let h8:=h.new (.cells [(.int .i64 (-1))] .rw)
 (M.call 384 [(.sl h.next 0 1 (.ex 1)),v7] h8).bind fun p9 =>
 match ckB (p9.2.ld1 v4) v5 with
 | true=>((fill (repl [.nilsl] 1) [] [(0,1,.c p9.1)]).bind fun cs10 =>
 let h11:=p9.2.new (.cells cs10 .rw)
 (h11.append 1 24 v5 (.sl p9.2.next 0 1 (.ex 1))).bind fun p12 =>
 (nilc x0).bind fun v13 =>
 (za v13 6).bind fun v14 =>
 (p12.2.st 1 v14 p12.1).bind fun h15 =>
 (za x7 1).bind fun v16 =>
 (h15.ld1 v16).bind fun v17 =>
 (nilc x0).bind fun v18 =>
 (za v18 6).bind fun v19 =>
 (h15.ld1 v19).bind fun v20 =>
 (lenSl v20).bind fun n21 =>
 (M.call 385 [x0,x1,v17,(.int .i64 (wr .i64 ((n21:Int)-1)))] h15).bind fun p22 =>
 some (.normal,z0m,p22.2))
 | false=>none)
 | false=>((asI .i64 v1).bind fun n3 =>
 match decide (n3=2) with
 | true=>(match x10 with
 | true=>((za x7 1).bind fun v4 =>
 (h.ld1 v4).bind fun v5 =>
 (nilc x0).bind fun v6 =>
 (za v6 6).bind fun v7 =>
 (h.ld1 v7).bind fun v8 =>
 (z0 1 v8 x9).bind fun v9 =>
 (h.ld1 v9).bind fun v10 =>
 (za x6 1).bind fun v11 =>
 (h.ld1 v11).bind fun v12 =>
 (z0 1 v10 v12).bind fun v13 =>
 (h.ld1 v13).bind fun v14 =>
 (M.call 385 [x0,x1,v5,v14] h).bind fun p15 =>
 some (.normal,z0m,p15.2))
 | false=>(some (.normal,z0m,h)))
 | false=>((asI .i64 v1).bind fun n4 =>
 match decide (n4=3) with
 | true=>((nilc x0).bind fun v5 =>
 (za v5 6).bind fun v6 =>
 (h.ld1 v6).bind fun v7 =>
 (z0 1 v7 x9).bind fun v8 =>
 (h.ld1 v8).bind fun v9 =>
 (za x6 1).bind fun v10 =>
 (h.ld1 v10).bind fun v11 =>
 (za x6 3).bind fun v12 =>
 (h.ld1 v12).bind fun v13 =>
 (M.call 106 [x0,x1,v13] h).bind fun p14 =>
 match ckB (p14.2.ld1 v10) v11 with
 | true=>(match ckB (p14.2.ld1 v8) v9 with
 | true=>(match ckB (p14.2.ld1 v6) v7 with
 | true=>((z0 1 v9 v11).bind fun v15 =>
 (p14.2.st 1 v15 p14.1).bind fun h16 =>
 some (.normal,z0m,h16))
 | false=>none)
 | false=>none)
 | false=>none)
 | false=>((asI .i64 v1).bind fun n5 =>
 match decide (n5=4) with
 | true=>((nilc x0).bind fun v6 =>
 (za v6 6).bind fun v7 =>
 (h.ld1 v7).bind fun v8 =>
 (z0 1 v8 x9).bind fun v9 =>
 (h.ld1 v9).bind fun v10 =>
 (za x6 1).bind fun v11 =>
 (h.ld1 v11).bind fun v12 =>
 (z0 1 v10 v12).bind fun v13 =>
 (h.st 1 v13 (.int .i64 (-1))).bind fun h14 =>
 some (.normal,z0m,h14))
 | false=>((asI .i64 v1).bind fun n6 =>
 match decide (n6=5) with
 | true=>(match x11 with
 | true=>((nilc x0).bind fun v7 =>
 (za v7 6).bind fun v8 =>
 (h.ld1 v8).bind fun v9 =>
 (z0 1 v9 x9).bind fun v10 =>
 (h.ld1 v10).bind fun v11 =>
 (za x6 1).bind fun v12 =>
 (h.ld1 v12).bind fun v13 =>
 (za x6 3).bind fun v14 =>
 (h.ld1 v14).bind fun v15 =>
 (M.call 106 [x0,x1,v15] h).bind fun p16 =>
 match ckB (p16.2.ld1 v12) v13 with
 | true=>(match ckB (p16.2.ld1 v10) v11 with
 | true=>(match ckB (p16.2.ld1 v8) v9 with
 | true=>((z0 1 v11 v13).bind fun v17 =>
 (p16.2.st 1 v17 p16.1).bind fun h18 =>
 some (.normal,z0m,h18))
 | false=>none)
 | false=>none)
 | false=>none)
 | false=>(some (.normal,z0m,h)))
 | false=>((asI .i64 v1).bind fun n7 =>
 match decide (n7=6) with
 | true=>((nilc x0).bind fun v8 =>
 (za v8 7).bind fun v9 =>
 (h.ld1 v9).bind fun v10 =>
 (z0 1 v10 x1).bind fun v11 =>
 (h.ld1 v11).bind fun v12 =>
 (za x6 2).bind fun v13 =>
 (h.ld1 v13).bind fun v14 =>
 (h.mapDel .int v12 v14).bind fun h15 =>
 some (.normal,z0m,h15))
 | false=>((asI .i64 v1).bind fun n8 =>
 match decide (n8=8) with
 | true=>((nilc x0).bind fun v9 =>
 (za v9 9).bind fun v10 =>
 (h.ld1 v10).bind fun v11 =>
 (za x7 1).bind fun v12 =>
 (h.ld1 v12).bind fun v13 =>
 (h.mapSet .int v11 v13 (1:Int)).bind fun h14 =>
 (nilc x0).bind fun v15 =>
 (za v15 8).bind fun v16 =>
 (h14.ld1 v16).bind fun v17 =>
 (za x7 1).bind fun v18 =>
 (h14.ld1 v18).bind fun v19 =>
 (M.call 386 [x0,x9] h14).bind fun p20 =>
 match ckB (p20.2.ld1 v18) v19 with
 | true=>(match ckB (p20.2.ld1 v16) v17 with
 | true=>((fill [(.int .u64 0),.nilsl] [] [(0,1,.c v19),(1,1,.c p20.1)]).bind fun cs21 =>
 (z0 2 v17 x1).bind fun v22 =>
 (p20.2.st 2 v22 (.agg cs21)).bind fun h23 =>
 some (.normal,z0m,h23))
 | false=>none)
 | false=>none)
 | false=>((asI .i64 v1).bind fun n9 =>
 match decide (n9=9) with
 | true=>((za x7 1).bind fun v10 =>
 (h.ld1 v10).bind fun v11 =>
 (nilc x0).bind fun v12 =>
 (za v12 8).bind fun v13 =>
 (h.ld1 v13).bind fun v14 =>
 (z0 2 v14 x1).bind fun v15 =>
 (za v15 1).bind fun v16 =>
 (h.ld1 v16).bind fun v17 =>
 (z0 1 v17 (0:Int)).bind fun v18 =>
 (h.ld1 v18).bind fun v19 =>
 (M.call 385 [x0,x1,v11,v19] h).bind fun p20 =>
 (nilc x0).bind fun v21 =>
 (za v21 8).bind fun v22 =>
 (p20.2.ld1 v22).bind fun v23 =>
 (nilc x0).bind fun v24 =>
 (za v24 8).bind fun v25 =>
 (p20.2.ld1 v25).bind fun v26 =>
 (z0 2 v26 x1).bind fun v27 =>
 (za v27 1).bind fun v28 =>
 (p20.2.ld1 v28).bind fun v29 =>
 (zgq 1 v29 (some (1:Int)) none none).bind fun v30 =>
 (z0 2 v23 x1).bind fun v31 =>
 (za v31 1).bind fun v32 =>
 (p20.2.st 1 v32 v30).bind fun h33 =>
 some (.normal,z0m,h33))
 | false=>((asI .i64 v1).bind fun n10 =>
 match decide (n10=10) with
 | true=>((nilc x0).bind fun v11 =>
 (za v11 8).bind fun v12 =>
 (h.ld1 v12).bind fun v13 =>
 (z0 2 v13 x1).bind fun v14 =>
 (h.st 2 v14 (.agg [(.int .u64 0),.nilsl])).bind fun h15 =>
 some (.normal,z0m,h15))
 | false=>(some (.normal,z0m,h))))))))))
def z02e (M:Env) (h:H):Rf :=
 some (true,h)
theorem z04j:z06 M F.z0q [a0,(.int .i64 a1),(.agg [(.int .i64 a2_0),(.int .i64 a2_1),(.int .u64 a2_2),(.int .u64 a2_3),(.int .u64 a2_4)]),(.agg [(.int .i64 a3_0),(.int .u64 a3_1),(.bool a3_2)])] h=z0q M a0 a1 a2_0 a2_1 a2_2 a2_3 a2_4 a3_0 a3_1 a3_2 h:=by kernel_rfl
theorem z5r:zqm M (zqu x0 (.int .i64 x1) x6 x7 (.int .i64 x9) (.bool x10) (.bool x11)) h=z4o M x0 x1 x6 x7 x9 x10 x11 h:=by kernel_rfl
theorem z47:zun M .normal (z8d x0 (.int .i64 x1) x6 x7 (.int .i64 x9) (.bool x10) (.bool x11)) h=zkt M x0 x1 x6 x7 x9 x10 x11 h:=by kernel_rfl
theorem z5l:zr6 M (zqo x0 (.int .i64 x1) x6 x7 (.int .i64 x9) (.bool x10) (.bool x11) (.int .i64 x18)) h=z4q M x0 x1 x6 x7 x9 x10 x11 x18 h:=by kernel_rfl
theorem z4a:zuh M .normal (zfz x0 (.int .i64 x1) x6 x7 (.int .i64 x9) (.bool x10) (.bool x11) (.int .i64 x18) (.bool x19)) h=z4t M x0 x1 x6 x7 x9 x10 x11 x18 x19 h:=by kernel_rfl
theorem z01n:zkg M (zkq x0 (.int .i64 x1) x6 x7 (.int .i64 x9) (.bool x10) (.bool x11)) h=z8a M x0 x1 x6 x7 x9 x10 x11 h:=by kernel_rfl
theorem z00g:zm6 M .normal (z4j x0 (.int .i64 x1) x6 x7 (.int .i64 x9) (.bool x10) (.bool x11) (.bool x74)) h=zjl M x0 x1 x6 x7 x9 x10 x11 x74 h:=by kernel_rfl
theorem z01y:zjv M (zki x0 (.int .i64 x1) x6 x7 (.int .i64 x9) (.bool x10) (.bool x11)) h=z0g M x0 x1 x6 x7 x9 x10 x11 h:=by kernel_rfl
theorem z00d:zme M .normal z0m h=z02e M h:=by kernel_rfl
def zql (M:Env):=jb M F.z048 [0,1,6,7,9,10]
def zqy (x0 x1 x6 x7 x10:V):List V:=x0 :: x1 :: dd 4 (x6 :: x7 :: dd 2 (x10 :: dd 74 []))
def zbf (x0 x1 x6 x7 x9 x10:V):List V:=x0 :: x1 :: dd 4 (x6 :: x7 :: dd 1 (x9 :: x10 :: dd 74 []))
def zqz (M:Env):=jb M F.z052 [0,1,6,7,10,22]
def zqs (x0 x1 x6 x7 x10:V):List V:=x0 :: x1 :: dd 4 (x6 :: x7 :: dd 2 (x10 :: dd 74 []))
def zji (x0 x1 x6 x7 x10 x22:V):List V:=x0 :: x1 :: dd 4 (x6 :: x7 :: dd 2 (x10 :: dd 11 (x22 :: dd 62 [])))
def z04c (M:Env):=kf F.z1c
def zuk (M:Env):=kq M F.z05d (z04c M)
def z04e (M:Env):=kj [0,1,6,7,9,10]
def z04r (M:Env):=kb 0 (z04e M)
def zul (M:Env):=kq M F.z051 (z04r M)
def z1c (M:Env) (a0:V) (a1 a2_0 a2_1 a2_2 a2_3 a2_4 a3_0 a3_1:Int) (a3_2:Bool) (h:H):Rf :=
 let h0:=h.new (.cells [a2_0,a2_1,(.int .u64 a2_2),(.int .u64 a2_3),(.int .u64 a2_4)] .rw)
 let h1:=h0.new (.cells [a3_0,(.int .u64 a3_1),a3_2] .rw)
 (M.call 279 [a0,a1] h1).bind fun p2 =>
 (asB p2.1).bind fun b3 =>
 match (!b3) with
 | true=>(some (false,p2.2))
 | false=>((zql M (zqy a0 a1 (.ptr h.next 0) (.ptr h0.next 0) false) p2.2).bind fun p4=>zuk M p4.1 p4.2.1 p4.2.2)
def zqx (M:Env) (x0:V) (x1:Int) (x6 x7:V) (x10:Bool) (h:H):Rl :=
 (zqz M (zqs x0 x1 x6 x7 x10) h).bind fun p0=>zul M p0.1 p0.2.1 p0.2.2
def z2d (M:Env) (x0:V) (x1:Int) (x6 x7:V) (x9:Int) (x10:Bool) (h:H):Rf :=
 match (!decide (x9=0)) with
 | true=>((h.ldN 3 x7).bind fun v0 =>
 (eqV (.agg [(0,.int),(1,.int),(2,.bool)]) v0 (.agg [x9,(.int .u64 0),false])).bind fun b1 =>
 some (b1,h))
 | false=>((za x7 0).bind fun v0 =>
 (h.ld1 v0).bind fun v1 =>
 (asI .i64 v1).bind fun n2 =>
 match decide (n2=4) with
 | true=>(match x10 with
 | true=>((h.ldN 3 x7).bind fun v3 =>
 (eqV (.agg [(0,.int),(1,.int),(2,.bool)]) v3 (.agg [(4:Int),(.int .u64 0),false])).bind fun b4 =>
 match b4 with
 | true=>((za x6 0).bind fun v5 =>
 (h.ld1 v5).bind fun v6 =>
 (asI .i64 v6).bind fun n7 =>
 match decide (n7=5) with
 | true=>((h.ldN 5 x6).bind fun v8 =>
 (M.call 283 [x0,x1,v8] h).bind fun p9 =>
 (asB p9.1).bind fun b10 =>
 some ((.bool (!(!b10))),p9.2))
 | false=>(some (true,h)))
 | false=>(some (false,h)))
 | false=>(some (false,h)))
 | false=>((za x7 0).bind fun v3 =>
 (h.ld1 v3).bind fun v4 =>
 (asI .i64 v4).bind fun n5 =>
 match decide (n5=0) with
 | true=>((h.ldN 5 x6).bind fun v6 =>
 (h.ldN 3 x7).bind fun v7 =>
 (M.call 284 [x0,x1,v6,v7] h).bind fun p8 =>
 some (p8.1,p8.2))
 | false=>(some (false,h))))
def z8e (M:Env) (x0:V) (x1:Int) (x6 x7:V) (x10:Bool) (h:H):Rl :=
 (za x6 0).bind fun v0 =>
 (h.ld1 v0).bind fun v1 =>
 (asI .i64 v1).bind fun n2 =>
 match decide (n2<1) with
 | true=>(some (.normal,(zji x0 x1 x6 x7 x10 true),h))
 | false=>((za x6 0).bind fun v3 =>
 (h.ld1 v3).bind fun v4 =>
 (asI .i64 v4).bind fun n5 =>
 some (.normal,(zji x0 x1 x6 x7 x10 (.bool (decide (10<n5)))),h))
def z8c (M:Env) (x0:V) (x1:Int) (x6 x7:V) (x10 x22:Bool) (h:H):Rl :=
 match x22 with
 | true=>(some (.normal,(zbf x0 x1 x6 x7 (8:Int) x10),h))
 | false=>((za x6 0).bind fun v0 =>
 (h.ld1 v0).bind fun v1 =>
 (asI .i64 v1).bind fun n2 =>
 match decide (n2=1) with
 | true=>((h.ldN 5 x6).bind fun v3 =>
 (M.call 280 [x0,x1,v3] h).bind fun p4 =>
 some (.normal,(zbf x0 x1 x6 x7 p4.1 true),p4.2))
 | false=>((za x6 0).bind fun v3 =>
 (h.ld1 v3).bind fun v4 =>
 (M.call 82 [v4] h).bind fun p5 =>
 (asB p5.1).bind fun b6 =>
 match b6 with
 | true=>((p5.2.ldN 5 x6).bind fun v7 =>
 (M.call 281 [x0,x1,v7] p5.2).bind fun p8 =>
 some (.normal,(zbf x0 x1 x6 x7 p8.1 x10),p8.2))
 | false=>((p5.2.ldN 5 x6).bind fun v7 =>
 (za x6 0).bind fun v8 =>
 (p5.2.ld1 v8).bind fun v9 =>
 (M.call 282 [x0,x1,v7] p5.2).bind fun p10 =>
 match ckB (p10.2.ld1 v8) v9 with
 | true=>((M.call 83 [v9] p10.2).bind fun p11 =>
 some (.normal,(zbf x0 x1 x6 x7 p10.1 p11.1),p11.2))
 | false=>none)))
theorem zuo:z06 M F.z1c [a0,(.int .i64 a1),(.agg [(.int .i64 a2_0),(.int .i64 a2_1),(.int .u64 a2_2),(.int .u64 a2_3),(.int .u64 a2_4)]),(.agg [(.int .i64 a3_0),(.int .u64 a3_1),(.bool a3_2)])] h=z1c M a0 a1 a2_0 a2_1 a2_2 a2_3 a2_4 a3_0 a3_1 a3_2 h:=by kernel_rfl
theorem z025:zql M (zqy x0 (.int .i64 x1) x6 x7 (.bool x10)) h=zqx M x0 x1 x6 x7 x10 h:=by kernel_rfl
theorem z8l:zuk M .normal (zbf x0 (.int .i64 x1) x6 x7 (.int .i64 x9) (.bool x10)) h=z2d M x0 x1 x6 x7 x9 x10 h:=by kernel_rfl
theorem zai:zqz M (zqs x0 (.int .i64 x1) x6 x7 (.bool x10)) h=z8e M x0 x1 x6 x7 x10 h:=by kernel_rfl
theorem z8y:zul M .normal (zji x0 (.int .i64 x1) x6 x7 (.bool x10) (.bool x22)) h=z8c M x0 x1 x6 x7 x10 x22 h:=by kernel_rfl
def z02g (M:Env):=lb M F.z0ef [3,15,16] [3]
def zo0 (x3 x15 x16:V):List V:=dd 3 (x3 :: dd 11 (x15 :: x16 :: dd 13 []))
def zut (x3:V):List V:=dd 3 (x3 :: dd 26 [])
def z0d8 (M:Env):=kf F.zbc
def z0dk (M:Env):=kq M F.z0db (z0d8 M)
def zzc (M:Env):=kb 0 (z0dk M)
def zbc (M:Env) (a0_0 a0_1 a0_2 a0_3 a0_4 a0_5:Int) (h:H):Rf :=
 let h0:=h.new (.cells [a0_0,a0_1,a0_2,a0_3,a0_4,a0_5] .rw)
 (h0.ldN 6 (.ptr h.next 0)).bind fun v1 =>
 (M.call 263 [v1] h0).bind fun p2 =>
 (asB p2.1).bind fun b3 =>
 match (!b3) with
 | true=>(some (.nilp,p2.2))
 | false=>((p2.2.ldN 6 (.ptr h.next 0)).bind fun v4 =>
 (p2.2.ld1 (.ptr h.next 2)).bind fun v5 =>
 (asI .i64 v5).bind fun n6 =>
 (asI .i64 v5).bind fun n7 =>
 (p2.2.mkSl 2 32 [(.int .u64 0),.nilsl] n6 n7).bind fun p8 =>
 let h9:=p8.2.new (.map [])
 (fill [(0:Int),(0:Int),(0:Int),(0:Int),(0:Int),(0:Int),.nilsl,.nilsl,.nilsl,.nilmap] [] [(0,6,.c v4),(8,1,.c p8.1),(9,1,.c (.map p8.2.next))]).bind fun cs10 =>
 (boxc (.agg cs10)).bind fun cs11 =>
 let h12:=h9.new (.cells cs11 .rw)
 (h12.ld1 (.ptr h.next 2)).bind fun v13 =>
 (M.loop (z02g M) (zo0 (.ptr h9.next 0) v13 (0:Int)) h12).bind fun p14=>zzc M p14.1 p14.2.1 p14.2.2)
def zv7 (M:Env) (x3:V) (x15 x16:Int) (h:H):Rl :=
 match decide (x16<x15) with
 | true=>((nilc x3).bind fun v0 =>
 (za v0 7).bind fun v1 =>
 (h.ld1 v1).bind fun v2 =>
 let h3:=h.new (.map [])
 let h4:=h3.new (.cells [(.map h.next)] .rw)
 (h4.append 1 8 v2 (.sl h3.next 0 1 (.ex 1))).bind fun p5 =>
 (nilc x3).bind fun v6 =>
 (za v6 7).bind fun v7 =>
 (p5.2.st 1 v7 p5.1).bind fun h8 =>
 some (.normal,(zo0 x3 x15 (.int .i64 (wr .i64 (x16+1)))),h8))
 | false=>(some ((.exit 0),(zut x3),h))
def z08s (M:Env) (x3:V) (h:H):Rf :=
 some (x3,h)
theorem z06x:z06 M F.zbc [(.agg [(.int .i64 a0_0),(.int .i64 a0_1),(.int .i64 a0_2),(.int .i64 a0_3),(.int .i64 a0_4),(.int .i64 a0_5)])] h=zbc M a0_0 a0_1 a0_2 a0_3 a0_4 a0_5 h:=by kernel_rfl
theorem z09q:z02g M (zo0 x3 (.int .i64 x15) (.int .i64 x16)) h=zv7 M x3 x15 x16 h:=by kernel_rfl
theorem z06u:zzc M (.exit 0) (zut x3) h=z08s M x3 h:=by kernel_rfl
def zbd (M:Env) (a0_0 a0_1 a0_2 a0_3 a0_4 a0_5:Int) (h:H):Rf :=
 let h0:=h.new (.cells [a0_0,a0_1,a0_2,a0_3,a0_4,a0_5] .rw)
 let h1:=h0.new (.cells [(0:Int),(0:Int),(0:Int),(0:Int),(0:Int),(0:Int),.nilsl,.nilsl,.nilsl,.nilsl,.nilsl] .rw)
 (h1.ldN 6 (.ptr h.next 0)).bind fun v2 =>
 (h1.ld1 (.ptr h.next 2)).bind fun v3 =>
 (h1.ld1 (.ptr h.next 2)).bind fun v4 =>
 (asI .i64 v3).bind fun n5 =>
 (asI .i64 v3).bind fun n6 =>
 (h1.mkSl 1 8 [(.int .u64 0)] n5 n6).bind fun p7 =>
 (asI .i64 v4).bind fun n8 =>
 (asI .i64 v4).bind fun n9 =>
 (p7.2.mkSl 1 24 [.nilsl] n8 n9).bind fun p10 =>
 (fill [(0:Int),(0:Int),(0:Int),(0:Int),(0:Int),(0:Int),.nilsl,.nilsl,.nilsl,.nilsl,.nilsl] [] [(0,6,.c v2),(8,1,.c p7.1),(9,1,.c p10.1)]).bind fun cs11 =>
 (p10.2.st 11 (.ptr h0.next 0) (.agg cs11)).bind fun h12 =>
 finV h12 [.cell true 11 (.ptr h0.next 0)]
theorem z07o:z06 M F.zbd [(.agg [(.int .i64 a0_0),(.int .i64 a0_1),(.int .i64 a0_2),(.int .i64 a0_3),(.int .i64 a0_4),(.int .i64 a0_5)])] h=zbd M a0_0 a0_1 a0_2 a0_3 a0_4 a0_5 h:=by kernel_rfl
def z018 (M:Env):=lb M F.z0ck [1,2,7,12,13,14] [2,6,7]
def zg0 (x1 x2 x7 x12 x13 x14:V):List V:=dd 1 (x1 :: x2 :: dd 4 (x7 :: dd 4 (x12 :: x13 :: x14 :: dd 38 [])))
def z40 (x2 x6 x7:V):List V:=dd 2 (x2 :: dd 3 (x6 :: x7 :: dd 45 []))
def z0cp (M:Env):=kf F.z96
def z0cd (M:Env):=kq M F.z0c6 (z0cp M)
def zgk (M:Env):=kb 0 (z0cd M)
def z96 (M:Env) (a0_0 a0_1 a0_2 a0_3 a0_4 a0_5:Int) (a1 a2:V) (h:H):Rf :=
 let h0:=h.new (.cells [a0_0,a0_1,a0_2,a0_3,a0_4,a0_5] .rw)
 (h0.ldN 6 (.ptr h.next 0)).bind fun v1 =>
 (M.call 96 [v1] h0).bind fun p2 =>
 (lenSl a2).bind fun n3 =>
 (M.loop (z018 M) (zg0 a1 a2 p2.1 a2 (.int .i64 (n3:Int)) (0:Int)) p2.2).bind fun p4=>zgk M p4.1 p4.2.1 p4.2.2
def z5e (M:Env) (x1 x2 x7 x12:V) (x13 x14:Int) (h:H):Rl :=
 match decide (x14<x13) with
 | true=>((z0 1 x12 x14).bind fun v0 =>
 (h.ld1 v0).bind fun v1 =>
 (asI .i64 v1).bind fun n2 =>
 match decide (n2<0) with
 | true=>(some (.ret,(z40 x2 x14 x7),h))
 | false=>((lenSl x1).bind fun n3 =>
 (asI .i64 v1).bind fun n4 =>
 match decide ((n3:Int)<=n4) with
 | true=>(some (.ret,(z40 x2 x14 x7),h))
 | false=>((z0 14 x1 v1).bind fun v5 =>
 (za v5 0).bind fun v6 =>
 (h.ld1 v6).bind fun v7 =>
 (z0 14 x1 v1).bind fun v8 =>
 (za v8 6).bind fun v9 =>
 (h.ldN 5 v9).bind fun v10 =>
 (z0 14 x1 v1).bind fun v11 =>
 (za v11 11).bind fun v12 =>
 (h.ldN 3 v12).bind fun v13 =>
 (M.call 103 [x7,v7,v10,v13] h).bind fun p14 =>
 (asB p14.1).bind fun b15 =>
 match (!b15) with
 | true=>(some (.ret,(z40 x2 x14 x7),p14.2))
 | false=>(some (.normal,(zg0 x1 x2 x7 x12 x13 (.int .i64 (wr .i64 (x14+1)))),p14.2)))))
 | false=>(some ((.exit 0),(z40 x2 .dead x7),h))
def zq6 (M:Env) (x2 x6 x7:V) (h:H):Rf :=
 (eqV .ptr x7 .nilp).bind fun b0 =>
 match b0 with
 | true=>(some ((0:Int),h))
 | false=>((lenSl x2).bind fun n1 =>
 some ((.int .i64 (n1:Int)),h))
def z09g (M:Env) (x2:V) (x6:Int) (x7:V) (h:H):Rf :=
 some (x6,h)
theorem z03z:z06 M F.z96 [(.agg [(.int .i64 a0_0),(.int .i64 a0_1),(.int .i64 a0_2),(.int .i64 a0_3),(.int .i64 a0_4),(.int .i64 a0_5)]),a1,a2] h=z96 M a0_0 a0_1 a0_2 a0_3 a0_4 a0_5 a1 a2 h:=by kernel_rfl
theorem z00a:z018 M (zg0 x1 x2 x7 x12 (.int .i64 x13) (.int .i64 x14)) h=z5e M x1 x2 x7 x12 x13 x14 h:=by kernel_rfl
theorem zum:zgk M (.exit 0) (z40 x2 x6 x7) h=zq6 M x2 x6 x7 h:=by kernel_rfl
theorem zwc:zgk M .ret (z40 x2 (.int .i64 x6) x7) h=z09g M x2 x6 x7 h:=by kernel_rfl
def zpj (M:Env):=lb M F.z039 [1,2,7,8] [2,6]
def zam (x1 x2 x7 x8:V):List V:=dd 1 (x1 :: x2 :: dd 4 (x7 :: x8 :: dd 50 []))
def z21 (x2 x6:V):List V:=dd 2 (x2 :: dd 3 (x6 :: dd 52 []))
def z02r (M:Env):=kf F.z3e
def z03t (M:Env):=kq M F.z02z (z02r M)
def zca (M:Env):=kb 0 (z03t M)
def z3e (M:Env) (a0_0 a0_1 a0_2 a0_3 a0_4 a0_5:Int) (a1 a2:V) (h:H):Rf :=
 let h0:=h.new (.cells [a0_0,a0_1,a0_2,a0_3,a0_4,a0_5] .rw)
 (h0.ldN 6 (.ptr h.next 0)).bind fun v1 =>
 (M.call 99 [v1] h0).bind fun p2 =>
 let h3:=p2.2.new (.cells [(0:Int),(0:Int),(0:Int),(0:Int),(0:Int),(0:Int),.nilsl,.nilsl,.nilsl,.nilsl,.nilsl] .rw)
 (h3.st 11 (.ptr p2.2.next 0) p2.1).bind fun h4 =>
 (M.loop (zpj M) (zam a1 a2 (.ptr p2.2.next 0) (0:Int)) h4).bind fun p5=>zca M p5.1 p5.2.1 p5.2.2
def z5n (M:Env) (x1 x2 x7:V) (x8:Int) (h:H):Rl :=
 (lenSl x2).bind fun n0 =>
 match decide (x8<(n0:Int)) with
 | true=>((z0 1 x2 x8).bind fun v1 =>
 (h.ld1 v1).bind fun v2 =>
 (asI .i64 v2).bind fun n3 =>
 match decide (n3<0) with
 | true=>(some (.ret,(z21 x2 x8),h))
 | false=>((lenSl x1).bind fun n4 =>
 (asI .i64 v2).bind fun n5 =>
 match decide ((n4:Int)<=n5) with
 | true=>(some (.ret,(z21 x2 x8),h))
 | false=>((h.ldN 11 x7).bind fun v6 =>
 (z0 14 x1 v2).bind fun v7 =>
 (za v7 0).bind fun v8 =>
 (h.ld1 v8).bind fun v9 =>
 (z0 14 x1 v2).bind fun v10 =>
 (za v10 6).bind fun v11 =>
 (h.ldN 5 v11).bind fun v12 =>
 (z0 14 x1 v2).bind fun v13 =>
 (za v13 11).bind fun v14 =>
 (h.ldN 3 v14).bind fun v15 =>
 (M.call 102 [v6,v9,v12,v15] h).bind fun p16 =>
 match p16.1 with
 | .tup vs17=>((vs17[0]?).bind fun v18 =>
 match p16.1 with
 | .tup vs19=>((vs19[1]?).bind fun v20 =>
 let h21:=p16.2.new (.cells [(0:Int),(0:Int),(0:Int),(0:Int),(0:Int),(0:Int),.nilsl,.nilsl,.nilsl,.nilsl,.nilsl] .rw)
 (h21.st 11 (.ptr p16.2.next 0) v18).bind fun h22 =>
 (asB v20).bind fun b23 =>
 match (!b23) with
 | true=>(some (.ret,(z21 x2 x8),h22))
 | false=>((h22.ldN 11 (.ptr p16.2.next 0)).bind fun v24 =>
 (h22.st 11 x7 v24).bind fun h25 =>
 some (.normal,(zam x1 x2 x7 (.int .i64 (wr .i64 (x8+1)))),h25)))
 | _=>none)
 | _=>none)))
 | false=>(some ((.exit 0),(z21 x2 .dead),h))
def zos (M:Env) (x2 x6:V) (h:H):Rf :=
 (lenSl x2).bind fun n0 =>
 some ((.int .i64 (n0:Int)),h)
def z01h (M:Env) (x2:V) (x6:Int) (h:H):Rf :=
 some (x6,h)
theorem z02q:z06 M F.z3e [(.agg [(.int .i64 a0_0),(.int .i64 a0_1),(.int .i64 a0_2),(.int .i64 a0_3),(.int .i64 a0_4),(.int .i64 a0_5)]),a1,a2] h=z3e M a0_0 a0_1 a0_2 a0_3 a0_4 a0_5 a1 a2 h:=by kernel_rfl
theorem z00r:zpj M (zam x1 x2 x7 (.int .i64 x8)) h=z5n M x1 x2 x7 x8 h:=by kernel_rfl
theorem zx6:zca M (.exit 0) (z21 x2 x6) h=zos M x2 x6 h:=by kernel_rfl
theorem zyg:zca M .ret (z21 x2 (.int .i64 x6)) h=z01h M x2 x6 h:=by kernel_rfl
def zef (M:Env):=lb M F.zol [0,1,2,3,8] []
def z2p (x0 x1 x2 x3 x8:V):List V:=x0 :: x1 :: x2 :: x3 :: dd 4 (x8 :: dd 44 [])
def z83:List V:=dd 53 []
def z80 (M:Env):=lb M F.zoq [0,1,2,3,8,9] [0,1,2,3,8]
def z2s (x0 x1 x2 x3 x8 x9:V):List V:=x0 :: x1 :: x2 :: x3 :: dd 4 (x8 :: x9 :: dd 43 [])
def z52 (x0 x1 x2 x3 x8:V):List V:=x0 :: x1 :: x2 :: x3 :: dd 4 (x8 :: dd 44 [])
def zo6 (M:Env):=kf F.z09
def z9b (M:Env):=kb 0 (zo6 M)
def zop (M:Env):=kl [0,1,2,3,8] []
def zoe (M:Env):=kq M F.zo2 (zop M)
def zoc (M:Env):=kb 1 (zoe M)
def z5t (M:Env):=kb 2 (zoc M)
def z09 (M:Env) (a0:V) (a1 a2:Int) (a3:V) (h:H):Rf :=
 (M.loop (zef M) (z2p a0 a1 a2 a3 (.int .i64 (wr .i64 (a1+1)))) h).bind fun p0=>z9b M p0.1 p0.2.1 p0.2.2
def z86 (M:Env) (x0:V) (x1 x2:Int) (x3:V) (x8:Int) (h:H):Rl :=
 match decide (x8<x2) with
 | true=>((M.loop (z80 M) (z2s x0 x1 x2 x3 x8 x8) h).bind fun p0=>z5t M p0.1 p0.2.1 p0.2.2)
 | false=>(some ((.exit 0),z83,h))
def zmd (M:Env) (h:H):Rf :=
 some ((.tup []),h)
def z53 (M:Env) (x0:V) (x1 x2:Int) (x3:V) (x8 x9:Int) (h:H):Rl :=
 match decide (x1<x9) with
 | true=>((z0 1 x0 x9).bind fun v0 =>
 (h.ld1 v0).bind fun v1 =>
 (z0 1 x0 (.int .i64 (wr .i64 (x9-1)))).bind fun v2 =>
 (h.ld1 v2).bind fun v3 =>
 z7w M x3 [v1,v3] h fun p4 =>
 (asI .i64 p4.1).bind fun n5 =>
 match decide (n5<0) with
 | true=>((z0 1 x0 (.int .i64 (wr .i64 (x9-1)))).bind fun v6 =>
 (p4.2.ld1 v6).bind fun v7 =>
 (z0 1 x0 x9).bind fun v8 =>
 (p4.2.ld1 v8).bind fun v9 =>
 (z0 1 x0 x9).bind fun v10 =>
 (p4.2.st 1 v10 v7).bind fun h11 =>
 (z0 1 x0 (.int .i64 (wr .i64 (x9-1)))).bind fun v12 =>
 (h11.st 1 v12 v9).bind fun h13 =>
 some (.normal,(z2s x0 x1 x2 x3 x8 (.int .i64 (wr .i64 (x9-1)))),h13))
 | false=>(some ((.exit 2),(z52 x0 x1 x2 x3 x8),p4.2)))
 | false=>(some ((.exit 2),(z52 x0 x1 x2 x3 x8),h))
def zdm (M:Env) (x0:V) (x1 x2:Int) (x3:V) (x8:Int) (h:H):Rl :=
 some (.normal,(z2p x0 x1 x2 x3 (.int .i64 (wr .i64 (x8+1)))),h)
theorem zo3:z06 M F.z09 [a0,(.int .i64 a1),(.int .i64 a2),a3] h=z09 M a0 a1 a2 a3 h:=by kernel_rfl
theorem zmg:zef M (z2p x0 (.int .i64 x1) (.int .i64 x2) x3 (.int .i64 x8)) h=z86 M x0 x1 x2 x3 x8 h:=by kernel_rfl
theorem zl0:z9b M (.exit 0) z83 h=zmd M h:=by kernel_rfl
theorem zmf:z80 M (z2s x0 (.int .i64 x1) (.int .i64 x2) x3 (.int .i64 x8) (.int .i64 x9)) h=z53 M x0 x1 x2 x3 x8 x9 h:=by kernel_rfl
theorem zl1:z5t M (.exit 2) (z52 x0 (.int .i64 x1) (.int .i64 x2) x3 (.int .i64 x8)) h=zdm M x0 x1 x2 x3 x8 h:=by kernel_rfl
def zhd (M:Env):=lb M F.zt9 [0,2,3,4,10] []
def z2o (x0 x2 x3 x4 x10:V):List V:=x0 :: dd 1 (x2 :: x3 :: x4 :: dd 5 (x10 :: dd 71 []))
def z1p:List V:=dd 82 []
def ztm (M:Env):=kf F.z0u
def z5f (M:Env):=kb 0 (ztm M)
def z0u (M:Env) (a0:V) (a1 a2 a3:Int) (a4:V) (h:H):Rf :=
 (M.loop (zhd M) (z2o a0 a2 a3 a4 a1) h).bind fun p0=>z5f M p0.1 p0.2.1 p0.2.2
def z12 (M:Env) (x0:V) (x2 x3:Int) (x4:V) (x10:Int) (h:H):Rl :=
 match (decide (x2<=(wr .i64 ((wr .i64 (2 * x10))+1)))) with
 | true=>(some ((.exit 0),z1p,h))
 | false=>(match (decide ((wr .i64 ((wr .i64 ((wr .i64 (2 * x10))+1))+1))<x2)) with
 | true=>((z0 1 x0 (.int .i64 (wr .i64 (x3+(wr .i64 ((wr .i64 (2 * x10))+1)))))).bind fun v0 =>
 (h.ld1 v0).bind fun v1 =>
 (z0 1 x0 (.int .i64 (wr .i64 ((wr .i64 (x3+(wr .i64 ((wr .i64 (2 * x10))+1))))+1)))).bind fun v2 =>
 (h.ld1 v2).bind fun v3 =>
 z7w M x4 [v1,v3] h fun p4 =>
 (asI .i64 p4.1).bind fun n5 =>
 match decide (n5<0) with
 | true=>((z0 1 x0 (.int .i64 (wr .i64 (x3+x10)))).bind fun v6 =>
 (p4.2.ld1 v6).bind fun v7 =>
 (z0 1 x0 (.int .i64 (wr .i64 (x3+(wr .i64 ((wr .i64 ((wr .i64 (2 * x10))+1))+1)))))).bind fun v8 =>
 (p4.2.ld1 v8).bind fun v9 =>
 z7w M x4 [v7,v9] p4.2 fun p10 =>
 (asI .i64 p10.1).bind fun n11 =>
 match (!(decide (n11<0))) with
 | true=>(some (.ret,z1p,p10.2))
 | false=>((z0 1 x0 (.int .i64 (wr .i64 (x3+(wr .i64 ((wr .i64 ((wr .i64 (2 * x10))+1))+1)))))).bind fun v12 =>
 (p10.2.ld1 v12).bind fun v13 =>
 (z0 1 x0 (.int .i64 (wr .i64 (x3+x10)))).bind fun v14 =>
 (p10.2.ld1 v14).bind fun v15 =>
 (z0 1 x0 (.int .i64 (wr .i64 (x3+x10)))).bind fun v16 =>
 (p10.2.st 1 v16 v13).bind fun h17 =>
 (z0 1 x0 (.int .i64 (wr .i64 (x3+(wr .i64 ((wr .i64 ((wr .i64 (2 * x10))+1))+1)))))).bind fun v18 =>
 (h17.st 1 v18 v15).bind fun h19 =>
 some (.normal,(z2o x0 x2 x3 x4 (.int .i64 (wr .i64 ((wr .i64 ((wr .i64 (2 * x10))+1))+1)))),h19)))
 | false=>((z0 1 x0 (.int .i64 (wr .i64 (x3+x10)))).bind fun v6 =>
 (p4.2.ld1 v6).bind fun v7 =>
 (z0 1 x0 (.int .i64 (wr .i64 (x3+(wr .i64 ((wr .i64 (2 * x10))+1)))))).bind fun v8 =>
 (p4.2.ld1 v8).bind fun v9 =>
 z7w M x4 [v7,v9] p4.2 fun p10 =>
 (asI .i64 p10.1).bind fun n11 =>
 match (!(decide (n11<0))) with
 | true=>(some (.ret,z1p,p10.2))
 | false=>((z0 1 x0 (.int .i64 (wr .i64 (x3+(wr .i64 ((wr .i64 (2 * x10))+1)))))).bind fun v12 =>
 (p10.2.ld1 v12).bind fun v13 =>
 (z0 1 x0 (.int .i64 (wr .i64 (x3+x10)))).bind fun v14 =>
 (p10.2.ld1 v14).bind fun v15 =>
 (z0 1 x0 (.int .i64 (wr .i64 (x3+x10)))).bind fun v16 =>
 (p10.2.st 1 v16 v13).bind fun h17 =>
 (z0 1 x0 (.int .i64 (wr .i64 (x3+(wr .i64 ((wr .i64 (2 * x10))+1)))))).bind fun v18 =>
 (h17.st 1 v18 v15).bind fun h19 =>
 some (.normal,(z2o x0 x2 x3 x4 (.int .i64 (wr .i64 ((wr .i64 (2 * x10))+1)))),h19))))
 | false=>((z0 1 x0 (.int .i64 (wr .i64 (x3+x10)))).bind fun v0 =>
 (h.ld1 v0).bind fun v1 =>
 (z0 1 x0 (.int .i64 (wr .i64 (x3+(wr .i64 ((wr .i64 (2 * x10))+1)))))).bind fun v2 =>
 (h.ld1 v2).bind fun v3 =>
 z7w M x4 [v1,v3] h fun p4 =>
 (asI .i64 p4.1).bind fun n5 =>
 match (!(decide (n5<0))) with
 | true=>(some (.ret,z1p,p4.2))
 | false=>((z0 1 x0 (.int .i64 (wr .i64 (x3+(wr .i64 ((wr .i64 (2 * x10))+1)))))).bind fun v6 =>
 (p4.2.ld1 v6).bind fun v7 =>
 (z0 1 x0 (.int .i64 (wr .i64 (x3+x10)))).bind fun v8 =>
 (p4.2.ld1 v8).bind fun v9 =>
 (z0 1 x0 (.int .i64 (wr .i64 (x3+x10)))).bind fun v10 =>
 (p4.2.st 1 v10 v7).bind fun h11 =>
 (z0 1 x0 (.int .i64 (wr .i64 (x3+(wr .i64 ((wr .i64 (2 * x10))+1)))))).bind fun v12 =>
 (h11.st 1 v12 v9).bind fun h13 =>
 some (.normal,(z2o x0 x2 x3 x4 (.int .i64 (wr .i64 ((wr .i64 (2 * x10))+1)))),h13))))
def zq1 (M:Env) (h:H):Rf :=
 some ((.tup []),h)
def zqg (M:Env) (h:H):Rf :=
 some ((.tup []),h)
theorem ztg:z06 M F.z0u [a0,(.int .i64 a1),(.int .i64 a2),(.int .i64 a3),a4] h=z0u M a0 a1 a2 a3 a4 h:=by kernel_rfl
theorem zpm:zhd M (z2o x0 (.int .i64 x2) (.int .i64 x3) x4 (.int .i64 x10)) h=z12 M x0 x2 x3 x4 x10 h:=by kernel_rfl
theorem znj:z5f M (.exit 0) z1p h=zq1 M h:=by kernel_rfl
theorem zny:z5f M .ret z1p h=zqg M h:=by kernel_rfl
def zho (M:Env):=lb M F.ztj [0,3,8,9,10,11] [0,3,8,9,10]
def z74 (x0 x3 x8 x9 x10 x11:V):List V:=x0 :: dd 2 (x3 :: dd 4 (x8 :: x9 :: x10 :: x11 :: dd 48 []))
def zb6 (x0 x3 x8 x9 x10:V):List V:=x0 :: dd 2 (x3 :: dd 4 (x8 :: x9 :: x10 :: dd 49 []))
def zb4 (M:Env):=lb M F.zsp [0,3,8,9,12] []
def z41 (x0 x3 x8 x9 x12:V):List V:=x0 :: dd 2 (x3 :: dd 4 (x8 :: x9 :: dd 2 (x12 :: dd 47 [])))
def zb0:List V:=dd 60 []
def zir (M:Env):=kf F.z0k
def zsm (M:Env):=kq M F.zsc (zir M)
def zch (M:Env):=kb 0 (zsm M)
def z7z (M:Env):=kb 2 (zir M)
def z0k (M:Env) (a0:V) (a1 a2:Int) (a3:V) (h:H):Rf :=
 (M.loop (zho M) (z74 a0 a3 a1 (0:Int) (.int .i64 (wr .i64 (a2-a1))) (.int .i64 (wr .i64 (Int.tdiv (wr .i64 ((wr .i64 (a2-a1))-1)) 2)))) h).bind fun p0=>zch M p0.1 p0.2.1 p0.2.2
def zb3 (M:Env) (x0 x3:V) (x8 x9 x10 x11:Int) (h:H):Rl :=
 match decide (0<=x11) with
 | true=>((M.call 487 [x0,x11,x10,x8,x3] h).bind fun p0 =>
 some (.normal,(z74 x0 x3 x8 x9 x10 (.int .i64 (wr .i64 (x11-1)))),p0.2))
 | false=>(some ((.exit 0),(zb6 x0 x3 x8 x9 x10),h))
def zh4 (M:Env) (x0 x3:V) (x8 x9 x10:Int) (h:H):Rf :=
 (M.loop (zb4 M) (z41 x0 x3 x8 x9 (.int .i64 (wr .i64 (x10-1)))) h).bind fun p0=>z7z M p0.1 p0.2.1 p0.2.2
def zb2 (M:Env) (x0 x3:V) (x8 x9 x12:Int) (h:H):Rl :=
 match decide (0<=x12) with
 | true=>((z0 1 x0 (.int .i64 (wr .i64 (x8+x12)))).bind fun v0 =>
 (h.ld1 v0).bind fun v1 =>
 (z0 1 x0 x8).bind fun v2 =>
 (h.ld1 v2).bind fun v3 =>
 (z0 1 x0 x8).bind fun v4 =>
 (h.st 1 v4 v1).bind fun h5 =>
 (z0 1 x0 (.int .i64 (wr .i64 (x8+x12)))).bind fun v6 =>
 (h5.st 1 v6 v3).bind fun h7 =>
 (M.call 487 [x0,x9,x12,x8,x3] h7).bind fun p8 =>
 some (.normal,(z41 x0 x3 x8 x9 (.int .i64 (wr .i64 (x12-1)))),p8.2))
 | false=>(some ((.exit 2),zb0,h))
def zpn (M:Env) (h:H):Rf :=
 some ((.tup []),h)
theorem zt1:z06 M F.z0k [a0,(.int .i64 a1),(.int .i64 a2),a3] h=z0k M a0 a1 a2 a3 h:=by kernel_rfl
theorem zq0:zho M (z74 x0 x3 (.int .i64 x8) (.int .i64 x9) (.int .i64 x10) (.int .i64 x11)) h=zb3 M x0 x3 x8 x9 x10 x11 h:=by kernel_rfl
theorem znb:zch M (.exit 0) (zb6 x0 x3 (.int .i64 x8) (.int .i64 x9) (.int .i64 x10)) h=zh4 M x0 x3 x8 x9 x10 h:=by kernel_rfl
theorem zpr:zb4 M (z41 x0 x3 (.int .i64 x8) (.int .i64 x9) (.int .i64 x12)) h=zb2 M x0 x3 x8 x9 x12 h:=by kernel_rfl
theorem znk:z7z M (.exit 2) zb0 h=zpn M h:=by kernel_rfl
end Wm.S
end
