/- PRINTED by my tool: what functions come to, stretch by stretch. -/
import Derived.KernelRfl
import Derived.Test.YthkimcdeejjmbaaWmShal
import Derived.Test.YthkimcdeejjmbaaWmFnsLinReplays
import Derived.Test.YthkimcdeejjmbaaWmFnc
import Derived.Test.YthkimcdeejjmbaaWmTxtLinReplaysA
set_option linter.all false
noncomputable section
namespace Wm.S
open Wm
set_option maxRecDepth 100000
set_option autoImplicit true
set_option relaxedAutoImplicit true
def zei (M:Env):=lb M F.zo4 [0,1,8,9,10,11] []
def z2r (x0 x1 x8 x9 x10 x11:V):List V:=x0 :: x1 :: dd 6 (x8 :: x9 :: x10 :: x11 :: dd 55 [])
def z54:List V:=dd 67 []
def zeb (M:Env):=jb M F.znx [0,1,8,9,10,11,35]
def zec (x0 x1 x8 x9 x10 x11:V):List V:=x0 :: x1 :: dd 6 (x8 :: x9 :: x10 :: x11 :: dd 55 [])
def zen (x0 x1 x8 x9 x10 x11 x35:V):List V:=x0 :: x1 :: dd 6 (x8 :: x9 :: x10 :: x11 :: dd 23 (x35 :: dd 31 []))
def zeh (M:Env):=jb M F.zob [0,1,8,9,10,11,12]
def zeg (x0 x1 x8 x9 x10 x11:V):List V:=x0 :: x1 :: dd 6 (x8 :: x9 :: x10 :: x11 :: dd 55 [])
def zee (x0 x1 x8 x9 x10 x11 x12:V):List V:=x0 :: x1 :: dd 6 (x8 :: x9 :: x10 :: x11 :: x12 :: dd 54 [])
def zed (M:Env):=jb M F.zoh [0,1,8,9,10,11,12]
def zem (x0 x1 x8 x9 x10 x11 x12:V):List V:=x0 :: x1 :: dd 6 (x8 :: x9 :: x10 :: x11 :: x12 :: dd 54 [])
def z88 (x0 x1 x8 x9 x10 x11 x12:V):List V:=x0 :: x1 :: dd 6 (x8 :: x9 :: x10 :: x11 :: x12 :: dd 54 [])
def zok (M:Env):=kf F.zp
def z9d (M:Env):=kb 0 (zok M)
def zfx (M:Env):=kl [0,1,8,9,10,11] []
def zof (M:Env):=kq M F.zo8 (zfx M)
def z5v (M:Env):=kq M F.zoa (zof M)
def zog (M:Env):=kq M F.zor (zfx M)
def zft (M:Env):=kb 1 (zog M)
def z99 (M:Env):=kq M F.zo9 (zft M)
def z5s (M:Env):=kq M F.zoi (zft M)
def zp (M:Env) (a0:V) (a1 a2:Int) (a3:V) (h:H):Rf :=
 match (decide (8<=(wr .i64 (a2-a1)))) with
 | true=>(let h0:=h.new (.cells [(.int .u64 0)] .rw)
 (h0.st 1 (.ptr h.next 0) (.int .u64 (wr .u64 (wr .i64 (a2-a1))))).bind fun h1 =>
 (M.call 488 [(.int .i64 (wr .i64 (a2-a1)))] h1).bind fun p2 =>
 (M.loop (zei M) (z2r a0 a1 (.int .i64 (wr .i64 (a2-a1))) (.ptr h.next 0) p2.1 (.int .i64 (wr .i64 ((wr .i64 (a1+(wr .i64 ((wr .i64 (Int.tdiv (wr .i64 (a2-a1)) 4)) * 2))))-1)))) p2.2).bind fun p3=>z9d M p3.1 p3.2.1 p3.2.2)
 | false=>(some ((.tup []),h))
def zej (M:Env) (x0:V) (x1 x8:Int) (x9:V) (x10 x11:Int) (h:H):Rl :=
 (zeb M (zec x0 x1 x8 x9 (.int .u64 x10) x11) h).bind fun p0=>z5v M p0.1 p0.2.1 p0.2.2
def zma (M:Env) (h:H):Rf :=
 some ((.tup []),h)
def z89 (M:Env) (x0:V) (x1 x8:Int) (x9:V) (x10 x11:Int) (h:H):Rl :=
 some (.normal,(zen x0 x1 x8 x9 (.int .u64 x10) x11 (.bool (decide (x11<=(wr .i64 ((wr .i64 (x1+(wr .i64 ((wr .i64 (Int.tdiv x8 4)) * 2))))+1)))))),h)
def z81 (M:Env) (x0:V) (x1 x8:Int) (x9:V) (x10 x11:Int) (x35:Bool) (h:H):Rl :=
 match x35 with
 | true=>((zeh M (zeg x0 x1 x8 x9 (.int .u64 x10) x11) h).bind fun p0=>z99 M p0.1 p0.2.1 p0.2.2)
 | false=>(some ((.exit 0),z54,h))
def zek (M:Env) (x0:V) (x1 x8:Int) (x9:V) (x10 x11:Int) (h:H):Rl :=
 (M.call 489 [x9] h).bind fun p0 =>
 (asI .u64 p0.1).bind fun n1 =>
 some (.normal,(zee x0 x1 x8 x9 (.int .u64 x10) x11 (.int .i64 (wr .i64 (z08u n1 (wr .u64 (x10-1)))))),p0.2)
def zel (M:Env) (x0:V) (x1 x8:Int) (x9:V) (x10 x11 x12:Int) (h:H):Rl :=
 (zed M (zem x0 x1 x8 x9 (.int .u64 x10) x11 x12) h).bind fun p0=>z5s M p0.1 p0.2.1 p0.2.2
def z82 (M:Env) (x0:V) (x1 x8:Int) (x9:V) (x10 x11 x12:Int) (h:H):Rl :=
 match decide (x8<=x12) with
 | true=>(some (.normal,(z88 x0 x1 x8 x9 (.int .u64 x10) x11 (.int .i64 (wr .i64 (x12-x8)))),h))
 | false=>(some (.normal,(z88 x0 x1 x8 x9 (.int .u64 x10) x11 x12),h))
def z87 (M:Env) (x0:V) (x1 x8:Int) (x9:V) (x10 x11 x12:Int) (h:H):Rl :=
 (z0 1 x0 (.int .i64 (wr .i64 (x1+x12)))).bind fun v0 =>
 (h.ld1 v0).bind fun v1 =>
 (z0 1 x0 x11).bind fun v2 =>
 (h.ld1 v2).bind fun v3 =>
 (z0 1 x0 x11).bind fun v4 =>
 (h.st 1 v4 v1).bind fun h5 =>
 (z0 1 x0 (.int .i64 (wr .i64 (x1+x12)))).bind fun v6 =>
 (h5.st 1 v6 v3).bind fun h7 =>
 some (.normal,(z2r x0 x1 x8 x9 (.int .u64 x10) (.int .i64 (wr .i64 (x11+1)))),h7)
theorem zo5:z06 M F.zp [a0,(.int .i64 a1),(.int .i64 a2),a3] h=zp M a0 a1 a2 a3 h:=by kernel_rfl
theorem zmc:zei M (z2r x0 (.int .i64 x1) (.int .i64 x8) x9 (.int .u64 x10) (.int .i64 x11)) h=zej M x0 x1 x8 x9 x10 x11 h:=by kernel_rfl
theorem zl2:z9d M (.exit 0) z54 h=zma M h:=by kernel_rfl
theorem zm9:zeb M (zec x0 (.int .i64 x1) (.int .i64 x8) x9 (.int .u64 x10) (.int .i64 x11)) h=z89 M x0 x1 x8 x9 x10 x11 h:=by kernel_rfl
theorem zcl:z5v M .normal (zen x0 (.int .i64 x1) (.int .i64 x8) x9 (.int .u64 x10) (.int .i64 x11) (.bool x35)) h=z81 M x0 x1 x8 x9 x10 x11 x35 h:=by kernel_rfl
theorem zmb:zeh M (zeg x0 (.int .i64 x1) (.int .i64 x8) x9 (.int .u64 x10) (.int .i64 x11)) h=zek M x0 x1 x8 x9 x10 x11 h:=by kernel_rfl
theorem zlg:z99 M .normal (zee x0 (.int .i64 x1) (.int .i64 x8) x9 (.int .u64 x10) (.int .i64 x11) (.int .i64 x12)) h=zel M x0 x1 x8 x9 x10 x11 x12 h:=by kernel_rfl
theorem zm3:zed M (zem x0 (.int .i64 x1) (.int .i64 x8) x9 (.int .u64 x10) (.int .i64 x11) (.int .i64 x12)) h=z82 M x0 x1 x8 x9 x10 x11 x12 h:=by kernel_rfl
theorem zc8:z5s M .normal (z88 x0 (.int .i64 x1) (.int .i64 x8) x9 (.int .u64 x10) (.int .i64 x11) (.int .i64 x12)) h=z87 M x0 x1 x8 x9 x10 x11 x12 h:=by kernel_rfl
def z5a (M:Env) (a0:V) (h:H):Rf :=
 (nilc a0).bind fun v0 =>
 (h.ld1 v0).bind fun v1 =>
 (nilc a0).bind fun v2 =>
 (h.ld1 v2).bind fun v3 =>
 (asI .u64 v3).bind fun n4 =>
 (asI .u64 v1).bind fun n5 =>
 (nilc a0).bind fun v6 =>
 (h.st 1 v6 (.int .u64 (zy3 n5 (wr .u64 (n4 * 2 ^ (min (Int.toNat 13) (Go.IntKind.bits .u64))))))).bind fun h7 =>
 (nilc a0).bind fun v8 =>
 (h7.ld1 v8).bind fun v9 =>
 (nilc a0).bind fun v10 =>
 (h7.ld1 v10).bind fun v11 =>
 (asI .u64 v11).bind fun n12 =>
 (asI .u64 v9).bind fun n13 =>
 (nilc a0).bind fun v14 =>
 (h7.st 1 v14 (.int .u64 (zy3 n13 (n12 / 2 ^ (min (Int.toNat 7) (Go.IntKind.bits .u64)))))).bind fun h15 =>
 (nilc a0).bind fun v16 =>
 (h15.ld1 v16).bind fun v17 =>
 (nilc a0).bind fun v18 =>
 (h15.ld1 v18).bind fun v19 =>
 (asI .u64 v19).bind fun n20 =>
 (asI .u64 v17).bind fun n21 =>
 (nilc a0).bind fun v22 =>
 (h15.st 1 v22 (.int .u64 (zy3 n21 (wr .u64 (n20 * 2 ^ (min (Int.toNat 17) (Go.IntKind.bits .u64))))))).bind fun h23 =>
 (nilc a0).bind fun v24 =>
 (h23.ld1 v24).bind fun v25 =>
 some (v25,h23)
theorem z00q:z06 M F.z5a [a0] h=z5a M a0 h:=by kernel_rfl
def z1w (M:Env) (a0:V) (a1 a2:Int) (a3 a4:V) (h:H):Rf :=
 (z0 1 a0 a2).bind fun v0 =>
 (h.ld1 v0).bind fun v1 =>
 (z0 1 a0 a1).bind fun v2 =>
 (h.ld1 v2).bind fun v3 =>
 z7w M a4 [v1,v3] h fun p4 =>
 (asI .i64 p4.1).bind fun n5 =>
 match decide (n5<0) with
 | true=>((nilc a3).bind fun v6 =>
 (p4.2.ld1 v6).bind fun v7 =>
 (asI .i64 v7).bind fun n8 =>
 (nilc a3).bind fun v9 =>
 (p4.2.st 1 v9 (.int .i64 (wr .i64 (n8+1)))).bind fun h10 =>
 some ((.tup [a2,a1]),h10))
 | false=>(some ((.tup [a1,a2]),p4.2))
theorem zvb:z06 M F.z1w [a0,(.int .i64 a1),(.int .i64 a2),a3,a4] h=z1w M a0 a1 a2 a3 a4 h:=by kernel_rfl
def z2i (M:Env) (a0:V) (a1 a2 a3:Int) (a4 a5:V) (h:H):Rf :=
 (M.call 512 [a0,a1,a2,a4,a5] h).bind fun p0 =>
 match p0.1 with
 | .tup vs1=>((vs1[0]?).bind fun v2 =>
 match p0.1 with
 | .tup vs3=>((vs3[1]?).bind fun v4 =>
 (M.call 512 [a0,v4,a3,a4,a5] p0.2).bind fun p5 =>
 match p5.1 with
 | .tup vs6=>((vs6[0]?).bind fun v7 =>
 match p5.1 with
 | .tup vs8=>((vs8[1]?).bind fun v9 =>
 (M.call 512 [a0,v2,v7,a4,a5] p5.2).bind fun p10 =>
 match p10.1 with
 | .tup vs11=>((vs11[0]?).bind fun v12 =>
 match p10.1 with
 | .tup vs13=>((vs13[1]?).bind fun v14 =>
 some (v14,p10.2))
 | _=>none)
 | _=>none)
 | _=>none)
 | _=>none)
 | _=>none)
 | _=>none
theorem zvl:z06 M F.z2i [a0,(.int .i64 a1),(.int .i64 a2),(.int .i64 a3),a4,a5] h=z2i M a0 a1 a2 a3 a4 a5 h:=by kernel_rfl
def z0v (M:Env) (a0:V) (a1:Int) (a2 a3:V) (h:H):Rf :=
 (M.call 491 [a0,(.int .i64 (wr .i64 (a1-1))),a1,(.int .i64 (wr .i64 (a1+1))),a2,a3] h).bind fun p0 =>
 some (p0.1,p0.2)
theorem zno:z06 M F.z0v [a0,(.int .i64 a1),a2,a3] h=z0v M a0 a1 a2 a3 h:=by kernel_rfl
def z05 (M:Env) (a0:V) (a1 a2:Int) (a3:V) (h:H):Rf :=
 let h0:=h.new (.cells [(0:Int)] .rw)
 match (decide (8<=(wr .i64 (a2-a1)))) with
 | true=>(match (decide (50<=(wr .i64 (a2-a1)))) with
 | true=>((M.call 490 [a0,(.int .i64 (wr .i64 (a1+(wr .i64 ((wr .i64 (Int.tdiv (wr .i64 (a2-a1)) 4)) * 1))))),(.ptr h.next 0),a3] h0).bind fun p1 =>
 (M.call 490 [a0,(.int .i64 (wr .i64 (a1+(wr .i64 ((wr .i64 (Int.tdiv (wr .i64 (a2-a1)) 4)) * 2))))),(.ptr h.next 0),a3] p1.2).bind fun p2 =>
 (M.call 490 [a0,(.int .i64 (wr .i64 (a1+(wr .i64 ((wr .i64 (Int.tdiv (wr .i64 (a2-a1)) 4)) * 3))))),(.ptr h.next 0),a3] p2.2).bind fun p3 =>
 (M.call 491 [a0,p1.1,p2.1,p3.1,(.ptr h.next 0),a3] p3.2).bind fun p4 =>
 (p4.2.ld1 (.ptr h.next 0)).bind fun v5 =>
 (asI .i64 v5).bind fun n6 =>
 match decide (n6=0) with
 | true=>(some ((.tup [p4.1,(1:Int)]),p4.2))
 | false=>((asI .i64 v5).bind fun n7 =>
 match decide (n7=12) with
 | true=>(some ((.tup [p4.1,(2:Int)]),p4.2))
 | false=>(some ((.tup [p4.1,(0:Int)]),p4.2))))
 | false=>((M.call 491 [a0,(.int .i64 (wr .i64 (a1+(wr .i64 ((wr .i64 (Int.tdiv (wr .i64 (a2-a1)) 4)) * 1))))),(.int .i64 (wr .i64 (a1+(wr .i64 ((wr .i64 (Int.tdiv (wr .i64 (a2-a1)) 4)) * 2))))),(.int .i64 (wr .i64 (a1+(wr .i64 ((wr .i64 (Int.tdiv (wr .i64 (a2-a1)) 4)) * 3))))),(.ptr h.next 0),a3] h0).bind fun p1 =>
 (p1.2.ld1 (.ptr h.next 0)).bind fun v2 =>
 (asI .i64 v2).bind fun n3 =>
 match decide (n3=0) with
 | true=>(some ((.tup [p1.1,(1:Int)]),p1.2))
 | false=>((asI .i64 v2).bind fun n4 =>
 match decide (n4=12) with
 | true=>(some ((.tup [p1.1,(2:Int)]),p1.2))
 | false=>(some ((.tup [p1.1,(0:Int)]),p1.2)))))
 | false=>((h0.ld1 (.ptr h.next 0)).bind fun v1 =>
 (asI .i64 v1).bind fun n2 =>
 match decide (n2=0) with
 | true=>(some ((.tup [(.int .i64 (wr .i64 (a1+(wr .i64 ((wr .i64 (Int.tdiv (wr .i64 (a2-a1)) 4)) * 2))))),(1:Int)]),h0))
 | false=>((asI .i64 v1).bind fun n3 =>
 match decide (n3=12) with
 | true=>(some ((.tup [(.int .i64 (wr .i64 (a1+(wr .i64 ((wr .i64 (Int.tdiv (wr .i64 (a2-a1)) 4)) * 2))))),(2:Int)]),h0))
 | false=>(some ((.tup [(.int .i64 (wr .i64 (a1+(wr .i64 ((wr .i64 (Int.tdiv (wr .i64 (a2-a1)) 4)) * 2))))),(0:Int)]),h0))))
theorem zpv:z06 M F.z05 [a0,(.int .i64 a1),(.int .i64 a2),a3] h=z05 M a0 a1 a2 a3 h:=by kernel_rfl
def zid (M:Env):=lb M F.zuc [0,1,2,3,4,10,11] []
def z1x (x0 x1 x2 x3 x4 x10 x11:V):List V:=x0 :: x1 :: x2 :: x3 :: x4 :: dd 5 (x10 :: x11 :: dd 136 [])
def z30:List V:=dd 148 []
def zbn (M:Env):=jb M F.ztw [0,1,2,3,4,10,11,12]
def zbo (x0 x1 x2 x3 x4 x10 x11 x12:V):List V:=x0 :: x1 :: x2 :: x3 :: x4 :: dd 5 (x10 :: x11 :: x12 :: dd 135 [])
def zbw (x0 x1 x2 x3 x4 x10 x11 x12:V):List V:=x0 :: x1 :: x2 :: x3 :: x4 :: dd 5 (x10 :: x11 :: x12 :: dd 135 [])
def zc0 (M:Env):=jb M F.zu7 [0,1,2,3,4,10,11,12,13,14]
def zc4 (x0 x1 x2 x3 x4 x10 x11 x12 x13 x14:V):List V:=x0 :: x1 :: x2 :: x3 :: x4 :: dd 5 (x10 :: x11 :: x12 :: x13 :: x14 :: dd 133 [])
def zbx (x0 x1 x2 x3 x4 x10 x11 x12 x13 x14:V):List V:=x0 :: x1 :: x2 :: x3 :: x4 :: dd 5 (x10 :: x11 :: x12 :: x13 :: x14 :: dd 133 [])
def zi9 (M:Env):=jb M F.zu4 [0,1,2,3,4,10,11,12,13]
def zie (x0 x1 x2 x3 x4 x10 x11 x12 x13 x14:V):List V:=x0 :: x1 :: x2 :: x3 :: x4 :: dd 5 (x10 :: x11 :: x12 :: x13 :: x14 :: dd 133 [])
def z4v (x0 x1 x2 x3 x4 x10 x11 x12 x13:V):List V:=x0 :: x1 :: x2 :: x3 :: x4 :: dd 5 (x10 :: x11 :: x12 :: x13 :: dd 134 [])
def zib (M:Env):=jb M F.zty [0,1,2,3,4,10,11,12,13,75]
def zii (x0 x1 x2 x3 x4 x10 x11 x12 x13 x14:V):List V:=x0 :: x1 :: x2 :: x3 :: x4 :: dd 5 (x10 :: x11 :: x12 :: x13 :: x14 :: dd 133 [])
def z4y (x0 x1 x2 x3 x4 x10 x11 x12 x13 x75:V):List V:=x0 :: x1 :: x2 :: x3 :: x4 :: dd 5 (x10 :: x11 :: x12 :: x13 :: dd 61 (x75 :: dd 72 []))
def zhi (M:Env):=jb M F.zt0 [0,1,2,3,4,10,11,12,13]
def zhu (x0 x1 x2 x3 x4 x10 x11 x12 x13:V):List V:=x0 :: x1 :: x2 :: x3 :: x4 :: dd 5 (x10 :: x11 :: x12 :: x13 :: dd 134 [])
def z49 (x0 x1 x2 x3 x4 x10 x11 x12 x13:V):List V:=x0 :: x1 :: x2 :: x3 :: x4 :: dd 5 (x10 :: x11 :: x12 :: x13 :: dd 134 [])
def zu8 (M:Env):=kf F.zt
def zdg (M:Env):=kb 0 (zu8 M)
def zuf (M:Env):=kl [0,1,2,3,4,10,11] []
def z8j (M:Env):=kb 1 (zuf M)
def z63 (M:Env):=kq M F.zu9 (z8j M)
def z62 (M:Env):=kq M F.zua (z8j M)
def z29 (M:Env):=kq M F.zu1 (z8j M)
def zug (M:Env):=kj [0,1,2,3,4,10,11,12,13]
def zdj (M:Env):=kq M F.zub (zug M)
def z3f (M:Env):=kq M F.ztx (z8j M)
def zt (M:Env) (a0:V) (a1 a2 a3:Int) (a4:V) (h:H):Rf :=
 (M.loop (zid M) (z1x a0 a1 a2 a3 a4 true true) h).bind fun p0=>zdg M p0.1 p0.2.1 p0.2.2
def z4x (M:Env) (x0:V) (x1 x2 x3:Int) (x4:V) (x10 x11:Bool) (h:H):Rl :=
 match (decide ((wr .i64 (x2-x1))<=12)) with
 | true=>((M.call 450 [x0,x1,x2,x4] h).bind fun p0 =>
 some (.ret,z30,p0.2))
 | false=>(match decide (x3=0) with
 | true=>((M.call 451 [x0,x1,x2,x4] h).bind fun p0 =>
 some (.ret,z30,p0.2))
 | false=>((zbn M (zbo x0 x1 x2 x3 x4 x10 x11 (.int .i64 (wr .i64 (x2-x1)))) h).bind fun p0=>z63 M p0.1 p0.2.1 p0.2.2))
def zrc (M:Env) (h:H):Rf :=
 some ((.tup []),h)
def zbt (M:Env) (x0:V) (x1 x2 x3:Int) (x4:V) (x10 x11:Bool) (x12:Int) (h:H):Rl :=
 match (!x10) with
 | true=>((M.call 452 [x0,x1,x2,x4] h).bind fun p0 =>
 some (.normal,(zbw x0 x1 x2 (.int .i64 (wr .i64 (x3-1))) x4 x10 x11 x12),p0.2))
 | false=>(some (.normal,(zbw x0 x1 x2 x3 x4 x10 x11 x12),h))
def zbr (M:Env) (x0:V) (x1 x2 x3:Int) (x4:V) (x10 x11:Bool) (x12:Int) (h:H):Rl :=
 (M.call 453 [x0,x1,x2,x4] h).bind fun p0 =>
 match p0.1 with
 | .tup vs1=>((vs1[0]?).bind fun v2 =>
 match p0.1 with
 | .tup vs3=>((vs3[1]?).bind fun v4 =>
 (zc0 M (zc4 x0 x1 x2 x3 x4 x10 x11 x12 v2 v4) p0.2).bind fun p5=>z62 M p5.1 p5.2.1 p5.2.2)
 | _=>none)
 | _=>none
def zbm (M:Env) (x0:V) (x1 x2 x3:Int) (x4:V) (x10 x11:Bool) (x12 x13 x14:Int) (h:H):Rl :=
 match decide (x14=2) with
 | true=>((M.call 454 [x0,x1,x2,x4] h).bind fun p0 =>
 some (.normal,(zbx x0 x1 x2 x3 x4 x10 x11 x12 (.int .i64 (wr .i64 ((wr .i64 (x2-1))-(wr .i64 (x13-x1))))) (1:Int)),p0.2))
 | false=>(some (.normal,(zbx x0 x1 x2 x3 x4 x10 x11 x12 x13 x14),h))
def zbp (M:Env) (x0:V) (x1 x2 x3:Int) (x4:V) (x10 x11:Bool) (x12 x13 x14:Int) (h:H):Rl :=
 (zi9 M (zie x0 x1 x2 x3 x4 x10 x11 x12 x13 x14) h).bind fun p0=>z29 M p0.1 p0.2.1 p0.2.2
def zif (M:Env) (x0:V) (x1 x2 x3:Int) (x4:V) (x10 x11:Bool) (x12 x13 x14:Int) (h:H):Rl :=
 (zib M (zii x0 x1 x2 x3 x4 x10 x11 x12 x13 x14) h).bind fun p0=>zdj M p0.1 p0.2.1 p0.2.2
def zc6 (M:Env) (x0:V) (x1 x2 x3:Int) (x4:V) (x10 x11:Bool) (x12 x13:Int) (h:H):Rl :=
 (zhi M (zhu x0 x1 x2 x3 x4 x10 x11 x12 x13) h).bind fun p0=>z3f M p0.1 p0.2.1 p0.2.2
def zij (M:Env) (x0 x1 x2 x3 x4 x10 x11 x12 x13:V) (h:H):Rl :=
 some (.ret,z30,h)
def z7h (M:Env) (x0:V) (x1 x2 x3:Int) (x4:V) (x10 x11:Bool) (x12 x13 x14:Int) (h:H):Rl :=
 match x10 with
 | true=>(match x11 with
 | true=>(some (.normal,(z4y x0 x1 x2 x3 x4 x10 x11 x12 x13 (.bool (decide (x14=1)))),h))
 | false=>(some (.normal,(z4y x0 x1 x2 x3 x4 x10 x11 x12 x13 false),h)))
 | false=>(some (.normal,(z4y x0 x1 x2 x3 x4 x10 x11 x12 x13 false),h))
def z7j (M:Env) (x0:V) (x1 x2 x3:Int) (x4:V) (x10 x11:Bool) (x12 x13:Int) (x75:Bool) (h:H):Rl :=
 match x75 with
 | true=>((M.call 455 [x0,x1,x2,x4] h).bind fun p0 =>
 (asB p0.1).bind fun b1 =>
 match b1 with
 | true=>(some (.ret,(z4v x0 x1 x2 x3 x4 x10 x11 x12 x13),p0.2))
 | false=>(some (.normal,(z4v x0 x1 x2 x3 x4 x10 x11 x12 x13),p0.2)))
 | false=>(some (.normal,(z4v x0 x1 x2 x3 x4 x10 x11 x12 x13),h))
def z76 (M:Env) (x0:V) (x1 x2 x3:Int) (x4:V) (x10 x11:Bool) (x12 x13:Int) (h:H):Rl :=
 match decide (0<x1) with
 | true=>((z0 1 x0 (.int .i64 (wr .i64 (x1-1)))).bind fun v0 =>
 (h.ld1 v0).bind fun v1 =>
 (z0 1 x0 x13).bind fun v2 =>
 (h.ld1 v2).bind fun v3 =>
 z7w M x4 [v1,v3] h fun p4 =>
 (asI .i64 p4.1).bind fun n5 =>
 match (!(decide (n5<0))) with
 | true=>((M.call 456 [x0,x1,x2,x13,x4] p4.2).bind fun p6 =>
 some ((.exit 1),(z49 x0 p6.1 x2 x3 x4 x10 x11 x12 x13),p6.2))
 | false=>(some (.normal,(z49 x0 x1 x2 x3 x4 x10 x11 x12 x13),p4.2)))
 | false=>(some (.normal,(z49 x0 x1 x2 x3 x4 x10 x11 x12 x13),h))
def z78 (M:Env) (x0:V) (x1 x2 x3:Int) (x4 x10 x11:V) (x12 x13:Int) (h:H):Rl :=
 (M.call 457 [x0,x1,x2,x13,x4] h).bind fun p0 =>
 match p0.1 with
 | .tup vs1=>((vs1[0]?).bind fun v2 =>
 match p0.1 with
 | .tup vs3=>((vs3[1]?).bind fun v4 =>
 (asI .i64 v2).bind fun n5 =>
 (asI .i64 v2).bind fun n6 =>
 match (decide ((wr .i64 (n5-x1))<(wr .i64 (x2-n6)))) with
 | true=>((M.call 405 [x0,x1,v2,x3,x4] p0.2).bind fun p7 =>
 (asI .i64 v2).bind fun n8 =>
 some (.normal,(z1x x0 (.int .i64 (wr .i64 (n8+1))) x2 x3 x4 (.bool (decide ((wr .i64 (Int.tdiv x12 8))<=(wr .i64 (n5-x1))))) v4),p7.2))
 | false=>((asI .i64 v2).bind fun n7 =>
 (M.call 405 [x0,(.int .i64 (wr .i64 (n7+1))),x2,x3,x4] p0.2).bind fun p8 =>
 some (.normal,(z1x x0 x1 v2 x3 x4 (.bool (decide ((wr .i64 (Int.tdiv x12 8))<=(wr .i64 (x2-n6))))) v4),p8.2)))
 | _=>none)
 | _=>none
def zh2 (M:Env) (x0:V) (x1 x2 x3:Int) (x4:V) (x10 x11:Bool) (x12 x13:V) (h:H):Rl :=
 some (.normal,(z1x x0 x1 x2 x3 x4 x10 x11),h)
theorem zu2:z06 M F.zt [a0,(.int .i64 a1),(.int .i64 a2),(.int .i64 a3),a4] h=zt M a0 a1 a2 a3 a4 h:=by kernel_rfl
theorem zqe:zid M (z1x x0 (.int .i64 x1) (.int .i64 x2) (.int .i64 x3) x4 (.bool x10) (.bool x11)) h=z4x M x0 x1 x2 x3 x4 x10 x11 h:=by kernel_rfl
theorem zp7:zdg M .ret z30 h=zrc M h:=by kernel_rfl
theorem zqh:zbn M (zbo x0 (.int .i64 x1) (.int .i64 x2) (.int .i64 x3) x4 (.bool x10) (.bool x11) (.int .i64 x12)) h=zbt M x0 x1 x2 x3 x4 x10 x11 x12 h:=by kernel_rfl
theorem zgo:z63 M .normal (zbw x0 (.int .i64 x1) (.int .i64 x2) (.int .i64 x3) x4 (.bool x10) (.bool x11) (.int .i64 x12)) h=zbr M x0 x1 x2 x3 x4 x10 x11 x12 h:=by kernel_rfl
theorem zq8:zc0 M (zc4 x0 (.int .i64 x1) (.int .i64 x2) (.int .i64 x3) x4 (.bool x10) (.bool x11) (.int .i64 x12) (.int .i64 x13) (.int .i64 x14)) h=zbm M x0 x1 x2 x3 x4 x10 x11 x12 x13 x14 h:=by kernel_rfl
theorem zgm:z62 M .normal (zbx x0 (.int .i64 x1) (.int .i64 x2) (.int .i64 x3) x4 (.bool x10) (.bool x11) (.int .i64 x12) (.int .i64 x13) (.int .i64 x14)) h=zbp M x0 x1 x2 x3 x4 x10 x11 x12 x13 x14 h:=by kernel_rfl
theorem zqb:zi9 M (zie x0 (.int .i64 x1) (.int .i64 x2) (.int .i64 x3) x4 (.bool x10) (.bool x11) (.int .i64 x12) (.int .i64 x13) (.int .i64 x14)) h=zif M x0 x1 x2 x3 x4 x10 x11 x12 x13 x14 h:=by kernel_rfl
theorem zgn:z29 M .normal (z4v x0 (.int .i64 x1) (.int .i64 x2) (.int .i64 x3) x4 (.bool x10) (.bool x11) (.int .i64 x12) (.int .i64 x13)) h=zc6 M x0 x1 x2 x3 x4 x10 x11 x12 x13 h:=by kernel_rfl
theorem zox:z29 M .ret (z4v x0 x1 x2 x3 x4 x10 x11 x12 x13) h=zij M x0 x1 x2 x3 x4 x10 x11 x12 x13 h:=by kernel_rfl
theorem zqd:zib M (zii x0 (.int .i64 x1) (.int .i64 x2) (.int .i64 x3) x4 (.bool x10) (.bool x11) (.int .i64 x12) (.int .i64 x13) (.int .i64 x14)) h=z7h M x0 x1 x2 x3 x4 x10 x11 x12 x13 x14 h:=by kernel_rfl
theorem zp0:zdj M .normal (z4y x0 (.int .i64 x1) (.int .i64 x2) (.int .i64 x3) x4 (.bool x10) (.bool x11) (.int .i64 x12) (.int .i64 x13) (.bool x75)) h=z7j M x0 x1 x2 x3 x4 x10 x11 x12 x13 x75 h:=by kernel_rfl
theorem zps:zhi M (zhu x0 (.int .i64 x1) (.int .i64 x2) (.int .i64 x3) x4 (.bool x10) (.bool x11) (.int .i64 x12) (.int .i64 x13)) h=z76 M x0 x1 x2 x3 x4 x10 x11 x12 x13 h:=by kernel_rfl
theorem zfu:z3f M .normal (z49 x0 (.int .i64 x1) (.int .i64 x2) (.int .i64 x3) x4 x10 x11 (.int .i64 x12) (.int .i64 x13)) h=z78 M x0 x1 x2 x3 x4 x10 x11 x12 x13 h:=by kernel_rfl
theorem zn9:z3f M (.exit 1) (z49 x0 (.int .i64 x1) (.int .i64 x2) (.int .i64 x3) x4 (.bool x10) (.bool x11) x12 x13) h=zh2 M x0 x1 x2 x3 x4 x10 x11 x12 x13 h:=by kernel_rfl
def z28 (M:Env) (a0 a1:V) (h:H):Rf :=
 (lenSl a0).bind fun n0 =>
 (M.call 406 [(.int .u64 (wr .u64 (n0:Int)))] h).bind fun p1 =>
 (M.call 405 [a0,(0:Int),(.int .i64 (n0:Int)),p1.1,a1] p1.2).bind fun p2 =>
 some ((.tup []),p2.2)
theorem zu5:z06 M F.z28 [a0,a1] h=z28 M a0 a1 h:=by kernel_rfl
def z00t (M:Env):=lb M F.z0cb [1,2,5,6,18,19] [1,2,5,6]
def zmq (x1 x2 x5 x6 x18 x19:V):List V:=dd 1 (x1 :: x2 :: dd 2 (x5 :: x6 :: dd 11 (x18 :: x19 :: dd 69 [])))
def zto (x1 x2 x5 x6:V):List V:=dd 1 (x1 :: x2 :: dd 2 (x5 :: x6 :: dd 82 []))
def z00z (M:Env):=lb M F.z0c9 [1,2,5,30,31,32] [4]
def z7s (x1 x2 x5 x30 x31 x32:V):List V:=dd 1 (x1 :: x2 :: dd 2 (x5 :: dd 24 (x30 :: x31 :: x32 :: dd 56 [])))
def z24 (x4:V):List V:=dd 4 (x4 :: dd 84 [])
def z03w (M:Env):=kf F.z98
def z0c4 (M:Env):=kq M F.z0cn (z03w M)
def zxd (M:Env):=kb 0 (z0c4 M)
def z0c1 (M:Env):=kq M F.z0cs (z03w M)
def zlw (M:Env):=kb 2 (z0c1 M)
def z98 (M:Env) (a0:V) (a1:Int) (h:H):Rf :=
 (boxc a0).bind fun cs0 =>
 let h1:=h.new (.cells cs0 .rw)
 let h2:=h1.new (.map [])
 (h2.ld1 (.ptr h.next 0)).bind fun v3 =>
 (lenSl v3).bind fun n4 =>
 (h2.mkSl 1 8 [(0:Int)] (n4:Int) (n4:Int)).bind fun p5 =>
 (lenSl p5.1).bind fun n6 =>
 (M.loop (z00t M) (zmq a1 (.ptr h.next 0) (.map h1.next) p5.1 (.int .i64 (n6:Int)) (0:Int)) p5.2).bind fun p7=>zxd M p7.1 p7.2.1 p7.2.2
def zsj (M:Env) (x1:Int) (x2 x5 x6:V) (x18 x19:Int) (h:H):Rl :=
 match decide (x19<x18) with
 | true=>((z0 1 x6 x19).bind fun v0 =>
 (h.st 1 v0 x19).bind fun h1 =>
 some (.normal,(zmq x1 x2 x5 x6 x18 (.int .i64 (wr .i64 (x19+1)))),h1))
 | false=>(some ((.exit 0),(zto x1 x2 x5 x6),h))
def zzm (M:Env) (x1:Int) (x2 x5 x6:V) (h:H):Rf :=
 (M.call 332 [x6,(.fn 333 [x2])] h).bind fun p0 =>
 (lenSl x6).bind fun n1 =>
 (M.loop (z00z M) (z7s x1 x2 x5 x6 (.int .i64 (n1:Int)) (0:Int)) p0.2).bind fun p2=>zlw M p2.1 p2.2.1 p2.2.2
def zmo (M:Env) (x1:Int) (x2 x5 x30:V) (x31 x32:Int) (h:H):Rl :=
 match decide (x32<x31) with
 | true=>((z0 1 x30 x32).bind fun v0 =>
 (h.ld1 v0).bind fun v1 =>
 (h.ld1 x2).bind fun v2 =>
 (z0 14 v2 v1).bind fun v3 =>
 (h.ldN 14 v3).bind fun v4 =>
 let h5:=h.new (.cells [(0:Int),(0:Int),(0:Int),(0:Int),(0:Int),false,(0:Int),(0:Int),(.int .u64 0),(.int .u64 0),(.int .u64 0),(0:Int),(.int .u64 0),false] .rw)
 (h5.st 14 (.ptr h.next 0) v4).bind fun h6 =>
 (h6.ld1 (.ptr h.next 0)).bind fun v7 =>
 (asI .i64 v7).bind fun n8 =>
 match decide (n8<0) with
 | true=>(some (.ret,(z24 false),h6))
 | false=>((h6.ld1 (.ptr h.next 0)).bind fun v9 =>
 (asI .i64 v9).bind fun n10 =>
 match decide (x1<=n10) with
 | true=>(some (.ret,(z24 false),h6))
 | false=>((h6.ld1 (.ptr h.next 2)).bind fun v11 =>
 (h6.ld1 (.ptr h.next 3)).bind fun v12 =>
 (asI .i64 v11).bind fun n13 =>
 (asI .i64 v12).bind fun n14 =>
 match decide (n14<n13) with
 | true=>(some (.ret,(z24 false),h6))
 | false=>((h6.ld1 (.ptr h.next 3)).bind fun v15 =>
 (h6.ld1 (.ptr h.next 4)).bind fun v16 =>
 (asI .i64 v15).bind fun n17 =>
 (asI .i64 v16).bind fun n18 =>
 match decide (n18<n17) with
 | true=>(some (.ret,(z24 false),h6))
 | false=>((h6.ld1 (.ptr h.next 0)).bind fun v19 =>
 (h6.look .int (.agg [(0:Int),(0:Int),(0:Int),(0:Int),(0:Int),false,(0:Int),(0:Int),(.int .u64 0),(.int .u64 0),(.int .u64 0),(0:Int),(.int .u64 0),false]) true x5 v19).bind fun v20 =>
 match v20 with
 | .tup vs21=>((vs21[0]?).bind fun v22 =>
 match v20 with
 | .tup vs23=>((vs23[1]?).bind fun v24 =>
 let h25:=h6.new (.cells [(0:Int),(0:Int),(0:Int),(0:Int),(0:Int),false,(0:Int),(0:Int),(.int .u64 0),(.int .u64 0),(.int .u64 0),(0:Int),(.int .u64 0),false] .rw)
 (h25.st 14 (.ptr h6.next 0) v22).bind fun h26 =>
 match v24 with
 | .bool true=>(
 (h26.ld1 (.ptr h6.next 1)).bind fun v27 =>
 (h26.ld1 (.ptr h.next 1)).bind fun v28 =>
 (asI .i64 v27).bind fun n29 =>
 (asI .i64 v28).bind fun n30 =>
 match decide (n29=n30) with
 | true=>(some (.ret,(z24 false),h26))
 | false=>((h26.ldN 14 (.ptr h6.next 0)).bind fun v31 =>
 (h26.ldN 14 (.ptr h.next 0)).bind fun v32 =>
 (M.call 183 [v31,v32] h26).bind fun p33 =>
 (asB p33.1).bind fun b34 =>
 match (!b34) with
 | true=>(some (.ret,(z24 false),p33.2))
 | false=>((p33.2.ld1 (.ptr h.next 0)).bind fun v35 =>
 (p33.2.ldN 14 (.ptr h.next 0)).bind fun v36 =>
 (p33.2.mapSet .int x5 v35 v36).bind fun h37 =>
 some (.normal,(z7s x1 x2 x5 x30 x31 (.int .i64 (wr .i64 (x32+1)))),h37))))
 | .bool false=>(
 (h26.ld1 (.ptr h.next 0)).bind fun v27 =>
 (h26.ldN 14 (.ptr h.next 0)).bind fun v28 =>
 (h26.mapSet .int x5 v27 v28).bind fun h29 =>
 some (.normal,(z7s x1 x2 x5 x30 x31 (.int .i64 (wr .i64 (x32+1)))),h29))
 | .tup []=>(
 match v24 with
 | .bool true=>(
 none)
 | .bool false=>(
 (h26.ld1 (.ptr h.next 0)).bind fun v27 =>
 (h26.ldN 14 (.ptr h.next 0)).bind fun v28 =>
 (h26.mapSet .int x5 v27 v28).bind fun h29 =>
 some (.normal,(z7s x1 x2 x5 x30 x31 (.int .i64 (wr .i64 (x32+1)))),h29))
 | .tup []=>(
 (asB v24).bind fun b27 =>
 (asB (match b27 with | true=>(.tup []) | false=>false:V)).bind fun b28 =>
 match b28 with
 | true=>(some (.ret,(z24 false),h26))
 | false=>((h26.ld1 (.ptr h.next 0)).bind fun v29 =>
 (h26.ldN 14 (.ptr h.next 0)).bind fun v30 =>
 (h26.mapSet .int x5 v29 v30).bind fun h31 =>
 some (.normal,(z7s x1 x2 x5 x30 x31 (.int .i64 (wr .i64 (x32+1)))),h31)))
 | _=>none)
 | _=>none)
 | _=>none)
 | _=>none)))))
 | false=>(some ((.exit 2),(z24 .dead),h))
def z08a (M:Env) (x4:V) (h:H):Rf :=
 some (true,h)
def z092 (M:Env) (x4:Bool) (h:H):Rf :=
 some (x4,h)
theorem z0co:z06 M F.z98 [a0,(.int .i64 a1)] h=z98 M a0 a1 h:=by kernel_rfl
theorem z083:z00t M (zmq (.int .i64 x1) x2 x5 x6 (.int .i64 x18) (.int .i64 x19)) h=zsj M x1 x2 x5 x6 x18 x19 h:=by kernel_rfl
theorem z05b:zxd M (.exit 0) (zto (.int .i64 x1) x2 x5 x6) h=zzm M x1 x2 x5 x6 h:=by kernel_rfl
theorem z089:z00z M (z7s (.int .i64 x1) x2 x5 x30 (.int .i64 x31) (.int .i64 x32)) h=zmo M x1 x2 x5 x30 x31 x32 h:=by kernel_rfl
theorem z04q:zlw M (.exit 2) (z24 x4) h=z08a M x4 h:=by kernel_rfl
theorem z06h:zlw M .ret (z24 (.bool x4)) h=z092 M x4 h:=by kernel_rfl
def zey (M:Env) (a0 a1:Int) (f0:V) (h:H):Rf :=
 (h.ld1 f0).bind fun v0 =>
 (z0 14 v0 a0).bind fun v1 =>
 (za v1 1).bind fun v2 =>
 (h.ld1 v2).bind fun v3 =>
 (h.ld1 f0).bind fun v4 =>
 (z0 14 v4 a1).bind fun v5 =>
 (za v5 1).bind fun v6 =>
 (h.ld1 v6).bind fun v7 =>
 (M.call 334 [v3,v7] h).bind fun p8 =>
 some (p8.1,p8.2)
theorem z0a1:z06 M F.zey [(.int .i64 a0),(.int .i64 a1),f0] h=zey M a0 a1 f0 h:=by kernel_rfl
def z8t (M:Env) (a0 a1:Int) (h:H):Rf :=
 (M.call 407 [a0] h).bind fun p0 =>
 (M.call 407 [a1] p0.2).bind fun p1 =>
 (asB p0.1).bind fun b2 =>
 match b2 with
 | true=>((asB p1.1).bind fun b3 =>
 match b3 with
 | true=>(some ((0:Int),p1.2))
 | false=>(some ((.int .i64 (-1)),p1.2)))
 | false=>((asB p1.1).bind fun b3 =>
 match b3 with
 | true=>(some ((1:Int),p1.2))
 | false=>(match decide (a0<a1) with
 | true=>(some ((.int .i64 (-1)),p1.2))
 | false=>(match decide (a1<a0) with
 | true=>(some ((1:Int),p1.2))
 | false=>(some ((0:Int),p1.2)))))
theorem z04w:z06 M F.z8t [(.int .i64 a0),(.int .i64 a1)] h=z8t M a0 a1 h:=by kernel_rfl
def zbe (M:Env) (a0:Int) (h:H):Rf :=
 some ((.bool (!decide (a0=a0))),h)
theorem z07m:z06 M F.zbe [(.int .i64 a0)] h=zbe M a0 h:=by kernel_rfl
def zix (M:Env):=lb M F.zuw [0,1,2,6,7,8] [0,1,2,6,7]
def z7o (x0 x1 x2 x6 x7 x8:V):List V:=x0 :: x1 :: x2 :: dd 3 (x6 :: x7 :: x8 :: dd 54 [])
def zd0 (x0 x1 x2 x6 x7:V):List V:=x0 :: x1 :: x2 :: dd 3 (x6 :: x7 :: dd 55 [])
def ziy (M:Env):=lb M F.zvp [0,1,2,6] []
def z3a (x0 x1 x2 x6:V):List V:=x0 :: x1 :: x2 :: dd 3 (x6 :: dd 56 [])
def zd2:List V:=dd 63 []
def zj0 (M:Env):=lb M F.zv0 [0,1,2,6,7,8] [0,1,2,6,7]
def z7p (x0 x1 x2 x6 x7 x8:V):List V:=x0 :: x1 :: x2 :: dd 3 (x6 :: x7 :: x8 :: dd 54 [])
def zcq (x0 x1 x2 x6 x7:V):List V:=x0 :: x1 :: x2 :: dd 3 (x6 :: x7 :: dd 55 [])
def zk5 (M:Env):=kf F.z0h
def zuy (M:Env):=kq M F.zvc (zk5 M)
def ze2 (M:Env):=kb 0 (zuy M)
def zdx (M:Env):=kb 2 (zk5 M)
def zv4 (M:Env):=kl [0,1,2,6] []
def zvn (M:Env):=kb 3 (zv4 M)
def zve (M:Env):=kq M F.zv3 (zvn M)
def zds (M:Env):=kb 4 (zve M)
def z0h (M:Env) (a0:V) (a1:Int) (a2:V) (h:H):Rf :=
 (M.loop (zix M) (z7o a0 a1 a2 (20:Int) (0:Int) (20:Int)) h).bind fun p0=>ze2 M p0.1 p0.2.1 p0.2.2
def zcx (M:Env) (x0:V) (x1:Int) (x2:V) (x6 x7 x8:Int) (h:H):Rl :=
 match decide (x8<=x1) with
 | true=>((M.call 450 [x0,x7,x8,x2] h).bind fun p0 =>
 some (.normal,(z7o x0 x1 x2 x6 x8 (.int .i64 (wr .i64 (x8+x6)))),p0.2))
 | false=>(some ((.exit 0),(zd0 x0 x1 x2 x6 x7),h))
def zia (M:Env) (x0:V) (x1:Int) (x2:V) (x6 x7:Int) (h:H):Rf :=
 (M.call 450 [x0,x7,x1,x2] h).bind fun p0 =>
 (M.loop (ziy M) (z3a x0 x1 x2 x6) p0.2).bind fun p1=>zdx M p1.1 p1.2.1 p1.2.2
def z7v (M:Env) (x0:V) (x1:Int) (x2:V) (x6:Int) (h:H):Rl :=
 match decide (x6<x1) with
 | true=>((M.loop (zj0 M) (z7p x0 x1 x2 x6 (0:Int) (.int .i64 (wr .i64 (2 * x6)))) h).bind fun p0=>zds M p0.1 p0.2.1 p0.2.2)
 | false=>(some ((.exit 2),zd2,h))
def zrt (M:Env) (h:H):Rf :=
 some ((.tup []),h)
def zd1 (M:Env) (x0:V) (x1:Int) (x2:V) (x6 x7 x8:Int) (h:H):Rl :=
 match decide (x8<=x1) with
 | true=>((M.call 460 [x0,x7,(.int .i64 (wr .i64 (x7+x6))),x8,x2] h).bind fun p0 =>
 some (.normal,(z7p x0 x1 x2 x6 x8 (.int .i64 (wr .i64 (x8+(wr .i64 (2 * x6)))))),p0.2))
 | false=>(some ((.exit 4),(zcq x0 x1 x2 x6 x7),h))
def zbs (M:Env) (x0:V) (x1:Int) (x2:V) (x6 x7:Int) (h:H):Rl :=
 match (decide ((wr .i64 (x7+x6))<x1)) with
 | true=>((M.call 460 [x0,x7,(.int .i64 (wr .i64 (x7+x6))),x1,x2] h).bind fun p0 =>
 some (.normal,(z3a x0 x1 x2 (.int .i64 (wr .i64 (x6 * 2)))),p0.2))
 | false=>(some (.normal,(z3a x0 x1 x2 (.int .i64 (wr .i64 (x6 * 2)))),h))
theorem zvo:z06 M F.z0h [a0,(.int .i64 a1),a2] h=z0h M a0 a1 a2 h:=by kernel_rfl
theorem zs0:zix M (z7o x0 (.int .i64 x1) x2 (.int .i64 x6) (.int .i64 x7) (.int .i64 x8)) h=zcx M x0 x1 x2 x6 x7 x8 h:=by kernel_rfl
theorem zp6:ze2 M (.exit 0) (zd0 x0 (.int .i64 x1) x2 (.int .i64 x6) (.int .i64 x7)) h=zia M x0 x1 x2 x6 x7 h:=by kernel_rfl
theorem zri:ziy M (z3a x0 (.int .i64 x1) x2 (.int .i64 x6)) h=z7v M x0 x1 x2 x6 h:=by kernel_rfl
theorem zou:zdx M (.exit 2) zd2 h=zrt M h:=by kernel_rfl
theorem zsa:zj0 M (z7p x0 (.int .i64 x1) x2 (.int .i64 x6) (.int .i64 x7) (.int .i64 x8)) h=zd1 M x0 x1 x2 x6 x7 x8 h:=by kernel_rfl
theorem zp1:zds M (.exit 4) (zcq x0 (.int .i64 x1) x2 (.int .i64 x6) (.int .i64 x7)) h=zbs M x0 x1 x2 x6 x7 h:=by kernel_rfl
def z13 (M:Env) (a0 a1:V) (h:H):Rf :=
 (lenSl a0).bind fun n0 =>
 (M.call 408 [a0,(.int .i64 (n0:Int)),a1] h).bind fun p1 =>
 some ((.tup []),p1.2)
theorem zon:z06 M F.z13 [a0,a1] h=z13 M a0 a1 h:=by kernel_rfl
def zeu (M:Env) (a0 a1:Int) (f0:V) (h:H):Rf :=
 (h.ld1 f0).bind fun v0 =>
 (z0 14 v0 a0).bind fun v1 =>
 (h.ldN 14 v1).bind fun v2 =>
 (h.ld1 f0).bind fun v3 =>
 (z0 14 v3 a1).bind fun v4 =>
 (h.ldN 14 v4).bind fun v5 =>
 let h6:=h.new (.cells [(0:Int),(0:Int),(0:Int),(0:Int),(0:Int),false,(0:Int),(0:Int),(.int .u64 0),(.int .u64 0),(.int .u64 0),(0:Int),(.int .u64 0),false] .rw)
 let h7:=h6.new (.cells [(0:Int),(0:Int),(0:Int),(0:Int),(0:Int),false,(0:Int),(0:Int),(.int .u64 0),(.int .u64 0),(.int .u64 0),(0:Int),(.int .u64 0),false] .rw)
 (h7.st 14 (.ptr h.next 0) v2).bind fun h8 =>
 match ckB (h8.ldN 14 v4) v5 with
 | true=>(match ckB (h8.ld1 f0) v3 with
 | true=>((h8.st 14 (.ptr h6.next 0) v5).bind fun h9 =>
 (h9.ld1 (.ptr h.next 3)).bind fun v10 =>
 (h9.ld1 (.ptr h6.next 3)).bind fun v11 =>
 (h9.ldN 14 (.ptr h.next 0)).bind fun v12 =>
 (h9.ldN 14 (.ptr h6.next 0)).bind fun v13 =>
 (h9.ld1 (.ptr h.next 0)).bind fun v14 =>
 (h9.ld1 (.ptr h6.next 0)).bind fun v15 =>
 (h9.ld1 (.ptr h.next 1)).bind fun v16 =>
 (h9.ld1 (.ptr h6.next 1)).bind fun v17 =>
 (M.call 334 [v10,v11] h9).bind fun p18 =>
 match ckB (p18.2.ld1 (.ptr h6.next 1)) v17 with
 | true=>(match ckB (p18.2.ld1 (.ptr h.next 1)) v16 with
 | true=>(match ckB (p18.2.ld1 (.ptr h6.next 0)) v15 with
 | true=>(match ckB (p18.2.ld1 (.ptr h.next 0)) v14 with
 | true=>(match ckB (p18.2.ldN 14 (.ptr h6.next 0)) v13 with
 | true=>(match ckB (p18.2.ldN 14 (.ptr h.next 0)) v12 with
 | true=>((M.call 338 [v12] p18.2).bind fun p19 =>
 match ckB (p19.2.ld1 (.ptr h6.next 1)) v17 with
 | true=>(match ckB (p19.2.ld1 (.ptr h.next 1)) v16 with
 | true=>(match ckB (p19.2.ld1 (.ptr h6.next 0)) v15 with
 | true=>(match ckB (p19.2.ld1 (.ptr h.next 0)) v14 with
 | true=>(match ckB (p19.2.ldN 14 (.ptr h6.next 0)) v13 with
 | true=>((M.call 338 [v13] p19.2).bind fun p20 =>
 match ckB (p20.2.ld1 (.ptr h6.next 1)) v17 with
 | true=>(match ckB (p20.2.ld1 (.ptr h.next 1)) v16 with
 | true=>(match ckB (p20.2.ld1 (.ptr h6.next 0)) v15 with
 | true=>(match ckB (p20.2.ld1 (.ptr h.next 0)) v14 with
 | true=>((M.call 334 [p19.1,p20.1] p20.2).bind fun p21 =>
 match ckB (p21.2.ld1 (.ptr h6.next 1)) v17 with
 | true=>(match ckB (p21.2.ld1 (.ptr h.next 1)) v16 with
 | true=>(match ckB (p21.2.ld1 (.ptr h6.next 0)) v15 with
 | true=>(match ckB (p21.2.ld1 (.ptr h.next 0)) v14 with
 | true=>((M.call 334 [v14,v15] p21.2).bind fun p22 =>
 match ckB (p22.2.ld1 (.ptr h6.next 1)) v17 with
 | true=>(match ckB (p22.2.ld1 (.ptr h.next 1)) v16 with
 | true=>((M.call 334 [v16,v17] p22.2).bind fun p23 =>
 (fill (repl [(0:Int)] 4) [] [(0,1,.c p18.1),(1,1,.c p21.1),(2,1,.c p22.1),(3,1,.c p23.1)]).bind fun cs24 =>
 let h25:=p23.2.new (.cells cs24 .rw)
 (M.call 337 [(.sl p23.2.next 0 4 (.ex 4))] h25).bind fun p26 =>
 some (p26.1,p26.2))
 | false=>none)
 | false=>none)
 | false=>none)
 | false=>none)
 | false=>none)
 | false=>none)
 | false=>none)
 | false=>none)
 | false=>none)
 | false=>none)
 | false=>none)
 | false=>none)
 | false=>none)
 | false=>none)
 | false=>none)
 | false=>none)
 | false=>none)
 | false=>none)
 | false=>none)
 | false=>none)
 | false=>none)
 | false=>none)
 | false=>none
theorem z09c:z06 M F.zeu [(.int .i64 a0),(.int .i64 a1),f0] h=zeu M a0 a1 f0 h:=by kernel_rfl
def zzi (M:Env):=lb M F.z0ag [3,6,7,8] [2,3]
def zlf (x3 x6 x7 x8:V):List V:=dd 3 (x3 :: dd 2 (x6 :: x7 :: x8 :: dd 9 []))
def zdu (x2 x3:V):List V:=dd 2 (x2 :: x3 :: dd 14 [])
def z0am (M:Env):=kf F.zaf
def z0as (M:Env):=kq M F.z0aq (z0am M)
def zkc (M:Env):=kb 0 (z0as M)
def zaf (M:Env) (a0:V) (h:H):Rf :=
 (lenSl a0).bind fun n0 =>
 (M.loop (zzi M) (zlf (0:Int) a0 (.int .i64 (n0:Int)) (0:Int)) h).bind fun p1=>zkc M p1.1 p1.2.1 p1.2.2
def zlj (M:Env) (x3:Int) (x6:V) (x7 x8:Int) (h:H):Rl :=
 match decide (x8<x7) with
 | true=>((z0 1 x6 x8).bind fun v0 =>
 (h.ld1 v0).bind fun v1 =>
 (asI .i64 v1).bind fun n2 =>
 match (!decide (n2=x3)) with
 | true=>(some (.ret,(zdu v1 x3),h))
 | false=>(some (.normal,(zlf x3 x6 x7 (.int .i64 (wr .i64 (x8+1)))),h)))
 | false=>(some ((.exit 0),(zdu .dead x3),h))
def z07p (M:Env) (x2:V) (x3:Int) (h:H):Rf :=
 some (x3,h)
def z08i (M:Env) (x2:Int) (x3:V) (h:H):Rf :=
 some (x2,h)
theorem z0ae:z06 M F.zaf [a0] h=zaf M a0 h:=by kernel_rfl
theorem z07n:zzi M (zlf (.int .i64 x3) x6 (.int .i64 x7) (.int .i64 x8)) h=zlj M x3 x6 x7 x8 h:=by kernel_rfl
theorem z03a:zkc M (.exit 0) (zdu x2 (.int .i64 x3)) h=z07p M x2 x3 h:=by kernel_rfl
theorem z04g:zkc M .ret (zdu (.int .i64 x2) x3) h=z08i M x2 x3 h:=by kernel_rfl
def zep (M:Env) (a0_0 a0_1 a0_2 a0_3 a0_4:Int) (a0_5:Bool) (a0_6 a0_7 a0_8 a0_9 a0_10 a0_11 a0_12:Int) (a0_13:Bool) (h:H):Rf :=
 let h0:=h.new (.cells [a0_0,a0_1,a0_2,a0_3,a0_4,a0_5,a0_6,a0_7,(.int .u64 a0_8),(.int .u64 a0_9),(.int .u64 a0_10),a0_11,(.int .u64 a0_12),a0_13] .rw)
 (h0.ld1 (.ptr h.next 5)).bind fun v1 =>
 (asB v1).bind fun b2 =>
 match b2 with
 | true=>(some ((1:Int),h0))
 | false=>(some ((0:Int),h0))
theorem z0at:z06 M F.zep [(.agg [(.int .i64 a0_0),(.int .i64 a0_1),(.int .i64 a0_2),(.int .i64 a0_3),(.int .i64 a0_4),(.bool a0_5),(.int .i64 a0_6),(.int .i64 a0_7),(.int .u64 a0_8),(.int .u64 a0_9),(.int .u64 a0_10),(.int .i64 a0_11),(.int .u64 a0_12),(.bool a0_13)])] h=zep M a0_0 a0_1 a0_2 a0_3 a0_4 a0_5 a0_6 a0_7 a0_8 a0_9 a0_10 a0_11 a0_12 a0_13 h:=by kernel_rfl
def z5c (M:Env) (a0_0 a0_1 a0_2 a0_3 a0_4:Int) (a0_5:Bool) (a0_6 a0_7 a0_8 a0_9 a0_10 a0_11 a0_12:Int) (a0_13:Bool) (a1_0 a1_1 a1_2 a1_3 a1_4:Int) (a1_5:Bool) (a1_6 a1_7 a1_8 a1_9 a1_10 a1_11 a1_12:Int) (a1_13:Bool) (h:H):Rf :=
 let h0:=h.new (.cells [a0_0,a0_1,a0_2,a0_3,a0_4,a0_5,a0_6,a0_7,(.int .u64 a0_8),(.int .u64 a0_9),(.int .u64 a0_10),a0_11,(.int .u64 a0_12),a0_13] .rw)
 let h1:=h0.new (.cells [a1_0,a1_1,a1_2,a1_3,a1_4,a1_5,a1_6,a1_7,(.int .u64 a1_8),(.int .u64 a1_9),(.int .u64 a1_10),a1_11,(.int .u64 a1_12),a1_13] .rw)
 (h1.ld1 (.ptr h.next 3)).bind fun v2 =>
 (h1.ld1 (.ptr h0.next 3)).bind fun v3 =>
 (asI .i64 v2).bind fun n4 =>
 (asI .i64 v3).bind fun n5 =>
 match (!decide (n4=n5)) with
 | true=>((h1.ld1 (.ptr h.next 3)).bind fun v6 =>
 (h1.ld1 (.ptr h0.next 3)).bind fun v7 =>
 (asI .i64 v6).bind fun n8 =>
 (asI .i64 v7).bind fun n9 =>
 some ((.bool (decide (n8<n9))),h1))
 | false=>((h1.ld1 (.ptr h.next 5)).bind fun v6 =>
 (h1.ld1 (.ptr h0.next 5)).bind fun v7 =>
 (eqV .bool v6 v7).bind fun b8 =>
 match (!b8) with
 | true=>((h1.ld1 (.ptr h0.next 5)).bind fun v9 =>
 some (v9,h1))
 | false=>((h1.ld1 (.ptr h.next 0)).bind fun v9 =>
 (h1.ld1 (.ptr h0.next 0)).bind fun v10 =>
 (asI .i64 v9).bind fun n11 =>
 (asI .i64 v10).bind fun n12 =>
 match (!decide (n11=n12)) with
 | true=>((h1.ld1 (.ptr h.next 0)).bind fun v13 =>
 (h1.ld1 (.ptr h0.next 0)).bind fun v14 =>
 (asI .i64 v13).bind fun n15 =>
 (asI .i64 v14).bind fun n16 =>
 some ((.bool (decide (n15<n16))),h1))
 | false=>((h1.ld1 (.ptr h.next 1)).bind fun v13 =>
 (h1.ld1 (.ptr h0.next 1)).bind fun v14 =>
 (asI .i64 v13).bind fun n15 =>
 (asI .i64 v14).bind fun n16 =>
 some ((.bool (decide (n15<n16))),h1))))
theorem z06e:z06 M F.z5c [(.agg [(.int .i64 a0_0),(.int .i64 a0_1),(.int .i64 a0_2),(.int .i64 a0_3),(.int .i64 a0_4),(.bool a0_5),(.int .i64 a0_6),(.int .i64 a0_7),(.int .u64 a0_8),(.int .u64 a0_9),(.int .u64 a0_10),(.int .i64 a0_11),(.int .u64 a0_12),(.bool a0_13)]),(.agg [(.int .i64 a1_0),(.int .i64 a1_1),(.int .i64 a1_2),(.int .i64 a1_3),(.int .i64 a1_4),(.bool a1_5),(.int .i64 a1_6),(.int .i64 a1_7),(.int .u64 a1_8),(.int .u64 a1_9),(.int .u64 a1_10),(.int .i64 a1_11),(.int .u64 a1_12),(.bool a1_13)])] h=z5c M a0_0 a0_1 a0_2 a0_3 a0_4 a0_5 a0_6 a0_7 a0_8 a0_9 a0_10 a0_11 a0_12 a0_13 a1_0 a1_1 a1_2 a1_3 a1_4 a1_5 a1_6 a1_7 a1_8 a1_9 a1_10 a1_11 a1_12 a1_13 h:=by kernel_rfl
def z00v (M:Env):=lb M F.z0ca [1,3,9,10] [1,3]
def zmn (x1 x3 x9 x10:V):List V:=dd 1 (x1 :: dd 1 (x3 :: dd 5 (x9 :: x10 :: dd 11 [])))
def zsq (x1 x3:V):List V:=dd 1 (x1 :: dd 1 (x3 :: dd 18 []))
def z0c7 (M:Env):=kf F.zcj
def z0cg (M:Env):=kq M F.z0cj (z0c7 M)
def zxa (M:Env):=kb 0 (z0cg M)
def zcj (M:Env) (a0:V) (h:H):Rf :=
 (boxc a0).bind fun cs0 =>
 let h1:=h.new (.cells cs0 .rw)
 (h1.ld1 (.ptr h.next 0)).bind fun v2 =>
 (lenSl v2).bind fun n3 =>
 (h1.mkSl 1 8 [(0:Int)] (n3:Int) (n3:Int)).bind fun p4 =>
 (lenSl p4.1).bind fun n5 =>
 (M.loop (z00v M) (zmn (.ptr h.next 0) p4.1 (.int .i64 (n5:Int)) (0:Int)) p4.2).bind fun p6=>zxa M p6.1 p6.2.1 p6.2.2
def ztd (M:Env) (x1 x3:V) (x9 x10:Int) (h:H):Rl :=
 match decide (x10<x9) with
 | true=>((z0 1 x3 x10).bind fun v0 =>
 (h.st 1 v0 x10).bind fun h1 =>
 some (.normal,(zmn x1 x3 x9 (.int .i64 (wr .i64 (x10+1)))),h1))
 | false=>(some ((.exit 0),(zsq x1 x3),h))
def z00b (M:Env) (x1 x3:V) (h:H):Rf :=
 (M.call 335 [x3,(.fn 336 [x1])] h).bind fun p0 =>
 some (x3,p0.2)
theorem z0cc:z06 M F.zcj [a0] h=zcj M a0 h:=by kernel_rfl
theorem z08g:z00v M (zmn x1 x3 (.int .i64 x9) (.int .i64 x10)) h=ztd M x1 x3 x9 x10 h:=by kernel_rfl
theorem z05v:zxa M (.exit 0) (zsq x1 x3) h=z00b M x1 x3 h:=by kernel_rfl
end Wm.S
end
