/- PRINTED by my tool: what functions come to, stretch by stretch. -/
import Derived.KernelRfl
import Derived.Test.YthkimcdeejjmbaaWmShal
import Derived.Test.YthkimcdeejjmbaaWmFnsLinReplays
import Derived.Test.YthkimcdeejjmbaaWmTxtLinReplaysA
set_option linter.all false
noncomputable section
namespace Wm.S
open Wm
set_option maxRecDepth 100000
set_option autoImplicit true
set_option relaxedAutoImplicit true
def z3i (M:Env) (a0_0 a0_1 a0_2 a0_3 a0_4 a0_5:Int) (a0_6 a0_7 a0_8 a0_9 a0_10:V) (a1 a2 a3:Int) (h:H):Rf :=
 let h0:=h.new (.cells [a0_0,a0_1,a0_2,a0_3,a0_4,a0_5,a0_6,a0_7,a0_8,a0_9,a0_10] .rw)
 let h1:=h0.new (.cells [(0:Int),(0:Int),(0:Int),(0:Int),(0:Int),(0:Int),.nilsl,.nilsl,.nilsl,.nilsl,.nilsl] .rw)
 (h1.ld1 (.ptr h.next 10)).bind fun v2 =>
 let h3:=h1.new (.cells [(.int .u64 a2)] .rw)
 (h3.append 1 8 v2 (.sl h1.next 0 1 (.ex 1))).bind fun p4 =>
 (p4.2.st 1 (.ptr h.next 10) p4.1).bind fun h5 =>
 (h5.ld1 (.ptr h.next 7)).bind fun v6 =>
 let h7:=h5.new (.cells [a1,(.int .u64 a2),a3] .rw)
 (h7.append 3 24 v6 (.sl h5.next 0 1 (.ex 1))).bind fun p8 =>
 (p8.2.st 1 (.ptr h.next 7) p8.1).bind fun h9 =>
 (h9.ldN 11 (.ptr h.next 0)).bind fun v10 =>
 (h9.st 11 (.ptr h0.next 0) v10).bind fun h11 =>
 finV h11 [.cell true 11 (.ptr h0.next 0)]
theorem zxr:z06 M F.z3i [(.agg [(.int .i64 a0_0),(.int .i64 a0_1),(.int .i64 a0_2),(.int .i64 a0_3),(.int .i64 a0_4),(.int .i64 a0_5),a0_6,a0_7,a0_8,a0_9,a0_10]),(.int .i64 a1),(.int .u64 a2),(.int .i64 a3)] h=z3i M a0_0 a0_1 a0_2 a0_3 a0_4 a0_5 a0_6 a0_7 a0_8 a0_9 a0_10 a1 a2 a3 h:=by kernel_rfl
def zlr (M:Env):=jb M F.zzb [1,4,6,7,8,9]
def zlt (x1 x4 x6 x7 x8:V):List V:=dd 1 (x1 :: dd 2 (x4 :: dd 1 (x6 :: x7 :: x8 :: dd 350 [])))
def z7b (x1 x4 x6 x7 x8 x9:V):List V:=dd 1 (x1 :: dd 2 (x4 :: dd 1 (x6 :: x7 :: x8 :: x9 :: dd 349 [])))
def zgh (M:Env):=jb M F.zzz [1,4,6,7,8,11,12]
def zgf (x1 x4 x6 x7 x8 x11:V):List V:=dd 1 (x1 :: dd 2 (x4 :: dd 1 (x6 :: x7 :: x8 :: dd 2 (x11 :: dd 347 []))))
def zgb (x1 x4 x6 x7 x8 x11 x12:V):List V:=dd 1 (x1 :: dd 2 (x4 :: dd 1 (x6 :: x7 :: x8 :: dd 2 (x11 :: x12 :: dd 346 []))))
def zg6 (M:Env):=jb M F.zzh [4,7,8,13]
def zg8 (x4 x6 x7 x8 x12:V):List V:=dd 4 (x4 :: dd 1 (x6 :: x7 :: x8 :: dd 3 (x12 :: dd 346 [])))
def z58 (x4 x7 x8 x13:V):List V:=dd 4 (x4 :: dd 2 (x7 :: x8 :: dd 4 (x13 :: dd 345 [])))
def zgd (M:Env):=jb M F.zzo [1,4,6,7,8,11,12,14]
def zgg (x1 x4 x6 x7 x8 x11 x12:V):List V:=dd 1 (x1 :: dd 2 (x4 :: dd 1 (x6 :: x7 :: x8 :: dd 2 (x11 :: x12 :: dd 346 []))))
def z57 (x1 x4 x6 x7 x8 x11 x12 x14:V):List V:=dd 1 (x1 :: dd 2 (x4 :: dd 1 (x6 :: x7 :: x8 :: dd 2 (x11 :: x12 :: dd 1 (x14 :: dd 344 [])))))
def z9y (M:Env):=jb M F.zxz [1,4,6,7,8,11,14,15]
def za0 (x1 x4 x6 x7 x8 x11 x12 x14:V):List V:=dd 1 (x1 :: dd 2 (x4 :: dd 1 (x6 :: x7 :: x8 :: dd 2 (x11 :: x12 :: dd 1 (x14 :: dd 344 [])))))
def z9j (x1 x4 x6 x7 x8 x11 x14 x15:V):List V:=dd 1 (x1 :: dd 2 (x4 :: dd 1 (x6 :: x7 :: x8 :: dd 2 (x11 :: dd 2 (x14 :: x15 :: dd 343 [])))))
def za4 (M:Env):=jb M F.zxw [1,4,6,7,8,11,14,15,179]
def z9r (x1 x4 x6 x7 x8 x11 x14 x15:V):List V:=dd 1 (x1 :: dd 2 (x4 :: dd 1 (x6 :: x7 :: x8 :: dd 2 (x11 :: dd 2 (x14 :: x15 :: dd 343 [])))))
def z1e (x1 x4 x6 x7 x8 x11 x14 x15 x179:V):List V:=dd 1 (x1 :: dd 2 (x4 :: dd 1 (x6 :: x7 :: x8 :: dd 2 (x11 :: dd 2 (x14 :: x15 :: dd 163 (x179 :: dd 179 []))))))
def zez (M:Env):=jb M F.zyh [8,16]
def zf2 (x1 x4 x6 x7 x8 x11 x14 x15 x16:V):List V:=dd 1 (x1 :: dd 2 (x4 :: dd 1 (x6 :: x7 :: x8 :: dd 2 (x11 :: dd 2 (x14 :: x15 :: x16 :: dd 342 [])))))
def z04 (x8 x16:V):List V:=dd 8 (x8 :: dd 7 (x16 :: dd 342 []))
def zl3 (M:Env):=lb M F.zyq [1,6,7,8,16,17,18] [1,7,8,16,17]
def z9l (x1 x6 x7 x8 x16 x17 x18:V):List V:=dd 1 (x1 :: dd 4 (x6 :: x7 :: x8 :: dd 7 (x16 :: x17 :: x18 :: dd 340 [])))
def zf3 (x1 x7 x8 x16 x17:V):List V:=dd 1 (x1 :: dd 5 (x7 :: x8 :: dd 7 (x16 :: x17 :: dd 341 [])))
def zl9 (M:Env):=jb M F.zya [1,4,6,7,8,11,15,16,184,231]
def zld (x1 x4 x6 x7 x8 x11 x15 x16 x184:V):List V:=dd 1 (x1 :: dd 2 (x4 :: dd 1 (x6 :: x7 :: x8 :: dd 2 (x11 :: dd 3 (x15 :: x16 :: dd 167 (x184 :: dd 174 []))))))
def zfg (x1 x4 x6 x7 x8 x11 x15 x16 x184 x231:V):List V:=dd 1 (x1 :: dd 2 (x4 :: dd 1 (x6 :: x7 :: x8 :: dd 2 (x11 :: dd 3 (x15 :: x16 :: dd 167 (x184 :: dd 46 (x231 :: dd 127 [])))))))
def zl7 (M:Env):=jb M F.zyj [1,4,6,8,11,16,239]
def zlc (x1 x4 x6 x8 x11 x15 x16:V):List V:=dd 1 (x1 :: dd 2 (x4 :: dd 1 (x6 :: dd 1 (x8 :: dd 2 (x11 :: dd 3 (x15 :: x16 :: dd 342 []))))))
def zex (x1 x4 x6 x8 x11 x16 x239:V):List V:=dd 1 (x1 :: dd 2 (x4 :: dd 1 (x6 :: dd 1 (x8 :: dd 2 (x11 :: dd 4 (x16 :: dd 222 (x239 :: dd 119 [])))))))
def zlb (M:Env):=lb M F.zym [1,4,6,8,16,19] [8,16]
def z6v (x1 x4 x6 x8 x16 x19:V):List V:=dd 1 (x1 :: dd 2 (x4 :: dd 1 (x6 :: dd 1 (x8 :: dd 7 (x16 :: dd 2 (x19 :: dd 339 []))))))
def zf4 (x8 x16:V):List V:=dd 8 (x8 :: dd 7 (x16 :: dd 342 []))
def zl6 (M:Env):=jb M F.zy9 [1,4,6,8,16,19,291]
def zle (x1 x4 x6 x8 x16 x19:V):List V:=dd 1 (x1 :: dd 2 (x4 :: dd 1 (x6 :: dd 1 (x8 :: dd 7 (x16 :: dd 2 (x19 :: dd 339 []))))))
def zfb (x1 x4 x6 x8 x16 x19 x291:V):List V:=dd 1 (x1 :: dd 2 (x4 :: dd 1 (x6 :: dd 1 (x8 :: dd 7 (x16 :: dd 2 (x19 :: dd 271 (x291 :: dd 67 [])))))))
def z45 (M:Env):=kf F.zj
def zhk (M:Env):=kq M F.zzv (z45 M)
def zhf (M:Env):=kq M F.z007 (z45 M)
def z004 (M:Env):=kq M F.zzd (z45 M)
def zhs (M:Env):=kq M F.z009 (z004 M)
def zhy (M:Env):=kq M F.zzr (z45 M)
def zcn (M:Env):=kq M F.zza (z45 M)
def zz8 (M:Env):=kq M F.zy8 (z45 M)
def zd3 (M:Env):=kq M F.zyo (zz8 M)
def zhx (M:Env):=kq M F.zz0 (z45 M)
def zy4 (M:Env):=kj [8,16]
def zbl (M:Env):=kb 0 (zy4 M)
def zyl (M:Env):=kq M F.zyy (zbl M)
def zgw (M:Env):=kb 1 (zyl M)
def zmk (M:Env):=kq M F.zxs (zbl M)
def zmr (M:Env):=kq M F.zyk (zbl M)
def zgx (M:Env):=kb 3 (zbl M)
def zy2 (M:Env):=kl [1,4,6,8,16,19] [8,16]
def zyu (M:Env):=kq M F.zyc (zy2 M)
def zxq (M:Env):=kb 4 (zyu M)
def zmp (M:Env):=kq M F.zz1 (zxq M)
def zj (M:Env) (a0_0 a0_1 a0_2 a0_3 a0_4 a0_5:Int) (a0_6 a0_7 a0_8 a0_9 a0_10:V) (a1 a2_0 a2_1 a2_2 a2_3 a2_4 a3_0 a3_1:Int) (a3_2:Bool) (h:H):Rf :=
 let h0:=h.new (.cells [a0_0,a0_1,a0_2,a0_3,a0_4,a0_5,a0_6,a0_7,a0_8,a0_9,a0_10] .rw)
 let h1:=h0.new (.cells [a2_0,a2_1,(.int .u64 a2_2),(.int .u64 a2_3),(.int .u64 a2_4)] .rw)
 let h2:=h1.new (.cells [a3_0,(.int .u64 a3_1),a3_2] .rw)
 let h3:=h2.new (.cells [(0:Int),(0:Int),(0:Int),(0:Int),(0:Int),(0:Int),.nilsl,.nilsl,.nilsl,.nilsl,.nilsl] .rw)
 (zlr M (zlt a1 (.ptr h.next 0) (.ptr h0.next 0) (.ptr h1.next 0) (.ptr h2.next 0)) h3).bind fun p4=>zhk M p4.1 p4.2.1 p4.2.2
def z3c (M:Env) (x1:Int) (x4 x6 x7 x8:V) (h:H):Rl :=
 match decide (x1<0) with
 | true=>((h.ldN 11 x4).bind fun v0 =>
 (h.st 11 x8 v0).bind fun h1 =>
 some (.ret,(z7b x1 x4 x6 x7 x8 false),h1))
 | false=>((za x4 0).bind fun v0 =>
 (za v0 2).bind fun v1 =>
 (h.ld1 v1).bind fun v2 =>
 (asI .i64 v2).bind fun n3 =>
 match decide (n3<=x1) with
 | true=>((h.ldN 11 x4).bind fun v4 =>
 (h.st 11 x8 v4).bind fun h5 =>
 some (.ret,(z7b x1 x4 x6 x7 x8 false),h5))
 | false=>(some (.normal,(z7b x1 x4 x6 x7 x8 .dead),h)))
def z7d (M:Env) (x1:Int) (x4 x6 x7 x8 x9:V) (h:H):Rf :=
 (h.ldN 11 x4).bind fun v0 =>
 (h.ldN 5 x6).bind fun v1 =>
 (M.call 274 [v0,x1,v1] h).bind fun p2 =>
 (asI .i64 p2.1).bind fun n3 =>
 match (!decide (n3=0)) with
 | true=>((p2.2.ldN 11 x4).bind fun v4 =>
 (za x7 0).bind fun v5 =>
 (p2.2.ld1 v5).bind fun v6 =>
 (asI .i64 v6).bind fun n7 =>
 (asI .i64 p2.1).bind fun n8 =>
 match decide (n7=n8) with
 | true=>((za x7 1).bind fun v9 =>
 (p2.2.ld1 v9).bind fun v10 =>
 (asI .u64 v10).bind fun n11 =>
 match decide (n11=0) with
 | true=>((za x7 2).bind fun v12 =>
 (p2.2.ld1 v12).bind fun v13 =>
 (asB v13).bind fun b14 =>
 (p2.2.st 11 x8 v4).bind fun h15 =>
 match ckB (h15.ld1 v12) v13 with
 | true=>(finV h15 [.cell true 11 x8,.v (.bool (!b14))])
 | false=>none)
 | false=>((p2.2.st 11 x8 v4).bind fun h12 =>
 finV h12 [.cell true 11 x8,.v false]))
 | false=>((p2.2.st 11 x8 v4).bind fun h9 =>
 finV h9 [.cell true 11 x8,.v false]))
 | false=>((p2.2.ldN 11 x4).bind fun v4 =>
 (za x6 2).bind fun v5 =>
 (p2.2.ld1 v5).bind fun v6 =>
 (M.call 229 [v4,x1,v6] p2.2).bind fun p7 =>
 (zgh M (zgf x1 x4 x6 x7 x8 p7.1) p7.2).bind fun p8=>zhf M p8.1 p8.2.1 p8.2.2)
def zgj (M:Env) (x1 x4 x6 x7 x8:V) (x9:Bool) (h:H):Rf :=
 finV h [.cell true 11 x8,.v x9]
def zgi (M:Env) (x1:Int) (x4 x6 x7 x8:V) (x11:Int) (h:H):Rl :=
 (za x6 0).bind fun v0 =>
 (h.ld1 v0).bind fun v1 =>
 (asI .i64 v1).bind fun n2 =>
 match decide (n2=5) with
 | true=>((za x4 6).bind fun v3 =>
 (h.ld1 v3).bind fun v4 =>
 (z0 1 v4 x11).bind fun v5 =>
 (h.ld1 v5).bind fun v6 =>
 (za x6 1).bind fun v7 =>
 (h.ld1 v7).bind fun v8 =>
 (z0 1 v6 v8).bind fun v9 =>
 (h.ld1 v9).bind fun v10 =>
 (h.ldN 11 x4).bind fun v11 =>
 (za x6 4).bind fun v12 =>
 (h.ld1 v12).bind fun v13 =>
 (M.call 229 [v11,x1,v13] h).bind fun p14 =>
 match ckB (p14.2.ld1 v9) v10 with
 | true=>(match ckB (p14.2.ld1 v7) v8 with
 | true=>(match ckB (p14.2.ld1 v5) v6 with
 | true=>(match ckB (p14.2.ld1 v3) v4 with
 | true=>((asI .i64 v10).bind fun n15 =>
 (asI .i64 p14.1).bind fun n16 =>
 some (.normal,(zgb x1 x4 x6 x7 x8 x11 (.bool (decide (n15=n16)))),p14.2))
 | false=>none)
 | false=>none)
 | false=>none)
 | false=>none)
 | false=>(some (.normal,(zgb x1 x4 x6 x7 x8 x11 false),h))
def zav (M:Env) (x1:Int) (x4 x6 x7 x8:V) (x11:Int) (x12:Bool) (h:H):Rf :=
 (za x7 0).bind fun v0 =>
 (h.ld1 v0).bind fun v1 =>
 (asI .i64 v1).bind fun n2 =>
 match decide (n2=4) with
 | true=>((zg6 M (zg8 x4 x6 x7 x8 x12) h).bind fun p3=>zhs M p3.1 p3.2.1 p3.2.2)
 | false=>((zgd M (zgg x1 x4 x6 x7 x8 x11 x12) h).bind fun p3=>zhy M p3.1 p3.2.1 p3.2.2)
def zg7 (M:Env) (x4 x6 x7 x8:V) (x12:Bool) (h:H):Rl :=
 (za x6 0).bind fun v0 =>
 (h.ld1 v0).bind fun v1 =>
 (asI .i64 v1).bind fun n2 =>
 match decide (n2=1) with
 | true=>(some (.normal,(z58 x4 x7 x8 true),h))
 | false=>((za x6 0).bind fun v3 =>
 (h.ld1 v3).bind fun v4 =>
 (asI .i64 v4).bind fun n5 =>
 match decide (n5=3) with
 | true=>(some (.normal,(z58 x4 x7 x8 true),h))
 | false=>((za x6 0).bind fun v6 =>
 (h.ld1 v6).bind fun v7 =>
 (asI .i64 v7).bind fun n8 =>
 match decide (n8=4) with
 | true=>(some (.normal,(z58 x4 x7 x8 true),h))
 | false=>(some (.normal,(z58 x4 x7 x8 x12),h))))
def zau (M:Env) (x4 x7 x8:V) (x13:Bool) (h:H):Rf :=
 (h.ldN 11 x4).bind fun v0 =>
 match x13 with
 | true=>((za x7 1).bind fun v1 =>
 (h.ld1 v1).bind fun v2 =>
 (asI .u64 v2).bind fun n3 =>
 match decide (n3=0) with
 | true=>((za x7 2).bind fun v4 =>
 (h.ld1 v4).bind fun v5 =>
 (asB v5).bind fun b6 =>
 (h.st 11 x8 v0).bind fun h7 =>
 match ckB (h7.ld1 v4) v5 with
 | true=>(finV h7 [.cell true 11 x8,.v (.bool (!b6))])
 | false=>none)
 | false=>((h.st 11 x8 v0).bind fun h4 =>
 finV h4 [.cell true 11 x8,.v false]))
 | false=>((h.st 11 x8 v0).bind fun h1 =>
 finV h1 [.cell true 11 x8,.v false])
def z55 (M:Env) (x1:Int) (x4 x6 x7 x8:V) (x11:Int) (x12:Bool) (h:H):Rl :=
 (za x6 0).bind fun v0 =>
 (h.ld1 v0).bind fun v1 =>
 (asI .i64 v1).bind fun n2 =>
 match decide (n2=1) with
 | true=>(some (.normal,(z57 x1 x4 x6 x7 x8 x11 x12 true),h))
 | false=>((za x6 0).bind fun v3 =>
 (h.ld1 v3).bind fun v4 =>
 (asI .i64 v4).bind fun n5 =>
 match decide (n5=8) with
 | true=>(some (.normal,(z57 x1 x4 x6 x7 x8 x11 x12 true),h))
 | false=>((za x6 0).bind fun v6 =>
 (h.ld1 v6).bind fun v7 =>
 (asI .i64 v7).bind fun n8 =>
 match decide (n8=9) with
 | true=>(some (.normal,(z57 x1 x4 x6 x7 x8 x11 x12 true),h))
 | false=>((za x6 0).bind fun v9 =>
 (h.ld1 v9).bind fun v10 =>
 (asI .i64 v10).bind fun n11 =>
 match decide (n11=2) with
 | true=>((za x4 6).bind fun v12 =>
 (h.ld1 v12).bind fun v13 =>
 (z0 1 v13 x11).bind fun v14 =>
 (h.ld1 v14).bind fun v15 =>
 (za x6 1).bind fun v16 =>
 (h.ld1 v16).bind fun v17 =>
 (z0 1 v15 v17).bind fun v18 =>
 (h.ld1 v18).bind fun v19 =>
 (asI .i64 v19).bind fun n20 =>
 some (.normal,(z57 x1 x4 x6 x7 x8 x11 x12 (.bool (decide (0<=n20)))),h))
 | false=>(some (.normal,(z57 x1 x4 x6 x7 x8 x11 x12 false),h)))))
def z59 (M:Env) (x1:Int) (x4 x6 x7 x8:V) (x11:Int) (x12 x14:Bool) (h:H):Rf :=
 (z9y M (za0 x1 x4 x6 x7 x8 x11 x12 x14) h).bind fun p0=>zcn M p0.1 p0.2.1 p0.2.2
def za3 (M:Env) (x1:Int) (x4 x6 x7 x8:V) (x11:Int) (x12 x14:Bool) (h:H):Rl :=
 match x12 with
 | true=>(some (.normal,(z9j x1 x4 x6 x7 x8 x11 x14 true),h))
 | false=>((za x6 0).bind fun v0 =>
 (h.ld1 v0).bind fun v1 =>
 (asI .i64 v1).bind fun n2 =>
 match decide (n2=7) with
 | true=>((h.ldN 11 x4).bind fun v3 =>
 (za x6 3).bind fun v4 =>
 (h.ld1 v4).bind fun v5 =>
 (M.call 229 [v3,x1,v5] h).bind fun p6 =>
 (asI .i64 p6.1).bind fun n7 =>
 some (.normal,(z9j x1 x4 x6 x7 x8 x11 x14 (.bool (decide (x11=n7)))),p6.2))
 | false=>(some (.normal,(z9j x1 x4 x6 x7 x8 x11 x14 false),h)))
def z9n (M:Env) (x1:Int) (x4 x6 x7 x8:V) (x11:Int) (x14 x15:Bool) (h:H):Rf :=
 (za4 M (z9r x1 x4 x6 x7 x8 x11 x14 x15) h).bind fun p0=>zd3 M p0.1 p0.2.1 p0.2.2
def z31 (M:Env) (x1:Int) (x4 x6 x7 x8:V) (x11:Int) (x14 x15:Bool) (h:H):Rl :=
 (za x7 0).bind fun v0 =>
 (h.ld1 v0).bind fun v1 =>
 (asI .i64 v1).bind fun n2 =>
 match (!decide (n2=0)) with
 | true=>(some (.normal,(z1e x1 x4 x6 x7 x8 x11 x14 x15 true),h))
 | false=>((za x7 2).bind fun v3 =>
 (h.ld1 v3).bind fun v4 =>
 (eqV .bool v4 x15).bind fun b5 =>
 match (!b5) with
 | true=>(some (.normal,(z1e x1 x4 x6 x7 x8 x11 x14 x15 true),h))
 | false=>(match x14 with
 | true=>((h.ldN 11 x4).bind fun v6 =>
 (za x7 1).bind fun v7 =>
 (h.ld1 v7).bind fun v8 =>
 (M.call 275 [v6,v8] h).bind fun p9 =>
 (asB p9.1).bind fun b10 =>
 match (!b10) with
 | true=>(some (.normal,(z1e x1 x4 x6 x7 x8 x11 x14 x15 true),p9.2))
 | false=>(match (!x14) with
 | true=>((za x7 1).bind fun v11 =>
 (p9.2.ld1 v11).bind fun v12 =>
 (asI .u64 v12).bind fun n13 =>
 some (.normal,(z1e x1 x4 x6 x7 x8 x11 x14 x15 (.bool (!decide (n13=0)))),p9.2))
 | false=>(some (.normal,(z1e x1 x4 x6 x7 x8 x11 x14 x15 false),p9.2))))
 | false=>(match (!x14) with
 | true=>((za x7 1).bind fun v6 =>
 (h.ld1 v6).bind fun v7 =>
 (asI .u64 v7).bind fun n8 =>
 some (.normal,(z1e x1 x4 x6 x7 x8 x11 x14 x15 (.bool (!decide (n8=0)))),h))
 | false=>(some (.normal,(z1e x1 x4 x6 x7 x8 x11 x14 x15 false),h)))))
def z9k (M:Env) (x1:Int) (x4 x6 x7 x8:V) (x11:Int) (x14 x15 x179:Bool) (h:H):Rf :=
 match x179 with
 | true=>((h.ldN 11 x4).bind fun v0 =>
 (h.st 11 x8 v0).bind fun h1 =>
 finV h1 [.cell true 11 x8,.v false])
 | false=>((h.ldN 11 x4).bind fun v0 =>
 (M.call 276 [v0] h).bind fun p1 =>
 let h2:=p1.2.new (.cells [(0:Int),(0:Int),(0:Int),(0:Int),(0:Int),(0:Int),.nilsl,.nilsl,.nilsl,.nilsl,.nilsl] .rw)
 (h2.st 11 (.ptr p1.2.next 0) p1.1).bind fun h3 =>
 (zez M (zf2 x1 x4 x6 x7 x8 x11 x14 x15 (.ptr p1.2.next 0)) h3).bind fun p4=>zhx M p4.1 p4.2.1 p4.2.2)
def zn (M:Env) (x1:Int) (x4 x6 x7 x8:V) (x11:Int) (x14 x15:Bool) (x16:V) (h:H):Rl :=
 (za x6 0).bind fun v0 =>
 (h.ld1 v0).bind fun v1 =>
 (asI .i64 v1).bind fun n2 =>
 match decide (n2=1) with
 | true=>((za x6 1).bind fun v3 =>
 (h.ld1 v3).bind fun v4 =>
 (asI .i64 v4).bind fun n5 =>
 (asI .i64 v4).bind fun n6 =>
 (h.mkSl 1 8 [(0:Int)] n5 n6).bind fun p7 =>
 (M.loop (zl3 M) (z9l x1 x6 x7 x8 x16 p7.1 (0:Int)) p7.2).bind fun p8=>zgw M p8.1 p8.2.1 p8.2.2)
 | false=>((asI .i64 v1).bind fun n3 =>
 match decide (n3=2) with
 | true=>(match x14 with
 | true=>((h.ldN 11 x16).bind fun v4 =>
 (za x7 1).bind fun v5 =>
 (h.ld1 v5).bind fun v6 =>
 (za x4 6).bind fun v7 =>
 (h.ld1 v7).bind fun v8 =>
 (z0 1 v8 x11).bind fun v9 =>
 (h.ld1 v9).bind fun v10 =>
 (za x6 1).bind fun v11 =>
 (h.ld1 v11).bind fun v12 =>
 (z0 1 v10 v12).bind fun v13 =>
 (h.ld1 v13).bind fun v14 =>
 (M.call 277 [v4,x1,v6,v14] h).bind fun p15 =>
 (p15.2.st 11 x16 p15.1).bind fun h16 =>
 some (.normal,(z04 x8 x16),h16))
 | false=>(some (.normal,(z04 x8 x16),h)))
 | false=>((zl9 M (zld x1 x4 x6 x7 x8 x11 x15 x16 v1) h).bind fun p4=>zmk M p4.1 p4.2.1 p4.2.2))
def zl5 (M:Env) (x8 x16:V) (h:H):Rf :=
 (h.ldN 11 x16).bind fun v0 =>
 (h.st 11 x8 v0).bind fun h1 =>
 finV h1 [.cell true 11 x8,.v true]
def zfr (M:Env) (x1:Int) (x6 x7 x8 x16 x17:V) (x18:Int) (h:H):Rl :=
 (za x6 1).bind fun v0 =>
 (h.ld1 v0).bind fun v1 =>
 (asI .i64 v1).bind fun n2 =>
 match decide (x18<n2) with
 | true=>((z0 1 x17 x18).bind fun v3 =>
 (h.st 1 v3 (.int .i64 (-1))).bind fun h4 =>
 some (.normal,(z9l x1 x6 x7 x8 x16 x17 (.int .i64 (wr .i64 (x18+1)))),h4))
 | false=>(some ((.exit 1),(zf3 x1 x7 x8 x16 x17),h))
def ze9 (M:Env) (x1:Int) (x7 x8 x16 x17:V) (h:H):Rl :=
 (za x16 6).bind fun v0 =>
 (h.ld1 v0).bind fun v1 =>
 (fill (repl [.nilsl] 1) [] [(0,1,.c x17)]).bind fun cs2 =>
 let h3:=h.new (.cells cs2 .rw)
 (h3.append 1 24 v1 (.sl h.next 0 1 (.ex 1))).bind fun p4 =>
 (za x16 6).bind fun v5 =>
 (p4.2.st 1 v5 p4.1).bind fun h6 =>
 (h6.ldN 11 x16).bind fun v7 =>
 (za x7 1).bind fun v8 =>
 (h6.ld1 v8).bind fun v9 =>
 (za x16 6).bind fun v10 =>
 (h6.ld1 v10).bind fun v11 =>
 (lenSl v11).bind fun n12 =>
 (M.call 277 [v7,x1,v9,(.int .i64 (wr .i64 ((n12:Int)-1)))] h6).bind fun p13 =>
 (p13.2.st 11 x16 p13.1).bind fun h14 =>
 some (.normal,(z04 x8 x16),h14)
def z0w (M:Env) (x1:Int) (x4 x6 x7 x8:V) (x11:Int) (x15:Bool) (x16:V) (x184:Int) (h:H):Rl :=
 match decide (x184=3) with
 | true=>(some (.normal,(zfg x1 x4 x6 x7 x8 x11 x15 x16 x184 (.bool (decide (x184=3)))),h))
 | false=>(some (.normal,(zfg x1 x4 x6 x7 x8 x11 x15 x16 x184 (.bool (decide (x184=5)))),h))
def z0t (M:Env) (x1:Int) (x4 x6 x7 x8:V) (x11:Int) (x15:Bool) (x16:V) (x184:Int) (x231:Bool) (h:H):Rl :=
 match x231 with
 | true=>((zl7 M (zlc x1 x4 x6 x8 x11 x15 x16) h).bind fun p0=>zmr M p0.1 p0.2.1 p0.2.2)
 | false=>(match decide (x184=4) with
 | true=>((za x16 6).bind fun v0 =>
 (h.ld1 v0).bind fun v1 =>
 (z0 1 v1 x11).bind fun v2 =>
 (h.ld1 v2).bind fun v3 =>
 (za x6 1).bind fun v4 =>
 (h.ld1 v4).bind fun v5 =>
 (z0 1 v3 v5).bind fun v6 =>
 (h.st 1 v6 (.int .i64 (-1))).bind fun h7 =>
 some (.normal,(z04 x8 x16),h7))
 | false=>(match decide (x184=6) with
 | true=>((za x16 7).bind fun v0 =>
 (h.st 1 v0 .nilsl).bind fun h1 =>
 (M.loop (zlb M) (z6v x1 x4 x6 x8 x16 (0:Int)) h1).bind fun p2=>zgx M p2.1 p2.2.1 p2.2.2)
 | false=>(match decide (x184=8) with
 | true=>((za x16 10).bind fun v0 =>
 (h.ld1 v0).bind fun v1 =>
 (za x7 1).bind fun v2 =>
 (h.ld1 v2).bind fun v3 =>
 (fill (repl [(.int .u64 0)] 1) [] [(0,1,.c v3)]).bind fun cs4 =>
 let h5:=h.new (.cells cs4 .rw)
 (h5.append 1 8 v1 (.sl h.next 0 1 (.ex 1))).bind fun p6 =>
 (za x16 10).bind fun v7 =>
 (p6.2.st 1 v7 p6.1).bind fun h8 =>
 (za x16 8).bind fun v9 =>
 (h8.ld1 v9).bind fun v10 =>
 (za x7 1).bind fun v11 =>
 (h8.ld1 v11).bind fun v12 =>
 (z0 1 v10 x1).bind fun v13 =>
 (h8.st 1 v13 v12).bind fun h14 =>
 (za x16 9).bind fun v15 =>
 (h14.ld1 v15).bind fun v16 =>
 (h14.ldN 11 x4).bind fun v17 =>
 (M.call 278 [v17,x11] h14).bind fun p18 =>
 match ckB (p18.2.ld1 v15) v16 with
 | true=>((z0 1 v16 x1).bind fun v19 =>
 (p18.2.st 1 v19 p18.1).bind fun h20 =>
 some (.normal,(z04 x8 x16),h20))
 | false=>none)
 | false=>(match decide (x184=9) with
 | true=>((h.ldN 11 x16).bind fun v0 =>
 (za x7 1).bind fun v1 =>
 (h.ld1 v1).bind fun v2 =>
 (za x4 9).bind fun v3 =>
 (h.ld1 v3).bind fun v4 =>
 (z0 1 v4 x1).bind fun v5 =>
 (h.ld1 v5).bind fun v6 =>
 (z0 1 v6 (0:Int)).bind fun v7 =>
 (h.ld1 v7).bind fun v8 =>
 (M.call 277 [v0,x1,v2,v8] h).bind fun p9 =>
 (p9.2.st 11 x16 p9.1).bind fun h10 =>
 (za x16 9).bind fun v11 =>
 (h10.ld1 v11).bind fun v12 =>
 (za x4 9).bind fun v13 =>
 (h10.ld1 v13).bind fun v14 =>
 (z0 1 v14 x1).bind fun v15 =>
 (h10.ld1 v15).bind fun v16 =>
 (zgq 1 v16 (some (1:Int)) none none).bind fun v17 =>
 (z0 1 v12 x1).bind fun v18 =>
 (h10.st 1 v18 v17).bind fun h19 =>
 some (.normal,(z04 x8 x16),h19))
 | false=>(match decide (x184=10) with
 | true=>((za x16 8).bind fun v0 =>
 (h.ld1 v0).bind fun v1 =>
 (z0 1 v1 x1).bind fun v2 =>
 (h.st 1 v2 (.int .u64 0)).bind fun h3 =>
 (za x16 9).bind fun v4 =>
 (h3.ld1 v4).bind fun v5 =>
 (z0 1 v5 x1).bind fun v6 =>
 (h3.st 1 v6 .nilsl).bind fun h7 =>
 some (.normal,(z04 x8 x16),h7))
 | false=>(some (.normal,(z04 x8 x16),h)))))))
def z9t (M:Env) (x1:Int) (x4 x6 x8:V) (x11:Int) (x15:Bool) (x16:V) (h:H):Rl :=
 (za x6 0).bind fun v0 =>
 (h.ld1 v0).bind fun v1 =>
 (asI .i64 v1).bind fun n2 =>
 match decide (n2=3) with
 | true=>(some (.normal,(zex x1 x4 x6 x8 x11 x16 true),h))
 | false=>(some (.normal,(zex x1 x4 x6 x8 x11 x16 x15),h))
def za2 (M:Env) (x1:Int) (x4 x6 x8:V) (x11:Int) (x16:V) (x239:Bool) (h:H):Rl :=
 match x239 with
 | true=>((za x16 6).bind fun v0 =>
 (h.ld1 v0).bind fun v1 =>
 (z0 1 v1 x11).bind fun v2 =>
 (h.ld1 v2).bind fun v3 =>
 (za x6 1).bind fun v4 =>
 (h.ld1 v4).bind fun v5 =>
 (h.ldN 11 x4).bind fun v6 =>
 (za x6 3).bind fun v7 =>
 (h.ld1 v7).bind fun v8 =>
 (M.call 229 [v6,x1,v8] h).bind fun p9 =>
 match ckB (p9.2.ld1 v4) v5 with
 | true=>(match ckB (p9.2.ld1 v2) v3 with
 | true=>(match ckB (p9.2.ld1 v0) v1 with
 | true=>((z0 1 v3 v5).bind fun v10 =>
 (p9.2.st 1 v10 p9.1).bind fun h11 =>
 some (.normal,(z04 x8 x16),h11))
 | false=>none)
 | false=>none)
 | false=>none)
 | false=>(some (.normal,(z04 x8 x16),h))
def z6t (M:Env) (x1:Int) (x4 x6 x8 x16:V) (x19:Int) (h:H):Rl :=
 (za x4 7).bind fun v0 =>
 (h.ld1 v0).bind fun v1 =>
 (lenSl v1).bind fun n2 =>
 match decide (x19<(n2:Int)) with
 | true=>((zl6 M (zle x1 x4 x6 x8 x16 x19) h).bind fun p3=>zmp M p3.1 p3.2.1 p3.2.2)
 | false=>(some ((.exit 3),(zf4 x8 x16),h))
def zvr (M:Env) (x8 x16:V) (h:H):Rl :=
 some (.normal,(z04 x8 x16),h)
def z9m (M:Env) (x1:Int) (x4 x6 x8 x16:V) (x19:Int) (h:H):Rl :=
 (za x4 7).bind fun v0 =>
 (h.ld1 v0).bind fun v1 =>
 (z0 3 v1 x19).bind fun v2 =>
 (za v2 0).bind fun v3 =>
 (h.ld1 v3).bind fun v4 =>
 (asI .i64 v4).bind fun n5 =>
 match (!decide (n5=x1)) with
 | true=>(some (.normal,(zfb x1 x4 x6 x8 x16 x19 true),h))
 | false=>((za x4 7).bind fun v6 =>
 (h.ld1 v6).bind fun v7 =>
 (z0 3 v7 x19).bind fun v8 =>
 (za v8 1).bind fun v9 =>
 (h.ld1 v9).bind fun v10 =>
 (za x6 2).bind fun v11 =>
 (h.ld1 v11).bind fun v12 =>
 (asI .u64 v10).bind fun n13 =>
 (asI .u64 v12).bind fun n14 =>
 some (.normal,(zfb x1 x4 x6 x8 x16 x19 (.bool (!decide (n13=n14)))),h))
def za1 (M:Env) (x1:Int) (x4 x6 x8 x16:V) (x19:Int) (x291:Bool) (h:H):Rl :=
 match x291 with
 | true=>((za x16 7).bind fun v0 =>
 (h.ld1 v0).bind fun v1 =>
 (za x4 7).bind fun v2 =>
 (h.ld1 v2).bind fun v3 =>
 (z0 3 v3 x19).bind fun v4 =>
 (h.ldN 3 v4).bind fun v5 =>
 (fill (repl [(0:Int),(.int .u64 0),(0:Int)] 1) [] [(0,3,.c v5)]).bind fun cs6 =>
 let h7:=h.new (.cells cs6 .rw)
 (h7.append 3 24 v1 (.sl h.next 0 1 (.ex 1))).bind fun p8 =>
 (za x16 7).bind fun v9 =>
 (p8.2.st 1 v9 p8.1).bind fun h10 =>
 some (.normal,(z6v x1 x4 x6 x8 x16 (.int .i64 (wr .i64 (x19+1)))),h10))
 | false=>(some (.normal,(z6v x1 x4 x6 x8 x16 (.int .i64 (wr .i64 (x19+1)))),h))
theorem z00n:z06 M F.zj [(.agg [(.int .i64 a0_0),(.int .i64 a0_1),(.int .i64 a0_2),(.int .i64 a0_3),(.int .i64 a0_4),(.int .i64 a0_5),a0_6,a0_7,a0_8,a0_9,a0_10]),(.int .i64 a1),(.agg [(.int .i64 a2_0),(.int .i64 a2_1),(.int .u64 a2_2),(.int .u64 a2_3),(.int .u64 a2_4)]),(.agg [(.int .i64 a3_0),(.int .u64 a3_1),(.bool a3_2)])] h=zj M a0_0 a0_1 a0_2 a0_3 a0_4 a0_5 a0_6 a0_7 a0_8 a0_9 a0_10 a1 a2_0 a2_1 a2_2 a2_3 a2_4 a3_0 a3_1 a3_2 h:=by kernel_rfl
theorem zwr:zlr M (zlt (.int .i64 x1) x4 x6 x7 x8) h=z3c M x1 x4 x6 x7 x8 h:=by kernel_rfl
theorem z8g:zhk M .normal (z7b (.int .i64 x1) x4 x6 x7 x8 x9) h=z7d M x1 x4 x6 x7 x8 x9 h:=by kernel_rfl
theorem zjd:zhk M .ret (z7b x1 x4 x6 x7 x8 (.bool x9)) h=zgj M x1 x4 x6 x7 x8 x9 h:=by kernel_rfl
theorem zla:zgh M (zgf (.int .i64 x1) x4 x6 x7 x8 (.int .i64 x11)) h=zgi M x1 x4 x6 x7 x8 x11 h:=by kernel_rfl
theorem zjg:zhf M .normal (zgb (.int .i64 x1) x4 x6 x7 x8 (.int .i64 x11) (.bool x12)) h=zav M x1 x4 x6 x7 x8 x11 x12 h:=by kernel_rfl
theorem zw6:zg6 M (zg8 x4 x6 x7 x8 (.bool x12)) h=zg7 M x4 x6 x7 x8 x12 h:=by kernel_rfl
theorem ztz:zhs M .normal (z58 x4 x7 x8 (.bool x13)) h=zau M x4 x7 x8 x13 h:=by kernel_rfl
theorem z6s:zgd M (zgg (.int .i64 x1) x4 x6 x7 x8 (.int .i64 x11) (.bool x12)) h=z55 M x1 x4 x6 x7 x8 x11 x12 h:=by kernel_rfl
theorem z60:zhy M .normal (z57 (.int .i64 x1) x4 x6 x7 x8 (.int .i64 x11) (.bool x12) (.bool x14)) h=z59 M x1 x4 x6 x7 x8 x11 x12 x14 h:=by kernel_rfl
theorem zdw:z9y M (za0 (.int .i64 x1) x4 x6 x7 x8 (.int .i64 x11) (.bool x12) (.bool x14)) h=za3 M x1 x4 x6 x7 x8 x11 x12 x14 h:=by kernel_rfl
theorem zck:zcn M .normal (z9j (.int .i64 x1) x4 x6 x7 x8 (.int .i64 x11) (.bool x14) (.bool x15)) h=z9n M x1 x4 x6 x7 x8 x11 x14 x15 h:=by kernel_rfl
theorem zvh:za4 M (z9r (.int .i64 x1) x4 x6 x7 x8 (.int .i64 x11) (.bool x14) (.bool x15)) h=z31 M x1 x4 x6 x7 x8 x11 x14 x15 h:=by kernel_rfl
theorem ztb:zd3 M .normal (z1e (.int .i64 x1) x4 x6 x7 x8 (.int .i64 x11) (.bool x14) (.bool x15) (.bool x179)) h=z9k M x1 x4 x6 x7 x8 x11 x14 x15 x179 h:=by kernel_rfl
theorem zux:zez M (zf2 (.int .i64 x1) x4 x6 x7 x8 (.int .i64 x11) (.bool x14) (.bool x15) x16) h=zn M x1 x4 x6 x7 x8 x11 x14 x15 x16 h:=by kernel_rfl
theorem zte:zhx M .normal (z04 x8 x16) h=zl5 M x8 x16 h:=by kernel_rfl
theorem zus:zl3 M (z9l (.int .i64 x1) x6 x7 x8 x16 x17 (.int .i64 x18)) h=zfr M x1 x6 x7 x8 x16 x17 x18 h:=by kernel_rfl
theorem zrg:zgw M (.exit 1) (zf3 (.int .i64 x1) x7 x8 x16 x17) h=ze9 M x1 x7 x8 x16 x17 h:=by kernel_rfl
theorem z16:zl9 M (zld (.int .i64 x1) x4 x6 x7 x8 (.int .i64 x11) (.bool x15) x16 (.int .i64 x184)) h=z0w M x1 x4 x6 x7 x8 x11 x15 x16 x184 h:=by kernel_rfl
theorem z0r:zmk M .normal (zfg (.int .i64 x1) x4 x6 x7 x8 (.int .i64 x11) (.bool x15) x16 (.int .i64 x184) (.bool x231)) h=z0t M x1 x4 x6 x7 x8 x11 x15 x16 x184 x231 h:=by kernel_rfl
theorem zdv:zl7 M (zlc (.int .i64 x1) x4 x6 x8 (.int .i64 x11) (.bool x15) x16) h=z9t M x1 x4 x6 x8 x11 x15 x16 h:=by kernel_rfl
theorem zcb:zmr M .normal (zex (.int .i64 x1) x4 x6 x8 (.int .i64 x11) x16 (.bool x239)) h=za2 M x1 x4 x6 x8 x11 x16 x239 h:=by kernel_rfl
theorem zv2:zlb M (z6v (.int .i64 x1) x4 x6 x8 x16 (.int .i64 x19)) h=z6t M x1 x4 x6 x8 x16 x19 h:=by kernel_rfl
theorem zrr:zgx M (.exit 3) (zf4 x8 x16) h=zvr M x8 x16 h:=by kernel_rfl
theorem ze8:zl6 M (zle (.int .i64 x1) x4 x6 x8 x16 (.int .i64 x19)) h=z9m M x1 x4 x6 x8 x16 x19 h:=by kernel_rfl
theorem zcg:zmp M .normal (zfb (.int .i64 x1) x4 x6 x8 x16 (.int .i64 x19) (.bool x291)) h=za1 M x1 x4 x6 x8 x16 x19 x291 h:=by kernel_rfl
def z36 (M:Env) (a0:V) (a1:Int) (h:H):Rf :=
 (eqV .ptr a0 .nilp).bind fun b0 =>
 match (!b0) with
 | true=>(match decide (0<=a1) with
 | true=>((nilc a0).bind fun v1 =>
 (za v1 0).bind fun v2 =>
 (za v2 2).bind fun v3 =>
 (h.ld1 v3).bind fun v4 =>
 (asI .i64 v4).bind fun n5 =>
 some ((.bool (decide (a1<n5))),h))
 | false=>(some (false,h)))
 | false=>(some (false,h))
theorem zqk:z06 M F.z36 [a0,(.int .i64 a1)] h=z36 M a0 a1 h:=by kernel_rfl
def z6z (M:Env) (a0:V) (a1:Int) (h:H):Rf :=
 (M.call 279 [a0,a1] h).bind fun p0 =>
 (asB p0.1).bind fun b1 =>
 match (!b1) with
 | true=>(some ((0:Int),p0.2))
 | false=>((nilc a0).bind fun v2 =>
 (za v2 7).bind fun v3 =>
 (p0.2.ld1 v3).bind fun v4 =>
 (z0 1 v4 a1).bind fun v5 =>
 (p0.2.ld1 v5).bind fun v6 =>
 (p0.2.entries v6).bind fun es7 =>
 some ((.int .i64 ((es7.length:Nat):Int)),p0.2))
theorem z04s:z06 M F.z6z [a0,(.int .i64 a1)] h=z6z M a0 a1 h:=by kernel_rfl
def z5q (M:Env) (a0:V) (a1 a2:Int) (h:H):Rf :=
 (M.call 279 [a0,a1] h).bind fun p0 =>
 (asB p0.1).bind fun b1 =>
 match b1 with
 | true=>((nilc a0).bind fun v2 =>
 (za v2 7).bind fun v3 =>
 (p0.2.ld1 v3).bind fun v4 =>
 (z0 1 v4 a1).bind fun v5 =>
 (p0.2.ld1 v5).bind fun v6 =>
 (p0.2.look .int (0:Int) true v6 (.int .u64 a2)).bind fun v7 =>
 match v7 with
 | .tup vs8=>((vs8[0]?).bind fun v9 =>
 match v7 with
 | .tup vs10=>((vs10[1]?).bind fun v11 =>
 (asB v11).bind fun b12 =>
 match b12 with
 | true=>(some (v9,p0.2))
 | false=>(some ((.int .i64 (-1)),p0.2)))
 | _=>none)
 | _=>none)
 | false=>(some ((.int .i64 (-1)),p0.2))
theorem z05h:z06 M F.z5q [a0,(.int .i64 a1),(.int .u64 a2)] h=z5q M a0 a1 a2 h:=by kernel_rfl
def z2t (M:Env) (a0:V) (a1 a2:Int) (h:H):Rf :=
 (eqV .ptr a0 .nilp).bind fun b0 =>
 match b0 with
 | true=>(some ((.int .i64 (-1)),h))
 | false=>(match decide (a1<0) with
 | true=>(some ((.int .i64 (-1)),h))
 | false=>((nilc a0).bind fun v1 =>
 (za v1 6).bind fun v2 =>
 (h.ld1 v2).bind fun v3 =>
 (lenSl v3).bind fun n4 =>
 match decide ((n4:Int)<=a1) with
 | true=>(some ((.int .i64 (-1)),h))
 | false=>(match decide (a2<0) with
 | true=>(some ((.int .i64 (-1)),h))
 | false=>((nilc a0).bind fun v5 =>
 (za v5 6).bind fun v6 =>
 (h.ld1 v6).bind fun v7 =>
 (z0 1 v7 a1).bind fun v8 =>
 (h.ld1 v8).bind fun v9 =>
 (lenSl v9).bind fun n10 =>
 match decide ((n10:Int)<=a2) with
 | true=>(some ((.int .i64 (-1)),h))
 | false=>((nilc a0).bind fun v11 =>
 (za v11 6).bind fun v12 =>
 (h.ld1 v12).bind fun v13 =>
 (z0 1 v13 a1).bind fun v14 =>
 (h.ld1 v14).bind fun v15 =>
 (z0 1 v15 a2).bind fun v16 =>
 (h.ld1 v16).bind fun v17 =>
 some (v17,h))))))
theorem z02v:z06 M F.z2t [a0,(.int .i64 a1),(.int .i64 a2)] h=z2t M a0 a1 a2 h:=by kernel_rfl
def z4u (M:Env) (a0:V) (a1:Int) (h:H):Rf :=
 match (!decide (a1=0)) with
 | true=>((nilc a0).bind fun v0 =>
 (za v0 9).bind fun v1 =>
 (h.ld1 v1).bind fun v2 =>
 (h.look .int (0:Int) false v2 (.int .u64 a1)).bind fun v3 =>
 (asI .i64 v3).bind fun n4 =>
 some ((.bool (decide (n4=0))),h))
 | false=>(some (false,h))
theorem z02p:z06 M F.z4u [a0,(.int .u64 a1)] h=z4u M a0 a1 h:=by kernel_rfl
def zjc (M:Env):=lb M F.zw5 [7,8] [7]
def z8k (x7 x8:V):List V:=dd 7 (x7 :: x8 :: dd 39 [])
def zdc (x7:V):List V:=dd 7 (x7 :: dd 40 [])
def zwy (M:Env):=kf F.z14
def zw8 (M:Env):=kq M F.zwb (zwy M)
def zf0 (M:Env):=kb 0 (zw8 M)
def z14 (M:Env) (a0:V) (a1:Int) (h:H):Rf :=
 match decide (a1<0) with
 | true=>(none)
 | false=>((lenSl a0).bind fun n0 =>
 (M.call 445 [(.int .u64 (wr .u64 (n0:Int))),(.int .u64 (wr .u64 a1))] h).bind fun p1 =>
 match p1.1 with
 | .tup vs2=>((vs2[0]?).bind fun v3 =>
 match p1.1 with
 | .tup vs4=>((vs4[1]?).bind fun v5 =>
 (asI .u64 v3).bind fun n6 =>
 match decide (0<n6) with
 | true=>(none)
 | false=>((asI .u64 v5).bind fun n7 =>
 match decide (9223372036854775807<n7) with
 | true=>(none)
 | false=>((zaq v5).bind fun n8 =>
 (p1.2.mkSl 1 8 [(0:Int)] (wr .i64 n8) (wr .i64 n8)).bind fun p9 =>
 (p9.2.copy 1 p9.1 a0).bind fun p10 =>
 (M.loop (zjc M) (z8k p9.1 p10.1) p10.2).bind fun p11=>zf0 M p11.1 p11.2.1 p11.2.2)))
 | _=>none)
 | _=>none)
def zde (M:Env) (x7:V) (x8:Int) (h:H):Rl :=
 (lenSl x7).bind fun n0 =>
 match decide (x8<(n0:Int)) with
 | true=>((zgq 1 x7 (some x8) none none).bind fun v1 =>
 (zgq 1 x7 none (some x8) none).bind fun v2 =>
 (h.copy 1 v1 v2).bind fun p3 =>
 (asI .i64 p3.1).bind fun n4 =>
 some (.normal,(z8k x7 (.int .i64 (wr .i64 (x8+n4)))),p3.2))
 | false=>(some ((.exit 0),(zdc x7),h))
def zt5 (M:Env) (x7:V) (h:H):Rf :=
 some (x7,h)
theorem zwp:z06 M F.z14 [a0,(.int .i64 a1)] h=z14 M a0 a1 h:=by kernel_rfl
theorem ztl:zjc M (z8k x7 (.int .i64 x8)) h=zde M x7 x8 h:=by kernel_rfl
theorem zpo:zf0 M (.exit 0) (zdc x7) h=zt5 M x7 h:=by kernel_rfl
def z27 (M:Env) (a0:V) (a1:Int) (h:H):Rf :=
 (M.call 404 [a0,a1] h).bind fun p0 =>
 (asI .i64 p0.1).bind fun n1 =>
 some ((.bool (decide (0<=n1))),p0.2)
theorem zu3:z06 M F.z27 [a0,(.int .i64 a1)] h=z27 M a0 a1 h:=by kernel_rfl
def zkj (M:Env):=lb M F.zx7 [0,1,7,8] [4]
def z95 (x0 x1 x7 x8:V):List V:=x0 :: x1 :: dd 5 (x7 :: x8 :: dd 10 [])
def z3z (x4:V):List V:=dd 4 (x4 :: dd 14 [])
def zx1 (M:Env):=kf F.z17
def zx9 (M:Env):=kq M F.zxc (zx1 M)
def z7a (M:Env):=kb 0 (zx9 M)
def z17 (M:Env) (a0:V) (a1:Int) (h:H):Rf :=
 (lenSl a0).bind fun n0 =>
 (M.loop (zkj M) (z95 a0 a1 (.int .i64 (n0:Int)) (0:Int)) h).bind fun p1=>z7a M p1.1 p1.2.1 p1.2.2
def z9c (M:Env) (x0:V) (x1 x7 x8:Int) (h:H):Rl :=
 match decide (x8<x7) with
 | true=>((z0 1 x0 x8).bind fun v0 =>
 (h.ld1 v0).bind fun v1 =>
 (asI .i64 v1).bind fun n2 =>
 match decide (x1=n2) with
 | true=>(some (.ret,(z3z x8),h))
 | false=>(some (.normal,(z95 x0 x1 x7 (.int .i64 (wr .i64 (x8+1)))),h)))
 | false=>(some ((.exit 0),(z3z .dead),h))
def zue (M:Env) (x4:V) (h:H):Rf :=
 some ((.int .i64 (-1)),h)
def zvk (M:Env) (x4:Int) (h:H):Rf :=
 some (x4,h)
theorem zxi:z06 M F.z17 [a0,(.int .i64 a1)] h=z17 M a0 a1 h:=by kernel_rfl
theorem zu6:zkj M (z95 x0 (.int .i64 x1) (.int .i64 x7) (.int .i64 x8)) h=z9c M x0 x1 x7 x8 h:=by kernel_rfl
theorem zq9:z7a M (.exit 0) (z3z x4) h=zue M x4 h:=by kernel_rfl
theorem zru:z7a M .ret (z3z (.int .i64 x4)) h=zvk M x4 h:=by kernel_rfl
def znp (M:Env):=lb M F.z01p [0,5,6] [5]
def z8v (x0 x5 x6:V):List V:=x0 :: dd 4 (x5 :: x6 :: dd 39 [])
def zhl (x5:V):List V:=dd 5 (x5 :: dd 40 [])
def zhp (M:Env):=lb M F.z01i [0,5,6,26,27,28] [0,5,6]
def z43 (x0 x5 x6 x26 x27 x28:V):List V:=x0 :: dd 4 (x5 :: x6 :: dd 19 (x26 :: x27 :: x28 :: dd 17 []))
def zhz (x0 x5 x6:V):List V:=x0 :: dd 4 (x5 :: x6 :: dd 39 [])
def z01c (M:Env):=kf F.z1f
def z020 (M:Env):=kq M F.z01d (z01c M)
def zja (M:Env):=kb 0 (z020 M)
def z026 (M:Env):=kl [0,5,6] [5]
def z01s (M:Env):=kq M F.z01u (z026 M)
def z01q (M:Env):=kb 1 (z01s M)
def zeo (M:Env):=kb 2 (z01q M)
def z1f (M:Env) (a0:V) (a1:Int) (h:H):Rf :=
 let h0:=h.new (.cells [a1] .rw)
 (M.loop (znp M) (z8v a0 (.sl h.next 0 1 (.ex 1)) (0:Int)) h0).bind fun p1=>zja M p1.1 p1.2.1 p1.2.2
def zhq (M:Env) (x0 x5:V) (x6:Int) (h:H):Rl :=
 (lenSl x5).bind fun n0 =>
 match decide (x6<(n0:Int)) with
 | true=>((nilc x0).bind fun v1 =>
 (za v1 6).bind fun v2 =>
 (h.ld1 v2).bind fun v3 =>
 (z0 1 x5 x6).bind fun v4 =>
 (h.ld1 v4).bind fun v5 =>
 (z0 1 v3 v5).bind fun v6 =>
 (h.ld1 v6).bind fun v7 =>
 (lenSl v7).bind fun n8 =>
 (M.loop (zhp M) (z43 x0 x5 x6 v7 (.int .i64 (n8:Int)) (0:Int)) h).bind fun p9=>zeo M p9.1 p9.2.1 p9.2.2)
 | false=>(some ((.exit 0),(zhl x5),h))
def zyf (M:Env) (x5:V) (h:H):Rf :=
 some (x5,h)
def z8s (M:Env) (x0 x5:V) (x6:Int) (x26:V) (x27 x28:Int) (h:H):Rl :=
 match decide (x28<x27) with
 | true=>((z0 1 x26 x28).bind fun v0 =>
 (h.ld1 v0).bind fun v1 =>
 (asI .i64 v1).bind fun n2 =>
 match decide (0<=n2) with
 | true=>((M.call 331 [x5,v1] h).bind fun p3 =>
 (asB p3.1).bind fun b4 =>
 match (!b4) with
 | true=>((fill (repl [(0:Int)] 1) [] [(0,1,.c v1)]).bind fun cs5 =>
 let h6:=p3.2.new (.cells cs5 .rw)
 (h6.append 1 8 x5 (.sl p3.2.next 0 1 (.ex 1))).bind fun p7 =>
 some (.normal,(z43 x0 p7.1 x6 x26 x27 (.int .i64 (wr .i64 (x28+1)))),p7.2))
 | false=>(some (.normal,(z43 x0 x5 x6 x26 x27 (.int .i64 (wr .i64 (x28+1)))),p3.2)))
 | false=>(some (.normal,(z43 x0 x5 x6 x26 x27 (.int .i64 (wr .i64 (x28+1)))),h)))
 | false=>(some ((.exit 2),(zhz x0 x5 x6),h))
def zmi (M:Env) (x0 x5:V) (x6:Int) (h:H):Rl :=
 some (.normal,(z8v x0 x5 (.int .i64 (wr .i64 (x6+1)))),h)
theorem z021:z06 M F.z1f [a0,(.int .i64 a1)] h=z1f M a0 a1 h:=by kernel_rfl
theorem zyb:znp M (z8v x0 x5 (.int .i64 x6)) h=zhq M x0 x5 x6 h:=by kernel_rfl
theorem zva:zja M (.exit 0) (zhl x5) h=zyf M x5 h:=by kernel_rfl
theorem zz2:zhp M (z43 x0 x5 (.int .i64 x6) x26 (.int .i64 x27) (.int .i64 x28)) h=z8s M x0 x5 x6 x26 x27 x28 h:=by kernel_rfl
theorem zuz:zeo M (.exit 2) (zhz x0 x5 (.int .i64 x6)) h=zmi M x0 x5 x6 h:=by kernel_rfl
def z8m (M:Env) (a0:V) (a1 a2 a3:Int) (h:H):Rf :=
 (nilc a0).bind fun v0 =>
 (za v0 9).bind fun v1 =>
 (h.ld1 v1).bind fun v2 =>
 (h.mapSet .int v2 (.int .u64 a2) (1:Int)).bind fun h3 =>
 (nilc a0).bind fun v4 =>
 (za v4 7).bind fun v5 =>
 (h3.ld1 v5).bind fun v6 =>
 (z0 1 v6 a1).bind fun v7 =>
 (h3.ld1 v7).bind fun v8 =>
 (h3.mapSet .int v8 (.int .u64 a2) a3).bind fun h9 =>
 some ((.tup []),h9)
theorem z050:z06 M F.z8m [a0,(.int .i64 a1),(.int .u64 a2),(.int .i64 a3)] h=z8m M a0 a1 a2 a3 h:=by kernel_rfl
def zpx (M:Env):=jb M F.z02s [0,1,7]
def zpt (x0 x1 x5:V):List V:=x0 :: x1 :: dd 3 (x5 :: dd 25 [])
def zj8 (x0 x1 x7:V):List V:=x0 :: x1 :: dd 5 (x7 :: dd 23 [])
def z03p (M:Env):=kf F.z2u
def z034 (M:Env):=kq M F.z03r (z03p M)
def z03o (M:Env):=kb 0 (z034 M)
def ztn (M:Env):=kq M F.z038 (z03o M)
def z2u (M:Env) (a0:V) (a1 a2_0 a2_1 a2_2 a2_3 a2_4:Int) (h:H):Rf :=
 let h0:=h.new (.cells [a2_0,a2_1,(.int .u64 a2_2),(.int .u64 a2_3),(.int .u64 a2_4)] .rw)
 (zpx M (zpt a0 a1 (.ptr h.next 0)) h0).bind fun p1=>ztn M p1.1 p1.2.1 p1.2.2
def zab (M:Env) (x0:V) (x1:Int) (x5:V) (h:H):Rl :=
 (za x5 1).bind fun v0 =>
 (h.ld1 v0).bind fun v1 =>
 (asI .i64 v1).bind fun n2 =>
 match decide (n2<0) with
 | true=>(some (.normal,(zj8 x0 x1 true),h))
 | false=>((za x5 1).bind fun v3 =>
 (h.ld1 v3).bind fun v4 =>
 (nilc x0).bind fun v5 =>
 (za v5 0).bind fun v6 =>
 (za v6 1).bind fun v7 =>
 (h.ld1 v7).bind fun v8 =>
 (asI .i64 v4).bind fun n9 =>
 (asI .i64 v8).bind fun n10 =>
 some (.normal,(zj8 x0 x1 (.bool (decide (n10<n9)))),h))
def zac (M:Env) (x0:V) (x1:Int) (x7:Bool) (h:H):Rf :=
 match x7 with
 | true=>(some ((1:Int),h))
 | false=>((nilc x0).bind fun v0 =>
 (za v0 0).bind fun v1 =>
 (za v1 3).bind fun v2 =>
 (h.ld1 v2).bind fun v3 =>
 (M.call 105 [x0,x1] h).bind fun p4 =>
 match ckB (p4.2.ld1 v2) v3 with
 | true=>((asI .i64 p4.1).bind fun n5 =>
 (asI .i64 v3).bind fun n6 =>
 match decide (n6<=n5) with
 | true=>(some ((5:Int),p4.2))
 | false=>(some ((0:Int),p4.2)))
 | false=>none)
theorem z03m:z06 M F.z2u [a0,(.int .i64 a1),(.agg [(.int .i64 a2_0),(.int .i64 a2_1),(.int .u64 a2_2),(.int .u64 a2_3),(.int .u64 a2_4)])] h=z2u M a0 a1 a2_0 a2_1 a2_2 a2_3 a2_4 h:=by kernel_rfl
theorem zdl:zpx M (zpt x0 (.int .i64 x1) x5) h=zab M x0 x1 x5 h:=by kernel_rfl
theorem zbk:ztn M .normal (zj8 x0 (.int .i64 x1) (.bool x7)) h=zac M x0 x1 x7 h:=by kernel_rfl
def zr5 (M:Env):=jb M F.z05a [0,1,5,7,15]
def zqv (x0 x1 x5 x7:V):List V:=x0 :: x1 :: dd 3 (x5 :: dd 1 (x7 :: dd 37 []))
def zjm (x0 x1 x5 x7 x15:V):List V:=x0 :: x1 :: dd 3 (x5 :: dd 1 (x7 :: dd 7 (x15 :: dd 29 [])))
def z04b (M:Env):=kf F.z3d
def z05f (M:Env):=kq M F.z05k (z04b M)
def z060 (M:Env):=kb 0 (z05f M)
def zuj (M:Env):=kq M F.z05w (z060 M)
def z3d (M:Env) (a0:V) (a1 a2_0 a2_1 a2_2 a2_3 a2_4:Int) (h:H):Rf :=
 let h0:=h.new (.cells [a2_0,a2_1,(.int .u64 a2_2),(.int .u64 a2_3),(.int .u64 a2_4)] .rw)
 (nilc a0).bind fun v1 =>
 (za v1 8).bind fun v2 =>
 (h0.ld1 v2).bind fun v3 =>
 (z0 2 v3 a1).bind fun v4 =>
 (h0.ldN 2 v4).bind fun v5 =>
 let h6:=h0.new (.cells [(.int .u64 0),.nilsl] .rw)
 (h6.st 2 (.ptr h0.next 0) v5).bind fun h7 =>
 (zr5 M (zqv a0 a1 (.ptr h.next 0) (.ptr h0.next 0)) h7).bind fun p8=>zuj M p8.1 p8.2.1 p8.2.2
def z6e (M:Env) (x0:V) (x1:Int) (x5 x7:V) (h:H):Rl :=
 (za x5 2).bind fun v0 =>
 (h.ld1 v0).bind fun v1 =>
 (asI .u64 v1).bind fun n2 =>
 match decide (n2=0) with
 | true=>(some (.normal,(zjm x0 x1 x5 x7 true),h))
 | false=>((za x7 0).bind fun v3 =>
 (h.ld1 v3).bind fun v4 =>
 (za x5 2).bind fun v5 =>
 (h.ld1 v5).bind fun v6 =>
 (asI .u64 v4).bind fun n7 =>
 (asI .u64 v6).bind fun n8 =>
 some (.normal,(zjm x0 x1 x5 x7 (.bool (!decide (n7=n8)))),h))
def z67 (M:Env) (x0:V) (x1:Int) (x5 x7:V) (x15:Bool) (h:H):Rf :=
 match x15 with
 | true=>(some ((6:Int),h))
 | false=>((za x5 0).bind fun v0 =>
 (h.ld1 v0).bind fun v1 =>
 (asI .i64 v1).bind fun n2 =>
 match decide (n2=10) with
 | true=>(some ((0:Int),h))
 | false=>((za x7 1).bind fun v3 =>
 (h.ld1 v3).bind fun v4 =>
 (lenSl v4).bind fun n5 =>
 match decide ((n5:Int)=0) with
 | true=>(some ((6:Int),h))
 | false=>((nilc x0).bind fun v6 =>
 (za v6 0).bind fun v7 =>
 (za v7 3).bind fun v8 =>
 (h.ld1 v8).bind fun v9 =>
 (M.call 105 [x0,x1] h).bind fun p10 =>
 match ckB (p10.2.ld1 v8) v9 with
 | true=>((asI .i64 p10.1).bind fun n11 =>
 (asI .i64 v9).bind fun n12 =>
 match decide (n12<=n11) with
 | true=>(some ((5:Int),p10.2))
 | false=>(some ((0:Int),p10.2)))
 | false=>none)))
theorem z04m:z06 M F.z3d [a0,(.int .i64 a1),(.agg [(.int .i64 a2_0),(.int .i64 a2_1),(.int .u64 a2_2),(.int .u64 a2_3),(.int .u64 a2_4)])] h=z3d M a0 a1 a2_0 a2_1 a2_2 a2_3 a2_4 h:=by kernel_rfl
theorem z7k:zr5 M (zqv x0 (.int .i64 x1) x5 x7) h=z6e M x0 x1 x5 x7 h:=by kernel_rfl
theorem z69:zuj M .normal (zjm x0 (.int .i64 x1) x5 x7 (.bool x15)) h=z67 M x0 x1 x5 x7 x15 h:=by kernel_rfl
end Wm.S
end
