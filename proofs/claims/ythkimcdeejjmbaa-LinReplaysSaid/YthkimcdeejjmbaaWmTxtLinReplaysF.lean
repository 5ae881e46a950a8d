/- PRINTED by my tool: what functions come to, stretch by stretch. -/
import Derived.KernelRfl
import Derived.Test.YthkimcdeejjmbaaWmShal
import Derived.Test.YthkimcdeejjmbaaWmFnsLinReplays
import Derived.Test.YthkimcdeejjmbaaWmTxtLinReplaysA
set_option linter.all false
noncomputable section
namespace Wm.S
open Wm
set_option maxRecDepth 100000
set_option autoImplicit true
set_option relaxedAutoImplicit true
def zqw (M:Env):=lb M F.z046 [0,3,4,5] [3]
def zfv (x0 x3 x4 x5:V):List V:=x0 :: dd 2 (x3 :: x4 :: x5 :: dd 46 [])
def zkl (x3:V):List V:=dd 3 (x3 :: dd 48 [])
def zkp (M:Env):=lb M F.z056 [0,3,4,5,6,7] [0,3,4,5,6]
def z4h (x0 x3 x4 x5 x6 x7:V):List V:=x0 :: dd 2 (x3 :: x4 :: x5 :: x6 :: x7 :: dd 44 [])
def zg5 (x0 x3 x4 x5 x6:V):List V:=x0 :: dd 2 (x3 :: x4 :: x5 :: x6 :: dd 45 [])
def z049 (M:Env):=kf F.z22
def z065 (M:Env):=kq M F.z05t (z049 M)
def zm8 (M:Env):=kb 0 (z065 M)
def z04i (M:Env):=kl [0,3,4,5] [3]
def z05j (M:Env):=kq M F.z05y (z04i M)
def z05e (M:Env):=kb 1 (z05j M)
def z062 (M:Env):=kq M F.z05m (z05e M)
def zm4 (M:Env):=kb 2 (z062 M)
def z22 (M:Env) (a0:V) (h:H):Rf :=
 (lenSl a0).bind fun n0 =>
 (h.mkSl 1 1 [false] (n0:Int) (n0:Int)).bind fun p1 =>
 (M.loop (zqw M) (zfv a0 .nilsl p1.1 (0:Int)) p1.2).bind fun p2=>zm8 M p2.1 p2.2.1 p2.2.2
def zkz (M:Env) (x0 x3 x4:V) (x5:Int) (h:H):Rl :=
 (lenSl x0).bind fun n0 =>
 match decide (x5<(n0:Int)) with
 | true=>((M.loop (zkp M) (z4h x0 x3 x4 x5 (.int .i64 (-1)) (0:Int)) h).bind fun p1=>zm4 M p1.1 p1.2.1 p1.2.2)
 | false=>(some ((.exit 0),(zkl x3),h))
def z01v (M:Env) (x3:V) (h:H):Rf :=
 some (x3,h)
def z8b (M:Env) (x0 x3 x4:V) (x5 x6 x7:Int) (h:H):Rl :=
 (lenSl x0).bind fun n0 =>
 match decide (x7<(n0:Int)) with
 | true=>((z0 1 x4 x7).bind fun v1 =>
 (h.ld1 v1).bind fun v2 =>
 (asB v2).bind fun b3 =>
 match (!b3) with
 | true=>(match decide (x6<0) with
 | true=>(some (.normal,(z4h x0 x3 x4 x5 x7 (.int .i64 (wr .i64 (x7+1)))),h))
 | false=>((z0 14 x0 x7).bind fun v4 =>
 (h.ldN 14 v4).bind fun v5 =>
 (z0 14 x0 x6).bind fun v6 =>
 (h.ldN 14 v6).bind fun v7 =>
 (M.call 339 [v5,v7] h).bind fun p8 =>
 (asB p8.1).bind fun b9 =>
 match b9 with
 | true=>(some (.normal,(z4h x0 x3 x4 x5 x7 (.int .i64 (wr .i64 (x7+1)))),p8.2))
 | false=>(some (.normal,(z4h x0 x3 x4 x5 x6 (.int .i64 (wr .i64 (x7+1)))),p8.2))))
 | false=>(some (.normal,(z4h x0 x3 x4 x5 x6 (.int .i64 (wr .i64 (x7+1)))),h)))
 | false=>(some ((.exit 2),(zg5 x0 x3 x4 x5 x6),h))
def zq2 (M:Env) (x0 x3 x4:V) (x5 x6:Int) (h:H):Rl :=
 (z0 1 x4 x6).bind fun v0 =>
 (h.st 1 v0 true).bind fun h1 =>
 let h2:=h1.new (.cells [x6] .rw)
 (h2.append 1 8 x3 (.sl h1.next 0 1 (.ex 1))).bind fun p3 =>
 some (.normal,(zfv x0 p3.1 x4 (.int .i64 (wr .i64 (x5+1)))),p3.2)
theorem z05c:z06 M F.z22 [a0] h=z22 M a0 h:=by kernel_rfl
theorem z01z:zqw M (zfv x0 x3 x4 (.int .i64 x5)) h=zkz M x0 x3 x4 x5 h:=by kernel_rfl
theorem zxx:zm8 M (.exit 0) (zkl x3) h=z01v M x3 h:=by kernel_rfl
theorem z024:zkp M (z4h x0 x3 x4 (.int .i64 x5) (.int .i64 x6) (.int .i64 x7)) h=z8b M x0 x3 x4 x5 x6 x7 h:=by kernel_rfl
theorem zyd:zm4 M (.exit 2) (zg5 x0 x3 x4 (.int .i64 x5) (.int .i64 x6)) h=zq2 M x0 x3 x4 x5 x6 h:=by kernel_rfl
def zj4 (M:Env) (a0_0 a0_1 a0_2 a0_3 a0_4 a0_5:Int) (a1:V) (h:H):Rf :=
 let h0:=h.new (.cells [a0_0,a0_1,a0_2,a0_3,a0_4,a0_5] .rw)
 (h0.ldN 6 (.ptr h.next 0)).bind fun v1 =>
 (M.call 263 [v1] h0).bind fun p2 =>
 match p2.1 with
 | .bool true=>(
 (p2.2.ld1 (.ptr h.next 2)).bind fun v3 =>
 (M.call 178 [a1,v3] p2.2).bind fun p4 =>
 match p4.1 with
 | .bool true=>(
 (p4.2.ldN 6 (.ptr h.next 0)).bind fun v5 =>
 (lenSl a1).bind fun n6 =>
 (M.call 181 [a1] p4.2).bind fun p7 =>
 match ckB (p7.2.ldN 6 (.ptr h.next 0)) v5 with
 | true=>((M.call 205 [v5,a1,p7.1] p7.2).bind fun p8 =>
 (asI .i64 p8.1).bind fun n9 =>
 some ((.bool (decide (n9=(n6:Int)))),p8.2))
 | false=>none)
 | .bool false=>(
 some (false,p4.2))
 | .tup []=>(
 (asB p4.1).bind fun b5 =>
 some ((match b5 with | true=>(.tup []) | false=>false:V),p4.2))
 | _=>none)
 | .bool false=>(
 some (false,p2.2))
 | .tup []=>(
 (asB p2.1).bind fun b3 =>
 match (match b3 with | true=>(.tup []) | false=>false:V) with
 | .bool true=>(
 (p2.2.ldN 6 (.ptr h.next 0)).bind fun v4 =>
 (lenSl a1).bind fun n5 =>
 (M.call 181 [a1] p2.2).bind fun p6 =>
 match ckB (p6.2.ldN 6 (.ptr h.next 0)) v4 with
 | true=>((M.call 205 [v4,a1,p6.1] p6.2).bind fun p7 =>
 (asI .i64 p7.1).bind fun n8 =>
 some ((.bool (decide (n8=(n5:Int)))),p7.2))
 | false=>none)
 | .bool false=>(
 some (false,p2.2))
 | .tup []=>(
 (asB (match b3 with | true=>(.tup []) | false=>false:V)).bind fun b4 =>
 some ((match b4 with | true=>(.tup []) | false=>false:V),p2.2))
 | _=>none)
 | _=>none
theorem z0ci:z06 M F.zj4 [(.agg [(.int .i64 a0_0),(.int .i64 a0_1),(.int .i64 a0_2),(.int .i64 a0_3),(.int .i64 a0_4),(.int .i64 a0_5)]),a1] h=zj4 M a0_0 a0_1 a0_2 a0_3 a0_4 a0_5 a1 h:=by kernel_rfl
def zr0 (M:Env):=lb M F.z061 [0,1,5] [4]
def zbb (x0 x1 x5:V):List V:=x0 :: x1 :: dd 3 (x5 :: dd 76 [])
def z0y (x4:V):List V:=dd 4 (x4 :: dd 77 [])
def zjy (M:Env):=lb M F.z04z [0,1,5,6,7] [0,1,4,5]
def z4l (x0 x1 x5 x6 x7:V):List V:=x0 :: x1 :: dd 3 (x5 :: x6 :: x7 :: dd 74 [])
def z3b (x0 x1 x4 x5:V):List V:=x0 :: x1 :: dd 2 (x4 :: x5 :: dd 76 [])
def z05n (M:Env):=kf F.z2l
def z053 (M:Env):=kq M F.z05l (z05n M)
def zdq (M:Env):=kb 0 (z053 M)
def z04t (M:Env):=kl [0,1,5] [4]
def z058 (M:Env):=kq M F.z04h (z04t M)
def z05z (M:Env):=kb 1 (z058 M)
def zdn (M:Env):=kb 2 (z05z M)
def z2l (M:Env) (a0:V) (a1:Int) (h:H):Rf :=
 (M.loop (zr0 M) (zbb a0 a1 (0:Int)) h).bind fun p0=>zdq M p0.1 p0.2.1 p0.2.2
def zks (M:Env) (x0:V) (x1 x5:Int) (h:H):Rl :=
 (lenSl x0).bind fun n0 =>
 match decide (x5<(n0:Int)) with
 | true=>((z0 14 x0 x5).bind fun v1 =>
 (h.ldN 14 v1).bind fun v2 =>
 let h3:=h.new (.cells [(0:Int),(0:Int),(0:Int),(0:Int),(0:Int),false,(0:Int),(0:Int),(.int .u64 0),(.int .u64 0),(.int .u64 0),(0:Int),(.int .u64 0),false] .rw)
 (h3.st 14 (.ptr h.next 0) v2).bind fun h4 =>
 (h4.ld1 (.ptr h.next 0)).bind fun v5 =>
 (asI .i64 v5).bind fun n6 =>
 match decide (n6<0) with
 | true=>(some (.ret,(z0y false),h4))
 | false=>((h4.ld1 (.ptr h.next 0)).bind fun v7 =>
 (asI .i64 v7).bind fun n8 =>
 match decide (x1<=n8) with
 | true=>(some (.ret,(z0y false),h4))
 | false=>((h4.ld1 (.ptr h.next 2)).bind fun v9 =>
 (h4.ld1 (.ptr h.next 3)).bind fun v10 =>
 (asI .i64 v9).bind fun n11 =>
 (asI .i64 v10).bind fun n12 =>
 match decide (n12<n11) with
 | true=>(some (.ret,(z0y false),h4))
 | false=>((h4.ld1 (.ptr h.next 3)).bind fun v13 =>
 (h4.ld1 (.ptr h.next 4)).bind fun v14 =>
 (asI .i64 v13).bind fun n15 =>
 (asI .i64 v14).bind fun n16 =>
 match decide (n16<n15) with
 | true=>(some (.ret,(z0y false),h4))
 | false=>((M.loop (zjy M) (z4l x0 x1 x5 (.ptr h.next 0) (0:Int)) h4).bind fun p17=>zdn M p17.1 p17.2.1 p17.2.2)))))
 | false=>(some ((.exit 0),(z0y .dead),h))
def z01o (M:Env) (x4:V) (h:H):Rf :=
 some (true,h)
def z02d (M:Env) (x4:Bool) (h:H):Rf :=
 some (x4,h)
def z4m (M:Env) (x0:V) (x1 x5:Int) (x6:V) (x7:Int) (h:H):Rl :=
 (lenSl x0).bind fun n0 =>
 match decide (x7<(n0:Int)) with
 | true=>((z0 14 x0 x7).bind fun v1 =>
 (h.ldN 14 v1).bind fun v2 =>
 let h3:=h.new (.cells [(0:Int),(0:Int),(0:Int),(0:Int),(0:Int),false,(0:Int),(0:Int),(.int .u64 0),(.int .u64 0),(.int .u64 0),(0:Int),(.int .u64 0),false] .rw)
 (h3.st 14 (.ptr h.next 0) v2).bind fun h4 =>
 match (!decide (x7=x5)) with
 | true=>((za x6 0).bind fun v5 =>
 (h4.ld1 v5).bind fun v6 =>
 (h4.ld1 (.ptr h.next 0)).bind fun v7 =>
 (asI .i64 v6).bind fun n8 =>
 (asI .i64 v7).bind fun n9 =>
 match decide (n8=n9) with
 | true=>((za x6 1).bind fun v10 =>
 (h4.ld1 v10).bind fun v11 =>
 (h4.ld1 (.ptr h.next 1)).bind fun v12 =>
 (asI .i64 v11).bind fun n13 =>
 (asI .i64 v12).bind fun n14 =>
 match decide (n13=n14) with
 | true=>(some (.ret,(z3b x0 x1 false x5),h4))
 | false=>((za x6 1).bind fun v15 =>
 (h4.ld1 v15).bind fun v16 =>
 (h4.ld1 (.ptr h.next 1)).bind fun v17 =>
 (asI .i64 v16).bind fun n18 =>
 (asI .i64 v17).bind fun n19 =>
 match decide (n18<n19) with
 | true=>((h4.ldN 14 x6).bind fun v20 =>
 (h4.ldN 14 (.ptr h.next 0)).bind fun v21 =>
 (M.call 184 [v20,v21] h4).bind fun p22 =>
 (asB p22.1).bind fun b23 =>
 match (!b23) with
 | true=>(some (.ret,(z3b x0 x1 false x5),p22.2))
 | false=>(some (.normal,(z4l x0 x1 x5 x6 (.int .i64 (wr .i64 (x7+1)))),p22.2)))
 | false=>(some (.normal,(z4l x0 x1 x5 x6 (.int .i64 (wr .i64 (x7+1)))),h4))))
 | false=>(some (.normal,(z4l x0 x1 x5 x6 (.int .i64 (wr .i64 (x7+1)))),h4)))
 | false=>(some (.normal,(z4l x0 x1 x5 x6 (.int .i64 (wr .i64 (x7+1)))),h4)))
 | false=>(some ((.exit 2),(z3b x0 x1 .dead x5),h))
def zpz (M:Env) (x0:V) (x1:Int) (x4:V) (x5:Int) (h:H):Rl :=
 some (.normal,(zbb x0 x1 (.int .i64 (wr .i64 (x5+1)))),h)
def zqr (M:Env) (x0 x1:V) (x4:Bool) (x5:V) (h:H):Rl :=
 some (.ret,(z0y x4),h)
theorem z04n:z06 M F.z2l [a0,(.int .i64 a1)] h=z2l M a0 a1 h:=by kernel_rfl
theorem z022:zr0 M (zbb x0 (.int .i64 x1) (.int .i64 x5)) h=zks M x0 x1 x5 h:=by kernel_rfl
theorem zxp:zdq M (.exit 0) (z0y x4) h=z01o M x4 h:=by kernel_rfl
theorem z00c:zdq M .ret (z0y (.bool x4)) h=z02d M x4 h:=by kernel_rfl
theorem z01e:zjy M (z4l x0 (.int .i64 x1) (.int .i64 x5) x6 (.int .i64 x7)) h=z4m M x0 x1 x5 x6 x7 h:=by kernel_rfl
theorem zy0:zdn M (.exit 2) (z3b x0 (.int .i64 x1) x4 (.int .i64 x5)) h=zpz M x0 x1 x4 x5 h:=by kernel_rfl
theorem z00f:zdn M .ret (z3b x0 x1 (.bool x4) x5) h=zqr M x0 x1 x4 x5 h:=by kernel_rfl
def z4r (M:Env) (a0_0 a0_1 a0_2 a0_3 a0_4 a0_5:Int) (a1 a2:V) (h:H):Rf :=
 let h0:=h.new (.cells [a0_0,a0_1,a0_2,a0_3,a0_4,a0_5] .rw)
 (lenSl a1).bind fun n1 =>
 match decide (40<(n1:Int)) with
 | true=>((M.call 204 [] h0).bind fun p2 =>
 some (p2.1,p2.2))
 | false=>((lenSl a2).bind fun n2 =>
 match decide (40<(n2:Int)) with
 | true=>((M.call 204 [] h0).bind fun p3 =>
 some (p3.1,p3.2))
 | false=>((h0.ldN 6 (.ptr h.next 0)).bind fun v3 =>
 (M.call 85 [v3] h0).bind fun p4 =>
 (asB p4.1).bind fun b5 =>
 match (!b5) with
 | true=>((p4.2.ldN 6 (.ptr h.next 0)).bind fun v6 =>
 (M.call 205 [v6,a1,a2] p4.2).bind fun p7 =>
 (asI .i64 p7.1).bind fun n8 =>
 match decide (n8=0) with
 | true=>((p7.2.ldN 6 (.ptr h.next 0)).bind fun v9 =>
 (M.call 206 [v9,a1] p7.2).bind fun p10 =>
 (asB p10.1).bind fun b11 =>
 match (!b11) with
 | true=>((M.call 204 [] p10.2).bind fun p12 =>
 some (p12.1,p12.2))
 | false=>(some (false,p10.2)))
 | false=>(some (false,p7.2)))
 | false=>((p4.2.ld1 (.ptr h.next 2)).bind fun v6 =>
 (M.call 179 [a1,v6] p4.2).bind fun p7 =>
 match p7.1 with
 | .bool true=>(
 (p7.2.ldN 6 (.ptr h.next 0)).bind fun v8 =>
 (lenSl a1).bind fun n9 =>
 (M.call 182 [a1] p7.2).bind fun p10 =>
 match ckB (p10.2.ldN 6 (.ptr h.next 0)) v8 with
 | true=>((M.call 207 [v8,a1,p10.1] p10.2).bind fun p11 =>
 (asI .i64 p11.1).bind fun n12 =>
 (p11.2.ldN 6 (.ptr h.next 0)).bind fun v13 =>
 (p11.2.ldN 6 (.ptr h.next 0)).bind fun v14 =>
 (M.call 205 [v13,a1,a2] p11.2).bind fun p15 =>
 match ckB (p15.2.ldN 6 (.ptr h.next 0)) v14 with
 | true=>((M.call 207 [v14,a1,a2] p15.2).bind fun p16 =>
 (asI .i64 p15.1).bind fun n17 =>
 (asI .i64 p16.1).bind fun n18 =>
 match decide (n17=n18) with
 | true=>((p16.2.ldN 6 (.ptr h.next 0)).bind fun v19 =>
 (M.call 206 [v19,a1] p16.2).bind fun p20 =>
 (eqV .bool p20.1 (.bool (decide (n12=(n9:Int))))).bind fun b21 =>
 match b21 with
 | true=>((M.call 204 [] p20.2).bind fun p22 =>
 some (p22.1,p22.2))
 | false=>(some (false,p20.2)))
 | false=>(some (false,p16.2)))
 | false=>none)
 | false=>none)
 | .bool false=>(
 (p7.2.ldN 6 (.ptr h.next 0)).bind fun v8 =>
 (p7.2.ldN 6 (.ptr h.next 0)).bind fun v9 =>
 (M.call 205 [v8,a1,a2] p7.2).bind fun p10 =>
 match ckB (p10.2.ldN 6 (.ptr h.next 0)) v9 with
 | true=>((M.call 207 [v9,a1,a2] p10.2).bind fun p11 =>
 (asI .i64 p10.1).bind fun n12 =>
 (asI .i64 p11.1).bind fun n13 =>
 match decide (n12=n13) with
 | true=>((p11.2.ldN 6 (.ptr h.next 0)).bind fun v14 =>
 (M.call 206 [v14,a1] p11.2).bind fun p15 =>
 (eqV .bool p15.1 false).bind fun b16 =>
 match b16 with
 | true=>((M.call 204 [] p15.2).bind fun p17 =>
 some (p17.1,p17.2))
 | false=>(some (false,p15.2)))
 | false=>(some (false,p11.2)))
 | false=>none)
 | .tup []=>(
 (asB p7.1).bind fun b8 =>
 (p7.2.ldN 6 (.ptr h.next 0)).bind fun v9 =>
 (p7.2.ldN 6 (.ptr h.next 0)).bind fun v10 =>
 (M.call 205 [v9,a1,a2] p7.2).bind fun p11 =>
 match ckB (p11.2.ldN 6 (.ptr h.next 0)) v10 with
 | true=>((M.call 207 [v10,a1,a2] p11.2).bind fun p12 =>
 (asI .i64 p11.1).bind fun n13 =>
 (asI .i64 p12.1).bind fun n14 =>
 match decide (n13=n14) with
 | true=>((p12.2.ldN 6 (.ptr h.next 0)).bind fun v15 =>
 (M.call 206 [v15,a1] p12.2).bind fun p16 =>
 (eqV .bool p16.1 (match b8 with | true=>(.tup []) | false=>false:V)).bind fun b17 =>
 match b17 with
 | true=>((M.call 204 [] p16.2).bind fun p18 =>
 some (p18.1,p18.2))
 | false=>(some (false,p16.2)))
 | false=>(some (false,p12.2)))
 | false=>none)
 | _=>none)))
theorem zzp:z06 M F.z4r [(.agg [(.int .i64 a0_0),(.int .i64 a0_1),(.int .i64 a0_2),(.int .i64 a0_3),(.int .i64 a0_4),(.int .i64 a0_5)]),a1,a2] h=z4r M a0_0 a0_1 a0_2 a0_3 a0_4 a0_5 a1 a2 h:=by kernel_rfl
end Wm.S
end
