/- PRINTED by my tool: what functions come to, stretch by stretch. -/
import Derived.KernelRfl
import Derived.Test.YthkimcdeejjmbaaWmShal
import Derived.Test.YthkimcdeejjmbaaWmFnsLinReplays
import Derived.Test.YthkimcdeejjmbaaWmFnc
import Derived.Test.YthkimcdeejjmbaaWmTxtLinReplaysA
set_option linter.all false
noncomputable section
namespace Wm.S
open Wm
set_option maxRecDepth 100000
set_option autoImplicit true
set_option relaxedAutoImplicit true
def zev (M:Env):=lb M F.zp3 [0,8,9] []
def z5d (x0 x8 x9:V):List V:=x0 :: dd 7 (x8 :: x9 :: dd 24 [])
def z8q:List V:=dd 34 []
def zot (M:Env):=kf F.z0l
def z9e (M:Env):=kb 0 (zot M)
def z0l (M:Env) (a0:V) (a1 a2:Int) (a3:V) (h:H):Rf :=
 (M.loop (zev M) (z5d a0 a1 (.int .i64 (wr .i64 (a2-1)))) h).bind fun p0=>z9e M p0.1 p0.2.1 p0.2.2
def z8z (M:Env) (x0:V) (x8 x9:Int) (h:H):Rl :=
 match decide (x8<x9) with
 | true=>((z0 1 x0 x9).bind fun v0 =>
 (h.ld1 v0).bind fun v1 =>
 (z0 1 x0 x8).bind fun v2 =>
 (h.ld1 v2).bind fun v3 =>
 (z0 1 x0 x8).bind fun v4 =>
 (h.st 1 v4 v1).bind fun h5 =>
 (z0 1 x0 x9).bind fun v6 =>
 (h5.st 1 v6 v3).bind fun h7 =>
 some (.normal,(z5d x0 (.int .i64 (wr .i64 (x8+1))) (.int .i64 (wr .i64 (x9-1)))),h7))
 | false=>(some ((.exit 0),z8q,h))
def zmx (M:Env) (h:H):Rf :=
 some ((.tup []),h)
theorem zpb:z06 M F.z0l [a0,(.int .i64 a1),(.int .i64 a2),a3] h=z0l M a0 a1 a2 a3 h:=by kernel_rfl
theorem zmv:zev M (z5d x0 (.int .i64 x8) (.int .i64 x9)) h=z8z M x0 x8 x9 h:=by kernel_rfl
theorem zlh:z9e M (.exit 0) z8q h=zmx M h:=by kernel_rfl
def zdr (M:Env):=lb M F.zng [0,1,4,11,12] [11]
def z2h (x0 x1 x4 x11 x12:V):List V:=x0 :: x1 :: dd 2 (x4 :: dd 6 (x11 :: x12 :: dd 77 []))
def z4g (x11:V):List V:=dd 11 (x11 :: dd 78 [])
def z7n (M:Env):=lb M F.zn6 [0,1,4,11,12] [0,1,4,11,12]
def z2f (x0 x1 x4 x11 x12:V):List V:=x0 :: x1 :: dd 2 (x4 :: dd 6 (x11 :: x12 :: dd 77 []))
def z4d (x0 x1 x4 x11 x12:V):List V:=x0 :: x1 :: dd 2 (x4 :: dd 6 (x11 :: x12 :: dd 77 []))
def z7m (M:Env):=lb M F.znd [0,1,4,11,12] [0,1,4,11,12]
def z2g (x0 x1 x4 x11 x12:V):List V:=x0 :: x1 :: dd 2 (x4 :: dd 6 (x11 :: x12 :: dd 77 []))
def z4f (x0 x1 x4 x11 x12:V):List V:=x0 :: x1 :: dd 2 (x4 :: dd 6 (x11 :: x12 :: dd 77 []))
def znf (M:Env):=kf F.zw
def zn8 (M:Env):=kq M F.znc (znf M)
def z8o (M:Env):=kb 0 (zn8 M)
def zna (M:Env):=kl [0,1,4,11,12] [11]
def zfj (M:Env):=kb 1 (zna M)
def zne (M:Env):=kq M F.zn2 (zfj M)
def z5j (M:Env):=kb 2 (zne M)
def znh (M:Env):=kq M F.zni (zfj M)
def z5h (M:Env):=kb 4 (znh M)
def zw (M:Env) (a0:V) (a1 a2 a3:Int) (a4:V) (h:H):Rf :=
 (z0 1 a0 a3).bind fun v0 =>
 (h.ld1 v0).bind fun v1 =>
 (z0 1 a0 a1).bind fun v2 =>
 (h.ld1 v2).bind fun v3 =>
 (z0 1 a0 a1).bind fun v4 =>
 (h.st 1 v4 v1).bind fun h5 =>
 (z0 1 a0 a3).bind fun v6 =>
 (h5.st 1 v6 v3).bind fun h7 =>
 (M.loop (zdr M) (z2h a0 a1 a4 (.int .i64 (wr .i64 (a1+1))) (.int .i64 (wr .i64 (a2-1)))) h7).bind fun p8=>z8o M p8.1 p8.2.1 p8.2.2
def zdo (M:Env) (x0:V) (x1:Int) (x4:V) (x11 x12:Int) (h:H):Rl :=
 (M.loop (z7n M) (z2f x0 x1 x4 x11 x12) h).bind fun p0=>z5j M p0.1 p0.2.1 p0.2.2
def zlp (M:Env) (x11:Int) (h:H):Rf :=
 some (x11,h)
def z4e (M:Env) (x0:V) (x1:Int) (x4:V) (x11 x12:Int) (h:H):Rl :=
 match decide (x11<=x12) with
 | true=>((z0 1 x0 x1).bind fun v0 =>
 (h.ld1 v0).bind fun v1 =>
 (z0 1 x0 x11).bind fun v2 =>
 (h.ld1 v2).bind fun v3 =>
 z7w M x4 [v1,v3] h fun p4 =>
 (asI .i64 p4.1).bind fun n5 =>
 match (!(decide (n5<0))) with
 | true=>(some (.normal,(z2f x0 x1 x4 (.int .i64 (wr .i64 (x11+1))) x12),p4.2))
 | false=>(some ((.exit 2),(z4d x0 x1 x4 x11 x12),p4.2)))
 | false=>(some ((.exit 2),(z4d x0 x1 x4 x11 x12),h))
def zd9 (M:Env) (x0:V) (x1:Int) (x4:V) (x11 x12:Int) (h:H):Rl :=
 (M.loop (z7m M) (z2g x0 x1 x4 x11 x12) h).bind fun p0=>z5h M p0.1 p0.2.1 p0.2.2
def z4b (M:Env) (x0:V) (x1:Int) (x4:V) (x11 x12:Int) (h:H):Rl :=
 match decide (x11<=x12) with
 | true=>((z0 1 x0 x1).bind fun v0 =>
 (h.ld1 v0).bind fun v1 =>
 (z0 1 x0 x12).bind fun v2 =>
 (h.ld1 v2).bind fun v3 =>
 z7w M x4 [v1,v3] h fun p4 =>
 (asI .i64 p4.1).bind fun n5 =>
 match decide (n5<0) with
 | true=>(some (.normal,(z2g x0 x1 x4 x11 (.int .i64 (wr .i64 (x12-1)))),p4.2))
 | false=>(some ((.exit 4),(z4f x0 x1 x4 x11 x12),p4.2)))
 | false=>(some ((.exit 4),(z4f x0 x1 x4 x11 x12),h))
def z7f (M:Env) (x0:V) (x1:Int) (x4:V) (x11 x12:Int) (h:H):Rl :=
 match decide (x12<x11) with
 | true=>(some ((.exit 0),(z4g x11),h))
 | false=>((z0 1 x0 x12).bind fun v0 =>
 (h.ld1 v0).bind fun v1 =>
 (z0 1 x0 x11).bind fun v2 =>
 (h.ld1 v2).bind fun v3 =>
 (z0 1 x0 x11).bind fun v4 =>
 (h.st 1 v4 v1).bind fun h5 =>
 (z0 1 x0 x12).bind fun v6 =>
 (h5.st 1 v6 v3).bind fun h7 =>
 some (.normal,(z2h x0 x1 x4 (.int .i64 (wr .i64 (x11+1))) (.int .i64 (wr .i64 (x12-1)))),h7))
theorem zn1:z06 M F.zw [a0,(.int .i64 a1),(.int .i64 a2),(.int .i64 a3),a4] h=zw M a0 a1 a2 a3 a4 h:=by kernel_rfl
theorem zlx:zdr M (z2h x0 (.int .i64 x1) x4 (.int .i64 x11) (.int .i64 x12)) h=zdo M x0 x1 x4 x11 x12 h:=by kernel_rfl
theorem zjq:z8o M (.exit 0) (z4g (.int .i64 x11)) h=zlp M x11 h:=by kernel_rfl
theorem zlv:z7n M (z2f x0 (.int .i64 x1) x4 (.int .i64 x11) (.int .i64 x12)) h=z4e M x0 x1 x4 x11 x12 h:=by kernel_rfl
theorem zjj:z5j M (.exit 2) (z4d x0 (.int .i64 x1) x4 (.int .i64 x11) (.int .i64 x12)) h=zd9 M x0 x1 x4 x11 x12 h:=by kernel_rfl
theorem zls:z7m M (z2g x0 (.int .i64 x1) x4 (.int .i64 x11) (.int .i64 x12)) h=z4b M x0 x1 x4 x11 x12 h:=by kernel_rfl
theorem zk2:z5h M (.exit 4) (z4f x0 (.int .i64 x1) x4 (.int .i64 x11) (.int .i64 x12)) h=z7f M x0 x1 x4 x11 x12 h:=by kernel_rfl
def zal (M:Env):=lb M F.zrw [0,1,4,12,13] [0,1,4,12,13]
def z3q (x0 x1 x4 x12 x13:V):List V:=x0 :: x1 :: dd 2 (x4 :: dd 7 (x12 :: x13 :: dd 164 []))
def z3t (x0 x1 x4 x12 x13:V):List V:=x0 :: x1 :: dd 2 (x4 :: dd 7 (x12 :: x13 :: dd 164 []))
def za8 (M:Env):=lb M F.zs3 [0,1,4,12,13] [0,1,4,12,13]
def z3o (x0 x1 x4 x12 x13:V):List V:=x0 :: x1 :: dd 2 (x4 :: dd 7 (x12 :: x13 :: dd 164 []))
def z3j (x0 x1 x4 x12 x13:V):List V:=x0 :: x1 :: dd 2 (x4 :: dd 7 (x12 :: x13 :: dd 164 []))
def za6 (M:Env):=lb M F.zrx [0,1,4,12,13] [0,1,13]
def z2e (x0 x1 x4 x12 x13:V):List V:=x0 :: x1 :: dd 2 (x4 :: dd 7 (x12 :: x13 :: dd 164 []))
def z6h (x0 x1 x13:V):List V:=x0 :: x1 :: dd 11 (x13 :: dd 164 [])
def zao (M:Env):=lb M F.zs2 [0,1,4,12,13] [0,1,4,12,13]
def z3m (x0 x1 x4 x12 x13:V):List V:=x0 :: x1 :: dd 2 (x4 :: dd 7 (x12 :: x13 :: dd 164 []))
def z3h (x0 x1 x4 x12 x13:V):List V:=x0 :: x1 :: dd 2 (x4 :: dd 7 (x12 :: x13 :: dd 164 []))
def zad (M:Env):=lb M F.zrm [0,1,4,12,13] [0,1,4,12,13]
def z3l (x0 x1 x4 x12 x13:V):List V:=x0 :: x1 :: dd 2 (x4 :: dd 7 (x12 :: x13 :: dd 164 []))
def z3s (x0 x1 x4 x12 x13:V):List V:=x0 :: x1 :: dd 2 (x4 :: dd 7 (x12 :: x13 :: dd 164 []))
def zbv (M:Env):=kf F.zr
def zrk (M:Env):=kq M F.zrd (zbv M)
def zbz (M:Env):=kb 0 (zrk M)
def zrj (M:Env):=kq M F.zra (zbv M)
def zby (M:Env):=kb 2 (zrj M)
def zrb (M:Env):=kq M F.zrh (zbv M)
def z7i (M:Env):=kb 4 (zrb M)
def zs9 (M:Env):=kl [0,1,4,12,13] [0,1,13]
def zic (M:Env):=kb 5 (zs9 M)
def zs1 (M:Env):=kq M F.zrs (zic M)
def zb1 (M:Env):=kb 6 (zs1 M)
def zqi (M:Env):=kq M F.zs6 (zic M)
def zb5 (M:Env):=kb 8 (zqi M)
def zr (M:Env) (a0:V) (a1 a2 a3:Int) (a4:V) (h:H):Rf :=
 (z0 1 a0 a3).bind fun v0 =>
 (h.ld1 v0).bind fun v1 =>
 (z0 1 a0 a1).bind fun v2 =>
 (h.ld1 v2).bind fun v3 =>
 (z0 1 a0 a1).bind fun v4 =>
 (h.st 1 v4 v1).bind fun h5 =>
 (z0 1 a0 a3).bind fun v6 =>
 (h5.st 1 v6 v3).bind fun h7 =>
 (M.loop (zal M) (z3q a0 a1 a4 (.int .i64 (wr .i64 (a1+1))) (.int .i64 (wr .i64 (a2-1)))) h7).bind fun p8=>zbz M p8.1 p8.2.1 p8.2.2
def z6k (M:Env) (x0:V) (x1:Int) (x4:V) (x12 x13:Int) (h:H):Rl :=
 match decide (x12<=x13) with
 | true=>((z0 1 x0 x12).bind fun v0 =>
 (h.ld1 v0).bind fun v1 =>
 (z0 1 x0 x1).bind fun v2 =>
 (h.ld1 v2).bind fun v3 =>
 z7w M x4 [v1,v3] h fun p4 =>
 (asI .i64 p4.1).bind fun n5 =>
 match decide (n5<0) with
 | true=>(some (.normal,(z3q x0 x1 x4 (.int .i64 (wr .i64 (x12+1))) x13),p4.2))
 | false=>(some ((.exit 0),(z3t x0 x1 x4 x12 x13),p4.2)))
 | false=>(some ((.exit 0),(z3t x0 x1 x4 x12 x13),h))
def zgs (M:Env) (x0:V) (x1:Int) (x4:V) (x12 x13:Int) (h:H):Rf :=
 (M.loop (za8 M) (z3o x0 x1 x4 x12 x13) h).bind fun p0=>zby M p0.1 p0.2.1 p0.2.2
def z6l (M:Env) (x0:V) (x1:Int) (x4:V) (x12 x13:Int) (h:H):Rl :=
 match decide (x12<=x13) with
 | true=>((z0 1 x0 x13).bind fun v0 =>
 (h.ld1 v0).bind fun v1 =>
 (z0 1 x0 x1).bind fun v2 =>
 (h.ld1 v2).bind fun v3 =>
 z7w M x4 [v1,v3] h fun p4 =>
 (asI .i64 p4.1).bind fun n5 =>
 match (!(decide (n5<0))) with
 | true=>(some (.normal,(z3o x0 x1 x4 x12 (.int .i64 (wr .i64 (x13-1)))),p4.2))
 | false=>(some ((.exit 2),(z3j x0 x1 x4 x12 x13),p4.2)))
 | false=>(some ((.exit 2),(z3j x0 x1 x4 x12 x13),h))
def z9f (M:Env) (x0:V) (x1:Int) (x4:V) (x12 x13:Int) (h:H):Rf :=
 match decide (x13<x12) with
 | true=>((z0 1 x0 x1).bind fun v0 =>
 (h.ld1 v0).bind fun v1 =>
 (z0 1 x0 x13).bind fun v2 =>
 (h.ld1 v2).bind fun v3 =>
 (z0 1 x0 x13).bind fun v4 =>
 (h.st 1 v4 v1).bind fun h5 =>
 (z0 1 x0 x1).bind fun v6 =>
 (h5.st 1 v6 v3).bind fun h7 =>
 some ((.tup [x13,true]),h7))
 | false=>((z0 1 x0 x13).bind fun v0 =>
 (h.ld1 v0).bind fun v1 =>
 (z0 1 x0 x12).bind fun v2 =>
 (h.ld1 v2).bind fun v3 =>
 (z0 1 x0 x12).bind fun v4 =>
 (h.st 1 v4 v1).bind fun h5 =>
 (z0 1 x0 x13).bind fun v6 =>
 (h5.st 1 v6 v3).bind fun h7 =>
 (M.loop (za6 M) (z2e x0 x1 x4 (.int .i64 (wr .i64 (x12+1))) (.int .i64 (wr .i64 (x13-1)))) h7).bind fun p8=>z7i M p8.1 p8.2.1 p8.2.2)
def zah (M:Env) (x0:V) (x1:Int) (x4:V) (x12 x13:Int) (h:H):Rl :=
 (M.loop (zao M) (z3m x0 x1 x4 x12 x13) h).bind fun p0=>zb1 M p0.1 p0.2.1 p0.2.2
def zgr (M:Env) (x0:V) (x1 x13:Int) (h:H):Rf :=
 (z0 1 x0 x1).bind fun v0 =>
 (h.ld1 v0).bind fun v1 =>
 (z0 1 x0 x13).bind fun v2 =>
 (h.ld1 v2).bind fun v3 =>
 (z0 1 x0 x13).bind fun v4 =>
 (h.st 1 v4 v1).bind fun h5 =>
 (z0 1 x0 x1).bind fun v6 =>
 (h5.st 1 v6 v3).bind fun h7 =>
 some ((.tup [x13,false]),h7)
def z6o (M:Env) (x0:V) (x1:Int) (x4:V) (x12 x13:Int) (h:H):Rl :=
 match decide (x12<=x13) with
 | true=>((z0 1 x0 x12).bind fun v0 =>
 (h.ld1 v0).bind fun v1 =>
 (z0 1 x0 x1).bind fun v2 =>
 (h.ld1 v2).bind fun v3 =>
 z7w M x4 [v1,v3] h fun p4 =>
 (asI .i64 p4.1).bind fun n5 =>
 match decide (n5<0) with
 | true=>(some (.normal,(z3m x0 x1 x4 (.int .i64 (wr .i64 (x12+1))) x13),p4.2))
 | false=>(some ((.exit 6),(z3h x0 x1 x4 x12 x13),p4.2)))
 | false=>(some ((.exit 6),(z3h x0 x1 x4 x12 x13),h))
def zgp (M:Env) (x0:V) (x1:Int) (x4:V) (x12 x13:Int) (h:H):Rl :=
 (M.loop (zad M) (z3l x0 x1 x4 x12 x13) h).bind fun p0=>zb5 M p0.1 p0.2.1 p0.2.2
def z6n (M:Env) (x0:V) (x1:Int) (x4:V) (x12 x13:Int) (h:H):Rl :=
 match decide (x12<=x13) with
 | true=>((z0 1 x0 x13).bind fun v0 =>
 (h.ld1 v0).bind fun v1 =>
 (z0 1 x0 x1).bind fun v2 =>
 (h.ld1 v2).bind fun v3 =>
 z7w M x4 [v1,v3] h fun p4 =>
 (asI .i64 p4.1).bind fun n5 =>
 match (!(decide (n5<0))) with
 | true=>(some (.normal,(z3l x0 x1 x4 x12 (.int .i64 (wr .i64 (x13-1)))),p4.2))
 | false=>(some ((.exit 8),(z3s x0 x1 x4 x12 x13),p4.2)))
 | false=>(some ((.exit 8),(z3s x0 x1 x4 x12 x13),h))
def z9g (M:Env) (x0:V) (x1:Int) (x4:V) (x12 x13:Int) (h:H):Rl :=
 match decide (x13<x12) with
 | true=>(some ((.exit 4),(z6h x0 x1 x13),h))
 | false=>((z0 1 x0 x13).bind fun v0 =>
 (h.ld1 v0).bind fun v1 =>
 (z0 1 x0 x12).bind fun v2 =>
 (h.ld1 v2).bind fun v3 =>
 (z0 1 x0 x12).bind fun v4 =>
 (h.st 1 v4 v1).bind fun h5 =>
 (z0 1 x0 x13).bind fun v6 =>
 (h5.st 1 v6 v3).bind fun h7 =>
 some (.normal,(z2e x0 x1 x4 (.int .i64 (wr .i64 (x12+1))) (.int .i64 (wr .i64 (x13-1)))),h7))
theorem zs7:z06 M F.zr [a0,(.int .i64 a1),(.int .i64 a2),(.int .i64 a3),a4] h=zr M a0 a1 a2 a3 a4 h:=by kernel_rfl
theorem zow:zal M (z3q x0 (.int .i64 x1) x4 (.int .i64 x12) (.int .i64 x13)) h=z6k M x0 x1 x4 x12 x13 h:=by kernel_rfl
theorem zmu:zbz M (.exit 0) (z3t x0 (.int .i64 x1) x4 (.int .i64 x12) (.int .i64 x13)) h=zgs M x0 x1 x4 x12 x13 h:=by kernel_rfl
theorem zp5:za8 M (z3o x0 (.int .i64 x1) x4 (.int .i64 x12) (.int .i64 x13)) h=z6l M x0 x1 x4 x12 x13 h:=by kernel_rfl
theorem zms:zby M (.exit 2) (z3j x0 (.int .i64 x1) x4 (.int .i64 x12) (.int .i64 x13)) h=z9f M x0 x1 x4 x12 x13 h:=by kernel_rfl
theorem zov:za6 M (z2e x0 (.int .i64 x1) x4 (.int .i64 x12) (.int .i64 x13)) h=zah M x0 x1 x4 x12 x13 h:=by kernel_rfl
theorem zmz:z7i M (.exit 4) (z6h x0 (.int .i64 x1) (.int .i64 x13)) h=zgr M x0 x1 x13 h:=by kernel_rfl
theorem zp8:zao M (z3m x0 (.int .i64 x1) x4 (.int .i64 x12) (.int .i64 x13)) h=z6o M x0 x1 x4 x12 x13 h:=by kernel_rfl
theorem zmt:zb1 M (.exit 6) (z3h x0 (.int .i64 x1) x4 (.int .i64 x12) (.int .i64 x13)) h=zgp M x0 x1 x4 x12 x13 h:=by kernel_rfl
theorem zoz:zad M (z3l x0 (.int .i64 x1) x4 (.int .i64 x12) (.int .i64 x13)) h=z6n M x0 x1 x4 x12 x13 h:=by kernel_rfl
theorem zmw:zb5 M (.exit 8) (z3s x0 (.int .i64 x1) x4 (.int .i64 x12) (.int .i64 x13)) h=z9g M x0 x1 x4 x12 x13 h:=by kernel_rfl
def zh8 (M:Env):=lb M F.zs5 [0,1,2,3,10] []
def z6m (x0 x1 x2 x3 x10:V):List V:=x0 :: x1 :: x2 :: x3 :: dd 6 (x10 :: dd 27 [])
def zaa:List V:=dd 38 []
def zr9 (M:Env):=kf F.z0n
def zc5 (M:Env):=kb 0 (zr9 M)
def z0n (M:Env) (a0:V) (a1 a2 a3:Int) (a4:V) (h:H):Rf :=
 (M.loop (zh8 M) (z6m a0 a1 a2 a3 (0:Int)) h).bind fun p0=>zc5 M p0.1 p0.2.1 p0.2.2
def zan (M:Env) (x0:V) (x1 x2 x3 x10:Int) (h:H):Rl :=
 match decide (x10<x3) with
 | true=>((z0 1 x0 (.int .i64 (wr .i64 (x2+x10)))).bind fun v0 =>
 (h.ld1 v0).bind fun v1 =>
 (z0 1 x0 (.int .i64 (wr .i64 (x1+x10)))).bind fun v2 =>
 (h.ld1 v2).bind fun v3 =>
 (z0 1 x0 (.int .i64 (wr .i64 (x1+x10)))).bind fun v4 =>
 (h.st 1 v4 v1).bind fun h5 =>
 (z0 1 x0 (.int .i64 (wr .i64 (x2+x10)))).bind fun v6 =>
 (h5.st 1 v6 v3).bind fun h7 =>
 some (.normal,(z6m x0 x1 x2 x3 (.int .i64 (wr .i64 (x10+1)))),h7))
 | false=>(some ((.exit 0),zaa,h))
def zp2 (M:Env) (h:H):Rf :=
 some ((.tup []),h)
theorem zrv:z06 M F.z0n [a0,(.int .i64 a1),(.int .i64 a2),(.int .i64 a3),a4] h=z0n M a0 a1 a2 a3 a4 h:=by kernel_rfl
theorem zp4:zh8 M (z6m x0 (.int .i64 x1) (.int .i64 x2) (.int .i64 x3) (.int .i64 x10)) h=zan M x0 x1 x2 x3 x10 h:=by kernel_rfl
theorem zmy:zc5 M (.exit 0) zaa h=zp2 M h:=by kernel_rfl
def zj6 (M:Env):=lb M F.zuv [0,2,4,10,11] [0,2,4,10]
def z5g (x0 x2 x4 x10 x11:V):List V:=x0 :: dd 1 (x2 :: dd 1 (x4 :: dd 5 (x10 :: x11 :: dd 46 [])))
def zco (x0 x2 x4 x10:V):List V:=x0 :: dd 1 (x2 :: dd 1 (x4 :: dd 5 (x10 :: dd 47 [])))
def zuu (M:Env):=kf F.z0s
def zv9 (M:Env):=kq M F.zv1 (zuu M)
def zea (M:Env):=kb 0 (zv9 M)
def z0s (M:Env) (a0:V) (a1 a2 a3:Int) (a4:V) (h:H):Rf :=
 (M.loop (zj6 M) (z5g a0 a2 a4 (.int .i64 (wr .i64 (a2-a1))) (.int .i64 (wr .i64 (a3-a2)))) h).bind fun p0=>zea M p0.1 p0.2.1 p0.2.2
def z7x (M:Env) (x0:V) (x2:Int) (x4:V) (x10 x11:Int) (h:H):Rl :=
 match (!decide (x10=x11)) with
 | true=>(match decide (x11<x10) with
 | true=>((M.call 513 [x0,(.int .i64 (wr .i64 (x2-x10))),x2,x11,x4] h).bind fun p0 =>
 some (.normal,(z5g x0 x2 x4 (.int .i64 (wr .i64 (x10-x11))) x11),p0.2))
 | false=>((M.call 513 [x0,(.int .i64 (wr .i64 (x2-x10))),(.int .i64 (wr .i64 ((wr .i64 (x2+x11))-x10))),x10,x4] h).bind fun p0 =>
 some (.normal,(z5g x0 x2 x4 x10 (.int .i64 (wr .i64 (x11-x10)))),p0.2)))
 | false=>(some ((.exit 0),(zco x0 x2 x4 x10),h))
def zig (M:Env) (x0:V) (x2:Int) (x4:V) (x10:Int) (h:H):Rf :=
 (M.call 513 [x0,(.int .i64 (wr .i64 (x2-x10))),x2,x10,x4] h).bind fun p0 =>
 some ((.tup []),p0.2)
theorem zv5:z06 M F.z0s [a0,(.int .i64 a1),(.int .i64 a2),(.int .i64 a3),a4] h=z0s M a0 a1 a2 a3 a4 h:=by kernel_rfl
theorem zsb:zj6 M (z5g x0 (.int .i64 x2) x4 (.int .i64 x10) (.int .i64 x11)) h=z7x M x0 x2 x4 x10 x11 h:=by kernel_rfl
theorem zoy:zea M (.exit 0) (zco x0 (.int .i64 x2) x4 (.int .i64 x10)) h=zig M x0 x2 x4 x10 h:=by kernel_rfl
def z72 (M:Env):=lb M F.zsh [0,1,4,10,11] [0,1,10]
def z1r (x0 x1 x4 x10 x11:V):List V:=x0 :: x1 :: dd 2 (x4 :: dd 5 (x10 :: x11 :: dd 208 []))
def z6y (x0 x1 x10:V):List V:=x0 :: x1 :: dd 8 (x10 :: dd 209 [])
def zb7 (M:Env):=lb M F.zsx [0,10,13] []
def z46 (x0 x10 x13:V):List V:=x0 :: dd 9 (x10 :: dd 2 (x13 :: dd 206 []))
def z75:List V:=dd 220 []
def z71 (M:Env):=lb M F.zss [0,2,4,14,15] [0,2,14]
def z1q (x0 x2 x4 x14 x15:V):List V:=x0 :: dd 1 (x2 :: dd 1 (x4 :: dd 9 (x14 :: x15 :: dd 204 [])))
def z70 (x0 x2 x14:V):List V:=x0 :: dd 1 (x2 :: dd 11 (x14 :: dd 205 []))
def zaz (M:Env):=lb M F.zsy [0,14,17] []
def z42 (x0 x14 x17:V):List V:=x0 :: dd 13 (x14 :: dd 2 (x17 :: dd 202 []))
def z77:List V:=dd 220 []
def zas (M:Env):=jb M F.zrf [0,1,2,3,4,18,19,20,21]
def zae (x0 x1 x2 x3 x4 x18 x19:V):List V:=x0 :: x1 :: x2 :: x3 :: x4 :: dd 13 (x18 :: x19 :: dd 200 [])
def zap (x0 x1 x2 x3 x4 x18 x19 x20 x21:V):List V:=x0 :: x1 :: x2 :: x3 :: x4 :: dd 13 (x18 :: x19 :: x20 :: x21 :: dd 198 [])
def za9 (M:Env):=lb M F.zry [0,1,2,3,4,18,19,20,21,22] [0,1,2,3,4,18,19,20]
def z2c (x0 x1 x2 x3 x4 x18 x19 x20 x21 x22:V):List V:=x0 :: x1 :: x2 :: x3 :: x4 :: dd 13 (x18 :: x19 :: x20 :: x21 :: x22 :: dd 197 [])
def z6i (x0 x1 x2 x3 x4 x18 x19 x20:V):List V:=x0 :: x1 :: x2 :: x3 :: x4 :: dd 13 (x18 :: x19 :: x20 :: dd 199 [])
def zgy (M:Env):=jb M F.zrn [0,1,3,4,18,20,24]
def zh1 (x0 x1 x2 x3 x4 x18 x20 x24:V):List V:=x0 :: x1 :: x2 :: x3 :: x4 :: dd 13 (x18 :: dd 1 (x20 :: dd 3 (x24 :: dd 195 [])))
def z3k (x0 x1 x3 x4 x18 x20 x24:V):List V:=x0 :: x1 :: dd 1 (x3 :: x4 :: dd 13 (x18 :: dd 1 (x20 :: dd 3 (x24 :: dd 195 []))))
def zh0 (M:Env):=jb M F.zs8 [0,3,4,18,24]
def zh9 (x0 x1 x3 x4 x18 x20 x24:V):List V:=x0 :: x1 :: dd 1 (x3 :: x4 :: dd 13 (x18 :: dd 1 (x20 :: dd 3 (x24 :: dd 195 []))))
def z3p (x0 x3 x4 x18 x24:V):List V:=x0 :: dd 2 (x3 :: x4 :: dd 13 (x18 :: dd 5 (x24 :: dd 195 [])))
def z39 (M:Env):=kf F.zh
def zj5 (M:Env):=kq M F.zsl (z39 M)
def zsw (M:Env):=kq M F.zsk (zj5 M)
def z7q (M:Env):=kb 0 (zsw M)
def zis (M:Env):=kq M F.ztu (z39 M)
def zsz (M:Env):=kq M F.zt7 (zis M)
def z7u (M:Env):=kb 4 (zsz M)
def z5b (M:Env):=kq M F.zre (z39 M)
def zst (M:Env):=kq M F.zt2 (zj5 M)
def zci (M:Env):=kb 2 (zst M)
def zrq (M:Env):=kq M F.zsf (zis M)
def zbq (M:Env):=kb 6 (zrq M)
def zrz (M:Env):=kq M F.zs4 (z39 M)
def zc3 (M:Env):=kb 8 (zrz M)
def zbu (M:Env):=kq M F.zr8 (z39 M)
def zc2 (M:Env):=kq M F.zrl (z39 M)
def zh (M:Env) (a0:V) (a1 a2 a3:Int) (a4:V) (h:H):Rf :=
 match (decide ((wr .i64 (a2-a1))=1)) with
 | true=>((M.loop (z72 M) (z1r a0 a1 a4 a2 a3) h).bind fun p0=>z7q M p0.1 p0.2.1 p0.2.2)
 | false=>(match (decide ((wr .i64 (a3-a2))=1)) with
 | true=>((M.loop (z71 M) (z1q a0 a2 a4 a1 a2) h).bind fun p0=>z7u M p0.1 p0.2.1 p0.2.2)
 | false=>((zas M (zae a0 a1 a2 a3 a4 (.int .i64 (wr .i64 ((wr .u64 (wr .i64 (a1+a3))) / 2 ^ (min (Int.toNat 1) (Go.IntKind.bits .u64))))) (.int .i64 (wr .i64 ((wr .i64 ((wr .u64 (wr .i64 (a1+a3))) / 2 ^ (min (Int.toNat 1) (Go.IntKind.bits .u64))))+a2)))) h).bind fun p0=>z5b M p0.1 p0.2.1 p0.2.2))
def z6x (M:Env) (x0:V) (x1:Int) (x4:V) (x10 x11:Int) (h:H):Rl :=
 match decide (x10<x11) with
 | true=>((z0 1 x0 (.int .i64 (wr .i64 ((wr .u64 (wr .i64 (x10+x11))) / 2 ^ (min (Int.toNat 1) (Go.IntKind.bits .u64)))))).bind fun v0 =>
 (h.ld1 v0).bind fun v1 =>
 (z0 1 x0 x1).bind fun v2 =>
 (h.ld1 v2).bind fun v3 =>
 z7w M x4 [v1,v3] h fun p4 =>
 (asI .i64 p4.1).bind fun n5 =>
 match decide (n5<0) with
 | true=>(some (.normal,(z1r x0 x1 x4 (.int .i64 (wr .i64 ((wr .i64 ((wr .u64 (wr .i64 (x10+x11))) / 2 ^ (min (Int.toNat 1) (Go.IntKind.bits .u64))))+1))) x11),p4.2))
 | false=>(some (.normal,(z1r x0 x1 x4 x10 (.int .i64 (wr .i64 ((wr .u64 (wr .i64 (x10+x11))) / 2 ^ (min (Int.toNat 1) (Go.IntKind.bits .u64)))))),p4.2)))
 | false=>(some ((.exit 0),(z6y x0 x1 x10),h))
def zh5 (M:Env) (x0:V) (x1 x10:Int) (h:H):Rf :=
 (M.loop (zb7 M) (z46 x0 x10 x1) h).bind fun p0=>zci M p0.1 p0.2.1 p0.2.2
def zb8 (M:Env) (x0:V) (x10 x13:Int) (h:H):Rl :=
 match (decide (x13<(wr .i64 (x10-1)))) with
 | true=>((z0 1 x0 (.int .i64 (wr .i64 (x13+1)))).bind fun v0 =>
 (h.ld1 v0).bind fun v1 =>
 (z0 1 x0 x13).bind fun v2 =>
 (h.ld1 v2).bind fun v3 =>
 (z0 1 x0 x13).bind fun v4 =>
 (h.st 1 v4 v1).bind fun h5 =>
 (z0 1 x0 (.int .i64 (wr .i64 (x13+1)))).bind fun v6 =>
 (h5.st 1 v6 v3).bind fun h7 =>
 some (.normal,(z46 x0 x10 (.int .i64 (wr .i64 (x13+1)))),h7))
 | false=>(some ((.exit 2),z75,h))
def zpw (M:Env) (h:H):Rf :=
 some ((.tup []),h)
def z73 (M:Env) (x0:V) (x2:Int) (x4:V) (x14 x15:Int) (h:H):Rl :=
 match decide (x14<x15) with
 | true=>((z0 1 x0 x2).bind fun v0 =>
 (h.ld1 v0).bind fun v1 =>
 (z0 1 x0 (.int .i64 (wr .i64 ((wr .u64 (wr .i64 (x14+x15))) / 2 ^ (min (Int.toNat 1) (Go.IntKind.bits .u64)))))).bind fun v2 =>
 (h.ld1 v2).bind fun v3 =>
 z7w M x4 [v1,v3] h fun p4 =>
 (asI .i64 p4.1).bind fun n5 =>
 match (!(decide (n5<0))) with
 | true=>(some (.normal,(z1q x0 x2 x4 (.int .i64 (wr .i64 ((wr .i64 ((wr .u64 (wr .i64 (x14+x15))) / 2 ^ (min (Int.toNat 1) (Go.IntKind.bits .u64))))+1))) x15),p4.2))
 | false=>(some (.normal,(z1q x0 x2 x4 x14 (.int .i64 (wr .i64 ((wr .u64 (wr .i64 (x14+x15))) / 2 ^ (min (Int.toNat 1) (Go.IntKind.bits .u64)))))),p4.2)))
 | false=>(some ((.exit 4),(z70 x0 x2 x14),h))
def zh7 (M:Env) (x0:V) (x2 x14:Int) (h:H):Rf :=
 (M.loop (zaz M) (z42 x0 x14 x2) h).bind fun p0=>zbq M p0.1 p0.2.1 p0.2.2
def zay (M:Env) (x0:V) (x14 x17:Int) (h:H):Rl :=
 match decide (x14<x17) with
 | true=>((z0 1 x0 (.int .i64 (wr .i64 (x17-1)))).bind fun v0 =>
 (h.ld1 v0).bind fun v1 =>
 (z0 1 x0 x17).bind fun v2 =>
 (h.ld1 v2).bind fun v3 =>
 (z0 1 x0 x17).bind fun v4 =>
 (h.st 1 v4 v1).bind fun h5 =>
 (z0 1 x0 (.int .i64 (wr .i64 (x17-1)))).bind fun v6 =>
 (h5.st 1 v6 v3).bind fun h7 =>
 some (.normal,(z42 x0 x14 (.int .i64 (wr .i64 (x17-1)))),h7))
 | false=>(some ((.exit 6),z77,h))
def zpi (M:Env) (h:H):Rf :=
 some ((.tup []),h)
def zaj (M:Env) (x0:V) (x1 x2 x3:Int) (x4:V) (x18 x19:Int) (h:H):Rl :=
 match decide (x18<x2) with
 | true=>(some (.normal,(zap x0 x1 x2 x3 x4 x18 x19 (.int .i64 (wr .i64 (x19-x3))) x18),h))
 | false=>(some (.normal,(zap x0 x1 x2 x3 x4 x18 x19 x1 x2),h))
def zag (M:Env) (x0:V) (x1 x2 x3:Int) (x4:V) (x18 x19 x20 x21:Int) (h:H):Rf :=
 (M.loop (za9 M) (z2c x0 x1 x2 x3 x4 x18 x19 x20 x21 (.int .i64 (wr .i64 (x19-1)))) h).bind fun p0=>zc3 M p0.1 p0.2.1 p0.2.2
def z6j (M:Env) (x0:V) (x1 x2 x3:Int) (x4:V) (x18 x19 x20 x21 x22:Int) (h:H):Rl :=
 match decide (x20<x21) with
 | true=>((z0 1 x0 (.int .i64 (wr .i64 (x22-(wr .i64 ((wr .u64 (wr .i64 (x20+x21))) / 2 ^ (min (Int.toNat 1) (Go.IntKind.bits .u64)))))))).bind fun v0 =>
 (h.ld1 v0).bind fun v1 =>
 (z0 1 x0 (.int .i64 (wr .i64 ((wr .u64 (wr .i64 (x20+x21))) / 2 ^ (min (Int.toNat 1) (Go.IntKind.bits .u64)))))).bind fun v2 =>
 (h.ld1 v2).bind fun v3 =>
 z7w M x4 [v1,v3] h fun p4 =>
 (asI .i64 p4.1).bind fun n5 =>
 match (!(decide (n5<0))) with
 | true=>(some (.normal,(z2c x0 x1 x2 x3 x4 x18 x19 (.int .i64 (wr .i64 ((wr .i64 ((wr .u64 (wr .i64 (x20+x21))) / 2 ^ (min (Int.toNat 1) (Go.IntKind.bits .u64))))+1))) x21 x22),p4.2))
 | false=>(some (.normal,(z2c x0 x1 x2 x3 x4 x18 x19 x20 (.int .i64 (wr .i64 ((wr .u64 (wr .i64 (x20+x21))) / 2 ^ (min (Int.toNat 1) (Go.IntKind.bits .u64))))) x22),p4.2)))
 | false=>(some ((.exit 8),(z6i x0 x1 x2 x3 x4 x18 x19 x20),h))
def z9h (M:Env) (x0:V) (x1 x2 x3:Int) (x4:V) (x18 x19 x20:Int) (h:H):Rf :=
 (zgy M (zh1 x0 x1 x2 x3 x4 x18 x20 (.int .i64 (wr .i64 (x19-x20)))) h).bind fun p0=>zbu M p0.1 p0.2.1 p0.2.2
def z6g (M:Env) (x0:V) (x1 x2 x3:Int) (x4:V) (x18 x20 x24:Int) (h:H):Rl :=
 match decide (x20<x2) with
 | true=>(match decide (x2<x24) with
 | true=>((M.call 492 [x0,x20,x2,x24,x4] h).bind fun p0 =>
 some (.normal,(z3k x0 x1 x3 x4 x18 x20 x24),p0.2))
 | false=>(some (.normal,(z3k x0 x1 x3 x4 x18 x20 x24),h)))
 | false=>(some (.normal,(z3k x0 x1 x3 x4 x18 x20 x24),h))
def zak (M:Env) (x0:V) (x1 x3:Int) (x4:V) (x18 x20 x24:Int) (h:H):Rf :=
 (zh0 M (zh9 x0 x1 x3 x4 x18 x20 x24) h).bind fun p0=>zc2 M p0.1 p0.2.1 p0.2.2
def z6p (M:Env) (x0:V) (x1 x3:Int) (x4:V) (x18 x20 x24:Int) (h:H):Rl :=
 match decide (x1<x20) with
 | true=>(match decide (x20<x18) with
 | true=>((M.call 460 [x0,x1,x20,x18,x4] h).bind fun p0 =>
 some (.normal,(z3p x0 x3 x4 x18 x24),p0.2))
 | false=>(some (.normal,(z3p x0 x3 x4 x18 x24),h)))
 | false=>(some (.normal,(z3p x0 x3 x4 x18 x24),h))
def z3r (M:Env) (x0:V) (x3:Int) (x4:V) (x18 x24:Int) (h:H):Rf :=
 match decide (x18<x24) with
 | true=>(match decide (x24<x3) with
 | true=>((M.call 460 [x0,x18,x24,x3,x4] h).bind fun p0 =>
 some ((.tup []),p0.2))
 | false=>(some ((.tup []),h)))
 | false=>(some ((.tup []),h))
theorem zse:z06 M F.zh [a0,(.int .i64 a1),(.int .i64 a2),(.int .i64 a3),a4] h=zh M a0 a1 a2 a3 a4 h:=by kernel_rfl
theorem zpl:z72 M (z1r x0 (.int .i64 x1) x4 (.int .i64 x10) (.int .i64 x11)) h=z6x M x0 x1 x4 x10 x11 h:=by kernel_rfl
theorem znm:z7q M (.exit 0) (z6y x0 (.int .i64 x1) (.int .i64 x10)) h=zh5 M x0 x1 x10 h:=by kernel_rfl
theorem zpy:zb7 M (z46 x0 (.int .i64 x10) (.int .i64 x13)) h=zb8 M x0 x10 x13 h:=by kernel_rfl
theorem znw:zci M (.exit 2) z75 h=zpw M h:=by kernel_rfl
theorem zph:z71 M (z1q x0 (.int .i64 x2) x4 (.int .i64 x14) (.int .i64 x15)) h=z73 M x0 x2 x4 x14 x15 h:=by kernel_rfl
theorem zns:z7u M (.exit 4) (z70 x0 (.int .i64 x2) (.int .i64 x14)) h=zh7 M x0 x2 x14 h:=by kernel_rfl
theorem zpf:zaz M (z42 x0 (.int .i64 x14) (.int .i64 x17)) h=zay M x0 x14 x17 h:=by kernel_rfl
theorem znt:zbq M (.exit 6) z77 h=zpi M h:=by kernel_rfl
theorem zp9:zas M (zae x0 (.int .i64 x1) (.int .i64 x2) (.int .i64 x3) x4 (.int .i64 x18) (.int .i64 x19)) h=zaj M x0 x1 x2 x3 x4 x18 x19 h:=by kernel_rfl
theorem zew:z5b M .normal (zap x0 (.int .i64 x1) (.int .i64 x2) (.int .i64 x3) x4 (.int .i64 x18) (.int .i64 x19) (.int .i64 x20) (.int .i64 x21)) h=zag M x0 x1 x2 x3 x4 x18 x19 x20 x21 h:=by kernel_rfl
theorem zpc:za9 M (z2c x0 (.int .i64 x1) (.int .i64 x2) (.int .i64 x3) x4 (.int .i64 x18) (.int .i64 x19) (.int .i64 x20) (.int .i64 x21) (.int .i64 x22)) h=z6j M x0 x1 x2 x3 x4 x18 x19 x20 x21 x22 h:=by kernel_rfl
theorem zn0:zc3 M (.exit 8) (z6i x0 (.int .i64 x1) (.int .i64 x2) (.int .i64 x3) x4 (.int .i64 x18) (.int .i64 x19) (.int .i64 x20)) h=z9h M x0 x1 x2 x3 x4 x18 x19 x20 h:=by kernel_rfl
theorem zpd:zgy M (zh1 x0 (.int .i64 x1) (.int .i64 x2) (.int .i64 x3) x4 (.int .i64 x18) (.int .i64 x20) (.int .i64 x24)) h=z6g M x0 x1 x2 x3 x4 x18 x20 x24 h:=by kernel_rfl
theorem znr:zbu M .normal (z3k x0 (.int .i64 x1) (.int .i64 x3) x4 (.int .i64 x18) (.int .i64 x20) (.int .i64 x24)) h=zak M x0 x1 x3 x4 x18 x20 x24 h:=by kernel_rfl
theorem zpe:zh0 M (zh9 x0 (.int .i64 x1) (.int .i64 x3) x4 (.int .i64 x18) (.int .i64 x20) (.int .i64 x24)) h=z6p M x0 x1 x3 x4 x18 x20 x24 h:=by kernel_rfl
theorem zn4:zc2 M .normal (z3p x0 (.int .i64 x3) x4 (.int .i64 x18) (.int .i64 x24)) h=z3r M x0 x3 x4 x18 x24 h:=by kernel_rfl
def zar (M:Env):=lb M F.zju [0,1,2,3,9,10] [8]
def z01 (x0 x1 x2 x3 x9 x10:V):List V:=x0 :: x1 :: x2 :: x3 :: dd 5 (x9 :: x10 :: dd 130 [])
def z0d (x8:V):List V:=dd 8 (x8 :: dd 132 [])
def z5k (M:Env):=lb M F.zk1 [0,1,2,3,9,10] [0,1,2,3,9,10]
def z1h (x0 x1 x2 x3 x9 x10:V):List V:=x0 :: x1 :: x2 :: x3 :: dd 5 (x9 :: x10 :: dd 130 [])
def z1n (x0 x1 x2 x3 x9 x10:V):List V:=x0 :: x1 :: x2 :: x3 :: dd 5 (x9 :: x10 :: dd 130 [])
def z5o (M:Env):=lb M F.zka [0,1,2,3,9,10,11] [0,1,2,3,9,10]
def z1l (x0 x1 x2 x3 x9 x10 x11:V):List V:=x0 :: x1 :: x2 :: x3 :: dd 5 (x9 :: x10 :: x11 :: dd 129 [])
def z1j (x0 x1 x2 x3 x9 x10:V):List V:=x0 :: x1 :: x2 :: x3 :: dd 5 (x9 :: x10 :: dd 130 [])
def z2w (M:Env):=lb M F.zkm [0,1,2,3,9,10,12] [0,1,2,3,9,10]
def z0o (x0 x1 x2 x3 x9 x10 x12:V):List V:=x0 :: x1 :: x2 :: x3 :: dd 5 (x9 :: x10 :: dd 1 (x12 :: dd 128 []))
def z1m (x0 x1 x2 x3 x9 x10:V):List V:=x0 :: x1 :: x2 :: x3 :: dd 5 (x9 :: x10 :: dd 130 [])
def zke (M:Env):=kf F.zl
def zk6 (M:Env):=kq M F.zku (zke M)
def z1s (M:Env):=kb 0 (zk6 M)
def zjp (M:Env):=kl [0,1,2,3,9,10] [8]
def zjn (M:Env):=kq M F.zjx (zjp M)
def z65 (M:Env):=kb 1 (zjn M)
def zko (M:Env):=kq M F.zk9 (z65 M)
def z68 (M:Env):=kb 2 (zko M)
def zkr (M:Env):=kq M F.zk4 (z65 M)
def z6b (M:Env):=kb 4 (zkr M)
def z38 (M:Env):=kb 6 (z65 M)
def zl (M:Env) (a0:V) (a1 a2:Int) (a3:V) (h:H):Rf :=
 (M.loop (zar M) (z01 a0 a1 a2 a3 (.int .i64 (wr .i64 (a1+1))) (0:Int)) h).bind fun p0=>z1s M p0.1 p0.2.1 p0.2.2
def z2x (M:Env) (x0:V) (x1 x2:Int) (x3:V) (x9 x10:Int) (h:H):Rl :=
 match decide (x10<5) with
 | true=>((M.loop (z5k M) (z1h x0 x1 x2 x3 x9 x10) h).bind fun p0=>z68 M p0.1 p0.2.1 p0.2.2)
 | false=>(some ((.exit 0),(z0d .dead),h))
def ziu (M:Env) (x8:V) (h:H):Rf :=
 some (false,h)
def zjb (M:Env) (x8:Bool) (h:H):Rf :=
 some (x8,h)
def z2y (M:Env) (x0:V) (x1 x2:Int) (x3:V) (x9 x10:Int) (h:H):Rl :=
 match decide (x9<x2) with
 | true=>((z0 1 x0 x9).bind fun v0 =>
 (h.ld1 v0).bind fun v1 =>
 (z0 1 x0 (.int .i64 (wr .i64 (x9-1)))).bind fun v2 =>
 (h.ld1 v2).bind fun v3 =>
 z7w M x3 [v1,v3] h fun p4 =>
 (asI .i64 p4.1).bind fun n5 =>
 match (!(decide (n5<0))) with
 | true=>(some (.normal,(z1h x0 x1 x2 x3 (.int .i64 (wr .i64 (x9+1))) x10),p4.2))
 | false=>(some ((.exit 2),(z1n x0 x1 x2 x3 x9 x10),p4.2)))
 | false=>(some ((.exit 2),(z1n x0 x1 x2 x3 x9 x10),h))
def z1d (M:Env) (x0:V) (x1 x2:Int) (x3:V) (x9 x10:Int) (h:H):Rl :=
 match decide (x9=x2) with
 | true=>(some (.ret,(z0d true),h))
 | false=>(match (decide ((wr .i64 (x2-x1))<50)) with
 | true=>(some (.ret,(z0d false),h))
 | false=>((z0 1 x0 (.int .i64 (wr .i64 (x9-1)))).bind fun v0 =>
 (h.ld1 v0).bind fun v1 =>
 (z0 1 x0 x9).bind fun v2 =>
 (h.ld1 v2).bind fun v3 =>
 (z0 1 x0 x9).bind fun v4 =>
 (h.st 1 v4 v1).bind fun h5 =>
 (z0 1 x0 (.int .i64 (wr .i64 (x9-1)))).bind fun v6 =>
 (h5.st 1 v6 v3).bind fun h7 =>
 match (decide (2<=(wr .i64 (x9-x1)))) with
 | true=>((M.loop (z5o M) (z1l x0 x1 x2 x3 x9 x10 (.int .i64 (wr .i64 (x9-1)))) h7).bind fun p8=>z6b M p8.1 p8.2.1 p8.2.2)
 | false=>(match (decide (2<=(wr .i64 (x2-x9)))) with
 | true=>((M.loop (z2w M) (z0o x0 x1 x2 x3 x9 x10 (.int .i64 (wr .i64 (x9+1)))) h7).bind fun p8=>z38 M p8.1 p8.2.1 p8.2.2)
 | false=>(some (.normal,(z01 x0 x1 x2 x3 x9 (.int .i64 (wr .i64 (x10+1)))),h7)))))
def z2z (M:Env) (x0:V) (x1 x2:Int) (x3:V) (x9 x10 x11:Int) (h:H):Rl :=
 match decide (1<=x11) with
 | true=>((z0 1 x0 x11).bind fun v0 =>
 (h.ld1 v0).bind fun v1 =>
 (z0 1 x0 (.int .i64 (wr .i64 (x11-1)))).bind fun v2 =>
 (h.ld1 v2).bind fun v3 =>
 z7w M x3 [v1,v3] h fun p4 =>
 (asI .i64 p4.1).bind fun n5 =>
 match (!(decide (n5<0))) with
 | true=>(some ((.exit 4),(z1j x0 x1 x2 x3 x9 x10),p4.2))
 | false=>((z0 1 x0 (.int .i64 (wr .i64 (x11-1)))).bind fun v6 =>
 (p4.2.ld1 v6).bind fun v7 =>
 (z0 1 x0 x11).bind fun v8 =>
 (p4.2.ld1 v8).bind fun v9 =>
 (z0 1 x0 x11).bind fun v10 =>
 (p4.2.st 1 v10 v7).bind fun h11 =>
 (z0 1 x0 (.int .i64 (wr .i64 (x11-1)))).bind fun v12 =>
 (h11.st 1 v12 v9).bind fun h13 =>
 some (.normal,(z1l x0 x1 x2 x3 x9 x10 (.int .i64 (wr .i64 (x11-1)))),h13)))
 | false=>(some ((.exit 4),(z1j x0 x1 x2 x3 x9 x10),h))
def z2j (M:Env) (x0:V) (x1 x2:Int) (x3:V) (x9 x10:Int) (h:H):Rl :=
 match (decide (2<=(wr .i64 (x2-x9)))) with
 | true=>((M.loop (z2w M) (z0o x0 x1 x2 x3 x9 x10 (.int .i64 (wr .i64 (x9+1)))) h).bind fun p0=>z38 M p0.1 p0.2.1 p0.2.2)
 | false=>(some (.normal,(z01 x0 x1 x2 x3 x9 (.int .i64 (wr .i64 (x10+1)))),h))
def z2v (M:Env) (x0:V) (x1 x2:Int) (x3:V) (x9 x10 x12:Int) (h:H):Rl :=
 match decide (x12<x2) with
 | true=>((z0 1 x0 x12).bind fun v0 =>
 (h.ld1 v0).bind fun v1 =>
 (z0 1 x0 (.int .i64 (wr .i64 (x12-1)))).bind fun v2 =>
 (h.ld1 v2).bind fun v3 =>
 z7w M x3 [v1,v3] h fun p4 =>
 (asI .i64 p4.1).bind fun n5 =>
 match (!(decide (n5<0))) with
 | true=>(some ((.exit 6),(z1m x0 x1 x2 x3 x9 x10),p4.2))
 | false=>((z0 1 x0 (.int .i64 (wr .i64 (x12-1)))).bind fun v6 =>
 (p4.2.ld1 v6).bind fun v7 =>
 (z0 1 x0 x12).bind fun v8 =>
 (p4.2.ld1 v8).bind fun v9 =>
 (z0 1 x0 x12).bind fun v10 =>
 (p4.2.st 1 v10 v7).bind fun h11 =>
 (z0 1 x0 (.int .i64 (wr .i64 (x12-1)))).bind fun v12 =>
 (h11.st 1 v12 v9).bind fun h13 =>
 some (.normal,(z0o x0 x1 x2 x3 x9 x10 (.int .i64 (wr .i64 (x12+1)))),h13)))
 | false=>(some ((.exit 6),(z1m x0 x1 x2 x3 x9 x10),h))
def z9x (M:Env) (x0:V) (x1 x2:Int) (x3:V) (x9 x10:Int) (h:H):Rl :=
 some (.normal,(z01 x0 x1 x2 x3 x9 (.int .i64 (wr .i64 (x10+1)))),h)
theorem zky:z06 M F.zl [a0,(.int .i64 a1),(.int .i64 a2),a3] h=zl M a0 a1 a2 a3 h:=by kernel_rfl
theorem ziz:zar M (z01 x0 (.int .i64 x1) (.int .i64 x2) x3 (.int .i64 x9) (.int .i64 x10)) h=z2x M x0 x1 x2 x3 x9 x10 h:=by kernel_rfl
theorem zht:z1s M (.exit 0) (z0d x8) h=ziu M x8 h:=by kernel_rfl
theorem zi8:z1s M .ret (z0d (.bool x8)) h=zjb M x8 h:=by kernel_rfl
theorem zj1:z5k M (z1h x0 (.int .i64 x1) (.int .i64 x2) x3 (.int .i64 x9) (.int .i64 x10)) h=z2y M x0 x1 x2 x3 x9 x10 h:=by kernel_rfl
theorem zi2:z68 M (.exit 2) (z1n x0 (.int .i64 x1) (.int .i64 x2) x3 (.int .i64 x9) (.int .i64 x10)) h=z1d M x0 x1 x2 x3 x9 x10 h:=by kernel_rfl
theorem ziq:z5o M (z1l x0 (.int .i64 x1) (.int .i64 x2) x3 (.int .i64 x9) (.int .i64 x10) (.int .i64 x11)) h=z2z M x0 x1 x2 x3 x9 x10 x11 h:=by kernel_rfl
theorem zhv:z6b M (.exit 4) (z1j x0 (.int .i64 x1) (.int .i64 x2) x3 (.int .i64 x9) (.int .i64 x10)) h=z2j M x0 x1 x2 x3 x9 x10 h:=by kernel_rfl
theorem zip:z2w M (z0o x0 (.int .i64 x1) (.int .i64 x2) x3 (.int .i64 x9) (.int .i64 x10) (.int .i64 x12)) h=z2v M x0 x1 x2 x3 x9 x10 x12 h:=by kernel_rfl
theorem zhg:z38 M (.exit 6) (z1m x0 (.int .i64 x1) (.int .i64 x2) x3 (.int .i64 x9) (.int .i64 x10)) h=z9x M x0 x1 x2 x3 x9 x10 h:=by kernel_rfl
end Wm.S
end
