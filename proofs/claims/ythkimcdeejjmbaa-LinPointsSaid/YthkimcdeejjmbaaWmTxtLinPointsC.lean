/- PRINTED by my tool: what functions come to, stretch by stretch. -/
import Derived.KernelRfl
import Derived.Test.YthkimcdeejjmbaaWmShal
import Derived.Test.YthkimcdeejjmbaaWmFnc
import Derived.Test.YthkimcdeejjmbaaWmFnsLinPoints
import Derived.Test.YthkimcdeejjmbaaWmTxtLinPointsA
set_option linter.all false
noncomputable section
namespace Wm.S
open Wm
set_option maxRecDepth 100000
set_option autoImplicit true
set_option relaxedAutoImplicit true
def z7z (M : Env) := lb M F.zlm [0, 1, 4, 12, 13] [0, 1, 4, 12, 13]
def z2y (x0 x1 x4 x12 x13 : V) : List V := x0 :: x1 :: dd 2 (x4 :: dd 7 (x12 :: x13 :: dd 164 []))
def z37 (x0 x1 x4 x12 x13 : V) : List V := x0 :: x1 :: dd 2 (x4 :: dd 7 (x12 :: x13 :: dd 164 []))
def z7q (M : Env) := lb M F.zma [0, 1, 4, 12, 13] [0, 1, 4, 12, 13]
def z33 (x0 x1 x4 x12 x13 : V) : List V := x0 :: x1 :: dd 2 (x4 :: dd 7 (x12 :: x13 :: dd 164 []))
def z31 (x0 x1 x4 x12 x13 : V) : List V := x0 :: x1 :: dd 2 (x4 :: dd 7 (x12 :: x13 :: dd 164 []))
def z7l (M : Env) := lb M F.zlk [0, 1, 4, 12, 13] [0, 1, 13]
def z1x (x0 x1 x4 x12 x13 : V) : List V := x0 :: x1 :: dd 2 (x4 :: dd 7 (x12 :: x13 :: dd 164 []))
def z58 (x0 x1 x13 : V) : List V := x0 :: x1 :: dd 11 (x13 :: dd 164 [])
def z7x (M : Env) := lb M F.zmd [0, 1, 4, 12, 13] [0, 1, 4, 12, 13]
def z2w (x0 x1 x4 x12 x13 : V) : List V := x0 :: x1 :: dd 2 (x4 :: dd 7 (x12 :: x13 :: dd 164 []))
def z34 (x0 x1 x4 x12 x13 : V) : List V := x0 :: x1 :: dd 2 (x4 :: dd 7 (x12 :: x13 :: dd 164 []))
def z7y (M : Env) := lb M F.zls [0, 1, 4, 12, 13] [0, 1, 4, 12, 13]
def z2z (x0 x1 x4 x12 x13 : V) : List V := x0 :: x1 :: dd 2 (x4 :: dd 7 (x12 :: x13 :: dd 164 []))
def z36 (x0 x1 x4 x12 x13 : V) : List V := x0 :: x1 :: dd 2 (x4 :: dd 7 (x12 :: x13 :: dd 164 []))
def z9f (M : Env) := kf F.zq
def zm9 (M : Env) := kq M F.zlx (z9f M)
def z8y (M : Env) := kb 0 (zm9 M)
def zm5 (M : Env) := kq M F.zm6 (z9f M)
def z8z (M : Env) := kb 2 (zm5 M)
def zlf (M : Env) := kq M F.zm8 (z9f M)
def z5w (M : Env) := kb 4 (zlf M)
def zm3 (M : Env) := kl [0, 1, 4, 12, 13] [0, 1, 13]
def zdp (M : Env) := kb 5 (zm3 M)
def zmc (M : Env) := kq M F.zlq (zdp M)
def z8o (M : Env) := kb 6 (zmc M)
def zko (M : Env) := kq M F.zlo (zdp M)
def z8k (M : Env) := kb 8 (zko M)
def zq (M : Env) (a0 : V) (a1 a2 a3 : Int) (a4 : V) (h : H) : Rf :=
 (za 1 a0 a3).bind fun v0 =>
 (h.ld1 v0).bind fun v1 =>
 (za 1 a0 a1).bind fun v2 =>
 (h.ld1 v2).bind fun v3 =>
 (za 1 a0 a1).bind fun v4 =>
 (h.st 1 v4 v1).bind fun h5 =>
 (za 1 a0 a3).bind fun v6 =>
 (h5.st 1 v6 v3).bind fun h7 =>
 (M.loop (z7z M) (z2y a0 a1 a4 (.int .i64 (wr .i64 (a1 + 1))) (.int .i64 (wr .i64 (a2 - 1)))) h7).bind fun p8 => z8y M p8.1 p8.2.1 p8.2.2
def z5a (M : Env) (x0 : V) (x1 : Int) (x4 : V) (x12 x13 : Int) (h : H) : Rl :=
 match decide (x12 ≤ x13) with
 | true => ((za 1 x0 x12).bind fun v0 =>
 (h.ld1 v0).bind fun v1 =>
 (za 1 x0 x1).bind fun v2 =>
 (h.ld1 v2).bind fun v3 =>
 z64 M x4 [v1, v3] h fun p4 =>
 (asI .i64 p4.1).bind fun n5 =>
 match decide (n5 < 0) with
 | true => (some (.normal, (z2y x0 x1 x4 (.int .i64 (wr .i64 (x12 + 1))) x13), p4.2))
 | false => (some ((.exit 0), (z37 x0 x1 x4 x12 x13), p4.2)))
 | false => (some ((.exit 0), (z37 x0 x1 x4 x12 x13), h))
def zcb (M : Env) (x0 : V) (x1 : Int) (x4 : V) (x12 x13 : Int) (h : H) : Rf :=
 (M.loop (z7q M) (z33 x0 x1 x4 x12 x13) h).bind fun p0 => z8z M p0.1 p0.2.1 p0.2.2
def z5e (M : Env) (x0 : V) (x1 : Int) (x4 : V) (x12 x13 : Int) (h : H) : Rl :=
 match decide (x12 ≤ x13) with
 | true => ((za 1 x0 x13).bind fun v0 =>
 (h.ld1 v0).bind fun v1 =>
 (za 1 x0 x1).bind fun v2 =>
 (h.ld1 v2).bind fun v3 =>
 z64 M x4 [v1, v3] h fun p4 =>
 (asI .i64 p4.1).bind fun n5 =>
 match (!(decide (n5 < 0))) with
 | true => (some (.normal, (z33 x0 x1 x4 x12 (.int .i64 (wr .i64 (x13 - 1)))), p4.2))
 | false => (some ((.exit 2), (z31 x0 x1 x4 x12 x13), p4.2)))
 | false => (some ((.exit 2), (z31 x0 x1 x4 x12 x13), h))
def z7f (M : Env) (x0 : V) (x1 : Int) (x4 : V) (x12 x13 : Int) (h : H) : Rf :=
 match decide (x13 < x12) with
 | true => ((za 1 x0 x1).bind fun v0 =>
 (h.ld1 v0).bind fun v1 =>
 (za 1 x0 x13).bind fun v2 =>
 (h.ld1 v2).bind fun v3 =>
 (za 1 x0 x13).bind fun v4 =>
 (h.st 1 v4 v1).bind fun h5 =>
 (za 1 x0 x1).bind fun v6 =>
 (h5.st 1 v6 v3).bind fun h7 =>
 some ((.tup [x13, true]), h7))
 | false => ((za 1 x0 x13).bind fun v0 =>
 (h.ld1 v0).bind fun v1 =>
 (za 1 x0 x12).bind fun v2 =>
 (h.ld1 v2).bind fun v3 =>
 (za 1 x0 x12).bind fun v4 =>
 (h.st 1 v4 v1).bind fun h5 =>
 (za 1 x0 x13).bind fun v6 =>
 (h5.st 1 v6 v3).bind fun h7 =>
 (M.loop (z7l M) (z1x x0 x1 x4 (.int .i64 (wr .i64 (x12 + 1))) (.int .i64 (wr .i64 (x13 - 1)))) h7).bind fun p8 => z5w M p8.1 p8.2.1 p8.2.2)
def z7s (M : Env) (x0 : V) (x1 : Int) (x4 : V) (x12 x13 : Int) (h : H) : Rl :=
 (M.loop (z7x M) (z2w x0 x1 x4 x12 x13) h).bind fun p0 => z8o M p0.1 p0.2.1 p0.2.2
def zcc (M : Env) (x0 : V) (x1 x13 : Int) (h : H) : Rf :=
 (za 1 x0 x1).bind fun v0 =>
 (h.ld1 v0).bind fun v1 =>
 (za 1 x0 x13).bind fun v2 =>
 (h.ld1 v2).bind fun v3 =>
 (za 1 x0 x13).bind fun v4 =>
 (h.st 1 v4 v1).bind fun h5 =>
 (za 1 x0 x1).bind fun v6 =>
 (h5.st 1 v6 v3).bind fun h7 =>
 some ((.tup [x13, false]), h7)
def z5b (M : Env) (x0 : V) (x1 : Int) (x4 : V) (x12 x13 : Int) (h : H) : Rl :=
 match decide (x12 ≤ x13) with
 | true => ((za 1 x0 x12).bind fun v0 =>
 (h.ld1 v0).bind fun v1 =>
 (za 1 x0 x1).bind fun v2 =>
 (h.ld1 v2).bind fun v3 =>
 z64 M x4 [v1, v3] h fun p4 =>
 (asI .i64 p4.1).bind fun n5 =>
 match decide (n5 < 0) with
 | true => (some (.normal, (z2w x0 x1 x4 (.int .i64 (wr .i64 (x12 + 1))) x13), p4.2))
 | false => (some ((.exit 6), (z34 x0 x1 x4 x12 x13), p4.2)))
 | false => (some ((.exit 6), (z34 x0 x1 x4 x12 x13), h))
def zcf (M : Env) (x0 : V) (x1 : Int) (x4 : V) (x12 x13 : Int) (h : H) : Rl :=
 (M.loop (z7y M) (z2z x0 x1 x4 x12 x13) h).bind fun p0 => z8k M p0.1 p0.2.1 p0.2.2
def z5d (M : Env) (x0 : V) (x1 : Int) (x4 : V) (x12 x13 : Int) (h : H) : Rl :=
 match decide (x12 ≤ x13) with
 | true => ((za 1 x0 x13).bind fun v0 =>
 (h.ld1 v0).bind fun v1 =>
 (za 1 x0 x1).bind fun v2 =>
 (h.ld1 v2).bind fun v3 =>
 z64 M x4 [v1, v3] h fun p4 =>
 (asI .i64 p4.1).bind fun n5 =>
 match (!(decide (n5 < 0))) with
 | true => (some (.normal, (z2z x0 x1 x4 x12 (.int .i64 (wr .i64 (x13 - 1)))), p4.2))
 | false => (some ((.exit 8), (z36 x0 x1 x4 x12 x13), p4.2)))
 | false => (some ((.exit 8), (z36 x0 x1 x4 x12 x13), h))
def z7g (M : Env) (x0 : V) (x1 : Int) (x4 : V) (x12 x13 : Int) (h : H) : Rl :=
 match decide (x13 < x12) with
 | true => (some ((.exit 4), (z58 x0 x1 x13), h))
 | false => ((za 1 x0 x13).bind fun v0 =>
 (h.ld1 v0).bind fun v1 =>
 (za 1 x0 x12).bind fun v2 =>
 (h.ld1 v2).bind fun v3 =>
 (za 1 x0 x12).bind fun v4 =>
 (h.st 1 v4 v1).bind fun h5 =>
 (za 1 x0 x13).bind fun v6 =>
 (h5.st 1 v6 v3).bind fun h7 =>
 some (.normal, (z1x x0 x1 x4 (.int .i64 (wr .i64 (x12 + 1))) (.int .i64 (wr .i64 (x13 - 1)))), h7))
theorem zm0 : z06 M F.zq [a0, (.int .i64 a1), (.int .i64 a2), (.int .i64 a3), a4] h = zq M a0 a1 a2 a3 a4 h := by kernel_rfl
theorem zja : z7z M (z2y x0 (.int .i64 x1) x4 (.int .i64 x12) (.int .i64 x13)) h = z5a M x0 x1 x4 x12 x13 h := by kernel_rfl
theorem zh8 : z8y M (.exit 0) (z37 x0 (.int .i64 x1) x4 (.int .i64 x12) (.int .i64 x13)) h = zcb M x0 x1 x4 x12 x13 h := by kernel_rfl
theorem zjm : z7q M (z33 x0 (.int .i64 x1) x4 (.int .i64 x12) (.int .i64 x13)) h = z5e M x0 x1 x4 x12 x13 h := by kernel_rfl
theorem zhe : z8z M (.exit 2) (z31 x0 (.int .i64 x1) x4 (.int .i64 x12) (.int .i64 x13)) h = z7f M x0 x1 x4 x12 x13 h := by kernel_rfl
theorem zjd : z7l M (z1x x0 (.int .i64 x1) x4 (.int .i64 x12) (.int .i64 x13)) h = z7s M x0 x1 x4 x12 x13 h := by kernel_rfl
theorem zhb : z5w M (.exit 4) (z58 x0 (.int .i64 x1) (.int .i64 x13)) h = zcc M x0 x1 x13 h := by kernel_rfl
theorem zjg : z7x M (z2w x0 (.int .i64 x1) x4 (.int .i64 x12) (.int .i64 x13)) h = z5b M x0 x1 x4 x12 x13 h := by kernel_rfl
theorem zha : z8o M (.exit 6) (z34 x0 (.int .i64 x1) x4 (.int .i64 x12) (.int .i64 x13)) h = zcf M x0 x1 x4 x12 x13 h := by kernel_rfl
theorem zjq : z7y M (z2z x0 (.int .i64 x1) x4 (.int .i64 x12) (.int .i64 x13)) h = z5d M x0 x1 x4 x12 x13 h := by kernel_rfl
theorem zhf : z8k M (.exit 8) (z36 x0 (.int .i64 x1) x4 (.int .i64 x12) (.int .i64 x13)) h = z7g M x0 x1 x4 x12 x13 h := by kernel_rfl
def zcj (M : Env) := lb M F.zm2 [0, 1, 2, 3, 10] []
def z55 (x0 x1 x2 x3 x10 : V) : List V := x0 :: x1 :: x2 :: x3 :: dd 6 (x10 :: dd 27 [])
def z7u : List V := dd 38 []
def zme (M : Env) := kf F.z0m
def z94 (M : Env) := kb 0 (zme M)
def z0m (M : Env) (a0 : V) (a1 a2 a3 : Int) (a4 : V) (h : H) : Rf :=
 (M.loop (zcj M) (z55 a0 a1 a2 a3 (0:Int)) h).bind fun p0 => z94 M p0.1 p0.2.1 p0.2.2
def z7n (M : Env) (x0 : V) (x1 x2 x3 x10 : Int) (h : H) : Rl :=
 match decide (x10 < x3) with
 | true => ((za 1 x0 (.int .i64 (wr .i64 (x2 + x10)))).bind fun v0 =>
 (h.ld1 v0).bind fun v1 =>
 (za 1 x0 (.int .i64 (wr .i64 (x1 + x10)))).bind fun v2 =>
 (h.ld1 v2).bind fun v3 =>
 (za 1 x0 (.int .i64 (wr .i64 (x1 + x10)))).bind fun v4 =>
 (h.st 1 v4 v1).bind fun h5 =>
 (za 1 x0 (.int .i64 (wr .i64 (x2 + x10)))).bind fun v6 =>
 (h5.st 1 v6 v3).bind fun h7 =>
 some (.normal, (z55 x0 x1 x2 x3 (.int .i64 (wr .i64 (x10 + 1)))), h7))
 | false => (some ((.exit 0), z7u, h))
def zjs (M : Env) (h : H) : Rf :=
 some ((.tup []), h)
theorem zlt : z06 M F.z0m [a0, (.int .i64 a1), (.int .i64 a2), (.int .i64 a3), a4] h = z0m M a0 a1 a2 a3 a4 h := by kernel_rfl
theorem zjn : zcj M (z55 x0 (.int .i64 x1) (.int .i64 x2) (.int .i64 x3) (.int .i64 x10)) h = z7n M x0 x1 x2 x3 x10 h := by kernel_rfl
theorem zhc : z94 M (.exit 0) z7u h = zjs M h := by kernel_rfl
def zea (M : Env) := lb M F.zp6 [0, 2, 4, 10, 11] [0, 2, 4, 10]
def z4a (x0 x2 x4 x10 x11 : V) : List V := x0 :: dd 1 (x2 :: dd 1 (x4 :: dd 5 (x10 :: x11 :: dd 46 [])))
def z9x (x0 x2 x4 x10 : V) : List V := x0 :: dd 1 (x2 :: dd 1 (x4 :: dd 5 (x10 :: dd 47 [])))
def zpb (M : Env) := kf F.z0p
def zp1 (M : Env) := kq M F.zom (zpb M)
def zam (M : Env) := kb 0 (zp1 M)
def z0p (M : Env) (a0 : V) (a1 a2 a3 : Int) (a4 : V) (h : H) : Rf :=
 (M.loop (zea M) (z4a a0 a2 a4 (.int .i64 (wr .i64 (a2 - a1))) (.int .i64 (wr .i64 (a3 - a2)))) h).bind fun p0 => zam M p0.1 p0.2.1 p0.2.2
def z68 (M : Env) (x0 : V) (x2 : Int) (x4 : V) (x10 x11 : Int) (h : H) : Rl :=
 match (!decide (x10 = x11)) with
 | true => (match decide (x11 < x10) with
 | true => ((M.call 513 [x0, (.int .i64 (wr .i64 (x2 - x10))), x2, x11, x4] h).bind fun p0 =>
 some (.normal, (z4a x0 x2 x4 (.int .i64 (wr .i64 (x10 - x11))) x11), p0.2))
 | false => ((M.call 513 [x0, (.int .i64 (wr .i64 (x2 - x10))), (.int .i64 (wr .i64 ((wr .i64 (x2 + x11)) - x10))), x10, x4] h).bind fun p0 =>
 some (.normal, (z4a x0 x2 x4 x10 (.int .i64 (wr .i64 (x11 - x10)))), p0.2)))
 | false => (some ((.exit 0), (z9x x0 x2 x4 x10), h))
def zdq (M : Env) (x0 : V) (x2 : Int) (x4 : V) (x10 : Int) (h : H) : Rf :=
 (M.call 513 [x0, (.int .i64 (wr .i64 (x2 - x10))), x2, x10, x4] h).bind fun p0 =>
 some ((.tup []), p0.2)
theorem zok : z06 M F.z0p [a0, (.int .i64 a1), (.int .i64 a2), (.int .i64 a3), a4] h = z0p M a0 a1 a2 a3 a4 h := by kernel_rfl
theorem zlg : zea M (z4a x0 (.int .i64 x2) x4 (.int .i64 x10) (.int .i64 x11)) h = z68 M x0 x2 x4 x10 x11 h := by kernel_rfl
theorem zjc : zam M (.exit 0) (z9x x0 (.int .i64 x2) x4 (.int .i64 x10)) h = zdq M x0 x2 x4 x10 h := by kernel_rfl
def z5p (M : Env) := lb M F.znd [0, 1, 4, 10, 11] [0, 1, 10]
def z1g (x0 x1 x4 x10 x11 : V) : List V := x0 :: x1 :: dd 2 (x4 :: dd 5 (x10 :: x11 :: dd 208 []))
def z5h (x0 x1 x10 : V) : List V := x0 :: x1 :: dd 8 (x10 :: dd 209 [])
def z8n (M : Env) := lb M F.zmk [0, 10, 13] []
def z3e (x0 x10 x13 : V) : List V := x0 :: dd 9 (x10 :: dd 2 (x13 :: dd 206 []))
def z5j : List V := dd 220 []
def z5g (M : Env) := lb M F.znp [0, 2, 4, 14, 15] [0, 2, 14]
def z1f (x0 x2 x4 x14 x15 : V) : List V := x0 :: dd 1 (x2 :: dd 1 (x4 :: dd 9 (x14 :: x15 :: dd 204 [])))
def z5n (x0 x2 x14 : V) : List V := x0 :: dd 1 (x2 :: dd 11 (x14 :: dd 205 []))
def z8g (M : Env) := lb M F.zna [0, 14, 17] []
def z3j (x0 x14 x17 : V) : List V := x0 :: dd 13 (x14 :: dd 2 (x17 :: dd 202 []))
def z5i : List V := dd 220 []
def z7o (M : Env) := jb M F.zlp [0, 1, 2, 3, 4, 18, 19, 20, 21]
def z7p (x0 x1 x2 x3 x4 x18 x19 : V) : List V := x0 :: x1 :: x2 :: x3 :: x4 :: dd 13 (x18 :: x19 :: dd 200 [])
def z82 (x0 x1 x2 x3 x4 x18 x19 x20 x21 : V) : List V := x0 :: x1 :: x2 :: x3 :: x4 :: dd 13 (x18 :: x19 :: x20 :: x21 :: dd 198 [])
def z80 (M : Env) := lb M F.zm4 [0, 1, 2, 3, 4, 18, 19, 20, 21, 22] [0, 1, 2, 3, 4, 18, 19, 20]
def z1z (x0 x1 x2 x3 x4 x18 x19 x20 x21 x22 : V) : List V := x0 :: x1 :: x2 :: x3 :: x4 :: dd 13 (x18 :: x19 :: x20 :: x21 :: x22 :: dd 197 [])
def z54 (x0 x1 x2 x3 x4 x18 x19 x20 : V) : List V := x0 :: x1 :: x2 :: x3 :: x4 :: dd 13 (x18 :: x19 :: x20 :: dd 199 [])
def zcr (M : Env) := jb M F.zlv [0, 1, 3, 4, 18, 20, 24]
def zco (x0 x1 x2 x3 x4 x18 x20 x24 : V) : List V := x0 :: x1 :: x2 :: x3 :: x4 :: dd 13 (x18 :: dd 1 (x20 :: dd 3 (x24 :: dd 195 [])))
def z30 (x0 x1 x3 x4 x18 x20 x24 : V) : List V := x0 :: x1 :: dd 1 (x3 :: x4 :: dd 13 (x18 :: dd 1 (x20 :: dd 3 (x24 :: dd 195 []))))
def zcq (M : Env) := jb M F.zlr [0, 3, 4, 18, 24]
def zcm (x0 x1 x3 x4 x18 x20 x24 : V) : List V := x0 :: x1 :: dd 1 (x3 :: x4 :: dd 13 (x18 :: dd 1 (x20 :: dd 3 (x24 :: dd 195 []))))
def z32 (x0 x3 x4 x18 x24 : V) : List V := x0 :: dd 2 (x3 :: x4 :: dd 13 (x18 :: dd 5 (x24 :: dd 195 [])))
def z2p (M : Env) := kf F.zi
def zee (M : Env) := kq M F.zmf (z2p M)
def zml (M : Env) := kq M F.znf (zee M)
def z6c (M : Env) := kb 0 (zml M)
def ze1 (M : Env) := kq M F.zmv (z2p M)
def zmz (M : Env) := kq M F.zno (ze1 M)
def z6b (M : Env) := kb 4 (zmz M)
def z48 (M : Env) := kq M F.zli (z2p M)
def zmn (M : Env) := kq M F.zn8 (zee M)
def z9j (M : Env) := kb 2 (zmn M)
def zmb (M : Env) := kq M F.znb (ze1 M)
def z9e (M : Env) := kb 6 (zmb M)
def zm1 (M : Env) := kq M F.zm7 (z2p M)
def z9a (M : Env) := kb 8 (zm1 M)
def z96 (M : Env) := kq M F.zlj (z2p M)
def z9d (M : Env) := kq M F.zln (z2p M)
def zi (M : Env) (a0 : V) (a1 a2 a3 : Int) (a4 : V) (h : H) : Rf :=
 match (decide ((wr .i64 (a2 - a1)) = 1)) with
 | true => ((M.loop (z5p M) (z1g a0 a1 a4 a2 a3) h).bind fun p0 => z6c M p0.1 p0.2.1 p0.2.2)
 | false => (match (decide ((wr .i64 (a3 - a2)) = 1)) with
 | true => ((M.loop (z5g M) (z1f a0 a2 a4 a1 a2) h).bind fun p0 => z6b M p0.1 p0.2.1 p0.2.2)
 | false => ((z7o M (z7p a0 a1 a2 a3 a4 (.int .i64 (wr .i64 ((wr .u64 (wr .i64 (a1 + a3))) / 2 ^ (min (Int.toNat 1) (Go.IntKind.bits .u64))))) (.int .i64 (wr .i64 ((wr .i64 ((wr .u64 (wr .i64 (a1 + a3))) / 2 ^ (min (Int.toNat 1) (Go.IntKind.bits .u64)))) + a2)))) h).bind fun p0 => z48 M p0.1 p0.2.1 p0.2.2))
def z5o (M : Env) (x0 : V) (x1 : Int) (x4 : V) (x10 x11 : Int) (h : H) : Rl :=
 match decide (x10 < x11) with
 | true => ((za 1 x0 (.int .i64 (wr .i64 ((wr .u64 (wr .i64 (x10 + x11))) / 2 ^ (min (Int.toNat 1) (Go.IntKind.bits .u64)))))).bind fun v0 =>
 (h.ld1 v0).bind fun v1 =>
 (za 1 x0 x1).bind fun v2 =>
 (h.ld1 v2).bind fun v3 =>
 z64 M x4 [v1, v3] h fun p4 =>
 (asI .i64 p4.1).bind fun n5 =>
 match decide (n5 < 0) with
 | true => (some (.normal, (z1g x0 x1 x4 (.int .i64 (wr .i64 ((wr .i64 ((wr .u64 (wr .i64 (x10 + x11))) / 2 ^ (min (Int.toNat 1) (Go.IntKind.bits .u64)))) + 1))) x11), p4.2))
 | false => (some (.normal, (z1g x0 x1 x4 x10 (.int .i64 (wr .i64 ((wr .u64 (wr .i64 (x10 + x11))) / 2 ^ (min (Int.toNat 1) (Go.IntKind.bits .u64)))))), p4.2)))
 | false => (some ((.exit 0), (z5h x0 x1 x10), h))
def zci (M : Env) (x0 : V) (x1 x10 : Int) (h : H) : Rf :=
 (M.loop (z8n M) (z3e x0 x10 x1) h).bind fun p0 => z9j M p0.1 p0.2.1 p0.2.2
def z8c (M : Env) (x0 : V) (x10 x13 : Int) (h : H) : Rl :=
 match (decide (x13 < (wr .i64 (x10 - 1)))) with
 | true => ((za 1 x0 (.int .i64 (wr .i64 (x13 + 1)))).bind fun v0 =>
 (h.ld1 v0).bind fun v1 =>
 (za 1 x0 x13).bind fun v2 =>
 (h.ld1 v2).bind fun v3 =>
 (za 1 x0 x13).bind fun v4 =>
 (h.st 1 v4 v1).bind fun h5 =>
 (za 1 x0 (.int .i64 (wr .i64 (x13 + 1)))).bind fun v6 =>
 (h5.st 1 v6 v3).bind fun h7 =>
 some (.normal, (z3e x0 x10 (.int .i64 (wr .i64 (x13 + 1)))), h7))
 | false => (some ((.exit 2), z5j, h))
def zkb (M : Env) (h : H) : Rf :=
 some ((.tup []), h)
def z5q (M : Env) (x0 : V) (x2 : Int) (x4 : V) (x14 x15 : Int) (h : H) : Rl :=
 match decide (x14 < x15) with
 | true => ((za 1 x0 x2).bind fun v0 =>
 (h.ld1 v0).bind fun v1 =>
 (za 1 x0 (.int .i64 (wr .i64 ((wr .u64 (wr .i64 (x14 + x15))) / 2 ^ (min (Int.toNat 1) (Go.IntKind.bits .u64)))))).bind fun v2 =>
 (h.ld1 v2).bind fun v3 =>
 z64 M x4 [v1, v3] h fun p4 =>
 (asI .i64 p4.1).bind fun n5 =>
 match (!(decide (n5 < 0))) with
 | true => (some (.normal, (z1f x0 x2 x4 (.int .i64 (wr .i64 ((wr .i64 ((wr .u64 (wr .i64 (x14 + x15))) / 2 ^ (min (Int.toNat 1) (Go.IntKind.bits .u64)))) + 1))) x15), p4.2))
 | false => (some (.normal, (z1f x0 x2 x4 x14 (.int .i64 (wr .i64 ((wr .u64 (wr .i64 (x14 + x15))) / 2 ^ (min (Int.toNat 1) (Go.IntKind.bits .u64)))))), p4.2)))
 | false => (some ((.exit 4), (z5n x0 x2 x14), h))
def zch (M : Env) (x0 : V) (x2 x14 : Int) (h : H) : Rf :=
 (M.loop (z8g M) (z3j x0 x14 x2) h).bind fun p0 => z9e M p0.1 p0.2.1 p0.2.2
def z8j (M : Env) (x0 : V) (x14 x17 : Int) (h : H) : Rl :=
 match decide (x14 < x17) with
 | true => ((za 1 x0 (.int .i64 (wr .i64 (x17 - 1)))).bind fun v0 =>
 (h.ld1 v0).bind fun v1 =>
 (za 1 x0 x17).bind fun v2 =>
 (h.ld1 v2).bind fun v3 =>
 (za 1 x0 x17).bind fun v4 =>
 (h.st 1 v4 v1).bind fun h5 =>
 (za 1 x0 (.int .i64 (wr .i64 (x17 - 1)))).bind fun v6 =>
 (h5.st 1 v6 v3).bind fun h7 =>
 some (.normal, (z3j x0 x14 (.int .i64 (wr .i64 (x17 - 1)))), h7))
 | false => (some ((.exit 6), z5i, h))
def zjz (M : Env) (h : H) : Rf :=
 some ((.tup []), h)
def z7t (M : Env) (x0 : V) (x1 x2 x3 : Int) (x4 : V) (x18 x19 : Int) (h : H) : Rl :=
 match decide (x18 < x2) with
 | true => (some (.normal, (z82 x0 x1 x2 x3 x4 x18 x19 (.int .i64 (wr .i64 (x19 - x3))) x18), h))
 | false => (some (.normal, (z82 x0 x1 x2 x3 x4 x18 x19 x1 x2), h))
def z7r (M : Env) (x0 : V) (x1 x2 x3 : Int) (x4 : V) (x18 x19 x20 x21 : Int) (h : H) : Rf :=
 (M.loop (z80 M) (z1z x0 x1 x2 x3 x4 x18 x19 x20 x21 (.int .i64 (wr .i64 (x19 - 1)))) h).bind fun p0 => z9a M p0.1 p0.2.1 p0.2.2
def z59 (M : Env) (x0 : V) (x1 x2 x3 : Int) (x4 : V) (x18 x19 x20 x21 x22 : Int) (h : H) : Rl :=
 match decide (x20 < x21) with
 | true => ((za 1 x0 (.int .i64 (wr .i64 (x22 - (wr .i64 ((wr .u64 (wr .i64 (x20 + x21))) / 2 ^ (min (Int.toNat 1) (Go.IntKind.bits .u64)))))))).bind fun v0 =>
 (h.ld1 v0).bind fun v1 =>
 (za 1 x0 (.int .i64 (wr .i64 ((wr .u64 (wr .i64 (x20 + x21))) / 2 ^ (min (Int.toNat 1) (Go.IntKind.bits .u64)))))).bind fun v2 =>
 (h.ld1 v2).bind fun v3 =>
 z64 M x4 [v1, v3] h fun p4 =>
 (asI .i64 p4.1).bind fun n5 =>
 match (!(decide (n5 < 0))) with
 | true => (some (.normal, (z1z x0 x1 x2 x3 x4 x18 x19 (.int .i64 (wr .i64 ((wr .i64 ((wr .u64 (wr .i64 (x20 + x21))) / 2 ^ (min (Int.toNat 1) (Go.IntKind.bits .u64)))) + 1))) x21 x22), p4.2))
 | false => (some (.normal, (z1z x0 x1 x2 x3 x4 x18 x19 x20 (.int .i64 (wr .i64 ((wr .u64 (wr .i64 (x20 + x21))) / 2 ^ (min (Int.toNat 1) (Go.IntKind.bits .u64))))) x22), p4.2)))
 | false => (some ((.exit 8), (z54 x0 x1 x2 x3 x4 x18 x19 x20), h))
def z7e (M : Env) (x0 : V) (x1 x2 x3 : Int) (x4 : V) (x18 x19 x20 : Int) (h : H) : Rf :=
 (zcr M (zco x0 x1 x2 x3 x4 x18 x20 (.int .i64 (wr .i64 (x19 - x20)))) h).bind fun p0 => z96 M p0.1 p0.2.1 p0.2.2
def z5c (M : Env) (x0 : V) (x1 x2 x3 : Int) (x4 : V) (x18 x20 x24 : Int) (h : H) : Rl :=
 match decide (x20 < x2) with
 | true => (match decide (x2 < x24) with
 | true => ((M.call 492 [x0, x20, x2, x24, x4] h).bind fun p0 =>
 some (.normal, (z30 x0 x1 x3 x4 x18 x20 x24), p0.2))
 | false => (some (.normal, (z30 x0 x1 x3 x4 x18 x20 x24), h)))
 | false => (some (.normal, (z30 x0 x1 x3 x4 x18 x20 x24), h))
def z85 (M : Env) (x0 : V) (x1 x3 : Int) (x4 : V) (x18 x20 x24 : Int) (h : H) : Rf :=
 (zcq M (zcm x0 x1 x3 x4 x18 x20 x24) h).bind fun p0 => z9d M p0.1 p0.2.1 p0.2.2
def z56 (M : Env) (x0 : V) (x1 x3 : Int) (x4 : V) (x18 x20 x24 : Int) (h : H) : Rl :=
 match decide (x1 < x20) with
 | true => (match decide (x20 < x18) with
 | true => ((M.call 460 [x0, x1, x20, x18, x4] h).bind fun p0 =>
 some (.normal, (z32 x0 x3 x4 x18 x24), p0.2))
 | false => (some (.normal, (z32 x0 x3 x4 x18 x24), h)))
 | false => (some (.normal, (z32 x0 x3 x4 x18 x24), h))
def z35 (M : Env) (x0 : V) (x3 : Int) (x4 : V) (x18 x24 : Int) (h : H) : Rf :=
 match decide (x18 < x24) with
 | true => (match decide (x24 < x3) with
 | true => ((M.call 460 [x0, x18, x24, x3, x4] h).bind fun p0 =>
 some ((.tup []), p0.2))
 | false => (some ((.tup []), h)))
 | false => (some ((.tup []), h))
theorem zn0 : z06 M F.zi [a0, (.int .i64 a1), (.int .i64 a2), (.int .i64 a3), a4] h = zi M a0 a1 a2 a3 a4 h := by kernel_rfl
theorem zk2 : z5p M (z1g x0 (.int .i64 x1) x4 (.int .i64 x10) (.int .i64 x11)) h = z5o M x0 x1 x4 x10 x11 h := by kernel_rfl
theorem zi7 : z6c M (.exit 0) (z5h x0 (.int .i64 x1) (.int .i64 x10)) h = zci M x0 x1 x10 h := by kernel_rfl
theorem zkf : z8n M (z3e x0 (.int .i64 x10) (.int .i64 x13)) h = z8c M x0 x10 x13 h := by kernel_rfl
theorem zhr : z9j M (.exit 2) z5j h = zkb M h := by kernel_rfl
theorem zka : z5g M (z1f x0 (.int .i64 x2) x4 (.int .i64 x14) (.int .i64 x15)) h = z5q M x0 x2 x4 x14 x15 h := by kernel_rfl
theorem zhn : z6b M (.exit 4) (z5n x0 (.int .i64 x2) (.int .i64 x14)) h = zch M x0 x2 x14 h := by kernel_rfl
theorem zjv : z8g M (z3j x0 (.int .i64 x14) (.int .i64 x17)) h = z8j M x0 x14 x17 h := by kernel_rfl
theorem zhj : z9e M (.exit 6) z5i h = zjz M h := by kernel_rfl
theorem zjr : z7o M (z7p x0 (.int .i64 x1) (.int .i64 x2) (.int .i64 x3) x4 (.int .i64 x18) (.int .i64 x19)) h = z7t M x0 x1 x2 x3 x4 x18 x19 h := by kernel_rfl
theorem zbu : z48 M .normal (z82 x0 (.int .i64 x1) (.int .i64 x2) (.int .i64 x3) x4 (.int .i64 x18) (.int .i64 x19) (.int .i64 x20) (.int .i64 x21)) h = z7r M x0 x1 x2 x3 x4 x18 x19 x20 x21 h := by kernel_rfl
theorem zjj : z80 M (z1z x0 (.int .i64 x1) (.int .i64 x2) (.int .i64 x3) x4 (.int .i64 x18) (.int .i64 x19) (.int .i64 x20) (.int .i64 x21) (.int .i64 x22)) h = z59 M x0 x1 x2 x3 x4 x18 x19 x20 x21 x22 h := by kernel_rfl
theorem zh9 : z9a M (.exit 8) (z54 x0 (.int .i64 x1) (.int .i64 x2) (.int .i64 x3) x4 (.int .i64 x18) (.int .i64 x19) (.int .i64 x20)) h = z7e M x0 x1 x2 x3 x4 x18 x19 x20 h := by kernel_rfl
theorem zji : zcr M (zco x0 (.int .i64 x1) (.int .i64 x2) (.int .i64 x3) x4 (.int .i64 x18) (.int .i64 x20) (.int .i64 x24)) h = z5c M x0 x1 x2 x3 x4 x18 x20 x24 h := by kernel_rfl
theorem zi1 : z96 M .normal (z30 x0 (.int .i64 x1) (.int .i64 x3) x4 (.int .i64 x18) (.int .i64 x20) (.int .i64 x24)) h = z85 M x0 x1 x3 x4 x18 x20 x24 h := by kernel_rfl
theorem zjt : zcq M (zcm x0 (.int .i64 x1) (.int .i64 x3) x4 (.int .i64 x18) (.int .i64 x20) (.int .i64 x24)) h = z56 M x0 x1 x3 x4 x18 x20 x24 h := by kernel_rfl
theorem zia : z9d M .normal (z32 x0 (.int .i64 x3) x4 (.int .i64 x18) (.int .i64 x24)) h = z35 M x0 x3 x4 x18 x24 h := by kernel_rfl
def z84 (M : Env) := lb M F.zf5 [0, 1, 2, 3, 9, 10] [8]
def zx (x0 x1 x2 x3 x9 x10 : V) : List V := x0 :: x1 :: x2 :: x3 :: dd 5 (x9 :: x10 :: dd 130 [])
def z05 (x8 : V) : List V := dd 8 (x8 :: dd 132 [])
def z4h (M : Env) := lb M F.zep [0, 1, 2, 3, 9, 10] [0, 1, 2, 3, 9, 10]
def z1a (x0 x1 x2 x3 x9 x10 : V) : List V := x0 :: x1 :: x2 :: x3 :: dd 5 (x9 :: x10 :: dd 130 [])
def z17 (x0 x1 x2 x3 x9 x10 : V) : List V := x0 :: x1 :: x2 :: x3 :: dd 5 (x9 :: x10 :: dd 130 [])
def z4j (M : Env) := lb M F.zew [0, 1, 2, 3, 9, 10, 11] [0, 1, 2, 3, 9, 10]
def z1c (x0 x1 x2 x3 x9 x10 x11 : V) : List V := x0 :: x1 :: x2 :: x3 :: dd 5 (x9 :: x10 :: x11 :: dd 129 [])
def z19 (x0 x1 x2 x3 x9 x10 : V) : List V := x0 :: x1 :: x2 :: x3 :: dd 5 (x9 :: x10 :: dd 130 [])
def z2i (M : Env) := lb M F.zfb [0, 1, 2, 3, 9, 10, 12] [0, 1, 2, 3, 9, 10]
def z0l (x0 x1 x2 x3 x9 x10 x12 : V) : List V := x0 :: x1 :: x2 :: x3 :: dd 5 (x9 :: x10 :: dd 1 (x12 :: dd 128 []))
def z1b (x0 x1 x2 x3 x9 x10 : V) : List V := x0 :: x1 :: x2 :: x3 :: dd 5 (x9 :: x10 :: dd 130 [])
def zeo (M : Env) := kf F.zl
def zf4 (M : Env) := kq M F.zev (zeo M)
def z1j (M : Env) := kb 0 (zf4 M)
def zf0 (M : Env) := kl [0, 1, 2, 3, 9, 10] [8]
def zfh (M : Env) := kq M F.zfg (zf0 M)
def z53 (M : Env) := kb 1 (zfh M)
def zfy (M : Env) := kq M F.zfe (z53 M)
def z51 (M : Env) := kb 2 (zfy M)
def zf2 (M : Env) := kq M F.zez (z53 M)
def z50 (M : Env) := kb 4 (zf2 M)
def z2o (M : Env) := kb 6 (z53 M)
def zl (M : Env) (a0 : V) (a1 a2 : Int) (a3 : V) (h : H) : Rf :=
 (M.loop (z84 M) (zx a0 a1 a2 a3 (.int .i64 (wr .i64 (a1 + 1))) (0:Int)) h).bind fun p0 => z1j M p0.1 p0.2.1 p0.2.2
def z2k (M : Env) (x0 : V) (x1 x2 : Int) (x3 : V) (x9 x10 : Int) (h : H) : Rl :=
 match decide (x10 < 5) with
 | true => ((M.loop (z4h M) (z1a x0 x1 x2 x3 x9 x10) h).bind fun p0 => z51 M p0.1 p0.2.1 p0.2.2)
 | false => (some ((.exit 0), (z05 .dead), h))
def zeg (M : Env) (x8 : V) (h : H) : Rf :=
 some (false, h)
def zei (M : Env) (x8 : Bool) (h : H) : Rf :=
 some (x8, h)
def z2g (M : Env) (x0 : V) (x1 x2 : Int) (x3 : V) (x9 x10 : Int) (h : H) : Rl :=
 match decide (x9 < x2) with
 | true => ((za 1 x0 x9).bind fun v0 =>
 (h.ld1 v0).bind fun v1 =>
 (za 1 x0 (.int .i64 (wr .i64 (x9 - 1)))).bind fun v2 =>
 (h.ld1 v2).bind fun v3 =>
 z64 M x3 [v1, v3] h fun p4 =>
 (asI .i64 p4.1).bind fun n5 =>
 match (!(decide (n5 < 0))) with
 | true => (some (.normal, (z1a x0 x1 x2 x3 (.int .i64 (wr .i64 (x9 + 1))) x10), p4.2))
 | false => (some ((.exit 2), (z17 x0 x1 x2 x3 x9 x10), p4.2)))
 | false => (some ((.exit 2), (z17 x0 x1 x2 x3 x9 x10), h))
def z15 (M : Env) (x0 : V) (x1 x2 : Int) (x3 : V) (x9 x10 : Int) (h : H) : Rl :=
 match decide (x9 = x2) with
 | true => (some (.ret, (z05 true), h))
 | false => (match (decide ((wr .i64 (x2 - x1)) < 50)) with
 | true => (some (.ret, (z05 false), h))
 | false => ((za 1 x0 (.int .i64 (wr .i64 (x9 - 1)))).bind fun v0 =>
 (h.ld1 v0).bind fun v1 =>
 (za 1 x0 x9).bind fun v2 =>
 (h.ld1 v2).bind fun v3 =>
 (za 1 x0 x9).bind fun v4 =>
 (h.st 1 v4 v1).bind fun h5 =>
 (za 1 x0 (.int .i64 (wr .i64 (x9 - 1)))).bind fun v6 =>
 (h5.st 1 v6 v3).bind fun h7 =>
 match (decide (2 ≤ (wr .i64 (x9 - x1)))) with
 | true => ((M.loop (z4j M) (z1c x0 x1 x2 x3 x9 x10 (.int .i64 (wr .i64 (x9 - 1)))) h7).bind fun p8 => z50 M p8.1 p8.2.1 p8.2.2)
 | false => (match (decide (2 ≤ (wr .i64 (x2 - x9)))) with
 | true => ((M.loop (z2i M) (z0l x0 x1 x2 x3 x9 x10 (.int .i64 (wr .i64 (x9 + 1)))) h7).bind fun p8 => z2o M p8.1 p8.2.1 p8.2.2)
 | false => (some (.normal, (zx x0 x1 x2 x3 x9 (.int .i64 (wr .i64 (x10 + 1)))), h7)))))
def z2j (M : Env) (x0 : V) (x1 x2 : Int) (x3 : V) (x9 x10 x11 : Int) (h : H) : Rl :=
 match decide (1 ≤ x11) with
 | true => ((za 1 x0 x11).bind fun v0 =>
 (h.ld1 v0).bind fun v1 =>
 (za 1 x0 (.int .i64 (wr .i64 (x11 - 1)))).bind fun v2 =>
 (h.ld1 v2).bind fun v3 =>
 z64 M x3 [v1, v3] h fun p4 =>
 (asI .i64 p4.1).bind fun n5 =>
 match (!(decide (n5 < 0))) with
 | true => (some ((.exit 4), (z19 x0 x1 x2 x3 x9 x10), p4.2))
 | false => ((za 1 x0 (.int .i64 (wr .i64 (x11 - 1)))).bind fun v6 =>
 (p4.2.ld1 v6).bind fun v7 =>
 (za 1 x0 x11).bind fun v8 =>
 (p4.2.ld1 v8).bind fun v9 =>
 (za 1 x0 x11).bind fun v10 =>
 (p4.2.st 1 v10 v7).bind fun h11 =>
 (za 1 x0 (.int .i64 (wr .i64 (x11 - 1)))).bind fun v12 =>
 (h11.st 1 v12 v9).bind fun h13 =>
 some (.normal, (z1c x0 x1 x2 x3 x9 x10 (.int .i64 (wr .i64 (x11 - 1)))), h13)))
 | false => (some ((.exit 4), (z19 x0 x1 x2 x3 x9 x10), h))
def z26 (M : Env) (x0 : V) (x1 x2 : Int) (x3 : V) (x9 x10 : Int) (h : H) : Rl :=
 match (decide (2 ≤ (wr .i64 (x2 - x9)))) with
 | true => ((M.loop (z2i M) (z0l x0 x1 x2 x3 x9 x10 (.int .i64 (wr .i64 (x9 + 1)))) h).bind fun p0 => z2o M p0.1 p0.2.1 p0.2.2)
 | false => (some (.normal, (zx x0 x1 x2 x3 x9 (.int .i64 (wr .i64 (x10 + 1)))), h))
def z2h (M : Env) (x0 : V) (x1 x2 : Int) (x3 : V) (x9 x10 x12 : Int) (h : H) : Rl :=
 match decide (x12 < x2) with
 | true => ((za 1 x0 x12).bind fun v0 =>
 (h.ld1 v0).bind fun v1 =>
 (za 1 x0 (.int .i64 (wr .i64 (x12 - 1)))).bind fun v2 =>
 (h.ld1 v2).bind fun v3 =>
 z64 M x3 [v1, v3] h fun p4 =>
 (asI .i64 p4.1).bind fun n5 =>
 match (!(decide (n5 < 0))) with
 | true => (some ((.exit 6), (z1b x0 x1 x2 x3 x9 x10), p4.2))
 | false => ((za 1 x0 (.int .i64 (wr .i64 (x12 - 1)))).bind fun v6 =>
 (p4.2.ld1 v6).bind fun v7 =>
 (za 1 x0 x12).bind fun v8 =>
 (p4.2.ld1 v8).bind fun v9 =>
 (za 1 x0 x12).bind fun v10 =>
 (p4.2.st 1 v10 v7).bind fun h11 =>
 (za 1 x0 (.int .i64 (wr .i64 (x12 - 1)))).bind fun v12 =>
 (h11.st 1 v12 v9).bind fun h13 =>
 some (.normal, (z0l x0 x1 x2 x3 x9 x10 (.int .i64 (wr .i64 (x12 + 1)))), h13)))
 | false => (some ((.exit 6), (z1b x0 x1 x2 x3 x9 x10), h))
def z7j (M : Env) (x0 : V) (x1 x2 : Int) (x3 : V) (x9 x10 : Int) (h : H) : Rl :=
 some (.normal, (zx x0 x1 x2 x3 x9 (.int .i64 (wr .i64 (x10 + 1)))), h)
theorem zfd : z06 M F.zl [a0, (.int .i64 a1), (.int .i64 a2), a3] h = zl M a0 a1 a2 a3 h := by kernel_rfl
theorem zec : z84 M (zx x0 (.int .i64 x1) (.int .i64 x2) x3 (.int .i64 x9) (.int .i64 x10)) h = z2k M x0 x1 x2 x3 x9 x10 h := by kernel_rfl
theorem zd2 : z1j M (.exit 0) (z05 x8) h = zeg M x8 h := by kernel_rfl
theorem zdm : z1j M .ret (z05 (.bool x8)) h = zei M x8 h := by kernel_rfl
theorem zef : z4h M (z1a x0 (.int .i64 x1) (.int .i64 x2) x3 (.int .i64 x9) (.int .i64 x10)) h = z2g M x0 x1 x2 x3 x9 x10 h := by kernel_rfl
theorem zdd : z51 M (.exit 2) (z17 x0 (.int .i64 x1) (.int .i64 x2) x3 (.int .i64 x9) (.int .i64 x10)) h = z15 M x0 x1 x2 x3 x9 x10 h := by kernel_rfl
theorem ze5 : z4j M (z1c x0 (.int .i64 x1) (.int .i64 x2) x3 (.int .i64 x9) (.int .i64 x10) (.int .i64 x11)) h = z2j M x0 x1 x2 x3 x9 x10 x11 h := by kernel_rfl
theorem zcx : z50 M (.exit 4) (z19 x0 (.int .i64 x1) (.int .i64 x2) x3 (.int .i64 x9) (.int .i64 x10)) h = z26 M x0 x1 x2 x3 x9 x10 h := by kernel_rfl
theorem ze6 : z2i M (z0l x0 (.int .i64 x1) (.int .i64 x2) x3 (.int .i64 x9) (.int .i64 x10) (.int .i64 x12)) h = z2h M x0 x1 x2 x3 x9 x10 x12 h := by kernel_rfl
theorem zdh : z2o M (.exit 6) (z1b x0 (.int .i64 x1) (.int .i64 x2) x3 (.int .i64 x9) (.int .i64 x10)) h = z7j M x0 x1 x2 x3 x9 x10 h := by kernel_rfl
def zas (M : Env) := lb M F.zj2 [0, 1, 8, 9, 10, 11] []
def z2c (x0 x1 x8 x9 x10 x11 : V) : List V := x0 :: x1 :: dd 6 (x8 :: x9 :: x10 :: x11 :: dd 55 [])
def z42 : List V := dd 67 []
def zav (M : Env) := jb M F.zj5 [0, 1, 8, 9, 10, 11, 35]
def zar (x0 x1 x8 x9 x10 x11 : V) : List V := x0 :: x1 :: dd 6 (x8 :: x9 :: x10 :: x11 :: dd 55 [])
def zau (x0 x1 x8 x9 x10 x11 x35 : V) : List V := x0 :: x1 :: dd 6 (x8 :: x9 :: x10 :: x11 :: dd 23 (x35 :: dd 31 []))
def zb1 (M : Env) := jb M F.zj0 [0, 1, 8, 9, 10, 11, 12]
def zay (x0 x1 x8 x9 x10 x11 : V) : List V := x0 :: x1 :: dd 6 (x8 :: x9 :: x10 :: x11 :: dd 55 [])
def zaz (x0 x1 x8 x9 x10 x11 x12 : V) : List V := x0 :: x1 :: dd 6 (x8 :: x9 :: x10 :: x11 :: x12 :: dd 54 [])
def zap (M : Env) := jb M F.ziu [0, 1, 8, 9, 10, 11, 12]
def zb0 (x0 x1 x8 x9 x10 x11 x12 : V) : List V := x0 :: x1 :: dd 6 (x8 :: x9 :: x10 :: x11 :: x12 :: dd 54 [])
def z6f (x0 x1 x8 x9 x10 x11 x12 : V) : List V := x0 :: x1 :: dd 6 (x8 :: x9 :: x10 :: x11 :: x12 :: dd 54 [])
def zix (M : Env) := kf F.zo
def z7b (M : Env) := kb 0 (zix M)
def zc8 (M : Env) := kl [0, 1, 8, 9, 10, 11] []
def zin (M : Env) := kq M F.zio (zc8 M)
def z4m (M : Env) := kq M F.zj6 (zin M)
def zir (M : Env) := kq M F.zis (zc8 M)
def zc7 (M : Env) := kb 1 (zir M)
def z78 (M : Env) := kq M F.ziq (zc7 M)
def z4l (M : Env) := kq M F.zik (zc7 M)
def zo (M : Env) (a0 : V) (a1 a2 : Int) (a3 : V) (h : H) : Rf :=
 match (decide (8 ≤ (wr .i64 (a2 - a1)))) with
 | true => (let h0 := h.new (.cells [(.int .u64 0)] .rw)
 (h0.st 1 (.ptr h.next 0) (.int .u64 (wr .u64 (wr .i64 (a2 - a1))))).bind fun h1 =>
 (M.call 488 [(.int .i64 (wr .i64 (a2 - a1)))] h1).bind fun p2 =>
 (M.loop (zas M) (z2c a0 a1 (.int .i64 (wr .i64 (a2 - a1))) (.ptr h.next 0) p2.1 (.int .i64 (wr .i64 ((wr .i64 (a1 + (wr .i64 ((wr .i64 (Int.tdiv (wr .i64 (a2 - a1)) 4)) * 2)))) - 1)))) p2.2).bind fun p3 => z7b M p3.1 p3.2.1 p3.2.2)
 | false => (some ((.tup []), h))
def zat (M : Env) (x0 : V) (x1 x8 : Int) (x9 : V) (x10 x11 : Int) (h : H) : Rl :=
 (zav M (zar x0 x1 x8 x9 (.int .u64 x10) x11) h).bind fun p0 => z4m M p0.1 p0.2.1 p0.2.2
def zgn (M : Env) (h : H) : Rf :=
 some ((.tup []), h)
def z6e (M : Env) (x0 : V) (x1 x8 : Int) (x9 : V) (x10 x11 : Int) (h : H) : Rl :=
 some (.normal, (zau x0 x1 x8 x9 (.int .u64 x10) x11 (.bool (decide (x11 ≤ (wr .i64 ((wr .i64 (x1 + (wr .i64 ((wr .i64 (Int.tdiv x8 4)) * 2)))) + 1)))))), h)
def z6j (M : Env) (x0 : V) (x1 x8 : Int) (x9 : V) (x10 x11 : Int) (x35 : Bool) (h : H) : Rl :=
 match x35 with
 | true => ((zb1 M (zay x0 x1 x8 x9 (.int .u64 x10) x11) h).bind fun p0 => z78 M p0.1 p0.2.1 p0.2.2)
 | false => (some ((.exit 0), z42, h))
def zaw (M : Env) (x0 : V) (x1 x8 : Int) (x9 : V) (x10 x11 : Int) (h : H) : Rl :=
 (M.call 489 [x9] h).bind fun p0 =>
 (asI .u64 p0.1).bind fun n1 =>
 some (.normal, (zaz x0 x1 x8 x9 (.int .u64 x10) x11 (.int .i64 (wr .i64 (zzk n1 (wr .u64 (x10 - 1)))))), p0.2)
def zax (M : Env) (x0 : V) (x1 x8 : Int) (x9 : V) (x10 x11 x12 : Int) (h : H) : Rl :=
 (zap M (zb0 x0 x1 x8 x9 (.int .u64 x10) x11 x12) h).bind fun p0 => z4l M p0.1 p0.2.1 p0.2.2
def z6g (M : Env) (x0 : V) (x1 x8 : Int) (x9 : V) (x10 x11 x12 : Int) (h : H) : Rl :=
 match decide (x8 ≤ x12) with
 | true => (some (.normal, (z6f x0 x1 x8 x9 (.int .u64 x10) x11 (.int .i64 (wr .i64 (x12 - x8)))), h))
 | false => (some (.normal, (z6f x0 x1 x8 x9 (.int .u64 x10) x11 x12), h))
def z6l (M : Env) (x0 : V) (x1 x8 : Int) (x9 : V) (x10 x11 x12 : Int) (h : H) : Rl :=
 (za 1 x0 (.int .i64 (wr .i64 (x1 + x12)))).bind fun v0 =>
 (h.ld1 v0).bind fun v1 =>
 (za 1 x0 x11).bind fun v2 =>
 (h.ld1 v2).bind fun v3 =>
 (za 1 x0 x11).bind fun v4 =>
 (h.st 1 v4 v1).bind fun h5 =>
 (za 1 x0 (.int .i64 (wr .i64 (x1 + x12)))).bind fun v6 =>
 (h5.st 1 v6 v3).bind fun h7 =>
 some (.normal, (z2c x0 x1 x8 x9 (.int .u64 x10) (.int .i64 (wr .i64 (x11 + 1)))), h7)
theorem zit : z06 M F.zo [a0, (.int .i64 a1), (.int .i64 a2), a3] h = zo M a0 a1 a2 a3 h := by kernel_rfl
theorem zgl : zas M (z2c x0 (.int .i64 x1) (.int .i64 x8) x9 (.int .u64 x10) (.int .i64 x11)) h = zat M x0 x1 x8 x9 x10 x11 h := by kernel_rfl
theorem zfz : z7b M (.exit 0) z42 h = zgn M h := by kernel_rfl
theorem zgw : zav M (zar x0 (.int .i64 x1) (.int .i64 x8) x9 (.int .u64 x10) (.int .i64 x11)) h = z6e M x0 x1 x8 x9 x10 x11 h := by kernel_rfl
theorem z9q : z4m M .normal (zau x0 (.int .i64 x1) (.int .i64 x8) x9 (.int .u64 x10) (.int .i64 x11) (.bool x35)) h = z6j M x0 x1 x8 x9 x10 x11 x35 h := by kernel_rfl
theorem zgp : zb1 M (zay x0 (.int .i64 x1) (.int .i64 x8) x9 (.int .u64 x10) (.int .i64 x11)) h = zaw M x0 x1 x8 x9 x10 x11 h := by kernel_rfl
theorem zg5 : z78 M .normal (zaz x0 (.int .i64 x1) (.int .i64 x8) x9 (.int .u64 x10) (.int .i64 x11) (.int .i64 x12)) h = zax M x0 x1 x8 x9 x10 x11 x12 h := by kernel_rfl
theorem zgv : zap M (zb0 x0 (.int .i64 x1) (.int .i64 x8) x9 (.int .u64 x10) (.int .i64 x11) (.int .i64 x12)) h = z6g M x0 x1 x8 x9 x10 x11 x12 h := by kernel_rfl
theorem z9u : z4l M .normal (z6f x0 (.int .i64 x1) (.int .i64 x8) x9 (.int .u64 x10) (.int .i64 x11) (.int .i64 x12)) h = z6l M x0 x1 x8 x9 x10 x11 x12 h := by kernel_rfl
def z47 (M : Env) (a0 : V) (h : H) : Rf :=
 (nilc a0).bind fun v0 =>
 (h.ld1 v0).bind fun v1 =>
 (nilc a0).bind fun v2 =>
 (h.ld1 v2).bind fun v3 =>
 (asI .u64 v3).bind fun n4 =>
 (asI .u64 v1).bind fun n5 =>
 (nilc a0).bind fun v6 =>
 (h.st 1 v6 (.int .u64 (zqo n5 (wr .u64 (n4 * 2 ^ (min (Int.toNat 13) (Go.IntKind.bits .u64))))))).bind fun h7 =>
 (nilc a0).bind fun v8 =>
 (h7.ld1 v8).bind fun v9 =>
 (nilc a0).bind fun v10 =>
 (h7.ld1 v10).bind fun v11 =>
 (asI .u64 v11).bind fun n12 =>
 (asI .u64 v9).bind fun n13 =>
 (nilc a0).bind fun v14 =>
 (h7.st 1 v14 (.int .u64 (zqo n13 (n12 / 2 ^ (min (Int.toNat 7) (Go.IntKind.bits .u64)))))).bind fun h15 =>
 (nilc a0).bind fun v16 =>
 (h15.ld1 v16).bind fun v17 =>
 (nilc a0).bind fun v18 =>
 (h15.ld1 v18).bind fun v19 =>
 (asI .u64 v19).bind fun n20 =>
 (asI .u64 v17).bind fun n21 =>
 (nilc a0).bind fun v22 =>
 (h15.st 1 v22 (.int .u64 (zqo n21 (wr .u64 (n20 * 2 ^ (min (Int.toNat 17) (Go.IntKind.bits .u64))))))).bind fun h23 =>
 (nilc a0).bind fun v24 =>
 (h23.ld1 v24).bind fun v25 =>
 some (v25, h23)
theorem zro : z06 M F.z47 [a0] h = z47 M a0 h := by kernel_rfl
def z1k (M : Env) (a0 : V) (a1 a2 : Int) (a3 a4 : V) (h : H) : Rf :=
 (za 1 a0 a2).bind fun v0 =>
 (h.ld1 v0).bind fun v1 =>
 (za 1 a0 a1).bind fun v2 =>
 (h.ld1 v2).bind fun v3 =>
 z64 M a4 [v1, v3] h fun p4 =>
 (asI .i64 p4.1).bind fun n5 =>
 match decide (n5 < 0) with
 | true => ((nilc a3).bind fun v6 =>
 (p4.2.ld1 v6).bind fun v7 =>
 (asI .i64 v7).bind fun n8 =>
 (nilc a3).bind fun v9 =>
 (p4.2.st 1 v9 (.int .i64 (wr .i64 (n8 + 1)))).bind fun h10 =>
 some ((.tup [a2, a1]), h10))
 | false => (some ((.tup [a1, a2]), p4.2))
theorem zos : z06 M F.z1k [a0, (.int .i64 a1), (.int .i64 a2), a3, a4] h = z1k M a0 a1 a2 a3 a4 h := by kernel_rfl
def z25 (M : Env) (a0 : V) (a1 a2 a3 : Int) (a4 a5 : V) (h : H) : Rf :=
 (M.call 512 [a0, a1, a2, a4, a5] h).bind fun p0 =>
 match p0.1 with
 | .tup vs1 => ((vs1[0]?).bind fun v2 =>
 match p0.1 with
 | .tup vs3 => ((vs3[1]?).bind fun v4 =>
 (M.call 512 [a0, v4, a3, a4, a5] p0.2).bind fun p5 =>
 match p5.1 with
 | .tup vs6 => ((vs6[0]?).bind fun v7 =>
 match p5.1 with
 | .tup vs8 => ((vs8[1]?).bind fun v9 =>
 (M.call 512 [a0, v2, v7, a4, a5] p5.2).bind fun p10 =>
 match p10.1 with
 | .tup vs11 => ((vs11[0]?).bind fun v12 =>
 match p10.1 with
 | .tup vs13 => ((vs13[1]?).bind fun v14 =>
 some (v14, p10.2))
 | _ => none)
 | _ => none)
 | _ => none)
 | _ => none)
 | _ => none)
 | _ => none
theorem zoz : z06 M F.z25 [a0, (.int .i64 a1), (.int .i64 a2), (.int .i64 a3), a4, a5] h = z25 M a0 a1 a2 a3 a4 a5 h := by kernel_rfl
def z0q (M : Env) (a0 : V) (a1 : Int) (a2 a3 : V) (h : H) : Rf :=
 (M.call 491 [a0, (.int .i64 (wr .i64 (a1 - 1))), a1, (.int .i64 (wr .i64 (a1 + 1))), a2, a3] h).bind fun p0 =>
 some (p0.1, p0.2)
theorem zhp : z06 M F.z0q [a0, (.int .i64 a1), a2, a3] h = z0q M a0 a1 a2 a3 h := by kernel_rfl
end Wm.S
end
