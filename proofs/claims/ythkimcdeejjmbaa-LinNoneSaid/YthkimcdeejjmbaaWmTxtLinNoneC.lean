/- PRINTED by my tool: what functions come to, stretch by stretch. -/
import Derived.KernelRfl
import Derived.Test.YthkimcdeejjmbaaWmShal
import Derived.Test.YthkimcdeejjmbaaWmFnc
import Derived.Test.YthkimcdeejjmbaaWmFnsLinNone
import Derived.Test.YthkimcdeejjmbaaWmTxtLinNoneA
set_option linter.all false
noncomputable section
namespace Wm.S
open Wm
set_option maxRecDepth 100000
set_option autoImplicit true
set_option relaxedAutoImplicit true
def z7f (M : Env) := lb M F.zly [0, 1, 4, 12, 13] [0, 1, 4, 12, 13]
def z2z (x0 x1 x4 x12 x13 : V) : List V := x0 :: x1 :: dd 2 (x4 :: dd 7 (x12 :: x13 :: dd 164 []))
def z2w (x0 x1 x4 x12 x13 : V) : List V := x0 :: x1 :: dd 2 (x4 :: dd 7 (x12 :: x13 :: dd 164 []))
def z7e (M : Env) := lb M F.zlm [0, 1, 4, 12, 13] [0, 1, 4, 12, 13]
def z2v (x0 x1 x4 x12 x13 : V) : List V := x0 :: x1 :: dd 2 (x4 :: dd 7 (x12 :: x13 :: dd 164 []))
def z32 (x0 x1 x4 x12 x13 : V) : List V := x0 :: x1 :: dd 2 (x4 :: dd 7 (x12 :: x13 :: dd 164 []))
def z80 (M : Env) := lb M F.zlt [0, 1, 4, 12, 13] [0, 1, 13]
def z1w (x0 x1 x4 x12 x13 : V) : List V := x0 :: x1 :: dd 2 (x4 :: dd 7 (x12 :: x13 :: dd 164 []))
def z4z (x0 x1 x13 : V) : List V := x0 :: x1 :: dd 11 (x13 :: dd 164 [])
def z7o (M : Env) := lb M F.zm1 [0, 1, 4, 12, 13] [0, 1, 4, 12, 13]
def z2u (x0 x1 x4 x12 x13 : V) : List V := x0 :: x1 :: dd 2 (x4 :: dd 7 (x12 :: x13 :: dd 164 []))
def z30 (x0 x1 x4 x12 x13 : V) : List V := x0 :: x1 :: dd 2 (x4 :: dd 7 (x12 :: x13 :: dd 164 []))
def z7s (M : Env) := lb M F.zln [0, 1, 4, 12, 13] [0, 1, 4, 12, 13]
def z2s (x0 x1 x4 x12 x13 : V) : List V := x0 :: x1 :: dd 2 (x4 :: dd 7 (x12 :: x13 :: dd 164 []))
def z2t (x0 x1 x4 x12 x13 : V) : List V := x0 :: x1 :: dd 2 (x4 :: dd 7 (x12 :: x13 :: dd 164 []))
def z93 (M : Env) := kf F.zq
def zl6 (M : Env) := kq M F.zla (z93 M)
def z8y (M : Env) := kb 0 (zl6 M)
def zl9 (M : Env) := kq M F.zld (z93 M)
def z8w (M : Env) := kb 2 (zl9 M)
def zl2 (M : Env) := kq M F.zlg (z93 M)
def z5t (M : Env) := kb 4 (zl2 M)
def zle (M : Env) := kl [0, 1, 4, 12, 13] [0, 1, 13]
def zdk (M : Env) := kb 5 (zle M)
def zlq (M : Env) := kq M F.zli (zdk M)
def z85 (M : Env) := kb 6 (zlq M)
def zkc (M : Env) := kq M F.zlz (zdk M)
def z87 (M : Env) := kb 8 (zkc M)
def zq (M : Env) (a0 : V) (a1 a2 a3 : Int) (a4 : V) (h : H) : Rf :=
 (za 1 a0 a3).bind fun v0 =>
 (h.ld1 v0).bind fun v1 =>
 (za 1 a0 a1).bind fun v2 =>
 (h.ld1 v2).bind fun v3 =>
 (za 1 a0 a1).bind fun v4 =>
 (h.st 1 v4 v1).bind fun h5 =>
 (za 1 a0 a3).bind fun v6 =>
 (h5.st 1 v6 v3).bind fun h7 =>
 (M.loop (z7f M) (z2z a0 a1 a4 (.int .i64 (wr .i64 (a1 + 1))) (.int .i64 (wr .i64 (a2 - 1)))) h7).bind fun p8 => z8y M p8.1 p8.2.1 p8.2.2
def z57 (M : Env) (x0 : V) (x1 : Int) (x4 : V) (x12 x13 : Int) (h : H) : Rl :=
 match decide (x12 ≤ x13) with
 | true => ((za 1 x0 x12).bind fun v0 =>
 (h.ld1 v0).bind fun v1 =>
 (za 1 x0 x1).bind fun v2 =>
 (h.ld1 v2).bind fun v3 =>
 z67 M x4 [v1, v3] h fun p4 =>
 (asI .i64 p4.1).bind fun n5 =>
 match decide (n5 < 0) with
 | true => (some (.normal, (z2z x0 x1 x4 (.int .i64 (wr .i64 (x12 + 1))) x13), p4.2))
 | false => (some ((.exit 0), (z2w x0 x1 x4 x12 x13), p4.2)))
 | false => (some ((.exit 0), (z2w x0 x1 x4 x12 x13), h))
def zc4 (M : Env) (x0 : V) (x1 : Int) (x4 : V) (x12 x13 : Int) (h : H) : Rf :=
 (M.loop (z7e M) (z2v x0 x1 x4 x12 x13) h).bind fun p0 => z8w M p0.1 p0.2.1 p0.2.2
def z4x (M : Env) (x0 : V) (x1 : Int) (x4 : V) (x12 x13 : Int) (h : H) : Rl :=
 match decide (x12 ≤ x13) with
 | true => ((za 1 x0 x13).bind fun v0 =>
 (h.ld1 v0).bind fun v1 =>
 (za 1 x0 x1).bind fun v2 =>
 (h.ld1 v2).bind fun v3 =>
 z67 M x4 [v1, v3] h fun p4 =>
 (asI .i64 p4.1).bind fun n5 =>
 match (!(decide (n5 < 0))) with
 | true => (some (.normal, (z2v x0 x1 x4 x12 (.int .i64 (wr .i64 (x13 - 1)))), p4.2))
 | false => (some ((.exit 2), (z32 x0 x1 x4 x12 x13), p4.2)))
 | false => (some ((.exit 2), (z32 x0 x1 x4 x12 x13), h))
def z7b (M : Env) (x0 : V) (x1 : Int) (x4 : V) (x12 x13 : Int) (h : H) : Rf :=
 match decide (x13 < x12) with
 | true => ((za 1 x0 x1).bind fun v0 =>
 (h.ld1 v0).bind fun v1 =>
 (za 1 x0 x13).bind fun v2 =>
 (h.ld1 v2).bind fun v3 =>
 (za 1 x0 x13).bind fun v4 =>
 (h.st 1 v4 v1).bind fun h5 =>
 (za 1 x0 x1).bind fun v6 =>
 (h5.st 1 v6 v3).bind fun h7 =>
 some ((.tup [x13, true]), h7))
 | false => ((za 1 x0 x13).bind fun v0 =>
 (h.ld1 v0).bind fun v1 =>
 (za 1 x0 x12).bind fun v2 =>
 (h.ld1 v2).bind fun v3 =>
 (za 1 x0 x12).bind fun v4 =>
 (h.st 1 v4 v1).bind fun h5 =>
 (za 1 x0 x13).bind fun v6 =>
 (h5.st 1 v6 v3).bind fun h7 =>
 (M.loop (z80 M) (z1w x0 x1 x4 (.int .i64 (wr .i64 (x12 + 1))) (.int .i64 (wr .i64 (x13 - 1)))) h7).bind fun p8 => z5t M p8.1 p8.2.1 p8.2.2)
def z7w (M : Env) (x0 : V) (x1 : Int) (x4 : V) (x12 x13 : Int) (h : H) : Rl :=
 (M.loop (z7o M) (z2u x0 x1 x4 x12 x13) h).bind fun p0 => z85 M p0.1 p0.2.1 p0.2.2
def zc6 (M : Env) (x0 : V) (x1 x13 : Int) (h : H) : Rf :=
 (za 1 x0 x1).bind fun v0 =>
 (h.ld1 v0).bind fun v1 =>
 (za 1 x0 x13).bind fun v2 =>
 (h.ld1 v2).bind fun v3 =>
 (za 1 x0 x13).bind fun v4 =>
 (h.st 1 v4 v1).bind fun h5 =>
 (za 1 x0 x1).bind fun v6 =>
 (h5.st 1 v6 v3).bind fun h7 =>
 some ((.tup [x13, false]), h7)
def z4y (M : Env) (x0 : V) (x1 : Int) (x4 : V) (x12 x13 : Int) (h : H) : Rl :=
 match decide (x12 ≤ x13) with
 | true => ((za 1 x0 x12).bind fun v0 =>
 (h.ld1 v0).bind fun v1 =>
 (za 1 x0 x1).bind fun v2 =>
 (h.ld1 v2).bind fun v3 =>
 z67 M x4 [v1, v3] h fun p4 =>
 (asI .i64 p4.1).bind fun n5 =>
 match decide (n5 < 0) with
 | true => (some (.normal, (z2u x0 x1 x4 (.int .i64 (wr .i64 (x12 + 1))) x13), p4.2))
 | false => (some ((.exit 6), (z30 x0 x1 x4 x12 x13), p4.2)))
 | false => (some ((.exit 6), (z30 x0 x1 x4 x12 x13), h))
def zc3 (M : Env) (x0 : V) (x1 : Int) (x4 : V) (x12 x13 : Int) (h : H) : Rl :=
 (M.loop (z7s M) (z2s x0 x1 x4 x12 x13) h).bind fun p0 => z87 M p0.1 p0.2.1 p0.2.2
def z55 (M : Env) (x0 : V) (x1 : Int) (x4 : V) (x12 x13 : Int) (h : H) : Rl :=
 match decide (x12 ≤ x13) with
 | true => ((za 1 x0 x13).bind fun v0 =>
 (h.ld1 v0).bind fun v1 =>
 (za 1 x0 x1).bind fun v2 =>
 (h.ld1 v2).bind fun v3 =>
 z67 M x4 [v1, v3] h fun p4 =>
 (asI .i64 p4.1).bind fun n5 =>
 match (!(decide (n5 < 0))) with
 | true => (some (.normal, (z2s x0 x1 x4 x12 (.int .i64 (wr .i64 (x13 - 1)))), p4.2))
 | false => (some ((.exit 8), (z2t x0 x1 x4 x12 x13), p4.2)))
 | false => (some ((.exit 8), (z2t x0 x1 x4 x12 x13), h))
def z78 (M : Env) (x0 : V) (x1 : Int) (x4 : V) (x12 x13 : Int) (h : H) : Rl :=
 match decide (x13 < x12) with
 | true => (some ((.exit 4), (z4z x0 x1 x13), h))
 | false => ((za 1 x0 x13).bind fun v0 =>
 (h.ld1 v0).bind fun v1 =>
 (za 1 x0 x12).bind fun v2 =>
 (h.ld1 v2).bind fun v3 =>
 (za 1 x0 x12).bind fun v4 =>
 (h.st 1 v4 v1).bind fun h5 =>
 (za 1 x0 x13).bind fun v6 =>
 (h5.st 1 v6 v3).bind fun h7 =>
 some (.normal, (z1w x0 x1 x4 (.int .i64 (wr .i64 (x12 + 1))) (.int .i64 (wr .i64 (x13 - 1)))), h7))
theorem zll : z04 M F.zq [a0, (.int .i64 a1), (.int .i64 a2), (.int .i64 a3), a4] h = zq M a0 a1 a2 a3 a4 h := by kernel_rfl
theorem zj0 : z7f M (z2z x0 (.int .i64 x1) x4 (.int .i64 x12) (.int .i64 x13)) h = z57 M x0 x1 x4 x12 x13 h := by kernel_rfl
theorem zh1 : z8y M (.exit 0) (z2w x0 (.int .i64 x1) x4 (.int .i64 x12) (.int .i64 x13)) h = zc4 M x0 x1 x4 x12 x13 h := by kernel_rfl
theorem ziy : z7e M (z2v x0 (.int .i64 x1) x4 (.int .i64 x12) (.int .i64 x13)) h = z4x M x0 x1 x4 x12 x13 h := by kernel_rfl
theorem zgy : z8w M (.exit 2) (z32 x0 (.int .i64 x1) x4 (.int .i64 x12) (.int .i64 x13)) h = z7b M x0 x1 x4 x12 x13 h := by kernel_rfl
theorem zj5 : z80 M (z1w x0 (.int .i64 x1) x4 (.int .i64 x12) (.int .i64 x13)) h = z7w M x0 x1 x4 x12 x13 h := by kernel_rfl
theorem zgx : z5t M (.exit 4) (z4z x0 (.int .i64 x1) (.int .i64 x13)) h = zc6 M x0 x1 x13 h := by kernel_rfl
theorem zj7 : z7o M (z2u x0 (.int .i64 x1) x4 (.int .i64 x12) (.int .i64 x13)) h = z4y M x0 x1 x4 x12 x13 h := by kernel_rfl
theorem zgu : z85 M (.exit 6) (z30 x0 (.int .i64 x1) x4 (.int .i64 x12) (.int .i64 x13)) h = zc3 M x0 x1 x4 x12 x13 h := by kernel_rfl
theorem zja : z7s M (z2s x0 (.int .i64 x1) x4 (.int .i64 x12) (.int .i64 x13)) h = z55 M x0 x1 x4 x12 x13 h := by kernel_rfl
theorem zh0 : z87 M (.exit 8) (z2t x0 (.int .i64 x1) x4 (.int .i64 x12) (.int .i64 x13)) h = z78 M x0 x1 x4 x12 x13 h := by kernel_rfl
def zcj (M : Env) := lb M F.zlb [0, 1, 2, 3, 10] []
def z52 (x0 x1 x2 x3 x10 : V) : List V := x0 :: x1 :: x2 :: x3 :: dd 6 (x10 :: dd 27 [])
def z7k : List V := dd 38 []
def zlw (M : Env) := kf F.z0j
def z8z (M : Env) := kb 0 (zlw M)
def z0j (M : Env) (a0 : V) (a1 a2 a3 : Int) (a4 : V) (h : H) : Rf :=
 (M.loop (zcj M) (z52 a0 a1 a2 a3 (0:Int)) h).bind fun p0 => z8z M p0.1 p0.2.1 p0.2.2
def z7j (M : Env) (x0 : V) (x1 x2 x3 x10 : Int) (h : H) : Rl :=
 match decide (x10 < x3) with
 | true => ((za 1 x0 (.int .i64 (wr .i64 (x2 + x10)))).bind fun v0 =>
 (h.ld1 v0).bind fun v1 =>
 (za 1 x0 (.int .i64 (wr .i64 (x1 + x10)))).bind fun v2 =>
 (h.ld1 v2).bind fun v3 =>
 (za 1 x0 (.int .i64 (wr .i64 (x1 + x10)))).bind fun v4 =>
 (h.st 1 v4 v1).bind fun h5 =>
 (za 1 x0 (.int .i64 (wr .i64 (x2 + x10)))).bind fun v6 =>
 (h5.st 1 v6 v3).bind fun h7 =>
 some (.normal, (z52 x0 x1 x2 x3 (.int .i64 (wr .i64 (x10 + 1)))), h7))
 | false => (some ((.exit 0), z7k, h))
def zix (M : Env) (h : H) : Rf :=
 some ((.tup []), h)
theorem zlr : z04 M F.z0j [a0, (.int .i64 a1), (.int .i64 a2), (.int .i64 a3), a4] h = z0j M a0 a1 a2 a3 a4 h := by kernel_rfl
theorem zjb : zcj M (z52 x0 (.int .i64 x1) (.int .i64 x2) (.int .i64 x3) (.int .i64 x10)) h = z7j M x0 x1 x2 x3 x10 h := by kernel_rfl
theorem zgw : z8z M (.exit 0) z7k h = zix M h := by kernel_rfl
def zdt (M : Env) := lb M F.zoh [0, 2, 4, 10, 11] [0, 2, 4, 10]
def z40 (x0 x2 x4 x10 x11 : V) : List V := x0 :: dd 1 (x2 :: dd 1 (x4 :: dd 5 (x10 :: x11 :: dd 46 [])))
def z9v (x0 x2 x4 x10 : V) : List V := x0 :: dd 1 (x2 :: dd 1 (x4 :: dd 5 (x10 :: dd 47 [])))
def zoq (M : Env) := kf F.z0o
def zox (M : Env) := kq M F.zo7 (zoq M)
def zaa (M : Env) := kb 0 (zox M)
def z0o (M : Env) (a0 : V) (a1 a2 a3 : Int) (a4 : V) (h : H) : Rf :=
 (M.loop (zdt M) (z40 a0 a2 a4 (.int .i64 (wr .i64 (a2 - a1))) (.int .i64 (wr .i64 (a3 - a2)))) h).bind fun p0 => zaa M p0.1 p0.2.1 p0.2.2
def z61 (M : Env) (x0 : V) (x2 : Int) (x4 : V) (x10 x11 : Int) (h : H) : Rl :=
 match (!decide (x10 = x11)) with
 | true => (match decide (x11 < x10) with
 | true => ((M.call 513 [x0, (.int .i64 (wr .i64 (x2 - x10))), x2, x11, x4] h).bind fun p0 =>
 some (.normal, (z40 x0 x2 x4 (.int .i64 (wr .i64 (x10 - x11))) x11), p0.2))
 | false => ((M.call 513 [x0, (.int .i64 (wr .i64 (x2 - x10))), (.int .i64 (wr .i64 ((wr .i64 (x2 + x11)) - x10))), x10, x4] h).bind fun p0 =>
 some (.normal, (z40 x0 x2 x4 x10 (.int .i64 (wr .i64 (x11 - x10)))), p0.2)))
 | false => (some ((.exit 0), (z9v x0 x2 x4 x10), h))
def zdg (M : Env) (x0 : V) (x2 : Int) (x4 : V) (x10 : Int) (h : H) : Rf :=
 (M.call 513 [x0, (.int .i64 (wr .i64 (x2 - x10))), x2, x10, x4] h).bind fun p0 =>
 some ((.tup []), p0.2)
theorem zow : z04 M F.z0o [a0, (.int .i64 a1), (.int .i64 a2), (.int .i64 a3), a4] h = z0o M a0 a1 a2 a3 a4 h := by kernel_rfl
theorem zl7 : zdt M (z40 x0 (.int .i64 x2) x4 (.int .i64 x10) (.int .i64 x11)) h = z61 M x0 x2 x4 x10 x11 h := by kernel_rfl
theorem zjd : zaa M (.exit 0) (z9v x0 (.int .i64 x2) x4 (.int .i64 x10)) h = zdg M x0 x2 x4 x10 h := by kernel_rfl
def z5b (M : Env) := lb M F.zml [0, 1, 4, 10, 11] [0, 1, 10]
def z1c (x0 x1 x4 x10 x11 : V) : List V := x0 :: x1 :: dd 2 (x4 :: dd 5 (x10 :: x11 :: dd 208 []))
def z5g (x0 x1 x10 : V) : List V := x0 :: x1 :: dd 8 (x10 :: dd 209 [])
def z86 (M : Env) := lb M F.zma [0, 10, 13] []
def z36 (x0 x10 x13 : V) : List V := x0 :: dd 9 (x10 :: dd 2 (x13 :: dd 206 []))
def z5i : List V := dd 220 []
def z5j (M : Env) := lb M F.zm4 [0, 2, 4, 14, 15] [0, 2, 14]
def z1f (x0 x2 x4 x14 x15 : V) : List V := x0 :: dd 1 (x2 :: dd 1 (x4 :: dd 9 (x14 :: x15 :: dd 204 [])))
def z5k (x0 x2 x14 : V) : List V := x0 :: dd 1 (x2 :: dd 11 (x14 :: dd 205 []))
def z8d (M : Env) := lb M F.zmp [0, 14, 17] []
def z3e (x0 x14 x17 : V) : List V := x0 :: dd 13 (x14 :: dd 2 (x17 :: dd 202 []))
def z5n : List V := dd 220 []
def z7i (M : Env) := jb M F.zls [0, 1, 2, 3, 4, 18, 19, 20, 21]
def z7m (x0 x1 x2 x3 x4 x18 x19 : V) : List V := x0 :: x1 :: x2 :: x3 :: x4 :: dd 13 (x18 :: x19 :: dd 200 [])
def z7r (x0 x1 x2 x3 x4 x18 x19 x20 x21 : V) : List V := x0 :: x1 :: x2 :: x3 :: x4 :: dd 13 (x18 :: x19 :: x20 :: x21 :: dd 198 [])
def z7h (M : Env) := lb M F.zlc [0, 1, 2, 3, 4, 18, 19, 20, 21, 22] [0, 1, 2, 3, 4, 18, 19, 20]
def z1t (x0 x1 x2 x3 x4 x18 x19 x20 x21 x22 : V) : List V := x0 :: x1 :: x2 :: x3 :: x4 :: dd 13 (x18 :: x19 :: x20 :: x21 :: x22 :: dd 197 [])
def z53 (x0 x1 x2 x3 x4 x18 x19 x20 : V) : List V := x0 :: x1 :: x2 :: x3 :: x4 :: dd 13 (x18 :: x19 :: x20 :: dd 199 [])
def zci (M : Env) := jb M F.zlh [0, 1, 3, 4, 18, 20, 24]
def zcf (x0 x1 x2 x3 x4 x18 x20 x24 : V) : List V := x0 :: x1 :: x2 :: x3 :: x4 :: dd 13 (x18 :: dd 1 (x20 :: dd 3 (x24 :: dd 195 [])))
def z2x (x0 x1 x3 x4 x18 x20 x24 : V) : List V := x0 :: x1 :: dd 1 (x3 :: x4 :: dd 13 (x18 :: dd 1 (x20 :: dd 3 (x24 :: dd 195 []))))
def zcc (M : Env) := jb M F.zlu [0, 3, 4, 18, 24]
def zca (x0 x1 x3 x4 x18 x20 x24 : V) : List V := x0 :: x1 :: dd 1 (x3 :: x4 :: dd 13 (x18 :: dd 1 (x20 :: dd 3 (x24 :: dd 195 []))))
def z33 (x0 x3 x4 x18 x24 : V) : List V := x0 :: dd 2 (x3 :: x4 :: dd 13 (x18 :: dd 5 (x24 :: dd 195 [])))
def z2m (M : Env) := kf F.zi
def ze0 (M : Env) := kq M F.zmc (z2m M)
def zmf (M : Env) := kq M F.zn6 (ze0 M)
def z65 (M : Env) := kb 0 (zmf M)
def zdu (M : Env) := kq M F.zme (z2m M)
def zn9 (M : Env) := kq M F.zna (zdu M)
def z60 (M : Env) := kb 4 (zn9 M)
def z44 (M : Env) := kq M F.zlk (z2m M)
def zmu (M : Env) := kq M F.zmn (ze0 M)
def z99 (M : Env) := kb 2 (zmu M)
def zlx (M : Env) := kq M F.zms (zdu M)
def z8v (M : Env) := kb 6 (zlx M)
def zlj (M : Env) := kq M F.zm0 (z2m M)
def z8u (M : Env) := kb 8 (zlj M)
def z8s (M : Env) := kq M F.zlp (z2m M)
def z8n (M : Env) := kq M F.zl4 (z2m M)
def zi (M : Env) (a0 : V) (a1 a2 a3 : Int) (a4 : V) (h : H) : Rf :=
 match (decide ((wr .i64 (a2 - a1)) = 1)) with
 | true => ((M.loop (z5b M) (z1c a0 a1 a4 a2 a3) h).bind fun p0 => z65 M p0.1 p0.2.1 p0.2.2)
 | false => (match (decide ((wr .i64 (a3 - a2)) = 1)) with
 | true => ((M.loop (z5j M) (z1f a0 a2 a4 a1 a2) h).bind fun p0 => z60 M p0.1 p0.2.1 p0.2.2)
 | false => ((z7i M (z7m a0 a1 a2 a3 a4 (.int .i64 (wr .i64 ((wr .u64 (wr .i64 (a1 + a3))) / 2 ^ (min (Int.toNat 1) (Go.IntKind.bits .u64))))) (.int .i64 (wr .i64 ((wr .i64 ((wr .u64 (wr .i64 (a1 + a3))) / 2 ^ (min (Int.toNat 1) (Go.IntKind.bits .u64)))) + a2)))) h).bind fun p0 => z44 M p0.1 p0.2.1 p0.2.2))
def z5h (M : Env) (x0 : V) (x1 : Int) (x4 : V) (x10 x11 : Int) (h : H) : Rl :=
 match decide (x10 < x11) with
 | true => ((za 1 x0 (.int .i64 (wr .i64 ((wr .u64 (wr .i64 (x10 + x11))) / 2 ^ (min (Int.toNat 1) (Go.IntKind.bits .u64)))))).bind fun v0 =>
 (h.ld1 v0).bind fun v1 =>
 (za 1 x0 x1).bind fun v2 =>
 (h.ld1 v2).bind fun v3 =>
 z67 M x4 [v1, v3] h fun p4 =>
 (asI .i64 p4.1).bind fun n5 =>
 match decide (n5 < 0) with
 | true => (some (.normal, (z1c x0 x1 x4 (.int .i64 (wr .i64 ((wr .i64 ((wr .u64 (wr .i64 (x10 + x11))) / 2 ^ (min (Int.toNat 1) (Go.IntKind.bits .u64)))) + 1))) x11), p4.2))
 | false => (some (.normal, (z1c x0 x1 x4 x10 (.int .i64 (wr .i64 ((wr .u64 (wr .i64 (x10 + x11))) / 2 ^ (min (Int.toNat 1) (Go.IntKind.bits .u64)))))), p4.2)))
 | false => (some ((.exit 0), (z5g x0 x1 x10), h))
def zcg (M : Env) (x0 : V) (x1 x10 : Int) (h : H) : Rf :=
 (M.loop (z86 M) (z36 x0 x10 x1) h).bind fun p0 => z99 M p0.1 p0.2.1 p0.2.2
def z8e (M : Env) (x0 : V) (x10 x13 : Int) (h : H) : Rl :=
 match (decide (x13 < (wr .i64 (x10 - 1)))) with
 | true => ((za 1 x0 (.int .i64 (wr .i64 (x13 + 1)))).bind fun v0 =>
 (h.ld1 v0).bind fun v1 =>
 (za 1 x0 x13).bind fun v2 =>
 (h.ld1 v2).bind fun v3 =>
 (za 1 x0 x13).bind fun v4 =>
 (h.st 1 v4 v1).bind fun h5 =>
 (za 1 x0 (.int .i64 (wr .i64 (x13 + 1)))).bind fun v6 =>
 (h5.st 1 v6 v3).bind fun h7 =>
 some (.normal, (z36 x0 x10 (.int .i64 (wr .i64 (x13 + 1)))), h7))
 | false => (some ((.exit 2), z5i, h))
def zk1 (M : Env) (h : H) : Rf :=
 some ((.tup []), h)
def z5f (M : Env) (x0 : V) (x2 : Int) (x4 : V) (x14 x15 : Int) (h : H) : Rl :=
 match decide (x14 < x15) with
 | true => ((za 1 x0 x2).bind fun v0 =>
 (h.ld1 v0).bind fun v1 =>
 (za 1 x0 (.int .i64 (wr .i64 ((wr .u64 (wr .i64 (x14 + x15))) / 2 ^ (min (Int.toNat 1) (Go.IntKind.bits .u64)))))).bind fun v2 =>
 (h.ld1 v2).bind fun v3 =>
 z67 M x4 [v1, v3] h fun p4 =>
 (asI .i64 p4.1).bind fun n5 =>
 match (!(decide (n5 < 0))) with
 | true => (some (.normal, (z1f x0 x2 x4 (.int .i64 (wr .i64 ((wr .i64 ((wr .u64 (wr .i64 (x14 + x15))) / 2 ^ (min (Int.toNat 1) (Go.IntKind.bits .u64)))) + 1))) x15), p4.2))
 | false => (some (.normal, (z1f x0 x2 x4 x14 (.int .i64 (wr .i64 ((wr .u64 (wr .i64 (x14 + x15))) / 2 ^ (min (Int.toNat 1) (Go.IntKind.bits .u64)))))), p4.2)))
 | false => (some ((.exit 4), (z5k x0 x2 x14), h))
def zc8 (M : Env) (x0 : V) (x2 x14 : Int) (h : H) : Rf :=
 (M.loop (z8d M) (z3e x0 x14 x2) h).bind fun p0 => z8v M p0.1 p0.2.1 p0.2.2
def z8a (M : Env) (x0 : V) (x14 x17 : Int) (h : H) : Rl :=
 match decide (x14 < x17) with
 | true => ((za 1 x0 (.int .i64 (wr .i64 (x17 - 1)))).bind fun v0 =>
 (h.ld1 v0).bind fun v1 =>
 (za 1 x0 x17).bind fun v2 =>
 (h.ld1 v2).bind fun v3 =>
 (za 1 x0 x17).bind fun v4 =>
 (h.st 1 v4 v1).bind fun h5 =>
 (za 1 x0 (.int .i64 (wr .i64 (x17 - 1)))).bind fun v6 =>
 (h5.st 1 v6 v3).bind fun h7 =>
 some (.normal, (z3e x0 x14 (.int .i64 (wr .i64 (x17 - 1)))), h7))
 | false => (some ((.exit 6), z5n, h))
def zjj (M : Env) (h : H) : Rf :=
 some ((.tup []), h)
def z7z (M : Env) (x0 : V) (x1 x2 x3 : Int) (x4 : V) (x18 x19 : Int) (h : H) : Rl :=
 match decide (x18 < x2) with
 | true => (some (.normal, (z7r x0 x1 x2 x3 x4 x18 x19 (.int .i64 (wr .i64 (x19 - x3))) x18), h))
 | false => (some (.normal, (z7r x0 x1 x2 x3 x4 x18 x19 x1 x2), h))
def z7u (M : Env) (x0 : V) (x1 x2 x3 : Int) (x4 : V) (x18 x19 x20 x21 : Int) (h : H) : Rf :=
 (M.loop (z7h M) (z1t x0 x1 x2 x3 x4 x18 x19 x20 x21 (.int .i64 (wr .i64 (x19 - 1)))) h).bind fun p0 => z8u M p0.1 p0.2.1 p0.2.2
def z56 (M : Env) (x0 : V) (x1 x2 x3 : Int) (x4 : V) (x18 x19 x20 x21 x22 : Int) (h : H) : Rl :=
 match decide (x20 < x21) with
 | true => ((za 1 x0 (.int .i64 (wr .i64 (x22 - (wr .i64 ((wr .u64 (wr .i64 (x20 + x21))) / 2 ^ (min (Int.toNat 1) (Go.IntKind.bits .u64)))))))).bind fun v0 =>
 (h.ld1 v0).bind fun v1 =>
 (za 1 x0 (.int .i64 (wr .i64 ((wr .u64 (wr .i64 (x20 + x21))) / 2 ^ (min (Int.toNat 1) (Go.IntKind.bits .u64)))))).bind fun v2 =>
 (h.ld1 v2).bind fun v3 =>
 z67 M x4 [v1, v3] h fun p4 =>
 (asI .i64 p4.1).bind fun n5 =>
 match (!(decide (n5 < 0))) with
 | true => (some (.normal, (z1t x0 x1 x2 x3 x4 x18 x19 (.int .i64 (wr .i64 ((wr .i64 ((wr .u64 (wr .i64 (x20 + x21))) / 2 ^ (min (Int.toNat 1) (Go.IntKind.bits .u64)))) + 1))) x21 x22), p4.2))
 | false => (some (.normal, (z1t x0 x1 x2 x3 x4 x18 x19 x20 (.int .i64 (wr .i64 ((wr .u64 (wr .i64 (x20 + x21))) / 2 ^ (min (Int.toNat 1) (Go.IntKind.bits .u64))))) x22), p4.2)))
 | false => (some ((.exit 8), (z53 x0 x1 x2 x3 x4 x18 x19 x20), h))
def z79 (M : Env) (x0 : V) (x1 x2 x3 : Int) (x4 : V) (x18 x19 x20 : Int) (h : H) : Rf :=
 (zci M (zcf x0 x1 x2 x3 x4 x18 x20 (.int .i64 (wr .i64 (x19 - x20)))) h).bind fun p0 => z8s M p0.1 p0.2.1 p0.2.2
def z50 (M : Env) (x0 : V) (x1 x2 x3 : Int) (x4 : V) (x18 x20 x24 : Int) (h : H) : Rl :=
 match decide (x20 < x2) with
 | true => (match decide (x2 < x24) with
 | true => ((M.call 492 [x0, x20, x2, x24, x4] h).bind fun p0 =>
 some (.normal, (z2x x0 x1 x3 x4 x18 x20 x24), p0.2))
 | false => (some (.normal, (z2x x0 x1 x3 x4 x18 x20 x24), h)))
 | false => (some (.normal, (z2x x0 x1 x3 x4 x18 x20 x24), h))
def z7y (M : Env) (x0 : V) (x1 x3 : Int) (x4 : V) (x18 x20 x24 : Int) (h : H) : Rf :=
 (zcc M (zca x0 x1 x3 x4 x18 x20 x24) h).bind fun p0 => z8n M p0.1 p0.2.1 p0.2.2
def z54 (M : Env) (x0 : V) (x1 x3 : Int) (x4 : V) (x18 x20 x24 : Int) (h : H) : Rl :=
 match decide (x1 < x20) with
 | true => (match decide (x20 < x18) with
 | true => ((M.call 460 [x0, x1, x20, x18, x4] h).bind fun p0 =>
 some (.normal, (z33 x0 x3 x4 x18 x24), p0.2))
 | false => (some (.normal, (z33 x0 x3 x4 x18 x24), h)))
 | false => (some (.normal, (z33 x0 x3 x4 x18 x24), h))
def z31 (M : Env) (x0 : V) (x3 : Int) (x4 : V) (x18 x24 : Int) (h : H) : Rf :=
 match decide (x18 < x24) with
 | true => (match decide (x24 < x3) with
 | true => ((M.call 460 [x0, x18, x24, x3, x4] h).bind fun p0 =>
 some ((.tup []), p0.2))
 | false => (some ((.tup []), h)))
 | false => (some ((.tup []), h))
theorem zm6 : z04 M F.zi [a0, (.int .i64 a1), (.int .i64 a2), (.int .i64 a3), a4] h = zi M a0 a1 a2 a3 a4 h := by kernel_rfl
theorem zjr : z5b M (z1c x0 (.int .i64 x1) x4 (.int .i64 x10) (.int .i64 x11)) h = z5h M x0 x1 x4 x10 x11 h := by kernel_rfl
theorem zhe : z65 M (.exit 0) (z5g x0 (.int .i64 x1) (.int .i64 x10)) h = zcg M x0 x1 x10 h := by kernel_rfl
theorem zju : z86 M (z36 x0 (.int .i64 x10) (.int .i64 x13)) h = z8e M x0 x10 x13 h := by kernel_rfl
theorem zhv : z99 M (.exit 2) z5i h = zk1 M h := by kernel_rfl
theorem zjw : z5j M (z1f x0 (.int .i64 x2) x4 (.int .i64 x14) (.int .i64 x15)) h = z5f M x0 x2 x4 x14 x15 h := by kernel_rfl
theorem zh6 : z60 M (.exit 4) (z5k x0 (.int .i64 x2) (.int .i64 x14)) h = zc8 M x0 x2 x14 h := by kernel_rfl
theorem zjm : z8d M (z3e x0 (.int .i64 x14) (.int .i64 x17)) h = z8a M x0 x14 x17 h := by kernel_rfl
theorem zha : z8v M (.exit 6) z5n h = zjj M h := by kernel_rfl
theorem zj9 : z7i M (z7m x0 (.int .i64 x1) (.int .i64 x2) (.int .i64 x3) x4 (.int .i64 x18) (.int .i64 x19)) h = z7z M x0 x1 x2 x3 x4 x18 x19 h := by kernel_rfl
theorem zaz : z44 M .normal (z7r x0 (.int .i64 x1) (.int .i64 x2) (.int .i64 x3) x4 (.int .i64 x18) (.int .i64 x19) (.int .i64 x20) (.int .i64 x21)) h = z7u M x0 x1 x2 x3 x4 x18 x19 x20 x21 h := by kernel_rfl
theorem zjf : z7h M (z1t x0 (.int .i64 x1) (.int .i64 x2) (.int .i64 x3) x4 (.int .i64 x18) (.int .i64 x19) (.int .i64 x20) (.int .i64 x21) (.int .i64 x22)) h = z56 M x0 x1 x2 x3 x4 x18 x19 x20 x21 x22 h := by kernel_rfl
theorem zgv : z8u M (.exit 8) (z53 x0 (.int .i64 x1) (.int .i64 x2) (.int .i64 x3) x4 (.int .i64 x18) (.int .i64 x19) (.int .i64 x20)) h = z79 M x0 x1 x2 x3 x4 x18 x19 x20 h := by kernel_rfl
theorem ziz : zci M (zcf x0 (.int .i64 x1) (.int .i64 x2) (.int .i64 x3) x4 (.int .i64 x18) (.int .i64 x20) (.int .i64 x24)) h = z50 M x0 x1 x2 x3 x4 x18 x20 x24 h := by kernel_rfl
theorem zhf : z8s M .normal (z2x x0 (.int .i64 x1) (.int .i64 x3) x4 (.int .i64 x18) (.int .i64 x20) (.int .i64 x24)) h = z7y M x0 x1 x3 x4 x18 x20 x24 h := by kernel_rfl
theorem zje : zcc M (zca x0 (.int .i64 x1) (.int .i64 x3) x4 (.int .i64 x18) (.int .i64 x20) (.int .i64 x24)) h = z54 M x0 x1 x3 x4 x18 x20 x24 h := by kernel_rfl
theorem zhm : z8n M .normal (z33 x0 (.int .i64 x3) x4 (.int .i64 x18) (.int .i64 x24)) h = z31 M x0 x3 x4 x18 x24 h := by kernel_rfl
def z7p (M : Env) := lb M F.zfc [0, 1, 2, 3, 9, 10] [8]
def zx (x0 x1 x2 x3 x9 x10 : V) : List V := x0 :: x1 :: x2 :: x3 :: dd 5 (x9 :: x10 :: dd 130 [])
def z03 (x8 : V) : List V := dd 8 (x8 :: dd 132 [])
def z4e (M : Env) := lb M F.zep [0, 1, 2, 3, 9, 10] [0, 1, 2, 3, 9, 10]
def z1b (x0 x1 x2 x3 x9 x10 : V) : List V := x0 :: x1 :: x2 :: x3 :: dd 5 (x9 :: x10 :: dd 130 [])
def z18 (x0 x1 x2 x3 x9 x10 : V) : List V := x0 :: x1 :: x2 :: x3 :: dd 5 (x9 :: x10 :: dd 130 [])
def z4b (M : Env) := lb M F.zfi [0, 1, 2, 3, 9, 10, 11] [0, 1, 2, 3, 9, 10]
def z16 (x0 x1 x2 x3 x9 x10 x11 : V) : List V := x0 :: x1 :: x2 :: x3 :: dd 5 (x9 :: x10 :: x11 :: dd 129 [])
def z1a (x0 x1 x2 x3 x9 x10 : V) : List V := x0 :: x1 :: x2 :: x3 :: dd 5 (x9 :: x10 :: dd 130 [])
def z2i (M : Env) := lb M F.zf5 [0, 1, 2, 3, 9, 10, 12] [0, 1, 2, 3, 9, 10]
def z0l (x0 x1 x2 x3 x9 x10 x12 : V) : List V := x0 :: x1 :: x2 :: x3 :: dd 5 (x9 :: x10 :: dd 1 (x12 :: dd 128 []))
def z15 (x0 x1 x2 x3 x9 x10 : V) : List V := x0 :: x1 :: x2 :: x3 :: dd 5 (x9 :: x10 :: dd 130 [])
def zfh (M : Env) := kf F.zl
def zfk (M : Env) := kq M F.zf3 (zfh M)
def z1g (M : Env) := kb 0 (zfk M)
def zes (M : Env) := kl [0, 1, 2, 3, 9, 10] [8]
def zf6 (M : Env) := kq M F.zeu (zes M)
def z4o (M : Env) := kb 1 (zf6 M)
def zeh (M : Env) := kq M F.zfj (z4o M)
def z4t (M : Env) := kb 2 (zeh M)
def zer (M : Env) := kq M F.zel (z4o M)
def z4s (M : Env) := kb 4 (zer M)
def z2l (M : Env) := kb 6 (z4o M)
def zl (M : Env) (a0 : V) (a1 a2 : Int) (a3 : V) (h : H) : Rf :=
 (M.loop (z7p M) (zx a0 a1 a2 a3 (.int .i64 (wr .i64 (a1 + 1))) (0:Int)) h).bind fun p0 => z1g M p0.1 p0.2.1 p0.2.2
def z2e (M : Env) (x0 : V) (x1 x2 : Int) (x3 : V) (x9 x10 : Int) (h : H) : Rl :=
 match decide (x10 < 5) with
 | true => ((M.loop (z4e M) (z1b x0 x1 x2 x3 x9 x10) h).bind fun p0 => z4t M p0.1 p0.2.1 p0.2.2)
 | false => (some ((.exit 0), (z03 .dead), h))
def ze3 (M : Env) (x8 : V) (h : H) : Rf :=
 some (false, h)
def zea (M : Env) (x8 : Bool) (h : H) : Rf :=
 some (x8, h)
def z2f (M : Env) (x0 : V) (x1 x2 : Int) (x3 : V) (x9 x10 : Int) (h : H) : Rl :=
 match decide (x9 < x2) with
 | true => ((za 1 x0 x9).bind fun v0 =>
 (h.ld1 v0).bind fun v1 =>
 (za 1 x0 (.int .i64 (wr .i64 (x9 - 1)))).bind fun v2 =>
 (h.ld1 v2).bind fun v3 =>
 z67 M x3 [v1, v3] h fun p4 =>
 (asI .i64 p4.1).bind fun n5 =>
 match (!(decide (n5 < 0))) with
 | true => (some (.normal, (z1b x0 x1 x2 x3 (.int .i64 (wr .i64 (x9 + 1))) x10), p4.2))
 | false => (some ((.exit 2), (z18 x0 x1 x2 x3 x9 x10), p4.2)))
 | false => (some ((.exit 2), (z18 x0 x1 x2 x3 x9 x10), h))
def z13 (M : Env) (x0 : V) (x1 x2 : Int) (x3 : V) (x9 x10 : Int) (h : H) : Rl :=
 match decide (x9 = x2) with
 | true => (some (.ret, (z03 true), h))
 | false => (match (decide ((wr .i64 (x2 - x1)) < 50)) with
 | true => (some (.ret, (z03 false), h))
 | false => ((za 1 x0 (.int .i64 (wr .i64 (x9 - 1)))).bind fun v0 =>
 (h.ld1 v0).bind fun v1 =>
 (za 1 x0 x9).bind fun v2 =>
 (h.ld1 v2).bind fun v3 =>
 (za 1 x0 x9).bind fun v4 =>
 (h.st 1 v4 v1).bind fun h5 =>
 (za 1 x0 (.int .i64 (wr .i64 (x9 - 1)))).bind fun v6 =>
 (h5.st 1 v6 v3).bind fun h7 =>
 match (decide (2 ≤ (wr .i64 (x9 - x1)))) with
 | true => ((M.loop (z4b M) (z16 x0 x1 x2 x3 x9 x10 (.int .i64 (wr .i64 (x9 - 1)))) h7).bind fun p8 => z4s M p8.1 p8.2.1 p8.2.2)
 | false => (match (decide (2 ≤ (wr .i64 (x2 - x9)))) with
 | true => ((M.loop (z2i M) (z0l x0 x1 x2 x3 x9 x10 (.int .i64 (wr .i64 (x9 + 1)))) h7).bind fun p8 => z2l M p8.1 p8.2.1 p8.2.2)
 | false => (some (.normal, (zx x0 x1 x2 x3 x9 (.int .i64 (wr .i64 (x10 + 1)))), h7)))))
def z2h (M : Env) (x0 : V) (x1 x2 : Int) (x3 : V) (x9 x10 x11 : Int) (h : H) : Rl :=
 match decide (1 ≤ x11) with
 | true => ((za 1 x0 x11).bind fun v0 =>
 (h.ld1 v0).bind fun v1 =>
 (za 1 x0 (.int .i64 (wr .i64 (x11 - 1)))).bind fun v2 =>
 (h.ld1 v2).bind fun v3 =>
 z67 M x3 [v1, v3] h fun p4 =>
 (asI .i64 p4.1).bind fun n5 =>
 match (!(decide (n5 < 0))) with
 | true => (some ((.exit 4), (z1a x0 x1 x2 x3 x9 x10), p4.2))
 | false => ((za 1 x0 (.int .i64 (wr .i64 (x11 - 1)))).bind fun v6 =>
 (p4.2.ld1 v6).bind fun v7 =>
 (za 1 x0 x11).bind fun v8 =>
 (p4.2.ld1 v8).bind fun v9 =>
 (za 1 x0 x11).bind fun v10 =>
 (p4.2.st 1 v10 v7).bind fun h11 =>
 (za 1 x0 (.int .i64 (wr .i64 (x11 - 1)))).bind fun v12 =>
 (h11.st 1 v12 v9).bind fun h13 =>
 some (.normal, (z16 x0 x1 x2 x3 x9 x10 (.int .i64 (wr .i64 (x11 - 1)))), h13)))
 | false => (some ((.exit 4), (z1a x0 x1 x2 x3 x9 x10), h))
def z23 (M : Env) (x0 : V) (x1 x2 : Int) (x3 : V) (x9 x10 : Int) (h : H) : Rl :=
 match (decide (2 ≤ (wr .i64 (x2 - x9)))) with
 | true => ((M.loop (z2i M) (z0l x0 x1 x2 x3 x9 x10 (.int .i64 (wr .i64 (x9 + 1)))) h).bind fun p0 => z2l M p0.1 p0.2.1 p0.2.2)
 | false => (some (.normal, (zx x0 x1 x2 x3 x9 (.int .i64 (wr .i64 (x10 + 1)))), h))
def z2g (M : Env) (x0 : V) (x1 x2 : Int) (x3 : V) (x9 x10 x12 : Int) (h : H) : Rl :=
 match decide (x12 < x2) with
 | true => ((za 1 x0 x12).bind fun v0 =>
 (h.ld1 v0).bind fun v1 =>
 (za 1 x0 (.int .i64 (wr .i64 (x12 - 1)))).bind fun v2 =>
 (h.ld1 v2).bind fun v3 =>
 z67 M x3 [v1, v3] h fun p4 =>
 (asI .i64 p4.1).bind fun n5 =>
 match (!(decide (n5 < 0))) with
 | true => (some ((.exit 6), (z15 x0 x1 x2 x3 x9 x10), p4.2))
 | false => ((za 1 x0 (.int .i64 (wr .i64 (x12 - 1)))).bind fun v6 =>
 (p4.2.ld1 v6).bind fun v7 =>
 (za 1 x0 x12).bind fun v8 =>
 (p4.2.ld1 v8).bind fun v9 =>
 (za 1 x0 x12).bind fun v10 =>
 (p4.2.st 1 v10 v7).bind fun h11 =>
 (za 1 x0 (.int .i64 (wr .i64 (x12 - 1)))).bind fun v12 =>
 (h11.st 1 v12 v9).bind fun h13 =>
 some (.normal, (z0l x0 x1 x2 x3 x9 x10 (.int .i64 (wr .i64 (x12 + 1)))), h13)))
 | false => (some ((.exit 6), (z15 x0 x1 x2 x3 x9 x10), h))
def z7d (M : Env) (x0 : V) (x1 x2 : Int) (x3 : V) (x9 x10 : Int) (h : H) : Rl :=
 some (.normal, (zx x0 x1 x2 x3 x9 (.int .i64 (wr .i64 (x10 + 1)))), h)
theorem zek : z04 M F.zl [a0, (.int .i64 a1), (.int .i64 a2), a3] h = zl M a0 a1 a2 a3 h := by kernel_rfl
theorem ze1 : z7p M (zx x0 (.int .i64 x1) (.int .i64 x2) x3 (.int .i64 x9) (.int .i64 x10)) h = z2e M x0 x1 x2 x3 x9 x10 h := by kernel_rfl
theorem zco : z1g M (.exit 0) (z03 x8) h = ze3 M x8 h := by kernel_rfl
theorem zdb : z1g M .ret (z03 (.bool x8)) h = zea M x8 h := by kernel_rfl
theorem zdv : z4e M (z1b x0 (.int .i64 x1) (.int .i64 x2) x3 (.int .i64 x9) (.int .i64 x10)) h = z2f M x0 x1 x2 x3 x9 x10 h := by kernel_rfl
theorem zcw : z4t M (.exit 2) (z18 x0 (.int .i64 x1) (.int .i64 x2) x3 (.int .i64 x9) (.int .i64 x10)) h = z13 M x0 x1 x2 x3 x9 x10 h := by kernel_rfl
theorem ze7 : z4b M (z16 x0 (.int .i64 x1) (.int .i64 x2) x3 (.int .i64 x9) (.int .i64 x10) (.int .i64 x11)) h = z2h M x0 x1 x2 x3 x9 x10 x11 h := by kernel_rfl
theorem zcs : z4s M (.exit 4) (z1a x0 (.int .i64 x1) (.int .i64 x2) x3 (.int .i64 x9) (.int .i64 x10)) h = z23 M x0 x1 x2 x3 x9 x10 h := by kernel_rfl
theorem ze5 : z2i M (z0l x0 (.int .i64 x1) (.int .i64 x2) x3 (.int .i64 x9) (.int .i64 x10) (.int .i64 x12)) h = z2g M x0 x1 x2 x3 x9 x10 x12 h := by kernel_rfl
theorem zd1 : z2l M (.exit 6) (z15 x0 (.int .i64 x1) (.int .i64 x2) x3 (.int .i64 x9) (.int .i64 x10)) h = z7d M x0 x1 x2 x3 x9 x10 h := by kernel_rfl
def zao (M : Env) := lb M F.zi6 [0, 1, 8, 9, 10, 11] []
def z29 (x0 x1 x8 x9 x10 x11 : V) : List V := x0 :: x1 :: dd 6 (x8 :: x9 :: x10 :: x11 :: dd 55 [])
def z3z : List V := dd 67 []
def zar (M : Env) := jb M F.zi4 [0, 1, 8, 9, 10, 11, 35]
def zan (x0 x1 x8 x9 x10 x11 : V) : List V := x0 :: x1 :: dd 6 (x8 :: x9 :: x10 :: x11 :: dd 55 [])
def zaj (x0 x1 x8 x9 x10 x11 x35 : V) : List V := x0 :: x1 :: dd 6 (x8 :: x9 :: x10 :: x11 :: dd 23 (x35 :: dd 31 []))
def zam (M : Env) := jb M F.zif [0, 1, 8, 9, 10, 11, 12]
def zaq (x0 x1 x8 x9 x10 x11 : V) : List V := x0 :: x1 :: dd 6 (x8 :: x9 :: x10 :: x11 :: dd 55 [])
def zak (x0 x1 x8 x9 x10 x11 x12 : V) : List V := x0 :: x1 :: dd 6 (x8 :: x9 :: x10 :: x11 :: x12 :: dd 54 [])
def zai (M : Env) := jb M F.zid [0, 1, 8, 9, 10, 11, 12]
def zag (x0 x1 x8 x9 x10 x11 x12 : V) : List V := x0 :: x1 :: dd 6 (x8 :: x9 :: x10 :: x11 :: x12 :: dd 54 [])
def z6g (x0 x1 x8 x9 x10 x11 x12 : V) : List V := x0 :: x1 :: dd 6 (x8 :: x9 :: x10 :: x11 :: x12 :: dd 54 [])
def ziq (M : Env) := kf F.zo
def z77 (M : Env) := kb 0 (ziq M)
def zbx (M : Env) := kl [0, 1, 8, 9, 10, 11] []
def ziu (M : Env) := kq M F.zi1 (zbx M)
def z4i (M : Env) := kq M F.zi8 (ziu M)
def zit (M : Env) := kq M F.zii (zbx M)
def zbo (M : Env) := kb 1 (zit M)
def z76 (M : Env) := kq M F.zip (zbo M)
def z4j (M : Env) := kq M F.zij (zbo M)
def zo (M : Env) (a0 : V) (a1 a2 : Int) (a3 : V) (h : H) : Rf :=
 match (decide (8 ≤ (wr .i64 (a2 - a1)))) with
 | true => (let h0 := h.new (.cells [(.int .u64 0)] .rw)
 (h0.st 1 (.ptr h.next 0) (.int .u64 (wr .u64 (wr .i64 (a2 - a1))))).bind fun h1 =>
 (M.call 488 [(.int .i64 (wr .i64 (a2 - a1)))] h1).bind fun p2 =>
 (M.loop (zao M) (z29 a0 a1 (.int .i64 (wr .i64 (a2 - a1))) (.ptr h.next 0) p2.1 (.int .i64 (wr .i64 ((wr .i64 (a1 + (wr .i64 ((wr .i64 (Int.tdiv (wr .i64 (a2 - a1)) 4)) * 2)))) - 1)))) p2.2).bind fun p3 => z77 M p3.1 p3.2.1 p3.2.2)
 | false => (some ((.tup []), h))
def zas (M : Env) (x0 : V) (x1 x8 : Int) (x9 : V) (x10 x11 : Int) (h : H) : Rl :=
 (zar M (zan x0 x1 x8 x9 (.int .u64 x10) x11) h).bind fun p0 => z4i M p0.1 p0.2.1 p0.2.2
def zgi (M : Env) (h : H) : Rf :=
 some ((.tup []), h)
def z6f (M : Env) (x0 : V) (x1 x8 : Int) (x9 : V) (x10 x11 : Int) (h : H) : Rl :=
 some (.normal, (zaj x0 x1 x8 x9 (.int .u64 x10) x11 (.bool (decide (x11 ≤ (wr .i64 ((wr .i64 (x1 + (wr .i64 ((wr .i64 (Int.tdiv x8 4)) * 2)))) + 1)))))), h)
def z6b (M : Env) (x0 : V) (x1 x8 : Int) (x9 : V) (x10 x11 : Int) (x35 : Bool) (h : H) : Rl :=
 match x35 with
 | true => ((zam M (zaq x0 x1 x8 x9 (.int .u64 x10) x11) h).bind fun p0 => z76 M p0.1 p0.2.1 p0.2.2)
 | false => (some ((.exit 0), z3z, h))
def zal (M : Env) (x0 : V) (x1 x8 : Int) (x9 : V) (x10 x11 : Int) (h : H) : Rl :=
 (M.call 489 [x9] h).bind fun p0 =>
 (asI .u64 p0.1).bind fun n1 =>
 some (.normal, (zak x0 x1 x8 x9 (.int .u64 x10) x11 (.int .i64 (wr .i64 (zyj n1 (wr .u64 (x10 - 1)))))), p0.2)
def zah (M : Env) (x0 : V) (x1 x8 : Int) (x9 : V) (x10 x11 x12 : Int) (h : H) : Rl :=
 (zai M (zag x0 x1 x8 x9 (.int .u64 x10) x11 x12) h).bind fun p0 => z4j M p0.1 p0.2.1 p0.2.2
def z69 (M : Env) (x0 : V) (x1 x8 : Int) (x9 : V) (x10 x11 x12 : Int) (h : H) : Rl :=
 match decide (x8 ≤ x12) with
 | true => (some (.normal, (z6g x0 x1 x8 x9 (.int .u64 x10) x11 (.int .i64 (wr .i64 (x12 - x8)))), h))
 | false => (some (.normal, (z6g x0 x1 x8 x9 (.int .u64 x10) x11 x12), h))
def z6c (M : Env) (x0 : V) (x1 x8 : Int) (x9 : V) (x10 x11 x12 : Int) (h : H) : Rl :=
 (za 1 x0 (.int .i64 (wr .i64 (x1 + x12)))).bind fun v0 =>
 (h.ld1 v0).bind fun v1 =>
 (za 1 x0 x11).bind fun v2 =>
 (h.ld1 v2).bind fun v3 =>
 (za 1 x0 x11).bind fun v4 =>
 (h.st 1 v4 v1).bind fun h5 =>
 (za 1 x0 (.int .i64 (wr .i64 (x1 + x12)))).bind fun v6 =>
 (h5.st 1 v6 v3).bind fun h7 =>
 some (.normal, (z29 x0 x1 x8 x9 (.int .u64 x10) (.int .i64 (wr .i64 (x11 + 1)))), h7)
theorem zir : z04 M F.zo [a0, (.int .i64 a1), (.int .i64 a2), a3] h = zo M a0 a1 a2 a3 h := by kernel_rfl
theorem zga : zao M (z29 x0 (.int .i64 x1) (.int .i64 x8) x9 (.int .u64 x10) (.int .i64 x11)) h = zas M x0 x1 x8 x9 x10 x11 h := by kernel_rfl
theorem zfn : z77 M (.exit 0) z3z h = zgi M h := by kernel_rfl
theorem zgg : zar M (zan x0 (.int .i64 x1) (.int .i64 x8) x9 (.int .u64 x10) (.int .i64 x11)) h = z6f M x0 x1 x8 x9 x10 x11 h := by kernel_rfl
theorem z9p : z4i M .normal (zaj x0 (.int .i64 x1) (.int .i64 x8) x9 (.int .u64 x10) (.int .i64 x11) (.bool x35)) h = z6b M x0 x1 x8 x9 x10 x11 x35 h := by kernel_rfl
theorem zge : zam M (zaq x0 (.int .i64 x1) (.int .i64 x8) x9 (.int .u64 x10) (.int .i64 x11)) h = zal M x0 x1 x8 x9 x10 x11 h := by kernel_rfl
theorem zfs : z76 M .normal (zak x0 (.int .i64 x1) (.int .i64 x8) x9 (.int .u64 x10) (.int .i64 x11) (.int .i64 x12)) h = zah M x0 x1 x8 x9 x10 x11 x12 h := by kernel_rfl
theorem zgk : zai M (zag x0 (.int .i64 x1) (.int .i64 x8) x9 (.int .u64 x10) (.int .i64 x11) (.int .i64 x12)) h = z69 M x0 x1 x8 x9 x10 x11 x12 h := by kernel_rfl
theorem z9o : z4j M .normal (z6g x0 (.int .i64 x1) (.int .i64 x8) x9 (.int .u64 x10) (.int .i64 x11) (.int .i64 x12)) h = z6c M x0 x1 x8 x9 x10 x11 x12 h := by kernel_rfl
def z43 (M : Env) (a0 : V) (h : H) : Rf :=
 (nilc a0).bind fun v0 =>
 (h.ld1 v0).bind fun v1 =>
 (nilc a0).bind fun v2 =>
 (h.ld1 v2).bind fun v3 =>
 (asI .u64 v3).bind fun n4 =>
 (asI .u64 v1).bind fun n5 =>
 (nilc a0).bind fun v6 =>
 (h.st 1 v6 (.int .u64 (zpz n5 (wr .u64 (n4 * 2 ^ (min (Int.toNat 13) (Go.IntKind.bits .u64))))))).bind fun h7 =>
 (nilc a0).bind fun v8 =>
 (h7.ld1 v8).bind fun v9 =>
 (nilc a0).bind fun v10 =>
 (h7.ld1 v10).bind fun v11 =>
 (asI .u64 v11).bind fun n12 =>
 (asI .u64 v9).bind fun n13 =>
 (nilc a0).bind fun v14 =>
 (h7.st 1 v14 (.int .u64 (zpz n13 (n12 / 2 ^ (min (Int.toNat 7) (Go.IntKind.bits .u64)))))).bind fun h15 =>
 (nilc a0).bind fun v16 =>
 (h15.ld1 v16).bind fun v17 =>
 (nilc a0).bind fun v18 =>
 (h15.ld1 v18).bind fun v19 =>
 (asI .u64 v19).bind fun n20 =>
 (asI .u64 v17).bind fun n21 =>
 (nilc a0).bind fun v22 =>
 (h15.st 1 v22 (.int .u64 (zpz n21 (wr .u64 (n20 * 2 ^ (min (Int.toNat 17) (Go.IntKind.bits .u64))))))).bind fun h23 =>
 (nilc a0).bind fun v24 =>
 (h23.ld1 v24).bind fun v25 =>
 some (v25, h23)
theorem zr1 : z04 M F.z43 [a0] h = z43 M a0 h := by kernel_rfl
def z1i (M : Env) (a0 : V) (a1 a2 : Int) (a3 a4 : V) (h : H) : Rf :=
 (za 1 a0 a2).bind fun v0 =>
 (h.ld1 v0).bind fun v1 =>
 (za 1 a0 a1).bind fun v2 =>
 (h.ld1 v2).bind fun v3 =>
 z67 M a4 [v1, v3] h fun p4 =>
 (asI .i64 p4.1).bind fun n5 =>
 match decide (n5 < 0) with
 | true => ((nilc a3).bind fun v6 =>
 (p4.2.ld1 v6).bind fun v7 =>
 (asI .i64 v7).bind fun n8 =>
 (nilc a3).bind fun v9 =>
 (p4.2.st 1 v9 (.int .i64 (wr .i64 (n8 + 1)))).bind fun h10 =>
 some ((.tup [a2, a1]), h10))
 | false => (some ((.tup [a1, a2]), p4.2))
theorem zoc : z04 M F.z1i [a0, (.int .i64 a1), (.int .i64 a2), a3, a4] h = z1i M a0 a1 a2 a3 a4 h := by kernel_rfl
def z24 (M : Env) (a0 : V) (a1 a2 a3 : Int) (a4 a5 : V) (h : H) : Rf :=
 (M.call 512 [a0, a1, a2, a4, a5] h).bind fun p0 =>
 match p0.1 with
 | .tup vs1 => ((vs1[0]?).bind fun v2 =>
 match p0.1 with
 | .tup vs3 => ((vs3[1]?).bind fun v4 =>
 (M.call 512 [a0, v4, a3, a4, a5] p0.2).bind fun p5 =>
 match p5.1 with
 | .tup vs6 => ((vs6[0]?).bind fun v7 =>
 match p5.1 with
 | .tup vs8 => ((vs8[1]?).bind fun v9 =>
 (M.call 512 [a0, v2, v7, a4, a5] p5.2).bind fun p10 =>
 match p10.1 with
 | .tup vs11 => ((vs11[0]?).bind fun v12 =>
 match p10.1 with
 | .tup vs13 => ((vs13[1]?).bind fun v14 =>
 some (v14, p10.2))
 | _ => none)
 | _ => none)
 | _ => none)
 | _ => none)
 | _ => none)
 | _ => none
theorem zov : z04 M F.z24 [a0, (.int .i64 a1), (.int .i64 a2), (.int .i64 a3), a4, a5] h = z24 M a0 a1 a2 a3 a4 a5 h := by kernel_rfl
def z0q (M : Env) (a0 : V) (a1 : Int) (a2 a3 : V) (h : H) : Rf :=
 (M.call 491 [a0, (.int .i64 (wr .i64 (a1 - 1))), a1, (.int .i64 (wr .i64 (a1 + 1))), a2, a3] h).bind fun p0 =>
 some (p0.1, p0.2)
theorem zhc : z04 M F.z0q [a0, (.int .i64 a1), a2, a3] h = z0q M a0 a1 a2 a3 h := by kernel_rfl
end Wm.S
end
