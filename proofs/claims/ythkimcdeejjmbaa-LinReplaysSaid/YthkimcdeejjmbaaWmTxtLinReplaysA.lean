/- PRINTED by my tool: what functions come to, stretch by stretch. -/
import Derived.KernelRfl
import Derived.Test.YthkimcdeejjmbaaWmShal
import Derived.Test.YthkimcdeejjmbaaWmFnsLinReplays
set_option linter.all false
noncomputable section
open Wm
namespace Wm.S
open Wm
set_option maxRecDepth 100000
set_option autoImplicit true
set_option relaxedAutoImplicit true
instance:Coe Int V:=⟨V.int .i64⟩
instance:Coe Bool V:=⟨V.bool⟩
abbrev Rf:=Option (V × H)
abbrev Rl:=Option (AX × List V × H)
abbrev Kt (R:Type):=AX->List V->H->Option R
def dd:Nat->List V->List V
 | 0,l=>l
 | n+1,l=>.dead :: dd n l
def uu:Nat->List V->List V
 | 0,l=>l
 | n+1,l=>.tup [] :: uu n l
def kl (k o:List Nat):Kt (AX × List V × H):=fun x env h=>match x with | .normal=>some (.normal,z00 k 0 env,h) | x=>some (x,z00 o 0 env,h)
def kj (o:List Nat):Kt (AX × List V × H):=fun x env h=>some (x,z00 o 0 env,h)
def kc (k o:List Nat):Kt (AX × List V × H):=fun x env h=>match x with | .goto j=>some (.goto j,z00 k 0 env,h) | x=>some (x,z00 o 0 env,h)
def lb (M:Env) (c:ACode) (k o:List Nat) (env:List V) (h:H):Rl:=z0i M c env h (kl k o)
def jb (M:Env) (c:ACode) (o:List Nat) (env:List V) (h:H):Rl:=z0i M c env h (kj o)
def sc (M:Env) (c d:ACode) (k o:List Nat) (l:Nat) (env:List V) (h:H):Rl:=match l with | 0=>z0i M c env h (kc k o) | l+1=>z10 M d l env h (kc k o)
def kf (f:AFunc):Kt (V × H):=fun x env h=>fin f x env h
def kq {R:Type} (M:Env) (c:ACode) (k:Kt R):Kt R:=fun x env h=>match x with | .normal=>z0i M c env h k | x=>k x env h
def kb {R:Type} (id:Nat) (k:Kt R):Kt R:=fun x env h=>match x with | .exit j=>(match Nat.beq j id with | true=>k .normal env h | false=>k (.exit j) env h) | x=>k x env h
def zfh (M:Env) (a0 a1 a2:Int) (h:H):Rf :=
 match decide (a1<=a0) with
 | true=>(some ((.bool (decide (a0<=a2))),h))
 | false=>(some (false,h))
theorem z09b:z06 M F.zfh [(.int .i64 a0),(.int .i64 a1),(.int .i64 a2)] h=zfh M a0 a1 a2 h:=by kernel_rfl
def zio (M:Env) (a0_0 a0_1 a0_2 a0_3 a0_4 a0_5:Int) (h:H):Rf :=
 let h0:=h.new (.cells [a0_0,a0_1,a0_2,a0_3,a0_4,a0_5] .rw)
 (h0.ld1 (.ptr h.next 0)).bind fun v1 =>
 (M.call 376 [v1,(1:Int),(64:Int)] h0).bind fun p2 =>
 match p2.1 with
 | .bool true=>(
 (p2.2.ld1 (.ptr h.next 1)).bind fun v3 =>
 (M.call 376 [v3,(0:Int),(8:Int)] p2.2).bind fun p4 =>
 match p4.1 with
 | .bool true=>(
 (p4.2.ld1 (.ptr h.next 2)).bind fun v5 =>
 (M.call 376 [v5,(1:Int),(8:Int)] p4.2).bind fun p6 =>
 match p6.1 with
 | .bool true=>(
 (p6.2.ld1 (.ptr h.next 3)).bind fun v7 =>
 (M.call 376 [v7,(1:Int),(16:Int)] p6.2).bind fun p8 =>
 match p8.1 with
 | .bool true=>(
 (p8.2.ld1 (.ptr h.next 4)).bind fun v9 =>
 (M.call 376 [v9,(1:Int),(1048576:Int)] p8.2).bind fun p10 =>
 match p10.1 with
 | .bool true=>(
 (p10.2.ld1 (.ptr h.next 5)).bind fun v11 =>
 (M.call 376 [v11,(0:Int),(64:Int)] p10.2).bind fun p12 =>
 some (p12.1,p12.2))
 | .bool false=>(
 some (false,p10.2))
 | .tup []=>(
 (asB p10.1).bind fun b11 =>
 some ((match b11 with | true=>(.tup []) | false=>false:V),p10.2))
 | _=>none)
 | .bool false=>(
 some (false,p8.2))
 | .tup []=>(
 (asB p8.1).bind fun b9 =>
 match (match b9 with | true=>(.tup []) | false=>false:V) with
 | .bool true=>(
 (p8.2.ld1 (.ptr h.next 5)).bind fun v10 =>
 (M.call 376 [v10,(0:Int),(64:Int)] p8.2).bind fun p11 =>
 some (p11.1,p11.2))
 | .bool false=>(
 some (false,p8.2))
 | .tup []=>(
 (asB (match b9 with | true=>(.tup []) | false=>false:V)).bind fun b10 =>
 some ((match b10 with | true=>(.tup []) | false=>false:V),p8.2))
 | _=>none)
 | _=>none)
 | .bool false=>(
 some (false,p6.2))
 | .tup []=>(
 (asB p6.1).bind fun b7 =>
 match (match b7 with | true=>(.tup []) | false=>false:V) with
 | .bool true=>(
 (p6.2.ld1 (.ptr h.next 4)).bind fun v8 =>
 (M.call 376 [v8,(1:Int),(1048576:Int)] p6.2).bind fun p9 =>
 match p9.1 with
 | .bool true=>(
 (p9.2.ld1 (.ptr h.next 5)).bind fun v10 =>
 (M.call 376 [v10,(0:Int),(64:Int)] p9.2).bind fun p11 =>
 some (p11.1,p11.2))
 | .bool false=>(
 some (false,p9.2))
 | .tup []=>(
 (asB p9.1).bind fun b10 =>
 some ((match b10 with | true=>(.tup []) | false=>false:V),p9.2))
 | _=>none)
 | .bool false=>(
 some (false,p6.2))
 | .tup []=>(
 (asB (match b7 with | true=>(.tup []) | false=>false:V)).bind fun b8 =>
 match (match b8 with | true=>(.tup []) | false=>false:V) with
 | .bool true=>(
 (p6.2.ld1 (.ptr h.next 5)).bind fun v9 =>
 (M.call 376 [v9,(0:Int),(64:Int)] p6.2).bind fun p10 =>
 some (p10.1,p10.2))
 | .bool false=>(
 some (false,p6.2))
 | .tup []=>(
 (asB (match b8 with | true=>(.tup []) | false=>false:V)).bind fun b9 =>
 some ((match b9 with | true=>(.tup []) | false=>false:V),p6.2))
 | _=>none)
 | _=>none)
 | _=>none)
 | .bool false=>(
 some (false,p4.2))
 | .tup []=>(
 (asB p4.1).bind fun b5 =>
 match (match b5 with | true=>(.tup []) | false=>false:V) with
 | .bool true=>(
 (p4.2.ld1 (.ptr h.next 3)).bind fun v6 =>
 (M.call 376 [v6,(1:Int),(16:Int)] p4.2).bind fun p7 =>
 match p7.1 with
 | .bool true=>(
 (p7.2.ld1 (.ptr h.next 4)).bind fun v8 =>
 (M.call 376 [v8,(1:Int),(1048576:Int)] p7.2).bind fun p9 =>
 match p9.1 with
 | .bool true=>(
 (p9.2.ld1 (.ptr h.next 5)).bind fun v10 =>
 (M.call 376 [v10,(0:Int),(64:Int)] p9.2).bind fun p11 =>
 some (p11.1,p11.2))
 | .bool false=>(
 some (false,p9.2))
 | .tup []=>(
 (asB p9.1).bind fun b10 =>
 some ((match b10 with | true=>(.tup []) | false=>false:V),p9.2))
 | _=>none)
 | .bool false=>(
 some (false,p7.2))
 | .tup []=>(
 (asB p7.1).bind fun b8 =>
 match (match b8 with | true=>(.tup []) | false=>false:V) with
 | .bool true=>(
 (p7.2.ld1 (.ptr h.next 5)).bind fun v9 =>
 (M.call 376 [v9,(0:Int),(64:Int)] p7.2).bind fun p10 =>
 some (p10.1,p10.2))
 | .bool false=>(
 some (false,p7.2))
 | .tup []=>(
 (asB (match b8 with | true=>(.tup []) | false=>false:V)).bind fun b9 =>
 some ((match b9 with | true=>(.tup []) | false=>false:V),p7.2))
 | _=>none)
 | _=>none)
 | .bool false=>(
 some (false,p4.2))
 | .tup []=>(
 (asB (match b5 with | true=>(.tup []) | false=>false:V)).bind fun b6 =>
 match (match b6 with | true=>(.tup []) | false=>false:V) with
 | .bool true=>(
 (p4.2.ld1 (.ptr h.next 4)).bind fun v7 =>
 (M.call 376 [v7,(1:Int),(1048576:Int)] p4.2).bind fun p8 =>
 match p8.1 with
 | .bool true=>(
 (p8.2.ld1 (.ptr h.next 5)).bind fun v9 =>
 (M.call 376 [v9,(0:Int),(64:Int)] p8.2).bind fun p10 =>
 some (p10.1,p10.2))
 | .bool false=>(
 some (false,p8.2))
 | .tup []=>(
 (asB p8.1).bind fun b9 =>
 some ((match b9 with | true=>(.tup []) | false=>false:V),p8.2))
 | _=>none)
 | .bool false=>(
 some (false,p4.2))
 | .tup []=>(
 (asB (match b6 with | true=>(.tup []) | false=>false:V)).bind fun b7 =>
 match (match b7 with | true=>(.tup []) | false=>false:V) with
 | .bool true=>(
 (p4.2.ld1 (.ptr h.next 5)).bind fun v8 =>
 (M.call 376 [v8,(0:Int),(64:Int)] p4.2).bind fun p9 =>
 some (p9.1,p9.2))
 | .bool false=>(
 some (false,p4.2))
 | .tup []=>(
 (asB (match b7 with | true=>(.tup []) | false=>false:V)).bind fun b8 =>
 some ((match b8 with | true=>(.tup []) | false=>false:V),p4.2))
 | _=>none)
 | _=>none)
 | _=>none)
 | _=>none)
 | .bool false=>(
 some (false,p2.2))
 | .tup []=>(
 (asB p2.1).bind fun b3 =>
 match (match b3 with | true=>(.tup []) | false=>false:V) with
 | .bool true=>(
 (p2.2.ld1 (.ptr h.next 2)).bind fun v4 =>
 (M.call 376 [v4,(1:Int),(8:Int)] p2.2).bind fun p5 =>
 match p5.1 with
 | .bool true=>(
 (p5.2.ld1 (.ptr h.next 3)).bind fun v6 =>
 (M.call 376 [v6,(1:Int),(16:Int)] p5.2).bind fun p7 =>
 match p7.1 with
 | .bool true=>(
 (p7.2.ld1 (.ptr h.next 4)).bind fun v8 =>
 (M.call 376 [v8,(1:Int),(1048576:Int)] p7.2).bind fun p9 =>
 match p9.1 with
 | .bool true=>(
 (p9.2.ld1 (.ptr h.next 5)).bind fun v10 =>
 (M.call 376 [v10,(0:Int),(64:Int)] p9.2).bind fun p11 =>
 some (p11.1,p11.2))
 | .bool false=>(
 some (false,p9.2))
 | .tup []=>(
 (asB p9.1).bind fun b10 =>
 some ((match b10 with | true=>(.tup []) | false=>false:V),p9.2))
 | _=>none)
 | .bool false=>(
 some (false,p7.2))
 | .tup []=>(
 (asB p7.1).bind fun b8 =>
 match (match b8 with | true=>(.tup []) | false=>false:V) with
 | .bool true=>(
 (p7.2.ld1 (.ptr h.next 5)).bind fun v9 =>
 (M.call 376 [v9,(0:Int),(64:Int)] p7.2).bind fun p10 =>
 some (p10.1,p10.2))
 | .bool false=>(
 some (false,p7.2))
 | .tup []=>(
 (asB (match b8 with | true=>(.tup []) | false=>false:V)).bind fun b9 =>
 some ((match b9 with | true=>(.tup []) | false=>false:V),p7.2))
 | _=>none)
 | _=>none)
 | .bool false=>(
 some (false,p5.2))
 | .tup []=>(
 (asB p5.1).bind fun b6 =>
 match (match b6 with | true=>(.tup []) | false=>false:V) with
 | .bool true=>(
 (p5.2.ld1 (.ptr h.next 4)).bind fun v7 =>
 (M.call 376 [v7,(1:Int),(1048576:Int)] p5.2).bind fun p8 =>
 match p8.1 with
 | .bool true=>(
 (p8.2.ld1 (.ptr h.next 5)).bind fun v9 =>
 (M.call 376 [v9,(0:Int),(64:Int)] p8.2).bind fun p10 =>
 some (p10.1,p10.2))
 | .bool false=>(
 some (false,p8.2))
 | .tup []=>(
 (asB p8.1).bind fun b9 =>
 some ((match b9 with | true=>(.tup []) | false=>false:V),p8.2))
 | _=>none)
 | .bool false=>(
 some (false,p5.2))
 | .tup []=>(
 (asB (match b6 with | true=>(.tup []) | false=>false:V)).bind fun b7 =>
 match (match b7 with | true=>(.tup []) | false=>false:V) with
 | .bool true=>(
 (p5.2.ld1 (.ptr h.next 5)).bind fun v8 =>
 (M.call 376 [v8,(0:Int),(64:Int)] p5.2).bind fun p9 =>
 some (p9.1,p9.2))
 | .bool false=>(
 some (false,p5.2))
 | .tup []=>(
 (asB (match b7 with | true=>(.tup []) | false=>false:V)).bind fun b8 =>
 some ((match b8 with | true=>(.tup []) | false=>false:V),p5.2))
 | _=>none)
 | _=>none)
 | _=>none)
 | .bool false=>(
 some (false,p2.2))
 | .tup []=>(
 (asB (match b3 with | true=>(.tup []) | false=>false:V)).bind fun b4 =>
 match (match b4 with | true=>(.tup []) | false=>false:V) with
 | .bool true=>(
 (p2.2.ld1 (.ptr h.next 3)).bind fun v5 =>
 (M.call 376 [v5,(1:Int),(16:Int)] p2.2).bind fun p6 =>
 match p6.1 with
 | .bool true=>(
 (p6.2.ld1 (.ptr h.next 4)).bind fun v7 =>
 (M.call 376 [v7,(1:Int),(1048576:Int)] p6.2).bind fun p8 =>
 match p8.1 with
 | .bool true=>(
 (p8.2.ld1 (.ptr h.next 5)).bind fun v9 =>
 (M.call 376 [v9,(0:Int),(64:Int)] p8.2).bind fun p10 =>
 some (p10.1,p10.2))
 | .bool false=>(
 some (false,p8.2))
 | .tup []=>(
 (asB p8.1).bind fun b9 =>
 some ((match b9 with | true=>(.tup []) | false=>false:V),p8.2))
 | _=>none)
 | .bool false=>(
 some (false,p6.2))
 | .tup []=>(
 (asB p6.1).bind fun b7 =>
 match (match b7 with | true=>(.tup []) | false=>false:V) with
 | .bool true=>(
 (p6.2.ld1 (.ptr h.next 5)).bind fun v8 =>
 (M.call 376 [v8,(0:Int),(64:Int)] p6.2).bind fun p9 =>
 some (p9.1,p9.2))
 | .bool false=>(
 some (false,p6.2))
 | .tup []=>(
 (asB (match b7 with | true=>(.tup []) | false=>false:V)).bind fun b8 =>
 some ((match b8 with | true=>(.tup []) | false=>false:V),p6.2))
 | _=>none)
 | _=>none)
 | .bool false=>(
 some (false,p2.2))
 | .tup []=>(
 (asB (match b4 with | true=>(.tup []) | false=>false:V)).bind fun b5 =>
 match (match b5 with | true=>(.tup []) | false=>false:V) with
 | .bool true=>(
 (p2.2.ld1 (.ptr h.next 4)).bind fun v6 =>
 (M.call 376 [v6,(1:Int),(1048576:Int)] p2.2).bind fun p7 =>
 match p7.1 with
 | .bool true=>(
 (p7.2.ld1 (.ptr h.next 5)).bind fun v8 =>
 (M.call 376 [v8,(0:Int),(64:Int)] p7.2).bind fun p9 =>
 some (p9.1,p9.2))
 | .bool false=>(
 some (false,p7.2))
 | .tup []=>(
 (asB p7.1).bind fun b8 =>
 some ((match b8 with | true=>(.tup []) | false=>false:V),p7.2))
 | _=>none)
 | .bool false=>(
 some (false,p2.2))
 | .tup []=>(
 (asB (match b5 with | true=>(.tup []) | false=>false:V)).bind fun b6 =>
 match (match b6 with | true=>(.tup []) | false=>false:V) with
 | .bool true=>(
 (p2.2.ld1 (.ptr h.next 5)).bind fun v7 =>
 (M.call 376 [v7,(0:Int),(64:Int)] p2.2).bind fun p8 =>
 some (p8.1,p8.2))
 | .bool false=>(
 some (false,p2.2))
 | .tup []=>(
 (asB (match b6 with | true=>(.tup []) | false=>false:V)).bind fun b7 =>
 some ((match b7 with | true=>(.tup []) | false=>false:V),p2.2))
 | _=>none)
 | _=>none)
 | _=>none)
 | _=>none)
 | _=>none
theorem z0cu:z06 M F.zio [(.agg [(.int .i64 a0_0),(.int .i64 a0_1),(.int .i64 a0_2),(.int .i64 a0_3),(.int .i64 a0_4),(.int .i64 a0_5)])] h=zio M a0_0 a0_1 a0_2 a0_3 a0_4 a0_5 h:=by kernel_rfl
def z8u (M:Env) (a0_0 a0_1 a0_2 a0_3 a0_4 a0_5:Int) (h:H):Rf :=
 let h0:=h.new (.cells [a0_0,a0_1,a0_2,a0_3,a0_4,a0_5] .rw)
 (h0.ld1 (.ptr h.next 0)).bind fun v1 =>
 (asI .i64 v1).bind fun n2 =>
 match decide (1<=n2) with
 | true=>((h0.ld1 (.ptr h.next 0)).bind fun v3 =>
 (asI .i64 v3).bind fun n4 =>
 match decide (n4<=64) with
 | true=>((h0.ld1 (.ptr h.next 1)).bind fun v5 =>
 (asI .i64 v5).bind fun n6 =>
 match decide (0<=n6) with
 | true=>((h0.ld1 (.ptr h.next 1)).bind fun v7 =>
 (asI .i64 v7).bind fun n8 =>
 match decide (n8<=8) with
 | true=>((h0.ld1 (.ptr h.next 2)).bind fun v9 =>
 (asI .i64 v9).bind fun n10 =>
 match decide (1<=n10) with
 | true=>((h0.ld1 (.ptr h.next 2)).bind fun v11 =>
 (asI .i64 v11).bind fun n12 =>
 match decide (n12<=8) with
 | true=>((h0.ld1 (.ptr h.next 3)).bind fun v13 =>
 (asI .i64 v13).bind fun n14 =>
 match decide (1<=n14) with
 | true=>((h0.ld1 (.ptr h.next 3)).bind fun v15 =>
 (asI .i64 v15).bind fun n16 =>
 match decide (n16<=16) with
 | true=>((h0.ld1 (.ptr h.next 4)).bind fun v17 =>
 (asI .i64 v17).bind fun n18 =>
 match decide (1<=n18) with
 | true=>((h0.ld1 (.ptr h.next 4)).bind fun v19 =>
 (asI .i64 v19).bind fun n20 =>
 match decide (n20<=1048576) with
 | true=>((h0.ld1 (.ptr h.next 5)).bind fun v21 =>
 (asI .i64 v21).bind fun n22 =>
 match decide (0<=n22) with
 | true=>((h0.ld1 (.ptr h.next 5)).bind fun v23 =>
 (asI .i64 v23).bind fun n24 =>
 some ((.bool (decide (n24<=64))),h0))
 | false=>(some (false,h0)))
 | false=>(some (false,h0)))
 | false=>(some (false,h0)))
 | false=>(some (false,h0)))
 | false=>(some (false,h0)))
 | false=>(some (false,h0)))
 | false=>(some (false,h0)))
 | false=>(some (false,h0)))
 | false=>(some (false,h0)))
 | false=>(some (false,h0)))
 | false=>(some (false,h0))
theorem z05x:z06 M F.z8u [(.agg [(.int .i64 a0_0),(.int .i64 a0_1),(.int .i64 a0_2),(.int .i64 a0_3),(.int .i64 a0_4),(.int .i64 a0_5)])] h=z8u M a0_0 a0_1 a0_2 a0_3 a0_4 a0_5 h:=by kernel_rfl
def zly (M:Env):=lb M F.z000 [1,2,3,7] [6]
def z7g (x1 x2 x3 x7:V):List V:=dd 1 (x1 :: x2 :: x3 :: dd 3 (x7 :: dd 31 []))
def z56 (x6:V):List V:=dd 6 (x6 :: dd 32 [])
def zzy (M:Env):=kf F.z1t
def zzj (M:Env):=kq M F.zzg (zzy M)
def z8x (M:Env):=kb 0 (zzj M)
def z1t (M:Env) (a0_0 a0_1 a0_2 a0_3 a0_4 a0_5:Int) (a0_6 a0_7 a0_8 a0_9 a0_10:V) (a1 a2:Int) (h:H):Rf :=
 let h0:=h.new (.cells [a0_0,a0_1,a0_2,a0_3,a0_4,a0_5,a0_6,a0_7,a0_8,a0_9,a0_10] .rw)
 (M.loop (zly M) (z7g a1 (.int .u64 a2) (.ptr h.next 0) (0:Int)) h0).bind fun p1=>z8x M p1.1 p1.2.1 p1.2.2
def z7e (M:Env) (x1 x2:Int) (x3:V) (x7:Int) (h:H):Rl :=
 (za x3 7).bind fun v0 =>
 (h.ld1 v0).bind fun v1 =>
 (lenSl v1).bind fun n2 =>
 match decide (x7<(n2:Int)) with
 | true=>((za x3 7).bind fun v3 =>
 (h.ld1 v3).bind fun v4 =>
 (z0 3 v4 x7).bind fun v5 =>
 (za v5 0).bind fun v6 =>
 (h.ld1 v6).bind fun v7 =>
 (asI .i64 v7).bind fun n8 =>
 match decide (n8=x1) with
 | true=>((za x3 7).bind fun v9 =>
 (h.ld1 v9).bind fun v10 =>
 (z0 3 v10 x7).bind fun v11 =>
 (za v11 1).bind fun v12 =>
 (h.ld1 v12).bind fun v13 =>
 (asI .u64 v13).bind fun n14 =>
 match decide (n14=x2) with
 | true=>((za x3 7).bind fun v15 =>
 (h.ld1 v15).bind fun v16 =>
 (z0 3 v16 x7).bind fun v17 =>
 (za v17 2).bind fun v18 =>
 (h.ld1 v18).bind fun v19 =>
 some (.ret,(z56 v19),h))
 | false=>(some (.normal,(z7g x1 (.int .u64 x2) x3 (.int .i64 (wr .i64 (x7+1)))),h)))
 | false=>(some (.normal,(z7g x1 (.int .u64 x2) x3 (.int .i64 (wr .i64 (x7+1)))),h)))
 | false=>(some ((.exit 0),(z56 .dead),h))
def zwm (M:Env) (x6:V) (h:H):Rf :=
 some ((.int .i64 (-1)),h)
def zxj (M:Env) (x6:Int) (h:H):Rf :=
 some (x6,h)
theorem zzw:z06 M F.z1t [(.agg [(.int .i64 a0_0),(.int .i64 a0_1),(.int .i64 a0_2),(.int .i64 a0_3),(.int .i64 a0_4),(.int .i64 a0_5),a0_6,a0_7,a0_8,a0_9,a0_10]),(.int .i64 a1),(.int .u64 a2)] h=z1t M a0_0 a0_1 a0_2 a0_3 a0_4 a0_5 a0_6 a0_7 a0_8 a0_9 a0_10 a1 a2 h:=by kernel_rfl
theorem zw4:zly M (z7g (.int .i64 x1) (.int .u64 x2) x3 (.int .i64 x7)) h=z7e M x1 x2 x3 x7 h:=by kernel_rfl
theorem zsi:z8x M (.exit 0) (z56 x6) h=zwm M x6 h:=by kernel_rfl
theorem zud:z8x M .ret (z56 (.int .i64 x6)) h=zxj M x6 h:=by kernel_rfl
def zlq (M:Env):=lb M F.z00i [1,2,5,6] [5]
def z7c (x1 x2 x5 x6:V):List V:=dd 1 (x1 :: x2 :: dd 2 (x5 :: x6 :: dd 18 []))
def zge (x5:V):List V:=dd 5 (x5 :: dd 19 [])
def z00k (M:Env):=kf F.z1u
def z00l (M:Env):=kq M F.zzt (z00k M)
def zi0 (M:Env):=kb 0 (z00l M)
def z1u (M:Env) (a0_0 a0_1 a0_2 a0_3 a0_4 a0_5:Int) (a0_6 a0_7 a0_8 a0_9 a0_10:V) (a1:Int) (h:H):Rf :=
 let h0:=h.new (.cells [a0_0,a0_1,a0_2,a0_3,a0_4,a0_5,a0_6,a0_7,a0_8,a0_9,a0_10] .rw)
 (M.loop (zlq M) (z7c a1 (.ptr h.next 0) (0:Int) (0:Int)) h0).bind fun p1=>zi0 M p1.1 p1.2.1 p1.2.2
def zax (M:Env) (x1:Int) (x2:V) (x5 x6:Int) (h:H):Rl :=
 (za x2 7).bind fun v0 =>
 (h.ld1 v0).bind fun v1 =>
 (lenSl v1).bind fun n2 =>
 match decide (x6<(n2:Int)) with
 | true=>((za x2 7).bind fun v3 =>
 (h.ld1 v3).bind fun v4 =>
 (z0 3 v4 x6).bind fun v5 =>
 (za v5 0).bind fun v6 =>
 (h.ld1 v6).bind fun v7 =>
 (asI .i64 v7).bind fun n8 =>
 match decide (n8=x1) with
 | true=>(some (.normal,(z7c x1 x2 (.int .i64 (wr .i64 (x5+1))) (.int .i64 (wr .i64 (x6+1)))),h))
 | false=>(some (.normal,(z7c x1 x2 x5 (.int .i64 (wr .i64 (x6+1)))),h)))
 | false=>(some ((.exit 0),(zge x5),h))
def zw9 (M:Env) (x5:Int) (h:H):Rf :=
 some (x5,h)
theorem z00p:z06 M F.z1u [(.agg [(.int .i64 a0_0),(.int .i64 a0_1),(.int .i64 a0_2),(.int .i64 a0_3),(.int .i64 a0_4),(.int .i64 a0_5),a0_6,a0_7,a0_8,a0_9,a0_10]),(.int .i64 a1)] h=z1u M a0_0 a0_1 a0_2 a0_3 a0_4 a0_5 a0_6 a0_7 a0_8 a0_9 a0_10 a1 h:=by kernel_rfl
theorem zw3:zlq M (z7c (.int .i64 x1) x2 (.int .i64 x5) (.int .i64 x6)) h=zax M x1 x2 x5 x6 h:=by kernel_rfl
theorem zt8:zi0 M (.exit 0) (zge (.int .i64 x5)) h=zw9 M x5 h:=by kernel_rfl
def zl4 (M:Env):=lb M F.zyz [1,2,5] [1,4]
def z9p (x1 x2 x5:V):List V:=dd 1 (x1 :: x2 :: dd 2 (x5 :: dd 16 []))
def z4s (x1 x4:V):List V:=dd 1 (x1 :: dd 2 (x4 :: dd 17 []))
def zxo (M:Env):=kf F.z1i
def zy1 (M:Env):=kq M F.zyi (zxo M)
def z7r (M:Env):=kb 0 (zy1 M)
def z1i (M:Env) (a0_0 a0_1 a0_2 a0_3 a0_4 a0_5:Int) (a0_6 a0_7 a0_8 a0_9 a0_10:V) (a1:Int) (h:H):Rf :=
 let h0:=h.new (.cells [a0_0,a0_1,a0_2,a0_3,a0_4,a0_5,a0_6,a0_7,a0_8,a0_9,a0_10] .rw)
 (M.loop (zl4 M) (z9p (.int .u64 a1) (.ptr h.next 0) (0:Int)) h0).bind fun p1=>z7r M p1.1 p1.2.1 p1.2.2
def z9q (M:Env) (x1:Int) (x2:V) (x5:Int) (h:H):Rl :=
 (za x2 10).bind fun v0 =>
 (h.ld1 v0).bind fun v1 =>
 (lenSl v1).bind fun n2 =>
 match decide (x5<(n2:Int)) with
 | true=>((za x2 10).bind fun v3 =>
 (h.ld1 v3).bind fun v4 =>
 (z0 1 v4 x5).bind fun v5 =>
 (h.ld1 v5).bind fun v6 =>
 (asI .u64 v6).bind fun n7 =>
 match decide (n7=x1) with
 | true=>(some (.ret,(z4s (.int .u64 x1) false),h))
 | false=>(some (.normal,(z9p (.int .u64 x1) x2 (.int .i64 (wr .i64 (x5+1)))),h)))
 | false=>(some ((.exit 0),(z4s (.int .u64 x1) .dead),h))
def zv8 (M:Env) (x1:Int) (x4:V) (h:H):Rf :=
 some ((.bool (!decide (x1=0))),h)
def zwd (M:Env) (x1:V) (x4:Bool) (h:H):Rf :=
 some (x4,h)
theorem zyr:z06 M F.z1i [(.agg [(.int .i64 a0_0),(.int .i64 a0_1),(.int .i64 a0_2),(.int .i64 a0_3),(.int .i64 a0_4),(.int .i64 a0_5),a0_6,a0_7,a0_8,a0_9,a0_10]),(.int .u64 a1)] h=z1i M a0_0 a0_1 a0_2 a0_3 a0_4 a0_5 a0_6 a0_7 a0_8 a0_9 a0_10 a1 h:=by kernel_rfl
theorem zvg:zl4 M (z9p (.int .u64 x1) x2 (.int .i64 x5)) h=z9q M x1 x2 x5 h:=by kernel_rfl
theorem zrp:z7r M (.exit 0) (z4s (.int .u64 x1) x4) h=zv8 M x1 x4 h:=by kernel_rfl
theorem zt3:z7r M .ret (z4s x1 (.bool x4)) h=zwd M x1 x4 h:=by kernel_rfl
def zf1 (M:Env):=jb M F.zy5 [1,3,5,6,7,8]
def zet (x1 x3 x5 x7 x8:V):List V:=dd 1 (x1 :: dd 1 (x3 :: dd 1 (x5 :: dd 1 (x7 :: x8 :: dd 188 []))))
def z6r (x1 x3 x5 x6 x7 x8:V):List V:=dd 1 (x1 :: dd 1 (x3 :: dd 1 (x5 :: x6 :: x7 :: x8 :: dd 188 [])))
def zfl (M:Env):=jb M F.zxu [1,3,5,7,8,54]
def zfi (x1 x3 x5 x7 x8:V):List V:=dd 1 (x1 :: dd 1 (x3 :: dd 1 (x5 :: dd 1 (x7 :: x8 :: dd 188 []))))
def zfk (x1 x3 x5 x7 x8 x54:V):List V:=dd 1 (x1 :: dd 1 (x3 :: dd 1 (x5 :: dd 1 (x7 :: x8 :: dd 45 (x54 :: dd 142 [])))))
def zf7 (M:Env):=jb M F.zyw [5,6,8]
def zf9 (x1 x3 x5 x8:V):List V:=dd 1 (x1 :: dd 1 (x3 :: dd 1 (x5 :: dd 2 (x8 :: dd 188 []))))
def z33 (x5 x6 x8:V):List V:=dd 5 (x5 :: x6 :: dd 1 (x8 :: dd 188 []))
def zfd (M:Env):=jb M F.zyn [1,3,5,7,8,142]
def zes (x1 x3 x5 x7 x8 x9 x10:V):List V:=dd 1 (x1 :: dd 1 (x3 :: dd 1 (x5 :: dd 1 (x7 :: x8 :: x9 :: x10 :: dd 186 []))))
def zo (x1 x3 x5 x7 x8 x142:V):List V:=dd 1 (x1 :: dd 1 (x3 :: dd 1 (x5 :: dd 1 (x7 :: x8 :: dd 133 (x142 :: dd 54 [])))))
def ze0 (M:Env):=jb M F.zxb [1,3,5,6,7,8]
def zdt (x1 x3 x5 x7 x8:V):List V:=dd 1 (x1 :: dd 1 (x3 :: dd 1 (x5 :: dd 1 (x7 :: x8 :: dd 188 []))))
def z2k (x1 x3 x5 x6 x7 x8:V):List V:=dd 1 (x1 :: dd 1 (x3 :: dd 1 (x5 :: x6 :: x7 :: x8 :: dd 188 [])))
def z91 (M:Env):=jb M F.zx2 [1,3,5,6]
def z94 (x1 x3 x5 x7 x8:V):List V:=dd 1 (x1 :: dd 1 (x3 :: dd 1 (x5 :: dd 1 (x7 :: x8 :: dd 188 []))))
def z3x (x1 x3 x5 x6:V):List V:=dd 1 (x1 :: dd 1 (x3 :: dd 1 (x5 :: x6 :: dd 190 [])))
def z7t (M:Env):=kf F.zy
def zbj (M:Env):=kq M F.zyv (z7t M)
def zmh (M:Env):=kq M F.zyx (z7t M)
def zgv (M:Env):=kq M F.zyt (zmh M)
def zbh (M:Env):=kq M F.zxm (zmh M)
def zxv (M:Env):=kq M F.zyp (z7t M)
def zgu (M:Env):=kq M F.zxy (zxv M)
def zbi (M:Env):=kq M F.zxe (z7t M)
def z7y (M:Env):=kq M F.zxf (z7t M)
def zy (M:Env) (a0_0 a0_1 a0_2 a0_3 a0_4 a0_5:Int) (a0_6 a0_7 a0_8 a0_9 a0_10:V) (a1 a2_0 a2_1 a2_2 a2_3 a2_4:Int) (h:H):Rf :=
 let h0:=h.new (.cells [a0_0,a0_1,a0_2,a0_3,a0_4,a0_5,a0_6,a0_7,a0_8,a0_9,a0_10] .rw)
 let h1:=h0.new (.cells [a2_0,a2_1,(.int .u64 a2_2),(.int .u64 a2_3),(.int .u64 a2_4)] .rw)
 (h1.ldN 11 (.ptr h.next 0)).bind fun v2 =>
 (h1.ld1 (.ptr h0.next 2)).bind fun v3 =>
 (M.call 229 [v2,a1,v3] h1).bind fun p4 =>
 (p4.2.ldN 11 (.ptr h.next 0)).bind fun v5 =>
 (p4.2.ld1 (.ptr h.next 3)).bind fun v6 =>
 (M.call 231 [v5,a1] p4.2).bind fun p7 =>
 match ckB (p7.2.ld1 (.ptr h.next 3)) v6 with
 | true=>((asI .i64 p7.1).bind fun n8 =>
 (asI .i64 v6).bind fun n9 =>
 (zf1 M (zet a1 (.ptr h.next 0) (.ptr h0.next 0) p4.1 (.bool (decide (n8<n9)))) p7.2).bind fun p10=>zbj M p10.1 p10.2.1 p10.2.2)
 | false=>none
def z1z (M:Env) (x1:Int) (x3 x5:V) (x7:Int) (x8:Bool) (h:H):Rl :=
 (za x5 0).bind fun v0 =>
 (h.ld1 v0).bind fun v1 =>
 (asI .i64 v1).bind fun n2 =>
 match decide (n2<1) with
 | true=>(some (.ret,(z6r x1 x3 x5 (8:Int) x7 x8),h))
 | false=>((za x5 0).bind fun v3 =>
 (h.ld1 v3).bind fun v4 =>
 (asI .i64 v4).bind fun n5 =>
 match decide (10<n5) with
 | true=>(some (.ret,(z6r x1 x3 x5 (8:Int) x7 x8),h))
 | false=>(some (.normal,(z6r x1 x3 x5 .dead x7 x8),h)))
def z4n (M:Env) (x1:Int) (x3 x5 x6:V) (x7:Int) (x8:Bool) (h:H):Rf :=
 (za x5 0).bind fun v0 =>
 (h.ld1 v0).bind fun v1 =>
 (asI .i64 v1).bind fun n2 =>
 match decide (n2=1) with
 | true=>((za x5 1).bind fun v3 =>
 (h.ld1 v3).bind fun v4 =>
 (asI .i64 v4).bind fun n5 =>
 match decide (n5<0) with
 | true=>(some ((1:Int),h))
 | false=>((za x5 1).bind fun v6 =>
 (h.ld1 v6).bind fun v7 =>
 (za x3 0).bind fun v8 =>
 (za v8 1).bind fun v9 =>
 (h.ld1 v9).bind fun v10 =>
 (asI .i64 v7).bind fun n11 =>
 (asI .i64 v10).bind fun n12 =>
 match decide (n12<n11) with
 | true=>(some ((1:Int),h))
 | false=>(match (!x8) with
 | true=>(some ((5:Int),h))
 | false=>(some ((0:Int),h)))))
 | false=>((zfl M (zfi x1 x3 x5 x7 x8) h).bind fun p3=>zgv M p3.1 p3.2.1 p3.2.2)
def zer (M:Env) (x1 x3 x5:V) (x6:Int) (x7 x8:V) (h:H):Rf :=
 some (x6,h)
def z9o (M:Env) (x1:Int) (x3 x5:V) (x7:Int) (x8:Bool) (h:H):Rl :=
 (za x5 0).bind fun v0 =>
 (h.ld1 v0).bind fun v1 =>
 (asI .i64 v1).bind fun n2 =>
 match decide (n2=9) with
 | true=>(some (.normal,(zfk x1 x3 x5 x7 x8 true),h))
 | false=>((za x5 0).bind fun v3 =>
 (h.ld1 v3).bind fun v4 =>
 (asI .i64 v4).bind fun n5 =>
 some (.normal,(zfk x1 x3 x5 x7 x8 (.bool (decide (n5=10)))),h))
def z9w (M:Env) (x1:Int) (x3 x5:V) (x7:Int) (x8 x54:Bool) (h:H):Rf :=
 match x54 with
 | true=>((zf7 M (zf9 x1 x3 x5 x8) h).bind fun p0=>zbh M p0.1 p0.2.1 p0.2.2)
 | false=>((h.ldN 11 x3).bind fun v0 =>
 (za x5 3).bind fun v1 =>
 (h.ld1 v1).bind fun v2 =>
 (M.call 229 [v0,x1,v2] h).bind fun p3 =>
 (asI .i64 p3.1).bind fun n4 =>
 (p3.2.ldN 11 x3).bind fun v5 =>
 (za x5 4).bind fun v6 =>
 (p3.2.ld1 v6).bind fun v7 =>
 (M.call 229 [v5,x1,v7] p3.2).bind fun p8 =>
 (asI .i64 p8.1).bind fun n9 =>
 (zfd M (zes x1 x3 x5 x7 x8 (.bool (decide (0<=n4))) (.bool (decide (0<=n9)))) p8.2).bind fun p10=>zgu M p10.1 p10.2.1 p10.2.2)
def z32 (M:Env) (x1:Int) (x3 x5:V) (x8:Bool) (h:H):Rl :=
 (za x3 8).bind fun v0 =>
 (h.ld1 v0).bind fun v1 =>
 (z0 1 v1 x1).bind fun v2 =>
 (h.ld1 v2).bind fun v3 =>
 (asI .u64 v3).bind fun n4 =>
 match decide (n4=0) with
 | true=>(some (.ret,(z33 x5 (6:Int) x8),h))
 | false=>((za x3 8).bind fun v5 =>
 (h.ld1 v5).bind fun v6 =>
 (z0 1 v6 x1).bind fun v7 =>
 (h.ld1 v7).bind fun v8 =>
 (za x5 2).bind fun v9 =>
 (h.ld1 v9).bind fun v10 =>
 (asI .u64 v8).bind fun n11 =>
 (asI .u64 v10).bind fun n12 =>
 match (!decide (n11=n12)) with
 | true=>(some (.ret,(z33 x5 (6:Int) x8),h))
 | false=>((za x5 0).bind fun v13 =>
 (h.ld1 v13).bind fun v14 =>
 (asI .i64 v14).bind fun n15 =>
 match decide (n15=9) with
 | true=>((za x3 9).bind fun v16 =>
 (h.ld1 v16).bind fun v17 =>
 (z0 1 v17 x1).bind fun v18 =>
 (h.ld1 v18).bind fun v19 =>
 (lenSl v19).bind fun n20 =>
 match decide ((n20:Int)=0) with
 | true=>(some (.ret,(z33 x5 (6:Int) x8),h))
 | false=>(some (.normal,(z33 x5 .dead x8),h)))
 | false=>(some (.normal,(z33 x5 .dead x8),h))))
def z9z (M:Env) (x5 x6:V) (x8:Bool) (h:H):Rf :=
 (za x5 0).bind fun v0 =>
 (h.ld1 v0).bind fun v1 =>
 (asI .i64 v1).bind fun n2 =>
 match decide (n2=9) with
 | true=>(match (!x8) with
 | true=>(some ((5:Int),h))
 | false=>(some ((0:Int),h)))
 | false=>(some ((0:Int),h))
def z9u (M:Env) (x5:V) (x6:Int) (x8:V) (h:H):Rf :=
 some (x6,h)
def z9s (M:Env) (x1:Int) (x3 x5:V) (x7:Int) (x8 x9 x10:Bool) (h:H):Rl :=
 match decide (x7<0) with
 | true=>(some (.normal,(zo x1 x3 x5 x7 x8 true),h))
 | false=>((za x5 0).bind fun v0 =>
 (h.ld1 v0).bind fun v1 =>
 (asI .i64 v1).bind fun n2 =>
 match decide (n2=3) with
 | true=>(match (!x9) with
 | true=>(some (.normal,(zo x1 x3 x5 x7 x8 true),h))
 | false=>((za x5 0).bind fun v3 =>
 (h.ld1 v3).bind fun v4 =>
 (asI .i64 v4).bind fun n5 =>
 match decide (n5=5) with
 | true=>((za x5 3).bind fun v6 =>
 (h.ld1 v6).bind fun v7 =>
 (asI .u64 v7).bind fun n8 =>
 match (!decide (n8=0)) with
 | true=>(match (!x9) with
 | true=>(some (.normal,(zo x1 x3 x5 x7 x8 true),h))
 | false=>((za x5 4).bind fun v9 =>
 (h.ld1 v9).bind fun v10 =>
 (asI .u64 v10).bind fun n11 =>
 match (!decide (n11=0)) with
 | true=>(some (.normal,(zo x1 x3 x5 x7 x8 (.bool (!x10))),h))
 | false=>(some (.normal,(zo x1 x3 x5 x7 x8 false),h))))
 | false=>((za x5 4).bind fun v9 =>
 (h.ld1 v9).bind fun v10 =>
 (asI .u64 v10).bind fun n11 =>
 match (!decide (n11=0)) with
 | true=>(some (.normal,(zo x1 x3 x5 x7 x8 (.bool (!x10))),h))
 | false=>(some (.normal,(zo x1 x3 x5 x7 x8 false),h))))
 | false=>(some (.normal,(zo x1 x3 x5 x7 x8 false),h))))
 | false=>((za x5 0).bind fun v3 =>
 (h.ld1 v3).bind fun v4 =>
 (asI .i64 v4).bind fun n5 =>
 match decide (n5=7) with
 | true=>(match (!x9) with
 | true=>(some (.normal,(zo x1 x3 x5 x7 x8 true),h))
 | false=>((za x5 0).bind fun v6 =>
 (h.ld1 v6).bind fun v7 =>
 (asI .i64 v7).bind fun n8 =>
 match decide (n8=5) with
 | true=>((za x5 3).bind fun v9 =>
 (h.ld1 v9).bind fun v10 =>
 (asI .u64 v10).bind fun n11 =>
 match (!decide (n11=0)) with
 | true=>(match (!x9) with
 | true=>(some (.normal,(zo x1 x3 x5 x7 x8 true),h))
 | false=>((za x5 4).bind fun v12 =>
 (h.ld1 v12).bind fun v13 =>
 (asI .u64 v13).bind fun n14 =>
 match (!decide (n14=0)) with
 | true=>(some (.normal,(zo x1 x3 x5 x7 x8 (.bool (!x10))),h))
 | false=>(some (.normal,(zo x1 x3 x5 x7 x8 false),h))))
 | false=>((za x5 4).bind fun v12 =>
 (h.ld1 v12).bind fun v13 =>
 (asI .u64 v13).bind fun n14 =>
 match (!decide (n14=0)) with
 | true=>(some (.normal,(zo x1 x3 x5 x7 x8 (.bool (!x10))),h))
 | false=>(some (.normal,(zo x1 x3 x5 x7 x8 false),h))))
 | false=>(some (.normal,(zo x1 x3 x5 x7 x8 false),h))))
 | false=>((za x5 0).bind fun v6 =>
 (h.ld1 v6).bind fun v7 =>
 (asI .i64 v7).bind fun n8 =>
 match decide (n8=5) with
 | true=>((za x5 3).bind fun v9 =>
 (h.ld1 v9).bind fun v10 =>
 (asI .u64 v10).bind fun n11 =>
 match (!decide (n11=0)) with
 | true=>(match (!x9) with
 | true=>(some (.normal,(zo x1 x3 x5 x7 x8 true),h))
 | false=>((za x5 4).bind fun v12 =>
 (h.ld1 v12).bind fun v13 =>
 (asI .u64 v13).bind fun n14 =>
 match (!decide (n14=0)) with
 | true=>(some (.normal,(zo x1 x3 x5 x7 x8 (.bool (!x10))),h))
 | false=>(some (.normal,(zo x1 x3 x5 x7 x8 false),h))))
 | false=>((za x5 4).bind fun v12 =>
 (h.ld1 v12).bind fun v13 =>
 (asI .u64 v13).bind fun n14 =>
 match (!decide (n14=0)) with
 | true=>(some (.normal,(zo x1 x3 x5 x7 x8 (.bool (!x10))),h))
 | false=>(some (.normal,(zo x1 x3 x5 x7 x8 false),h))))
 | false=>(some (.normal,(zo x1 x3 x5 x7 x8 false),h)))))
def zff (M:Env) (x1:Int) (x3 x5:V) (x7:Int) (x8 x142:Bool) (h:H):Rf :=
 match x142 with
 | true=>(some ((2:Int),h))
 | false=>((ze0 M (zdt x1 x3 x5 x7 x8) h).bind fun p0=>zbi M p0.1 p0.2.1 p0.2.2)
def z3y (M:Env) (x1:Int) (x3 x5:V) (x7:Int) (x8:Bool) (h:H):Rl :=
 (za x5 0).bind fun v0 =>
 (h.ld1 v0).bind fun v1 =>
 (asI .i64 v1).bind fun n2 =>
 match decide (2<=n2) with
 | true=>((za x5 0).bind fun v3 =>
 (h.ld1 v3).bind fun v4 =>
 (asI .i64 v4).bind fun n5 =>
 match decide (n5<=5) with
 | true=>((za x5 1).bind fun v6 =>
 (h.ld1 v6).bind fun v7 =>
 (asI .i64 v7).bind fun n8 =>
 match decide (n8<0) with
 | true=>(some (.ret,(z2k x1 x3 x5 (3:Int) x7 x8),h))
 | false=>((za x5 1).bind fun v9 =>
 (h.ld1 v9).bind fun v10 =>
 (za x3 6).bind fun v11 =>
 (h.ld1 v11).bind fun v12 =>
 (z0 1 v12 x7).bind fun v13 =>
 (h.ld1 v13).bind fun v14 =>
 (lenSl v14).bind fun n15 =>
 (asI .i64 v10).bind fun n16 =>
 match decide ((n15:Int)<=n16) with
 | true=>(some (.ret,(z2k x1 x3 x5 (3:Int) x7 x8),h))
 | false=>(some (.normal,(z2k x1 x3 x5 .dead x7 x8),h))))
 | false=>(some (.normal,(z2k x1 x3 x5 .dead x7 x8),h)))
 | false=>(some (.normal,(z2k x1 x3 x5 .dead x7 x8),h))
def z9a (M:Env) (x1:Int) (x3 x5 x6:V) (x7:Int) (x8:Bool) (h:H):Rf :=
 (z91 M (z94 x1 x3 x5 x7 x8) h).bind fun p0=>z7y M p0.1 p0.2.1 p0.2.2
def zdz (M:Env) (x1 x3 x5:V) (x6:Int) (x7 x8:V) (h:H):Rf :=
 some (x6,h)
def z2n (M:Env) (x1:Int) (x3 x5:V) (x7:Int) (x8:Bool) (h:H):Rl :=
 (za x5 0).bind fun v0 =>
 (h.ld1 v0).bind fun v1 =>
 (asI .i64 v1).bind fun n2 =>
 match decide (n2=2) with
 | true=>((za x3 6).bind fun v3 =>
 (h.ld1 v3).bind fun v4 =>
 (z0 1 v4 x7).bind fun v5 =>
 (h.ld1 v5).bind fun v6 =>
 (za x5 1).bind fun v7 =>
 (h.ld1 v7).bind fun v8 =>
 (z0 1 v6 v8).bind fun v9 =>
 (h.ld1 v9).bind fun v10 =>
 (asI .i64 v10).bind fun n11 =>
 match decide (0<=n11) with
 | true=>(match (!x8) with
 | true=>(some (.ret,(z3x x1 x3 x5 (5:Int)),h))
 | false=>(some (.normal,(z3x x1 x3 x5 .dead),h)))
 | false=>(some (.normal,(z3x x1 x3 x5 .dead),h)))
 | false=>(some (.normal,(z3x x1 x3 x5 .dead),h))
def z3u (M:Env) (x1:Int) (x3 x5 x6:V) (h:H):Rf :=
 (za x5 0).bind fun v0 =>
 (h.ld1 v0).bind fun v1 =>
 (asI .i64 v1).bind fun n2 =>
 match decide (n2=8) with
 | true=>((za x3 8).bind fun v3 =>
 (h.ld1 v3).bind fun v4 =>
 (z0 1 v4 x1).bind fun v5 =>
 (h.ld1 v5).bind fun v6 =>
 (asI .u64 v6).bind fun n7 =>
 match (!decide (n7=0)) with
 | true=>(some ((7:Int),h))
 | false=>(some ((0:Int),h)))
 | false=>(some ((0:Int),h))
def zjt (M:Env) (x1 x3 x5:V) (x6:Int) (h:H):Rf :=
 some (x6,h)
theorem zy6:z06 M F.zy [(.agg [(.int .i64 a0_0),(.int .i64 a0_1),(.int .i64 a0_2),(.int .i64 a0_3),(.int .i64 a0_4),(.int .i64 a0_5),a0_6,a0_7,a0_8,a0_9,a0_10]),(.int .i64 a1),(.agg [(.int .i64 a2_0),(.int .i64 a2_1),(.int .u64 a2_2),(.int .u64 a2_3),(.int .u64 a2_4)])] h=zy M a0_0 a0_1 a0_2 a0_3 a0_4 a0_5 a0_6 a0_7 a0_8 a0_9 a0_10 a1 a2_0 a2_1 a2_2 a2_3 a2_4 h:=by kernel_rfl
theorem z2m:zf1 M (zet (.int .i64 x1) x3 x5 (.int .i64 x7) (.bool x8)) h=z1z M x1 x3 x5 x7 x8 h:=by kernel_rfl
theorem z5i:zbj M .normal (z6r (.int .i64 x1) x3 x5 x6 (.int .i64 x7) (.bool x8)) h=z4n M x1 x3 x5 x6 x7 x8 h:=by kernel_rfl
theorem zj3:zbj M .ret (z6r x1 x3 x5 (.int .i64 x6) x7 x8) h=zer M x1 x3 x5 x6 x7 x8 h:=by kernel_rfl
theorem zdy:zfl M (zfi (.int .i64 x1) x3 x5 (.int .i64 x7) (.bool x8)) h=z9o M x1 x3 x5 x7 x8 h:=by kernel_rfl
theorem zct:zgv M .normal (zfk (.int .i64 x1) x3 x5 (.int .i64 x7) (.bool x8) (.bool x54)) h=z9w M x1 x3 x5 x7 x8 x54 h:=by kernel_rfl
theorem z3v:zf7 M (zf9 (.int .i64 x1) x3 x5 (.bool x8)) h=z32 M x1 x3 x5 x8 h:=by kernel_rfl
theorem zcv:zbh M .normal (z33 x5 x6 (.bool x8)) h=z9z M x5 x6 x8 h:=by kernel_rfl
theorem zc9:zbh M .ret (z33 x5 (.int .i64 x6) x8) h=z9u M x5 x6 x8 h:=by kernel_rfl
theorem zvm:zfd M (zes (.int .i64 x1) x3 x5 (.int .i64 x7) (.bool x8) (.bool x9) (.bool x10)) h=z9s M x1 x3 x5 x7 x8 x9 x10 h:=by kernel_rfl
theorem zsd:zgu M .normal (zo (.int .i64 x1) x3 x5 (.int .i64 x7) (.bool x8) (.bool x142)) h=zff M x1 x3 x5 x7 x8 x142 h:=by kernel_rfl
theorem z5y:ze0 M (zdt (.int .i64 x1) x3 x5 (.int .i64 x7) (.bool x8)) h=z3y M x1 x3 x5 x7 x8 h:=by kernel_rfl
theorem zc1:zbi M .normal (z2k (.int .i64 x1) x3 x5 x6 (.int .i64 x7) (.bool x8)) h=z9a M x1 x3 x5 x6 x7 x8 h:=by kernel_rfl
theorem zih:zbi M .ret (z2k x1 x3 x5 (.int .i64 x6) x7 x8) h=zdz M x1 x3 x5 x6 x7 x8 h:=by kernel_rfl
theorem z3g:z91 M (z94 (.int .i64 x1) x3 x5 (.int .i64 x7) (.bool x8)) h=z2n M x1 x3 x5 x7 x8 h:=by kernel_rfl
theorem z4w:z7y M .normal (z3x (.int .i64 x1) x3 x5 x6) h=z3u M x1 x3 x5 x6 h:=by kernel_rfl
theorem zro:z7y M .ret (z3x x1 x3 x5 (.int .i64 x6)) h=zjt M x1 x3 x5 x6 h:=by kernel_rfl
def zit (M:Env) (a0_0 a0_1 a0_2 a0_3 a0_4:Int) (a0_5:Bool) (a0_6 a0_7 a0_8 a0_9 a0_10 a0_11 a0_12:Int) (a0_13:Bool) (a1_0 a1_1 a1_2 a1_3 a1_4:Int) (a1_5:Bool) (a1_6 a1_7 a1_8 a1_9 a1_10 a1_11 a1_12:Int) (a1_13:Bool) (h:H):Rf :=
 let h0:=h.new (.cells [a0_0,a0_1,a0_2,a0_3,a0_4,a0_5,a0_6,a0_7,(.int .u64 a0_8),(.int .u64 a0_9),(.int .u64 a0_10),a0_11,(.int .u64 a0_12),a0_13] .rw)
 let h1:=h0.new (.cells [a1_0,a1_1,a1_2,a1_3,a1_4,a1_5,a1_6,a1_7,(.int .u64 a1_8),(.int .u64 a1_9),(.int .u64 a1_10),a1_11,(.int .u64 a1_12),a1_13] .rw)
 (h1.ld1 (.ptr h.next 4)).bind fun v2 =>
 (h1.ld1 (.ptr h0.next 2)).bind fun v3 =>
 (asI .i64 v2).bind fun n4 =>
 (asI .i64 v3).bind fun n5 =>
 some ((.bool (decide (n4<n5))),h1)
theorem z0cm:z06 M F.zit [(.agg [(.int .i64 a0_0),(.int .i64 a0_1),(.int .i64 a0_2),(.int .i64 a0_3),(.int .i64 a0_4),(.bool a0_5),(.int .i64 a0_6),(.int .i64 a0_7),(.int .u64 a0_8),(.int .u64 a0_9),(.int .u64 a0_10),(.int .i64 a0_11),(.int .u64 a0_12),(.bool a0_13)]),(.agg [(.int .i64 a1_0),(.int .i64 a1_1),(.int .i64 a1_2),(.int .i64 a1_3),(.int .i64 a1_4),(.bool a1_5),(.int .i64 a1_6),(.int .i64 a1_7),(.int .u64 a1_8),(.int .u64 a1_9),(.int .u64 a1_10),(.int .i64 a1_11),(.int .u64 a1_12),(.bool a1_13)])] h=zit M a0_0 a0_1 a0_2 a0_3 a0_4 a0_5 a0_6 a0_7 a0_8 a0_9 a0_10 a0_11 a0_12 a0_13 a1_0 a1_1 a1_2 a1_3 a1_4 a1_5 a1_6 a1_7 a1_8 a1_9 a1_10 a1_11 a1_12 a1_13 h:=by kernel_rfl
def z8p (M:Env) (a0_0 a0_1 a0_2 a0_3 a0_4:Int) (a0_5:Bool) (a0_6 a0_7 a0_8 a0_9 a0_10 a0_11 a0_12:Int) (a0_13:Bool) (a1_0 a1_1 a1_2 a1_3 a1_4:Int) (a1_5:Bool) (a1_6 a1_7 a1_8 a1_9 a1_10 a1_11 a1_12:Int) (a1_13:Bool) (h:H):Rf :=
 let h0:=h.new (.cells [a0_0,a0_1,a0_2,a0_3,a0_4,a0_5,a0_6,a0_7,(.int .u64 a0_8),(.int .u64 a0_9),(.int .u64 a0_10),a0_11,(.int .u64 a0_12),a0_13] .rw)
 let h1:=h0.new (.cells [a1_0,a1_1,a1_2,a1_3,a1_4,a1_5,a1_6,a1_7,(.int .u64 a1_8),(.int .u64 a1_9),(.int .u64 a1_10),a1_11,(.int .u64 a1_12),a1_13] .rw)
 (h1.ld1 (.ptr h.next 4)).bind fun v2 =>
 (h1.ld1 (.ptr h0.next 2)).bind fun v3 =>
 (asI .i64 v2).bind fun n4 =>
 (asI .i64 v3).bind fun n5 =>
 some ((.bool (decide (n4<n5))),h1)
theorem z059:z06 M F.z8p [(.agg [(.int .i64 a0_0),(.int .i64 a0_1),(.int .i64 a0_2),(.int .i64 a0_3),(.int .i64 a0_4),(.bool a0_5),(.int .i64 a0_6),(.int .i64 a0_7),(.int .u64 a0_8),(.int .u64 a0_9),(.int .u64 a0_10),(.int .i64 a0_11),(.int .u64 a0_12),(.bool a0_13)]),(.agg [(.int .i64 a1_0),(.int .i64 a1_1),(.int .i64 a1_2),(.int .i64 a1_3),(.int .i64 a1_4),(.bool a1_5),(.int .i64 a1_6),(.int .i64 a1_7),(.int .u64 a1_8),(.int .u64 a1_9),(.int .u64 a1_10),(.int .i64 a1_11),(.int .u64 a1_12),(.bool a1_13)])] h=z8p M a0_0 a0_1 a0_2 a0_3 a0_4 a0_5 a0_6 a0_7 a0_8 a0_9 a0_10 a0_11 a0_12 a0_13 a1_0 a1_1 a1_2 a1_3 a1_4 a1_5 a1_6 a1_7 a1_8 a1_9 a1_10 a1_11 a1_12 a1_13 h:=by kernel_rfl
def zje (M:Env):=lb M F.zwn [2,5,6,7] [5]
def z5z (x2 x5 x6 x7:V):List V:=dd 2 (x2 :: dd 2 (x5 :: x6 :: x7 :: dd 60 []))
def zdf (x5:V):List V:=dd 5 (x5 :: dd 62 [])
def zdd (M:Env):=lb M F.zwe [2,5,6,7,8,9] [2,5,6,7]
def z1o (x2 x5 x6 x7 x8 x9:V):List V:=dd 2 (x2 :: dd 2 (x5 :: x6 :: x7 :: x8 :: x9 :: dd 58 []))
def zdi (x2 x5 x6 x7:V):List V:=dd 2 (x2 :: dd 2 (x5 :: x6 :: x7 :: dd 60 []))
def zjh (M:Env):=jb M F.zwi [2,5,6,7,8,9,53]
def zjf (x2 x5 x6 x7 x8 x9:V):List V:=dd 2 (x2 :: dd 2 (x5 :: x6 :: x7 :: x8 :: x9 :: dd 58 []))
def zdk (x2 x5 x6 x7 x8 x9 x53:V):List V:=dd 2 (x2 :: dd 2 (x5 :: x6 :: x7 :: x8 :: x9 :: dd 43 (x53 :: dd 14 [])))
def zws (M:Env):=kf F.z0c
def zvy (M:Env):=kq M F.zw0 (zws M)
def zfo (M:Env):=kb 0 (zvy M)
def zwt (M:Env):=kl [2,5,6,7] [5]
def zwh (M:Env):=kq M F.zw1 (zwt M)
def zwv (M:Env):=kb 1 (zwh M)
def z9v (M:Env):=kb 2 (zwv M)
def zw2 (M:Env):=kl [2,5,6,7,8,9] [2,5,6,7]
def zwf (M:Env):=kq M F.zwa (zw2 M)
def zwz (M:Env):=kb 3 (zwf M)
def zkh (M:Env):=kq M F.zwj (zwz M)
def z0c (M:Env) (a0_0 a0_1 a0_2 a0_3 a0_4 a0_5:Int) (a0_6 a0_7 a0_8 a0_9 a0_10:V) (a1:Int) (h:H):Rf :=
 let h0:=h.new (.cells [a0_0,a0_1,a0_2,a0_3,a0_4,a0_5,a0_6,a0_7,a0_8,a0_9,a0_10] .rw)
 let h1:=h0.new (.cells [a1] .rw)
 (h1.ld1 (.ptr h.next 6)).bind fun v2 =>
 (lenSl v2).bind fun n3 =>
 (h1.mkSl 1 1 [false] (n3:Int) (n3:Int)).bind fun p4 =>
 (z0 1 p4.1 a1).bind fun v5 =>
 (p4.2.st 1 v5 true).bind fun h6 =>
 (M.loop (zje M) (z5z (.ptr h.next 0) (.sl h0.next 0 1 (.ex 1)) p4.1 (0:Int)) h6).bind fun p7=>zfo M p7.1 p7.2.1 p7.2.2
def zdh (M:Env) (x2 x5 x6:V) (x7:Int) (h:H):Rl :=
 (lenSl x5).bind fun n0 =>
 match decide (x7<(n0:Int)) with
 | true=>((za x2 6).bind fun v1 =>
 (h.ld1 v1).bind fun v2 =>
 (z0 1 x5 x7).bind fun v3 =>
 (h.ld1 v3).bind fun v4 =>
 (z0 1 v2 v4).bind fun v5 =>
 (h.ld1 v5).bind fun v6 =>
 (M.loop (zdd M) (z1o x2 x5 x6 x7 v6 (0:Int)) h).bind fun p7=>z9v M p7.1 p7.2.1 p7.2.2)
 | false=>(some ((.exit 0),(zdf x5),h))
def ztf (M:Env) (x5:V) (h:H):Rf :=
 some (x5,h)
def z61 (M:Env) (x2 x5 x6:V) (x7:Int) (x8:V) (x9:Int) (h:H):Rl :=
 (lenSl x8).bind fun n0 =>
 match decide (x9<(n0:Int)) with
 | true=>((zjh M (zjf x2 x5 x6 x7 x8 x9) h).bind fun p1=>zkh M p1.1 p1.2.1 p1.2.2)
 | false=>(some ((.exit 2),(zdi x2 x5 x6 x7),h))
def zj2 (M:Env) (x2 x5 x6:V) (x7:Int) (h:H):Rl :=
 some (.normal,(z5z x2 x5 x6 (.int .i64 (wr .i64 (x7+1)))),h)
def z8i (M:Env) (x2 x5 x6:V) (x7:Int) (x8:V) (x9:Int) (h:H):Rl :=
 (z0 1 x8 x9).bind fun v0 =>
 (h.ld1 v0).bind fun v1 =>
 (asI .i64 v1).bind fun n2 =>
 match decide (0<=n2) with
 | true=>((z0 1 x8 x9).bind fun v3 =>
 (h.ld1 v3).bind fun v4 =>
 (z0 1 x6 v4).bind fun v5 =>
 (h.ld1 v5).bind fun v6 =>
 (asB v6).bind fun b7 =>
 some (.normal,(zdk x2 x5 x6 x7 x8 x9 (.bool (!b7))),h))
 | false=>(some (.normal,(zdk x2 x5 x6 x7 x8 x9 false),h))
def z8f (M:Env) (x2 x5 x6:V) (x7:Int) (x8:V) (x9:Int) (x53:Bool) (h:H):Rl :=
 match x53 with
 | true=>((z0 1 x8 x9).bind fun v0 =>
 (h.ld1 v0).bind fun v1 =>
 (z0 1 x6 v1).bind fun v2 =>
 (h.st 1 v2 true).bind fun h3 =>
 (z0 1 x8 x9).bind fun v4 =>
 (h3.ld1 v4).bind fun v5 =>
 (fill (repl [(0:Int)] 1) [] [(0,1,.c v5)]).bind fun cs6 =>
 let h7:=h3.new (.cells cs6 .rw)
 (h7.append 1 8 x5 (.sl h3.next 0 1 (.ex 1))).bind fun p8 =>
 some (.normal,(z1o x2 p8.1 x6 x7 x8 (.int .i64 (wr .i64 (x9+1)))),p8.2))
 | false=>(some (.normal,(z1o x2 x5 x6 x7 x8 (.int .i64 (wr .i64 (x9+1)))),h))
theorem zwu:z06 M F.z0c [(.agg [(.int .i64 a0_0),(.int .i64 a0_1),(.int .i64 a0_2),(.int .i64 a0_3),(.int .i64 a0_4),(.int .i64 a0_5),a0_6,a0_7,a0_8,a0_9,a0_10]),(.int .i64 a1)] h=z0c M a0_0 a0_1 a0_2 a0_3 a0_4 a0_5 a0_6 a0_7 a0_8 a0_9 a0_10 a1 h:=by kernel_rfl
theorem zt6:zje M (z5z x2 x5 x6 (.int .i64 x7)) h=zdh M x2 x5 x6 x7 h:=by kernel_rfl
theorem zpp:zfo M (.exit 0) (zdf x5) h=ztf M x5 h:=by kernel_rfl
theorem zts:zdd M (z1o x2 x5 x6 (.int .i64 x7) x8 (.int .i64 x9)) h=z61 M x2 x5 x6 x7 x8 x9 h:=by kernel_rfl
theorem zpq:z9v M (.exit 2) (zdi x2 x5 x6 (.int .i64 x7)) h=zj2 M x2 x5 x6 x7 h:=by kernel_rfl
theorem zcy:zjh M (zjf x2 x5 x6 (.int .i64 x7) x8 (.int .i64 x9)) h=z8i M x2 x5 x6 x7 x8 x9 h:=by kernel_rfl
theorem zba:zkh M .normal (zdk x2 x5 x6 (.int .i64 x7) x8 (.int .i64 x9) (.bool x53)) h=z8f M x2 x5 x6 x7 x8 x9 x53 h:=by kernel_rfl
def zk0 (M:Env):=lb M F.zxh [1,2,3,4] [1,2,3]
def z66 (x1 x2 x3 x4:V):List V:=dd 1 (x1 :: x2 :: x3 :: x4 :: dd 47 [])
def ze7 (x1 x2 x3:V):List V:=dd 1 (x1 :: x2 :: x3 :: dd 48 [])
def zxk (M:Env):=kf F.z18
def zx4 (M:Env):=kq M F.zxl (zxk M)
def zgc (M:Env):=kb 0 (zx4 M)
def z18 (M:Env) (a0_0 a0_1 a0_2 a0_3 a0_4 a0_5:Int) (a0_6 a0_7 a0_8 a0_9 a0_10:V) (h:H):Rf :=
 let h0:=h.new (.cells [a0_0,a0_1,a0_2,a0_3,a0_4,a0_5,a0_6,a0_7,a0_8,a0_9,a0_10] .rw)
 let h1:=h0.new (.cells [(0:Int),(0:Int),(0:Int),(0:Int),(0:Int),(0:Int),.nilsl,.nilsl,.nilsl,.nilsl,.nilsl] .rw)
 (h1.ldN 6 (.ptr h.next 0)).bind fun v2 =>
 (fill [(0:Int),(0:Int),(0:Int),(0:Int),(0:Int),(0:Int),.nilsl,.nilsl,.nilsl,.nilsl,.nilsl] [] [(0,6,.c v2)]).bind fun cs3 =>
 let h4:=h1.new (.cells [(0:Int),(0:Int),(0:Int),(0:Int),(0:Int),(0:Int),.nilsl,.nilsl,.nilsl,.nilsl,.nilsl] .rw)
 (h4.st 11 (.ptr h1.next 0) (.agg cs3)).bind fun h5 =>
 (M.loop (zk0 M) (z66 (.ptr h.next 0) (.ptr h0.next 0) (.ptr h1.next 0) (0:Int)) h5).bind fun p6=>zgc M p6.1 p6.2.1 p6.2.2
def z93 (M:Env) (x1 x2 x3:V) (x4:Int) (h:H):Rl :=
 (za x1 6).bind fun v0 =>
 (h.ld1 v0).bind fun v1 =>
 (lenSl v1).bind fun n2 =>
 match decide (x4<(n2:Int)) with
 | true=>((za x3 6).bind fun v3 =>
 (h.ld1 v3).bind fun v4 =>
 (za x1 6).bind fun v5 =>
 (h.ld1 v5).bind fun v6 =>
 (z0 1 v6 x4).bind fun v7 =>
 (h.ld1 v7).bind fun v8 =>
 let h9:=h.new (.cells [] .rw)
 (h9.append 1 8 (.sl h.next 0 0 (.ex 0)) v8).bind fun p10 =>
 match ckB (p10.2.ld1 v3) v4 with
 | true=>((fill (repl [.nilsl] 1) [] [(0,1,.c p10.1)]).bind fun cs11 =>
 let h12:=p10.2.new (.cells cs11 .rw)
 (h12.append 1 24 v4 (.sl p10.2.next 0 1 (.ex 1))).bind fun p13 =>
 (za x3 6).bind fun v14 =>
 (p13.2.st 1 v14 p13.1).bind fun h15 =>
 some (.normal,(z66 x1 x2 x3 (.int .i64 (wr .i64 (x4+1)))),h15))
 | false=>none)
 | false=>(some ((.exit 0),(ze7 x1 x2 x3),h))
def zdb (M:Env) (x1 x2 x3:V) (h:H):Rf :=
 (za x3 7).bind fun v0 =>
 (h.ld1 v0).bind fun v1 =>
 (za x1 7).bind fun v2 =>
 (h.ld1 v2).bind fun v3 =>
 (h.append 3 24 v1 v3).bind fun p4 =>
 (za x3 7).bind fun v5 =>
 (p4.2.st 1 v5 p4.1).bind fun h6 =>
 (za x3 8).bind fun v7 =>
 (h6.ld1 v7).bind fun v8 =>
 (za x1 8).bind fun v9 =>
 (h6.ld1 v9).bind fun v10 =>
 (h6.append 1 8 v8 v10).bind fun p11 =>
 (za x3 8).bind fun v12 =>
 (p11.2.st 1 v12 p11.1).bind fun h13 =>
 (za x3 9).bind fun v14 =>
 (h13.ld1 v14).bind fun v15 =>
 (za x1 9).bind fun v16 =>
 (h13.ld1 v16).bind fun v17 =>
 (h13.append 1 24 v15 v17).bind fun p18 =>
 (za x3 9).bind fun v19 =>
 (p18.2.st 1 v19 p18.1).bind fun h20 =>
 (za x3 10).bind fun v21 =>
 (h20.ld1 v21).bind fun v22 =>
 (za x1 10).bind fun v23 =>
 (h20.ld1 v23).bind fun v24 =>
 (h20.append 1 8 v22 v24).bind fun p25 =>
 (za x3 10).bind fun v26 =>
 (p25.2.st 1 v26 p25.1).bind fun h27 =>
 (h27.ldN 11 x3).bind fun v28 =>
 (h27.st 11 x2 v28).bind fun h29 =>
 finV h29 [.cell true 11 x2]
theorem zx5:z06 M F.z18 [(.agg [(.int .i64 a0_0),(.int .i64 a0_1),(.int .i64 a0_2),(.int .i64 a0_3),(.int .i64 a0_4),(.int .i64 a0_5),a0_6,a0_7,a0_8,a0_9,a0_10])] h=z18 M a0_0 a0_1 a0_2 a0_3 a0_4 a0_5 a0_6 a0_7 a0_8 a0_9 a0_10 h:=by kernel_rfl
theorem zu0:zk0 M (z66 x1 x2 x3 (.int .i64 x4)) h=z93 M x1 x2 x3 x4 h:=by kernel_rfl
theorem zqc:zgc M (.exit 0) (ze7 x1 x2 x3) h=zdb M x1 x2 x3 h:=by kernel_rfl
end Wm.S
end
