/- Each operation of my machine, as the model carries it out: what looks at no memory. -/
import Derived.Test.YthkimcdeejjmbaaWmStepA
set_option linter.all false
namespace Wm
open Go (Value Addr World Obj Program IntKind TypeId Oper Operand Act Exit Sem)
theorem ztr (k:IntKind) (n:Int):wr k n=k.wrap n:=by
 cases k <;> simp[wr,IntKind.wrap,IntKind.bits,IntKind.signed] <;> (try split) <;> omega
def sd (M:Env) (op:AOp) (env:List V) (h:H):Option (V × H):=step M op env h fun v h=>some (v,h)
theorem zj9 {k:IntKind}{v:V}{n:Int} (h:asI k v=some n):v=.int k n:=by
 cases v <;> simp[asI] at h
 split at h
 ·rename_i e; simp at e; cases h; rw[e]
 ·cases h
theorem z01b {v:V}{n:Int} (h:zaq v=some n):∃k,v=.int k n:=by
 cases v <;> simp[zaq] at h
 rename_i k m; exact⟨k,by rw[h]⟩
theorem z0de {v:V}{b:Bool} (h:asB v=some b):v=.bool b:=by
 cases v <;> simp[asB] at h
 rw[h]
theorem z02y {v:V}{s:ByteArray} (h:asS v=some s):v=.str s:=by
 cases v <;> simp[asS] at h
 rw[h]
theorem z03x {v:V}{l:List V} (h:z8n v=some l):v=.agg l:=by
 cases v <;> simp[z8n] at h
 rw[h]
section
variable {P:Program}{tab:Tab}{β:Nat->Option Loc}{h h':H}{w:World}{env:List V}{a:Act}{o:Oper}{v:V}{Q:Exit->Act->World->Prop}{M:Env}
theorem zi3 {k:IntKind}{n:Int}{x:V}{c:Value} (hx:x=.int k n) (hr:RV tab β x c):c=.int k n:=by subst hx; exact hr
theorem z075 {b:Bool}{x:V}{c:Value} (hx:x=.bool b) (hr:RV tab β x c):c=.bool b:=by subst hx; exact hr
theorem zzn {s:ByteArray}{x:V}{c:Value} (hx:x=.str s) (hr:RV tab β x c):c=.string s:=by subst hx; exact hr
theorem z0lj (hR:Rel tab β h.get w) (hE:EnvR tab β env a) {x:Operand}{y:Opd} (ho:o.op=.move x\/o.op=.assign x) (hc:cOpd tab x=some y) (hs:sd M (.mov y) env h=some (v,h')) :
  Gw P o a w (Post tab β h w v h') Q:=by
 simp only[sd,step,Option.some.injEq,Prod.mk.injEq] at hs
 obtain⟨rfl,rfl⟩:=hs
 refine z03 (cv:=a.eval x) (w':=w) ?_ (z0b (zu hE hc) hR)
 rcases ho with ho | ho <;> simp[Go.execOp,ho]
theorem z0na (hR:Rel tab β h.get w) (hE:EnvR tab β env a) {c x y:Operand}{c' x' y':Opd} (ho:o.op=.pick c x y) (hc:cOpd tab c=some c') (hx:cOpd tab x=some x') (hy:cOpd tab y=some y')
  (hs:sd M (.pick c' x' y') env h=some (v,h')):Gw P o a w (Post tab β h w v h') Q:=by
 simp only[sd,step,Option.bind_eq_some_iff] at hs
 obtain⟨b,hb,hs⟩:=hs
 have hcv:=z075 (z0de hb) (zu hE hc)
 cases b with
 | true =>
  simp only[Option.some.injEq,Prod.mk.injEq] at hs
  obtain⟨rfl,rfl⟩:=hs
  exact z03 (cv:=a.eval x) (w':=w) (by simp[Go.execOp,ho,hcv,Go.asBool]) (z0b (zu hE hx) hR)
 | false =>
  simp only[Option.some.injEq,Prod.mk.injEq] at hs
  obtain⟨rfl,rfl⟩:=hs
  exact z03 (cv:=a.eval y) (w':=w) (by simp[Go.execOp,ho,hcv,Go.asBool]) (z0b (zu hE hy) hR)
theorem z0o4 (hR:Rel tab β h.get w) (hE:EnvR tab β env a) {t:TypeId}{x:Operand}{y:Opd} (ho:o.op=.unOp .not t x) (hc:cOpd tab x=some y) (hs:sd M (.not y) env h=some (v,h')) :
  Gw P o a w (Post tab β h w v h') Q:=by
 simp only[sd,step,Option.bind_eq_some_iff,Option.some.injEq,Prod.mk.injEq] at hs
 obtain⟨b,hb,rfl,rfl⟩:=hs
 have hcv:=z075 (z0de hb) (zu hE hc)
 exact z03 (cv:=.bool (!b)) (w':=w) (by simp[Go.execOp,ho,hcv,Go.Op.unary]) (z0b rfl hR)
theorem z0iz (hR:Rel tab β h.get w) (hE:EnvR tab β env a) {x:Operand}{y:Opd}{i:Nat} (ho:o.op=.extract x i) (hc:cOpd tab x=some y) (hs:sd M (.extract y i) env h=some (v,h')) :
  Gw P o a w (Post tab β h w v h') Q:=by
 simp only[sd,step] at hs
 split at hs
 ·rename_i vs hvs
  simp only[Option.bind_eq_some_iff,Option.some.injEq,Prod.mk.injEq] at hs
  obtain⟨u,hu,rfl,rfl⟩:=hs
  have hr:=zu hE hc
  rw[hvs] at hr
  obtain⟨l,hl,hm⟩:=hr
  obtain⟨c,hcc,hcr⟩:=RVs.get hm i u hu
  refine z03 (cv:=c) (w':=w) ?_ (z0b hcr hR)
  have:l[i]?=some c:=by simpa using hcc
  simp[Go.execOp,ho,hl,Go.Instr.extract,this]
 ·cases hs
theorem z0nl (hR:Rel tab β h.get w) (hE:EnvR tab β env a) {src dst:TypeId}{x:Operand}{y:Opd}{k j:IntKind} (ho:o.op=.convert src dst x) (h1:P.underlying src=some (.int j)) (h2:P.underlying dst=some (.int k))
  (hc:cOpd tab x=some y) (hs:sd M (.conv k y) env h=some (v,h')):Gw P o a w (Post tab β h w v h') Q:=by
 simp only[sd,step,Option.bind_eq_some_iff,Option.some.injEq,Prod.mk.injEq] at hs
 obtain⟨n,hn,rfl,rfl⟩:=hs
 obtain⟨kk,hk⟩:=z01b hn
 have hcv:=zi3 hk (zu hE hc)
 refine z03 (cv:=.int k (wr k n)) (w':=w) ?_ (z0b rfl hR)
 simp[Go.execOp,ho,hcv,Go.convert,Go.run_underlying h1,Go.run_underlying h2,Go.Conv.intToInt,ztr]
theorem z0m5 (hR:Rel tab β h.get w) (hE:EnvR tab β env a) {op:Go.BinOp}{xt yt:TypeId}{x y:Operand}{x' y':Opd}{k:IntKind} (ho:o.op=.binOp op xt x y yt) (hx:cOpd tab x=some x') (hy:cOpd tab y=some y')
  (h1:z02i op=false) (h2:z08z op=false) (hs:sd M (.arith op k x' y') env h=some (v,h')):Gw P o a w (Post tab β h w v h') Q:=by
 simp only[sd,step,Option.bind_eq_some_iff,Option.some.injEq,Prod.mk.injEq] at hs
 obtain⟨m,hm,n,hn,r,hr,rfl,rfl⟩:=hs
 have hxv:=zi3 (zj9 hm) (zu hE hx)
 have hyv:=zi3 (zj9 hn) (zu hE hy)
 refine z03 (cv:=.int k r) (w':=w) ?_ (z0b rfl hR)
 cases op <;> simp[z02i,z08z] at h1 h2
 ·simp only[Wm.arith,Option.some.injEq] at hr
  simp[Go.execOp,ho,hxv,hyv,Go.eqGuard_add,Go.binOp_add,Go.Op.intArith,<-ztr,hr]
 ·simp only[Wm.arith,Option.some.injEq] at hr
  simp[Go.execOp,ho,hxv,hyv,Go.eqGuard_sub,Go.binOp_sub,Go.Op.intArith,<-ztr,hr]
 ·simp only[Wm.arith,Option.some.injEq] at hr
  simp[Go.execOp,ho,hxv,hyv,Go.eqGuard_mul,Go.binOp_mul,Go.Op.intArith,<-ztr,hr]
 ·simp only[Wm.arith] at hr
  split at hr
  ·cases hr
  ·rename_i hz; simp at hz
   simp only[Option.some.injEq] at hr
   simp[Go.execOp,ho,hxv,hyv,Go.eqGuard_quo,Go.binOp_quo,Go.Op.intDiv,hz,<-ztr,hr]
 ·simp only[Wm.arith] at hr
  split at hr
  ·cases hr
  ·rename_i hz; simp at hz
   simp only[Option.some.injEq] at hr
   simp[Go.execOp,ho,hxv,hyv,Go.eqGuard_rem,Go.binOp_rem,Go.Op.intDiv,hz,hr]
 ·simp only[Wm.arith] at hr
  split at hr
  ·simp only[Option.some.injEq] at hr
   have e:(IntKind.u64).wrap (z08u m n)=r:=by rw[<-hr,<-ztr]; simp only[wr,z08u]; omega
   simp[Go.execOp,ho,hxv,hyv,Go.eqGuard_and,Go.binOp_and,Go.Op.intBits]
   exact e
  ·cases hr
 ·simp only[Wm.arith] at hr
  split at hr
  ·simp only[Option.some.injEq] at hr
   have e:(IntKind.u64).wrap (or64 m n)=r:=by rw[<-hr,<-ztr]; simp only[wr,or64]; omega
   simp[Go.execOp,ho,hxv,hyv,Go.eqGuard_or,Go.binOp_or,Go.Op.intBits]
   exact e
  ·cases hr
 ·simp only[Wm.arith] at hr
  split at hr
  ·simp only[Option.some.injEq] at hr
   have e:(IntKind.u64).wrap (zy3 m n)=r:=by rw[<-hr,<-ztr]; simp only[wr,zy3]; omega
   simp[Go.execOp,ho,hxv,hyv,Go.eqGuard_xor,Go.binOp_xor,Go.Op.intBits]
   exact e
  ·cases hr
 ·simp only[Wm.arith] at hr
  split at hr
  ·simp only[Option.some.injEq] at hr
   have e:(IntKind.u64).wrap (z084 m n)=r:=by rw[<-hr,<-ztr]; simp only[wr,z084]; omega
   have e':Go.bits .andNot IntKind.u64 m n=r:=e
   simp[Go.execOp,ho,hxv,hyv,Go.eqGuard_andNot,Go.binOp_andNot,Go.intBits_andNot,e']
  ·cases hr
theorem z0o5 (hR:Rel tab β h.get w) (hE:EnvR tab β env a) {op:Go.BinOp}{xt yt:TypeId}{x y:Operand}{x' y':Opd}{k:IntKind} (ho:o.op=.binOp op xt x y yt) (hx:cOpd tab x=some x') (hy:cOpd tab y=some y')
  (h2:z08z op=true) (hs:sd M (.cmp op k x' y') env h=some (v,h')):Gw P o a w (Post tab β h w v h') Q:=by
 simp only[sd,step,Option.bind_eq_some_iff,Option.some.injEq,Prod.mk.injEq] at hs
 obtain⟨m,hm,n,hn,rfl,rfl⟩:=hs
 have hxv:=zi3 (zj9 hm) (zu hE hx)
 have hyv:=zi3 (zj9 hn) (zu hE hy)
 refine z03 (cv:=.bool (cmpI op m n)) (w':=w) ?_ (z0b rfl hR)
 cases op <;> simp[z08z] at h2
 all_goals simp[Go.execOp,ho,hxv,hyv,Go.eqGuard_at_int,Go.binOp_eql,Go.binOp_neq,Go.binOp_lss,Go.binOp_leq,Go.binOp_gtr,Go.binOp_geq,cmpI]
 all_goals first | rfl | (by_cases e:m=n <;> simp[e])
theorem z0mb (hR:Rel tab β h.get w) (hE:EnvR tab β env a) {op:Go.BinOp}{xt yt:TypeId}{x y:Operand}{x' y':Opd}{k j:IntKind} (ho:o.op=.binOp op xt x y yt) (hx:cOpd tab x=some x') (hy:cOpd tab y=some y')
  (h2:z02i op=true) (hs:sd M (.shift (op == .shl) k j x' y') env h=some (v,h')):Gw P o a w (Post tab β h w v h') Q:=by
 simp only[sd,step,Option.bind_eq_some_iff,Option.some.injEq,Prod.mk.injEq] at hs
 obtain⟨m,hm,n,hn,r,hr,rfl,rfl⟩:=hs
 have hxv:=zi3 (zj9 hm) (zu hE hx)
 have hyv:=zi3 (zj9 hn) (zu hE hy)
 refine z03 (cv:=.int k r) (w':=w) ?_ (z0b rfl hR)
 unfold z0dw at hr
 split at hr
 ·cases hr
 ·rename_i hz; simp at hz
  cases op <;> simp[z02i] at h2
  ·have hr:wr k (m * 2 ^ (min n.toNat k.bits))=r:=Option.some.inj hr
   simp[Go.execOp,ho,hxv,hyv,Go.eqGuard_shl,Go.binOp_shl,Go.Op.shift,Int.not_lt.mpr hz,<-ztr,hr]
  ·have hr:m / 2 ^ (min n.toNat k.bits)=r:=Option.some.inj hr
   have hp:(0:Int)<=2 ^ (min n.toNat k.bits):=Int.pow_nonneg (by decide)
   simp[Go.execOp,ho,hxv,hyv,Go.eqGuard_shr,Go.binOp_shr,Go.Op.shift,Int.not_lt.mpr hz,Int.fdiv_eq_ediv_of_nonneg _ hp,hr]
end
end Wm
