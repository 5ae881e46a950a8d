/- Each operation of my machine, as the model carries it out: what looks at no memory. -/
import Derived.Test.YthkimcdeejjmbaaWmStepA
set_option linter.all false
namespace Wm
open Go (Value Addr World Obj Program IntKind TypeId Oper Operand Act Exit Sem)
theorem zng (k : IntKind) (n : Int) : wr k n = k.wrap n := by
  cases k <;> simp [wr, IntKind.wrap, IntKind.bits, IntKind.signed] <;> (try split) <;> omega
def sd (M : Env) (op : AOp) (env : List V) (h : H) : Option (V × H) := step M op env h fun v h => some (v, h)
theorem zej {k : IntKind} {v : V} {n : Int} (h : asI k v = some n) : v = .int k n := by
  cases v <;> simp [asI] at h
  split at h
  · rename_i e; simp at e; cases h; rw [e]
  · cases h
theorem zsg {v : V} {n : Int} (h : z7v v = some n) : ∃ k, v = .int k n := by
  cases v <;> simp [z7v] at h
  rename_i k m; exact ⟨k, by rw [h]⟩
theorem z05f {v : V} {b : Bool} (h : asB v = some b) : v = .bool b := by
  cases v <;> simp [asB] at h
  rw [h]
theorem zur {v : V} {s : ByteArray} (h : asS v = some s) : v = .str s := by
  cases v <;> simp [asS] at h
  rw [h]
theorem zus {v : V} {l : List V} (h : z70 v = some l) : v = .agg l := by
  cases v <;> simp [z70] at h
  rw [h]
section
variable {P : Program} {tab : Tab} {β : Nat → Option Loc} {h h' : H} {w : World} {env : List V} {a : Act} {o : Oper} {v : V} {Q : Exit → Act → World → Prop} {M : Env}
theorem zd7 {k : IntKind} {n : Int} {x : V} {c : Value} (hx : x = .int k n) (hr : RV tab β x c) : c = .int k n := by subst hx; exact hr
theorem zy2 {b : Bool} {x : V} {c : Value} (hx : x = .bool b) (hr : RV tab β x c) : c = .bool b := by subst hx; exact hr
theorem zqx {s : ByteArray} {x : V} {c : Value} (hx : x = .str s) (hr : RV tab β x c) : c = .string s := by subst hx; exact hr
theorem z0c6 (hR : Rel tab β h.get w) (hE : EnvR tab β env a) {x : Operand} {y : Opd} (ho : o.op = .move x ∨ o.op = .assign x) (hc : cOpd tab x = some y) (hs : sd M (.mov y) env h = some (v, h')) :
    Gw P o a w (Post tab β h w v h') Q := by
  simp only [sd, step, Option.some.injEq, Prod.mk.injEq] at hs
  obtain ⟨rfl, rfl⟩ := hs
  refine zy (cv := a.eval x) (w' := w) ?_ (z03 (zs hE hc) hR)
  rcases ho with ho | ho <;> simp [Go.execOp, ho]
theorem z0e8 (hR : Rel tab β h.get w) (hE : EnvR tab β env a) {c x y : Operand} {c' x' y' : Opd} (ho : o.op = .pick c x y) (hc : cOpd tab c = some c') (hx : cOpd tab x = some x') (hy : cOpd tab y = some y')
    (hs : sd M (.pick c' x' y') env h = some (v, h')) : Gw P o a w (Post tab β h w v h') Q := by
  simp only [sd, step, Option.bind_eq_some_iff] at hs
  obtain ⟨b, hb, hs⟩ := hs
  have hcv := zy2 (z05f hb) (zs hE hc)
  cases b with
  | true =>
    simp only [Option.some.injEq, Prod.mk.injEq] at hs
    obtain ⟨rfl, rfl⟩ := hs
    exact zy (cv := a.eval x) (w' := w) (by simp [Go.execOp, ho, hcv, Go.asBool]) (z03 (zs hE hx) hR)
  | false =>
    simp only [Option.some.injEq, Prod.mk.injEq] at hs
    obtain ⟨rfl, rfl⟩ := hs
    exact zy (cv := a.eval y) (w' := w) (by simp [Go.execOp, ho, hcv, Go.asBool]) (z03 (zs hE hy) hR)
theorem z0f6 (hR : Rel tab β h.get w) (hE : EnvR tab β env a) {t : TypeId} {x : Operand} {y : Opd} (ho : o.op = .unOp .not t x) (hc : cOpd tab x = some y) (hs : sd M (.not y) env h = some (v, h')) :
    Gw P o a w (Post tab β h w v h') Q := by
  simp only [sd, step, Option.bind_eq_some_iff, Option.some.injEq, Prod.mk.injEq] at hs
  obtain ⟨b, hb, rfl, rfl⟩ := hs
  have hcv := zy2 (z05f hb) (zs hE hc)
  exact zy (cv := .bool (!b)) (w' := w) (by simp [Go.execOp, ho, hcv, Go.Op.unary]) (z03 rfl hR)
theorem z0a9 (hR : Rel tab β h.get w) (hE : EnvR tab β env a) {x : Operand} {y : Opd} {i : Nat} (ho : o.op = .extract x i) (hc : cOpd tab x = some y) (hs : sd M (.extract y i) env h = some (v, h')) :
    Gw P o a w (Post tab β h w v h') Q := by
  simp only [sd, step] at hs
  split at hs
  · rename_i vs hvs
    simp only [Option.bind_eq_some_iff, Option.some.injEq, Prod.mk.injEq] at hs
    obtain ⟨u, hu, rfl, rfl⟩ := hs
    have hr := zs hE hc
    rw [hvs] at hr
    obtain ⟨l, hl, hm⟩ := hr
    obtain ⟨c, hcc, hcr⟩ := RVs.get hm i u hu
    refine zy (cv := c) (w' := w) ?_ (z03 hcr hR)
    have : l[i]? = some c := by simpa using hcc
    simp [Go.execOp, ho, hl, Go.Instr.extract, this]
  · cases hs
theorem z0e1 (hR : Rel tab β h.get w) (hE : EnvR tab β env a) {src dst : TypeId} {x : Operand} {y : Opd} {k j : IntKind} (ho : o.op = .convert src dst x) (h1 : P.underlying src = some (.int j)) (h2 : P.underlying dst = some (.int k))
    (hc : cOpd tab x = some y) (hs : sd M (.conv k y) env h = some (v, h')) : Gw P o a w (Post tab β h w v h') Q := by
  simp only [sd, step, Option.bind_eq_some_iff, Option.some.injEq, Prod.mk.injEq] at hs
  obtain ⟨n, hn, rfl, rfl⟩ := hs
  obtain ⟨kk, hk⟩ := zsg hn
  have hcv := zd7 hk (zs hE hc)
  refine zy (cv := .int k (wr k n)) (w' := w) ?_ (z03 rfl hR)
  simp [Go.execOp, ho, hcv, Go.convert, Go.run_underlying h1, Go.run_underlying h2, Go.Conv.intToInt, zng]
theorem z0dv (hR : Rel tab β h.get w) (hE : EnvR tab β env a) {op : Go.BinOp} {xt yt : TypeId} {x y : Operand} {x' y' : Opd} {k : IntKind} (ho : o.op = .binOp op xt x y yt) (hx : cOpd tab x = some x') (hy : cOpd tab y = some y')
    (h1 : ztt op = false) (h2 : zzs op = false) (hs : sd M (.arith op k x' y') env h = some (v, h')) : Gw P o a w (Post tab β h w v h') Q := by
  simp only [sd, step, Option.bind_eq_some_iff, Option.some.injEq, Prod.mk.injEq] at hs
  obtain ⟨m, hm, n, hn, r, hr, rfl, rfl⟩ := hs
  have hxv := zd7 (zej hm) (zs hE hx)
  have hyv := zd7 (zej hn) (zs hE hy)
  refine zy (cv := .int k r) (w' := w) ?_ (z03 rfl hR)
  cases op <;> simp [ztt, zzs] at h1 h2
  · simp only [Wm.arith, Option.some.injEq] at hr
    simp [Go.execOp, ho, hxv, hyv, Go.eqGuard_add, Go.binOp_add, Go.Op.intArith, ← zng, hr]
  · simp only [Wm.arith, Option.some.injEq] at hr
    simp [Go.execOp, ho, hxv, hyv, Go.eqGuard_sub, Go.binOp_sub, Go.Op.intArith, ← zng, hr]
  · simp only [Wm.arith, Option.some.injEq] at hr
    simp [Go.execOp, ho, hxv, hyv, Go.eqGuard_mul, Go.binOp_mul, Go.Op.intArith, ← zng, hr]
  · simp only [Wm.arith] at hr
    split at hr
    · cases hr
    · rename_i hz; simp at hz
      simp only [Option.some.injEq] at hr
      simp [Go.execOp, ho, hxv, hyv, Go.eqGuard_quo, Go.binOp_quo, Go.Op.intDiv, hz, ← zng, hr]
  · simp only [Wm.arith] at hr
    split at hr
    · cases hr
    · rename_i hz; simp at hz
      simp only [Option.some.injEq] at hr
      simp [Go.execOp, ho, hxv, hyv, Go.eqGuard_rem, Go.binOp_rem, Go.Op.intDiv, hz, hr]
  · simp only [Wm.arith] at hr
    split at hr
    · simp only [Option.some.injEq] at hr
      have e : (IntKind.u64).wrap (zzk m n) = r := by rw [← hr, ← zng]; simp only [wr, zzk]; omega
      simp [Go.execOp, ho, hxv, hyv, Go.eqGuard_and, Go.binOp_and, Go.Op.intBits]
      exact e
    · cases hr
  · simp only [Wm.arith] at hr
    split at hr
    · simp only [Option.some.injEq] at hr
      have e : (IntKind.u64).wrap (or64 m n) = r := by rw [← hr, ← zng]; simp only [wr, or64]; omega
      simp [Go.execOp, ho, hxv, hyv, Go.eqGuard_or, Go.binOp_or, Go.Op.intBits]
      exact e
    · cases hr
  · simp only [Wm.arith] at hr
    split at hr
    · simp only [Option.some.injEq] at hr
      have e : (IntKind.u64).wrap (zqo m n) = r := by rw [← hr, ← zng]; simp only [wr, zqo]; omega
      simp [Go.execOp, ho, hxv, hyv, Go.eqGuard_xor, Go.binOp_xor, Go.Op.intBits]
      exact e
    · cases hr
  · simp only [Wm.arith] at hr
    split at hr
    · simp only [Option.some.injEq] at hr
      have e : (IntKind.u64).wrap (zyx m n) = r := by rw [← hr, ← zng]; simp only [wr, zyx]; omega
      have e' : Go.bits .andNot IntKind.u64 m n = r := e
      simp [Go.execOp, ho, hxv, hyv, Go.eqGuard_andNot, Go.binOp_andNot, Go.intBits_andNot, e']
    · cases hr
theorem z0ew (hR : Rel tab β h.get w) (hE : EnvR tab β env a) {op : Go.BinOp} {xt yt : TypeId} {x y : Operand} {x' y' : Opd} {k : IntKind} (ho : o.op = .binOp op xt x y yt) (hx : cOpd tab x = some x') (hy : cOpd tab y = some y')
    (h2 : zzs op = true) (hs : sd M (.cmp op k x' y') env h = some (v, h')) : Gw P o a w (Post tab β h w v h') Q := by
  simp only [sd, step, Option.bind_eq_some_iff, Option.some.injEq, Prod.mk.injEq] at hs
  obtain ⟨m, hm, n, hn, rfl, rfl⟩ := hs
  have hxv := zd7 (zej hm) (zs hE hx)
  have hyv := zd7 (zej hn) (zs hE hy)
  refine zy (cv := .bool (cmpI op m n)) (w' := w) ?_ (z03 rfl hR)
  cases op <;> simp [zzs] at h2
  all_goals simp [Go.execOp, ho, hxv, hyv, Go.eqGuard_at_int, Go.binOp_eql, Go.binOp_neq, Go.binOp_lss, Go.binOp_leq, Go.binOp_gtr, Go.binOp_geq, cmpI]
  all_goals first | rfl | (by_cases e : m = n <;> simp [e])
theorem z0dd (hR : Rel tab β h.get w) (hE : EnvR tab β env a) {op : Go.BinOp} {xt yt : TypeId} {x y : Operand} {x' y' : Opd} {k j : IntKind} (ho : o.op = .binOp op xt x y yt) (hx : cOpd tab x = some x') (hy : cOpd tab y = some y')
    (h2 : ztt op = true) (hs : sd M (.shift (op == .shl) k j x' y') env h = some (v, h')) : Gw P o a w (Post tab β h w v h') Q := by
  simp only [sd, step, Option.bind_eq_some_iff, Option.some.injEq, Prod.mk.injEq] at hs
  obtain ⟨m, hm, n, hn, r, hr, rfl, rfl⟩ := hs
  have hxv := zd7 (zej hm) (zs hE hx)
  have hyv := zd7 (zej hn) (zs hE hy)
  refine zy (cv := .int k r) (w' := w) ?_ (z03 rfl hR)
  unfold z04o at hr
  split at hr
  · cases hr
  · rename_i hz; simp at hz
    cases op <;> simp [ztt] at h2
    · have hr : wr k (m * 2 ^ (min n.toNat k.bits)) = r := Option.some.inj hr
      simp [Go.execOp, ho, hxv, hyv, Go.eqGuard_shl, Go.binOp_shl, Go.Op.shift, Int.not_lt.mpr hz, ← zng, hr]
    · have hr : m / 2 ^ (min n.toNat k.bits) = r := Option.some.inj hr
      have hp : (0 : Int) ≤ 2 ^ (min n.toNat k.bits) := Int.pow_nonneg (by decide)
      simp [Go.execOp, ho, hxv, hyv, Go.eqGuard_shr, Go.binOp_shr, Go.Op.shift, Int.not_lt.mpr hz, Int.fdiv_eq_ediv_of_nonneg _ hp, hr]
end
end Wm
