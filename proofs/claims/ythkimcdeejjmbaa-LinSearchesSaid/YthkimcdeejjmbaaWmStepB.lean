/- Each operation of my machine, as the model carries it out: what looks at no memory. -/
import Derived.Test.YthkimcdeejjmbaaWmStepA
set_option linter.all false
namespace Wm
open Go (Value Addr World Obj Program IntKind TypeId Oper Operand Act Exit Sem)
theorem zh7 (k : IntKind) (n : Int) : wr k n = k.wrap n := by
  cases k <;> simp [wr, IntKind.wrap, IntKind.bits, IntKind.signed] <;> (try split) <;> omega
def sd (M : Env) (op : AOp) (env : List V) (h : H) : Option (V × H) := step M op env h fun v h => some (v, h)
theorem zbz {k : IntKind} {v : V} {n : Int} (h : asI k v = some n) : v = .int k n := by
  cases v <;> simp [asI] at h
  split at h
  · rename_i e; simp at e; cases h; rw [e]
  · cases h
theorem zom {v : V} {n : Int} (h : z64 v = some n) : ∃ k, v = .int k n := by
  cases v <;> simp [z64] at h
  rename_i k m; exact ⟨k, by rw [h]⟩
theorem zye {v : V} {b : Bool} (h : asB v = some b) : v = .bool b := by
  cases v <;> simp [asB] at h
  rw [h]
theorem zq7 {v : V} {s : ByteArray} (h : asS v = some s) : v = .str s := by
  cases v <;> simp [asS] at h
  rw [h]
theorem zr5 {v : V} {l : List V} (h : z4w v = some l) : v = .agg l := by
  cases v <;> simp [z4w] at h
  rw [h]
section
variable {P : Program} {tab : Tab} {β : Nat → Option Loc} {h h' : H} {w : World} {env : List V} {a : Act} {o : Oper} {v : V} {Q : Exit → Act → World → Prop} {M : Env}
theorem zba {k : IntKind} {n : Int} {x : V} {c : Value} (hx : x = .int k n) (hr : RV tab β x c) : c = .int k n := by subst hx; exact hr
theorem ztw {b : Bool} {x : V} {c : Value} (hx : x = .bool b) (hr : RV tab β x c) : c = .bool b := by subst hx; exact hr
theorem zn5 {s : ByteArray} {x : V} {c : Value} (hx : x = .str s) (hr : RV tab β x c) : c = .string s := by subst hx; exact hr
theorem z05z (hR : Rel tab β h.get w) (hE : EnvR tab β env a) {x : Operand} {y : Opd} (ho : o.op = .move x ∨ o.op = .assign x) (hc : cOpd tab x = some y) (hs : sd M (.mov y) env h = some (v, h')) :
    Gw P o a w (Post tab β h w v h') Q := by
  simp only [sd, step, Option.some.injEq, Prod.mk.injEq] at hs
  obtain ⟨rfl, rfl⟩ := hs
  refine zu (cv := a.eval x) (w' := w) ?_ (z04 (zp hE hc) hR)
  rcases ho with ho | ho <;> simp [Go.execOp, ho]
theorem z07q (hR : Rel tab β h.get w) (hE : EnvR tab β env a) {c x y : Operand} {c' x' y' : Opd} (ho : o.op = .pick c x y) (hc : cOpd tab c = some c') (hx : cOpd tab x = some x') (hy : cOpd tab y = some y')
    (hs : sd M (.pick c' x' y') env h = some (v, h')) : Gw P o a w (Post tab β h w v h') Q := by
  simp only [sd, step, Option.bind_eq_some_iff] at hs
  obtain ⟨b, hb, hs⟩ := hs
  have hcv := ztw (zye hb) (zp hE hc)
  cases b with
  | true =>
    simp only [Option.some.injEq, Prod.mk.injEq] at hs
    obtain ⟨rfl, rfl⟩ := hs
    exact zu (cv := a.eval x) (w' := w) (by simp [Go.execOp, ho, hcv, Go.asBool]) (z04 (zp hE hx) hR)
  | false =>
    simp only [Option.some.injEq, Prod.mk.injEq] at hs
    obtain ⟨rfl, rfl⟩ := hs
    exact zu (cv := a.eval y) (w' := w) (by simp [Go.execOp, ho, hcv, Go.asBool]) (z04 (zp hE hy) hR)
theorem z089 (hR : Rel tab β h.get w) (hE : EnvR tab β env a) {t : TypeId} {x : Operand} {y : Opd} (ho : o.op = .unOp .not t x) (hc : cOpd tab x = some y) (hs : sd M (.not y) env h = some (v, h')) :
    Gw P o a w (Post tab β h w v h') Q := by
  simp only [sd, step, Option.bind_eq_some_iff, Option.some.injEq, Prod.mk.injEq] at hs
  obtain ⟨b, hb, rfl, rfl⟩ := hs
  have hcv := ztw (zye hb) (zp hE hc)
  exact zu (cv := .bool (!b)) (w' := w) (by simp [Go.execOp, ho, hcv, Go.Op.unary]) (z04 rfl hR)
theorem z03c (hR : Rel tab β h.get w) (hE : EnvR tab β env a) {x : Operand} {y : Opd} {i : Nat} (ho : o.op = .extract x i) (hc : cOpd tab x = some y) (hs : sd M (.extract y i) env h = some (v, h')) :
    Gw P o a w (Post tab β h w v h') Q := by
  simp only [sd, step] at hs
  split at hs
  · rename_i vs hvs
    simp only [Option.bind_eq_some_iff, Option.some.injEq, Prod.mk.injEq] at hs
    obtain ⟨u, hu, rfl, rfl⟩ := hs
    have hr := zp hE hc
    rw [hvs] at hr
    obtain ⟨l, hl, hm⟩ := hr
    obtain ⟨c, hcc, hcr⟩ := RVs.get hm i u hu
    refine zu (cv := c) (w' := w) ?_ (z04 hcr hR)
    have : l[i]? = some c := by simpa using hcc
    simp [Go.execOp, ho, hl, Go.Instr.extract, this]
  · cases hs
theorem z07o (hR : Rel tab β h.get w) (hE : EnvR tab β env a) {src dst : TypeId} {x : Operand} {y : Opd} {k j : IntKind} (ho : o.op = .convert src dst x) (h1 : P.underlying src = some (.int j)) (h2 : P.underlying dst = some (.int k))
    (hc : cOpd tab x = some y) (hs : sd M (.conv k y) env h = some (v, h')) : Gw P o a w (Post tab β h w v h') Q := by
  simp only [sd, step, Option.bind_eq_some_iff, Option.some.injEq, Prod.mk.injEq] at hs
  obtain ⟨n, hn, rfl, rfl⟩ := hs
  obtain ⟨kk, hk⟩ := zom hn
  have hcv := zba hk (zp hE hc)
  refine zu (cv := .int k (wr k n)) (w' := w) ?_ (z04 rfl hR)
  simp [Go.execOp, ho, hcv, Go.convert, Go.run_underlying h1, Go.run_underlying h2, Go.Conv.intToInt, zh7]
theorem z06z (hR : Rel tab β h.get w) (hE : EnvR tab β env a) {op : Go.BinOp} {xt yt : TypeId} {x y : Operand} {x' y' : Opd} {k : IntKind} (ho : o.op = .binOp op xt x y yt) (hx : cOpd tab x = some x') (hy : cOpd tab y = some y')
    (h1 : zpm op = false) (h2 : zvg op = false) (hs : sd M (.arith op k x' y') env h = some (v, h')) : Gw P o a w (Post tab β h w v h') Q := by
  simp only [sd, step, Option.bind_eq_some_iff, Option.some.injEq, Prod.mk.injEq] at hs
  obtain ⟨m, hm, n, hn, r, hr, rfl, rfl⟩ := hs
  have hxv := zba (zbz hm) (zp hE hx)
  have hyv := zba (zbz hn) (zp hE hy)
  refine zu (cv := .int k r) (w' := w) ?_ (z04 rfl hR)
  cases op <;> simp [zpm, zvg] at h1 h2
  · simp only [Wm.arith, Option.some.injEq] at hr
    simp [Go.execOp, ho, hxv, hyv, Go.eqGuard_add, Go.binOp_add, Go.Op.intArith, ← zh7, hr]
  · simp only [Wm.arith, Option.some.injEq] at hr
    simp [Go.execOp, ho, hxv, hyv, Go.eqGuard_sub, Go.binOp_sub, Go.Op.intArith, ← zh7, hr]
  · simp only [Wm.arith, Option.some.injEq] at hr
    simp [Go.execOp, ho, hxv, hyv, Go.eqGuard_mul, Go.binOp_mul, Go.Op.intArith, ← zh7, hr]
  · simp only [Wm.arith] at hr
    split at hr
    · cases hr
    · rename_i hz; simp at hz
      simp only [Option.some.injEq] at hr
      simp [Go.execOp, ho, hxv, hyv, Go.eqGuard_quo, Go.binOp_quo, Go.Op.intDiv, hz, ← zh7, hr]
  · simp only [Wm.arith] at hr
    split at hr
    · cases hr
    · rename_i hz; simp at hz
      simp only [Option.some.injEq] at hr
      simp [Go.execOp, ho, hxv, hyv, Go.eqGuard_rem, Go.binOp_rem, Go.Op.intDiv, hz, hr]
  · simp only [Wm.arith] at hr
    split at hr
    · simp only [Option.some.injEq] at hr
      have e : (IntKind.u64).wrap (z033 m n) = r := by rw [← hr, ← zh7]; simp only [wr, z033]; omega
      simp [Go.execOp, ho, hxv, hyv, Go.eqGuard_and, Go.binOp_and, Go.Op.intBits]
      exact e
    · cases hr
  · simp only [Wm.arith] at hr
    split at hr
    · simp only [Option.some.injEq] at hr
      have e : (IntKind.u64).wrap (or64 m n) = r := by rw [← hr, ← zh7]; simp only [wr, or64]; omega
      simp [Go.execOp, ho, hxv, hyv, Go.eqGuard_or, Go.binOp_or, Go.Op.intBits]
      exact e
    · cases hr
  · simp only [Wm.arith] at hr
    split at hr
    · simp only [Option.some.injEq] at hr
      have e : (IntKind.u64).wrap (z01p m n) = r := by rw [← hr, ← zh7]; simp only [wr, z01p]; omega
      simp [Go.execOp, ho, hxv, hyv, Go.eqGuard_xor, Go.binOp_xor, Go.Op.intBits]
      exact e
    · cases hr
  · simp only [Wm.arith] at hr
    split at hr
    · simp only [Option.some.injEq] at hr
      have e : (IntKind.u64).wrap (zv0 m n) = r := by rw [← hr, ← zh7]; simp only [wr, zv0]; omega
      have e' : Go.bits .andNot IntKind.u64 m n = r := e
      simp [Go.execOp, ho, hxv, hyv, Go.eqGuard_andNot, Go.binOp_andNot, Go.intBits_andNot, e']
    · cases hr
theorem z08c (hR : Rel tab β h.get w) (hE : EnvR tab β env a) {op : Go.BinOp} {xt yt : TypeId} {x y : Operand} {x' y' : Opd} {k : IntKind} (ho : o.op = .binOp op xt x y yt) (hx : cOpd tab x = some x') (hy : cOpd tab y = some y')
    (h2 : zvg op = true) (hs : sd M (.cmp op k x' y') env h = some (v, h')) : Gw P o a w (Post tab β h w v h') Q := by
  simp only [sd, step, Option.bind_eq_some_iff, Option.some.injEq, Prod.mk.injEq] at hs
  obtain ⟨m, hm, n, hn, rfl, rfl⟩ := hs
  have hxv := zba (zbz hm) (zp hE hx)
  have hyv := zba (zbz hn) (zp hE hy)
  refine zu (cv := .bool (cmpI op m n)) (w' := w) ?_ (z04 rfl hR)
  cases op <;> simp [zvg] at h2
  all_goals simp [Go.execOp, ho, hxv, hyv, Go.eqGuard_at_int, Go.binOp_eql, Go.binOp_neq, Go.binOp_lss, Go.binOp_leq, Go.binOp_gtr, Go.binOp_geq, cmpI]
  all_goals first | rfl | (by_cases e : m = n <;> simp [e])
theorem z07a (hR : Rel tab β h.get w) (hE : EnvR tab β env a) {op : Go.BinOp} {xt yt : TypeId} {x y : Operand} {x' y' : Opd} {k j : IntKind} (ho : o.op = .binOp op xt x y yt) (hx : cOpd tab x = some x') (hy : cOpd tab y = some y')
    (h2 : zpm op = true) (hs : sd M (.shift (op == .shl) k j x' y') env h = some (v, h')) : Gw P o a w (Post tab β h w v h') Q := by
  simp only [sd, step, Option.bind_eq_some_iff, Option.some.injEq, Prod.mk.injEq] at hs
  obtain ⟨m, hm, n, hn, r, hr, rfl, rfl⟩ := hs
  have hxv := zba (zbz hm) (zp hE hx)
  have hyv := zba (zbz hn) (zp hE hy)
  refine zu (cv := .int k r) (w' := w) ?_ (z04 rfl hR)
  unfold zyi at hr
  split at hr
  · cases hr
  · rename_i hz; simp at hz
    cases op <;> simp [zpm] at h2
    · have hr : wr k (m * 2 ^ (min n.toNat k.bits)) = r := Option.some.inj hr
      simp [Go.execOp, ho, hxv, hyv, Go.eqGuard_shl, Go.binOp_shl, Go.Op.shift, Int.not_lt.mpr hz, ← zh7, hr]
    · have hr : m / 2 ^ (min n.toNat k.bits) = r := Option.some.inj hr
      have hp : (0 : Int) ≤ 2 ^ (min n.toNat k.bits) := Int.pow_nonneg (by decide)
      simp [Go.execOp, ho, hxv, hyv, Go.eqGuard_shr, Go.binOp_shr, Go.Op.shift, Int.not_lt.mpr hz, Int.fdiv_eq_ediv_of_nonneg _ hp, hr]
end
end Wm
