/- Without bounds: what calls come to, as equations. -/
import Derived.Test.YthkimcdeejjmbaaWmFn
set_option linter.all false
namespace Wm
open Go (Value Addr World Obj Program IntKind TypeId Oper Operand Act Exit Sem TypeDesc Code Func)
def LeO {α : Type} (x y : Option α) : Prop := ∀ r, x = some r → y = some r
theorem LeO.refl {α : Type} (x : Option α) : LeO x x := fun _ h => h
theorem LeO.trans {α : Type} {x y z : Option α} (h : LeO x y) (k : LeO y z) : LeO x z := fun r e => k r (h r e)
theorem LeO.bind {α β : Type} {x y : Option α} {f g : α → Option β} (h : LeO x y) (k : ∀ a, LeO (f a) (g a)) : LeO (x.bind f) (y.bind g) := fun r e => by
  simp only [Option.bind_eq_some_iff] at e ⊢
  obtain ⟨a, h1, h2⟩ := e
  exact ⟨a, h a h1, k a r h2⟩
structure LeM (M M' : Env) : Prop where
  call : ∀ f args h, LeO (M.call f args h) (M'.call f args h)
  loop : ∀ b b' env h, (∀ e h, LeO (b e h) (b' e h)) → LeO (M.loop b env h) (M'.loop b' env h)
  scope : ∀ b b' l env h, (∀ l e h, LeO (b l e h) (b' l e h)) → LeO (M.scope b l env h) (M'.scope b' l env h)
  meth : M.meth = M'.meth
section
variable {M M' : Env} (hM : LeM M M')
include hM
theorem z065 (op : AOp) (env : List V) (h : H) : LeO (sd M op env h) (sd M' op env h) := by
  cases op
  case call f as =>
    simp only [sd, step]
    exact LeO.bind (hM.call _ _ _) fun _ => LeO.refl _
  case callv f as =>
    simp only [sd, step]
    split
    · exact LeO.bind (hM.call _ _ _) fun _ => LeO.refl _
    · exact LeO.refl _
  case invoke m r as =>
    simp only [sd, step, hM.meth]
    split
    · exact LeO.bind (LeO.refl _) fun _ => LeO.bind (hM.call _ _ _) fun _ => LeO.refl _
    · exact LeO.refl _
  all_goals exact LeO.refl _
theorem z019 {R : Type} {env : List V} {h : H} {k k' : Option R} (hk : LeO k k') : ∀ (l : List Chk), LeO (chks env h k l) (chks env h k' l)
  | [] => hk
  | c :: l => by
    simp only [chks]
    split
    · exact z019 hk l
    · exact LeO.refl _
theorem z005 {R : Type} (i : AI) (env : List V) (h : H) {k k' : List V → H → Option R} (hk : ∀ e h, LeO (k e h) (k' e h)) : LeO (zee M i env h k) (zee M' i env h k') := by
  unfold zee
  rw [ztv, ztv]
  exact LeO.bind (z065 hM _ _ _) fun p => z019 hM (hk _ _) _
theorem zqs {R : Type} : ∀ (l : List AI) (env : List V) (h : H) {k k' : List V → H → Option R}, (∀ e h, LeO (k e h) (k' e h)) → LeO (z9y M l env h k) (z9y M' l env h k')
  | [], env, h, k, k', hk => hk env h
  | i :: l, env, h, k, k', hk => by
    simp only [z9y]
    exact z005 hM i env h fun e h => zqs l e h hk
theorem zbu {R : Type} : ∀ (l : AIs) (env : List V) (h : H) {k k' : List V → H → Option R}, (∀ e h, LeO (k e h) (k' e h)) → LeO (z1b M l env h k) (z1b M' l env h k')
  | .nil, env, h, k, k', hk => hk env h
  | .op i l, env, h, k, k', hk => by
    simp only [z1b]
    exact z005 hM i env h fun e h => zbu l e h hk
  | .grd g w b l, env, h, k, k', hk => by
    simp only [z1b]
    split
    · split
      · exact zqs hM b _ h fun e h => zbu l e h hk
      · exact zbu l _ h hk
    · split
      · exact zqs hM b _ h fun e h => zbu l e h hk
      · exact zbu l _ h hk
    · exact zbu l _ h hk
    · exact LeO.refl _
mutual
theorem z6n {R : Type} : ∀ (c : ACode) (env : List V) (h : H) {k k' : AX → List V → H → Option R}, (∀ x e h, LeO (k x e h) (k' x e h)) → LeO (z08 M c env h k) (z08 M' c env h k')
  | .skip, env, h, k, k', hk => hk _ env h
  | .ops l, env, h, k, k', hk => by
    simp only [z08]
    exact zbu hM l env h fun e h => hk _ e h
  | .seq a b, env, h, k, k', hk => by
    simp only [z08]
    refine z6n a env h fun x e h => ?_
    cases x with
    | normal => exact z6n b e h hk
    | exit id => exact hk _ e h
    | goto l => exact hk _ e h
    | ret => exact hk _ e h
  | .cond c a b, env, h, k, k', hk => by
    simp only [z08]
    refine LeO.bind (LeO.refl _) fun t => ?_
    cases t with
    | true => exact z6n a env h hk
    | false => exact z6n b env h hk
  | .block id a, env, h, k, k', hk => by
    simp only [z08]
    refine z6n a env h fun x e h => ?_
    cases x with
    | exit j => simp only; split <;> exact hk _ e h
    | normal => exact hk _ e h
    | goto l => exact hk _ e h
    | ret => exact hk _ e h
  | .join keep out a, env, h, k, k', hk => by
    simp only [z08]
    exact LeO.bind (z6n a _ h fun x e h => LeO.refl _) fun p => hk _ _ _
  | .loop keep out a, env, h, k, k', hk => by
    simp only [z08]
    exact LeO.bind (hM.loop _ _ _ _ fun e h => z6n a e h fun x e h => LeO.refl _) fun p => hk _ _ _
  | .scope keep out a alts, env, h, k, k', hk => by
    simp only [z08]
    refine LeO.bind (hM.scope _ _ _ _ _ fun l e h => ?_) fun p => hk _ _ _
    cases l with
    | zero => exact z6n a e h fun x e h => LeO.refl _
    | succ l => exact zux alts l e h fun x e h => LeO.refl _
  | .alt _ _ _, _, _, _, _, _ => LeO.refl _
  | .exit id, env, h, k, k', hk => hk _ env h
  | .goto id, env, h, k, k', hk => hk _ env h
  | .ret, env, h, k, k', hk => hk _ env h
theorem zux {R : Type} : ∀ (c : ACode) (l : Nat) (env : List V) (h : H) {k k' : AX → List V → H → Option R}, (∀ x e h, LeO (k x e h) (k' x e h)) → LeO (z0p M c l env h k) (z0p M' c l env h k')
  | .alt l' a more, l, env, h, k, k', hk => by
    simp only [z0p]
    split
    · exact z6n a env h hk
    · exact zux more l env h hk
  | .skip, _, _, _, _, _, _ => LeO.refl _
  | .ops _, _, _, _, _, _, _ => LeO.refl _
  | .seq _ _, _, _, _, _, _, _ => LeO.refl _
  | .cond _ _ _, _, _, _, _, _, _ => LeO.refl _
  | .block _ _, _, _, _, _, _, _ => LeO.refl _
  | .join _ _ _, _, _, _, _, _, _ => LeO.refl _
  | .loop _ _ _, _, _, _, _, _, _ => LeO.refl _
  | .scope _ _ _ _, _, _, _, _, _, _ => LeO.refl _
  | .exit _, _, _, _, _, _, _ => LeO.refl _
  | .goto _, _, _, _, _, _, _ => LeO.refl _
  | .ret, _, _, _, _, _, _ => LeO.refl _
end
theorem zyp (f : AFunc) (args : List V) (h : H) : LeO (z0g M f args h) (z0g M' f args h) := by
  unfold z0g
  split
  · exact z6n hM _ _ _ fun x e h => LeO.refl _
  · exact LeO.refl _
theorem zzy (f : AFunc) (args : List V) (h : H) : LeO (z9v M f args h) (z9v M' f args h) := by
  unfold z9v
  split
  · exact zyp hM f args h
  · split
    · exact LeO.bind (zyp hM f args _) fun p => LeO.refl _
    · exact LeO.refl _
end
theorem znl {b b' : List V → H → Option (AX × List V × H)} (hb : ∀ e h, LeO (b e h) (b' e h)) : ∀ {n m : Nat}, n ≤ m → ∀ (e : List V) (h : H), LeO (z3i b n e h) (z3i b' m e h)
  | 0, _, _, e, h => fun r hr => by simp [z3i] at hr
  | n + 1, m, hnm, e, h => by
    obtain ⟨m, rfl⟩ : ∃ k, m = k + 1 := ⟨m - 1, by omega⟩
    intro r hr
    simp only [z3i] at hr ⊢
    cases hbe : b e h with
    | none => rw [hbe] at hr; cases hr
    | some q =>
      rw [hbe] at hr
      rw [hb e h q hbe]
      obtain ⟨x, e1, h1⟩ := q
      cases x with
      | normal => exact znl hb (by omega) e1 h1 r hr
      | exit id => exact hr
      | goto id => exact hr
      | ret => exact hr
theorem zit {b b' : Nat → List V → H → Option (AX × List V × H)} (hb : ∀ l e h, LeO (b l e h) (b' l e h)) : ∀ {n m : Nat}, n ≤ m → ∀ (l : Nat) (e : List V) (h : H), LeO (z1o b n l e h) (z1o b' m l e h)
  | 0, _, _, l, e, h => fun r hr => by simp [z1o] at hr
  | n + 1, m, hnm, l, e, h => by
    obtain ⟨m, rfl⟩ : ∃ k, m = k + 1 := ⟨m - 1, by omega⟩
    intro r hr
    simp only [z1o] at hr ⊢
    cases hbe : b l e h with
    | none => rw [hbe] at hr; cases hr
    | some q =>
      rw [hbe] at hr
      rw [hb l e h q hbe]
      obtain ⟨x, e1, h1⟩ := q
      cases x with
      | goto j => exact zit hb (by omega) (j + 1) e1 h1 r hr
      | exit id => exact hr
      | normal => exact hr
      | ret => exact hr
open Classical in
noncomputable def lim {α : Type} (s : Nat → Option α) : Option α := if h : ∃ n, (s n).isSome = true then s h.choose else none
theorem zzu {α : Type} {s : Nat → Option α} (hs : ∀ n m, n ≤ m → LeO (s n) (s m)) {n : Nat} {a : α} (h : s n = some a) : lim s = some a := by
  unfold lim
  have hex : ∃ n, (s n).isSome = true := ⟨n, by rw [h]; rfl⟩
  rw [dif_pos hex]
  have hc := hex.choose_spec
  obtain ⟨b, hb⟩ := Option.isSome_iff_exists.mp hc
  rcases Nat.le_total n hex.choose with q | q
  · exact hs _ _ q a h
  · have := hs _ _ q b hb
    rw [h] at this; cases this; exact hb
theorem zfe {α : Type} {s : Nat → Option α} {a : α} (h : lim s = some a) : ∃ n, s n = some a := by
  unfold lim at h
  split at h
  · exact ⟨_, h⟩
  · cases h
noncomputable def loopW (b : List V → H → Option (AX × List V × H)) (e : List V) (h : H) : Option (AX × List V × H) := lim fun n => z3i b n e h
noncomputable def scopeW (b : Nat → List V → H → Option (AX × List V × H)) (l : Nat) (e : List V) (h : H) : Option (AX × List V × H) := lim fun n => z1o b n l e h
theorem znh {b : List V → H → Option (AX × List V × H)} {e : List V} {h : H} {n : Nat} {r : AX × List V × H} (hn : z3i b n e h = some r) : loopW b e h = some r :=
  zzu (s := fun n => z3i b n e h) (fun n m hnm => znl (fun _ _ => LeO.refl _) hnm e h) hn
theorem ziw {b : Nat → List V → H → Option (AX × List V × H)} {l : Nat} {e : List V} {h : H} {n : Nat} {r : AX × List V × H} (hn : z1o b n l e h = some r) : scopeW b l e h = some r :=
  zzu (s := fun n => z1o b n l e h) (fun n m hnm => zit (fun _ _ _ => LeO.refl _) hnm l e h) hn
theorem z05s {b b' : List V → H → Option (AX × List V × H)} (hb : ∀ e h, LeO (b e h) (b' e h)) (e : List V) (h : H) : LeO (loopW b e h) (loopW b' e h) := fun r hr => by
  obtain ⟨n, hn⟩ := zfe hr
  exact znh (znl hb (Nat.le_refl n) e h r hn)
theorem zxe {b b' : Nat → List V → H → Option (AX × List V × H)} (hb : ∀ l e h, LeO (b l e h) (b' l e h)) (l : Nat) (e : List V) (h : H) : LeO (scopeW b l e h) (scopeW b' l e h) := fun r hr => by
  obtain ⟨n, hn⟩ := zfe hr
  exact ziw (zit hb (Nat.le_refl n) l e h r hn)
section
variable (prog : Nat → Option AFunc) (meth : Nat → Nat → Option Nat)
noncomputable def envW (call : Nat → List V → H → Option (V × H)) : Env := { call, loop := loopW, scope := scopeW, meth }
noncomputable def callN : Nat → Nat → List V → H → Option (V × H)
  | 0, _, _, _ => none
  | n + 1, f, args, h => match prog f with
    | some af => z9v (envW meth (callN n)) af args h
    | none => none
noncomputable def callW (f : Nat) (args : List V) (h : H) : Option (V × H) := lim fun n => callN prog meth n f args h
variable {prog meth}
theorem zbp {c c' : Nat → List V → H → Option (V × H)} (h : ∀ f args hp, LeO (c f args hp) (c' f args hp)) : LeM (envW meth c) (envW meth c') :=
  ⟨h, fun _ _ e h hb => z05s hb e h, fun _ _ l e h hb => zxe hb l e h, rfl⟩
theorem zuk : ∀ {n m : Nat}, n ≤ m → ∀ f args h, LeO (callN prog meth n f args h) (callN prog meth m f args h)
  | 0, _, _, _, _, _ => fun r hr => by simp [callN] at hr
  | n + 1, m, hnm, f, args, h => by
    obtain ⟨m, rfl⟩ : ∃ k, m = k + 1 := ⟨m - 1, by omega⟩
    simp only [callN]
    split
    · exact zzy (zbp fun f args h => zuk (by omega) f args h) _ _ _
    · exact LeO.refl _
theorem zzw {n f : Nat} {args : List V} {h : H} {r : V × H} (hn : callN prog meth n f args h = some r) : callW prog meth f args h = some r :=
  zzu (s := fun n => callN prog meth n f args h) (fun _ _ hnm => zuk hnm f args h) hn
theorem z036 (r : Nat) : ∀ (n f : Nat) (args : List V) (h : H), LeO (run prog meth r n f args h) (callN prog meth n f args h)
  | 0, _, _, _ => fun q hq => by simp [run] at hq
  | n + 1, f, args, h => by
    simp only [run, callN]
    cases prog f with
    | none => exact LeO.refl _
    | some af =>
      refine zzy (M := { call := run prog meth r n, loop := fun body env h => z3i body r env h, scope := fun body l env h => z1o body r l env h, meth }) (M' := envW meth (callN prog meth n)) ⟨fun f args h => z036 r n f args h, fun b b' e h hb q hq => ?_, fun b b' l e h hb q hq => ?_, rfl⟩ _ _ _
      · exact znh (znl hb (Nat.le_refl r) e h q hq)
      · exact ziw (zit hb (Nat.le_refl r) l e h q hq)
theorem zx4 {r n f : Nat} {args : List V} {h : H} {q : V × H} (hq : run prog meth r n f args h = some q) : callW prog meth f args h = some q :=
  zzw (z036 r n f args h q hq)
section
variable {c : Nat → Nat → List V → H → Option (V × H)} {cw : Nat → List V → H → Option (V × H)}
structure Chain (c : Nat → Nat → List V → H → Option (V × H)) (cw : Nat → List V → H → Option (V × H)) : Prop where
  le : ∀ n m, n ≤ m → ∀ f args h, LeO (c n f args h) (c m f args h)
  lim : ∀ f args h r, cw f args h = some r → ∃ n, c n f args h = some r
variable (hc : Chain c cw)
include hc
theorem z083 {op : AOp} {env : List V} {h : H} {r : V × H} (hs : sd (envW meth cw) op env h = some r) : ∃ n, sd (envW meth (c n)) op env h = some r := by
  cases op
  case call f as =>
    simp only [sd, step, Option.bind_eq_some_iff] at hs ⊢
    obtain ⟨p, hp, hr⟩ := hs
    obtain ⟨n, hn⟩ := hc.lim _ _ _ _ hp
    exact ⟨n, p, hn, hr⟩
  case callv f as =>
    simp only [sd, step] at hs ⊢
    split at hs
    · simp only [Option.bind_eq_some_iff] at hs ⊢
      obtain ⟨p, hp, hr⟩ := hs
      obtain ⟨n, hn⟩ := hc.lim _ _ _ _ hp
      exact ⟨n, p, hn, hr⟩
    · cases hs
  case invoke m r as =>
    simp only [sd, step] at hs ⊢
    split at hs
    · simp only [Option.bind_eq_some_iff] at hs ⊢
      obtain ⟨g, hg, p, hp, hr⟩ := hs
      obtain ⟨n, hn⟩ := hc.lim _ _ _ _ hp
      exact ⟨n, g, hg, p, hn, hr⟩
    · cases hs
  all_goals exact ⟨0, hs⟩
def KLim {ι R : Type} (kn : Nat → ι → Option R) (k : ι → Option R) : Prop := (∀ n m, n ≤ m → ∀ i, LeO (kn n i) (kn m i)) ∧ ∀ i r, k i = some r → ∃ n, kn n i = some r
omit hc in
theorem KLim.const {ι R : Type} (k : ι → Option R) : KLim (fun _ => k) k := ⟨fun _ _ _ _ => LeO.refl _, fun _ _ h => ⟨0, h⟩⟩
theorem zxb {R : Type} {i : AI} {env : List V} {h : H} {kn : Nat → List V × H → Option R} {k : List V × H → Option R} (hk : KLim kn k) {r : R}
    (hs : zee (envW meth cw) i env h (fun e h => k (e, h)) = some r) : ∃ n, zee (envW meth (c n)) i env h (fun e h => kn n (e, h)) = some r := by
  obtain ⟨v, h1, h2, h3, h4⟩ := zeq hs
  obtain ⟨n, hn⟩ := z083 hc h2
  obtain ⟨m, hm⟩ := hk.2 _ _ h4
  refine ⟨max n m, ?_⟩
  have hn' := z065 (zbp (meth := meth) fun f args h => hc.le n (max n m) (Nat.le_max_left _ _) f args h) _ _ _ _ hn
  have hm' := hk.1 m (max n m) (Nat.le_max_right _ _) _ _ hm
  unfold zee
  rw [ztv, hn', Option.bind_some]
  have : ∀ (l : List Chk), l.all (fun c => c.ok env h1) = true → chks env h1 (kn (max n m) (put env i.dst v, h1)) l = some r := by
    intro l
    induction l with
    | nil => intro _; exact hm'
    | cons x l ih =>
      intro hl
      simp only [List.all_cons, Bool.and_eq_true] at hl
      simp only [chks, hl.1]
      exact ih hl.2
  exact this _ h3
theorem zx7 {R : Type} {kn : Nat → List V × H → Option R} {k : List V × H → Option R} (hk : KLim kn k) {r : R} : ∀ {l : List AI} {env : List V} {h : H},
    z9y (envW meth cw) l env h (fun e h => k (e, h)) = some r → ∃ n, z9y (envW meth (c n)) l env h (fun e h => kn n (e, h)) = some r
  | [], env, h, hs => hk.2 _ _ hs
  | i :: l, env, h, hs => by
    simp only [z9y] at hs ⊢
    refine zxb hc (kn := fun n p => z9y (envW meth (c n)) l p.1 p.2 fun e h => kn n (e, h)) (k := fun p => z9y (envW meth cw) l p.1 p.2 fun e h => k (e, h)) ⟨?_, ?_⟩ hs
    · intro n m hnm p
      exact zqs (zbp fun f args h => hc.le n m hnm f args h) l _ _ fun e h => hk.1 n m hnm _
    · intro p r hr
      exact zx7 hk hr
theorem zf4 {R : Type} {kn : Nat → List V × H → Option R} {k : List V × H → Option R} (hk : KLim kn k) {r : R} : ∀ {l : AIs} {env : List V} {h : H},
    z1b (envW meth cw) l env h (fun e h => k (e, h)) = some r → ∃ n, z1b (envW meth (c n)) l env h (fun e h => kn n (e, h)) = some r
  | .nil, env, h, hs => hk.2 _ _ hs
  | .op i l, env, h, hs => by
    simp only [z1b] at hs ⊢
    refine zxb hc (kn := fun n p => z1b (envW meth (c n)) l p.1 p.2 fun e h => kn n (e, h)) (k := fun p => z1b (envW meth cw) l p.1 p.2 fun e h => k (e, h)) ⟨?_, ?_⟩ hs
    · intro n m hnm p
      exact zbu (zbp fun f args h => hc.le n m hnm f args h) l _ _ fun e h => hk.1 n m hnm _
    · intro p r hr
      exact zf4 hk hr
  | .grd g w b l, env, h, hs => by
    have hB : ∀ env', z9y (envW meth cw) b env' h (fun env h => z1b (envW meth cw) l env h fun e h => k (e, h)) = some r → ∃ n, z9y (envW meth (c n)) b env' h (fun env h => z1b (envW meth (c n)) l env h fun e h => kn n (e, h)) = some r := by
      intro env' hs
      refine zx7 hc (kn := fun n p => z1b (envW meth (c n)) l p.1 p.2 fun e h => kn n (e, h)) (k := fun p => z1b (envW meth cw) l p.1 p.2 fun e h => k (e, h)) ⟨?_, ?_⟩ hs
      · intro n m hnm p
        exact zbu (zbp fun f args h => hc.le n m hnm f args h) l _ _ fun e h => hk.1 n m hnm _
      · intro p r hr
        exact zf4 hk hr
    simp only [z1b] at hs ⊢
    split at hs
    · split at hs
      · exact hB _ hs
      · exact zf4 hk hs
    · split at hs
      · exact hB _ hs
      · exact zf4 hk hs
    · exact zf4 hk hs
    · cases hs
theorem zww {bn : Nat → List V → H → Option (AX × List V × H)} {b : List V → H → Option (AX × List V × H)} (h1 : ∀ n m, n ≤ m → ∀ e h, LeO (bn n e h) (bn m e h)) (h2 : ∀ e h r, b e h = some r → ∃ n, bn n e h = some r) :
    ∀ {m : Nat} {e : List V} {h : H} {r : AX × List V × H}, z3i b m e h = some r → ∃ n, z3i (bn n) m e h = some r
  | 0, _, _, _, hs => by simp [z3i] at hs
  | m + 1, e, h, r, hs => by
    simp only [z3i] at hs
    cases hb : b e h with
    | none => rw [hb] at hs; cases hs
    | some q =>
      obtain ⟨n1, hn1⟩ := h2 e h q hb
      rw [hb] at hs
      obtain ⟨x, e1, hh1⟩ := q
      cases x with
      | normal =>
        obtain ⟨n2, hn2⟩ := zww h1 h2 hs
        refine ⟨max n1 n2, ?_⟩
        simp only [z3i, h1 n1 _ (Nat.le_max_left _ _) e h _ hn1]
        exact znl (fun e h => h1 n2 _ (Nat.le_max_right _ _) e h) (Nat.le_refl m) e1 hh1 r hn2
      | exit id => exact ⟨n1, by simp only [z3i, hn1]; exact hs⟩
      | goto id => exact ⟨n1, by simp only [z3i, hn1]; exact hs⟩
      | ret => exact ⟨n1, by simp only [z3i, hn1]; exact hs⟩
theorem zvr {bn : Nat → Nat → List V → H → Option (AX × List V × H)} {b : Nat → List V → H → Option (AX × List V × H)} (h1 : ∀ n m, n ≤ m → ∀ l e h, LeO (bn n l e h) (bn m l e h)) (h2 : ∀ l e h r, b l e h = some r → ∃ n, bn n l e h = some r) :
    ∀ {m l : Nat} {e : List V} {h : H} {r : AX × List V × H}, z1o b m l e h = some r → ∃ n, z1o (bn n) m l e h = some r
  | 0, _, _, _, _, hs => by simp [z1o] at hs
  | m + 1, l, e, h, r, hs => by
    simp only [z1o] at hs
    cases hb : b l e h with
    | none => rw [hb] at hs; cases hs
    | some q =>
      obtain ⟨n1, hn1⟩ := h2 l e h q hb
      rw [hb] at hs
      obtain ⟨x, e1, hh1⟩ := q
      cases x with
      | goto j =>
        obtain ⟨n2, hn2⟩ := zvr h1 h2 hs
        refine ⟨max n1 n2, ?_⟩
        simp only [z1o, h1 n1 _ (Nat.le_max_left _ _) l e h _ hn1]
        exact zit (fun l e h => h1 n2 _ (Nat.le_max_right _ _) l e h) (Nat.le_refl m) (j + 1) e1 hh1 r hn2
      | exit id => exact ⟨n1, by simp only [z1o, hn1]; exact hs⟩
      | normal => exact ⟨n1, by simp only [z1o, hn1]; exact hs⟩
      | ret => exact ⟨n1, by simp only [z1o, hn1]; exact hs⟩
mutual
theorem zav {R : Type} : ∀ {a : ACode} {env : List V} {h : H} {kn : Nat → AX × List V × H → Option R} {k : AX × List V × H → Option R} (_ : KLim kn k) {r : R},
    z08 (envW meth cw) a env h (fun x e h => k (x, e, h)) = some r → ∃ n, z08 (envW meth (c n)) a env h (fun x e h => kn n (x, e, h)) = some r
  | .skip, env, h, kn, k, hk, r, hs => hk.2 _ _ hs
  | .ops l, env, h, kn, k, hk, r, hs => by
    simp only [z08] at hs ⊢
    exact zf4 hc (kn := fun n p => kn n (.normal, p.1, p.2)) (k := fun p => k (.normal, p.1, p.2)) ⟨fun n m hnm p => hk.1 n m hnm _, fun p r hr => hk.2 _ _ hr⟩ hs
  | .seq a b, env, h, kn, k, hk, r, hs => by
    simp only [z08] at hs ⊢
    refine zav (a := a) (kn := fun n p => match p.1 with
      | .normal => z08 (envW meth (c n)) b p.2.1 p.2.2 fun x e h => kn n (x, e, h)
      | x => kn n (x, p.2.1, p.2.2)) (k := fun p => match p.1 with
      | .normal => z08 (envW meth cw) b p.2.1 p.2.2 fun x e h => k (x, e, h)
      | x => k (x, p.2.1, p.2.2)) ⟨?_, ?_⟩ hs
    · rintro n m hnm ⟨x, e, h⟩
      cases x with
      | normal => exact z6n (zbp fun f args h => hc.le n m hnm f args h) b e h fun x e h => hk.1 n m hnm _
      | exit id => exact hk.1 n m hnm _
      | goto id => exact hk.1 n m hnm _
      | ret => exact hk.1 n m hnm _
    · rintro ⟨x, e, h⟩ r hr
      cases x with
      | normal => exact zav (a := b) hk hr
      | exit id => exact hk.2 _ _ hr
      | goto id => exact hk.2 _ _ hr
      | ret => exact hk.2 _ _ hr
  | .cond cd a b, env, h, kn, k, hk, r, hs => by
    simp only [z08, Option.bind_eq_some_iff] at hs ⊢
    obtain ⟨t, ht, hs⟩ := hs
    cases t with
    | true => obtain ⟨n, hn⟩ := zav (a := a) hk hs; exact ⟨n, true, ht, hn⟩
    | false => obtain ⟨n, hn⟩ := zav (a := b) hk hs; exact ⟨n, false, ht, hn⟩
  | .block id a, env, h, kn, k, hk, r, hs => by
    simp only [z08] at hs ⊢
    refine zav (a := a) (kn := fun n p => match p.1 with
      | .exit j => match Nat.beq j id with
        | true => kn n (.normal, p.2.1, p.2.2)
        | false => kn n (.exit j, p.2.1, p.2.2)
      | x => kn n (x, p.2.1, p.2.2)) (k := fun p => match p.1 with
      | .exit j => match Nat.beq j id with
        | true => k (.normal, p.2.1, p.2.2)
        | false => k (.exit j, p.2.1, p.2.2)
      | x => k (x, p.2.1, p.2.2)) ⟨?_, ?_⟩ hs
    · rintro n m hnm ⟨x, e, h⟩
      cases x with
      | normal => exact hk.1 n m hnm _
      | exit j => simp only; split <;> exact hk.1 n m hnm _
      | goto j => exact hk.1 n m hnm _
      | ret => exact hk.1 n m hnm _
    · rintro ⟨x, e, h⟩ r hr
      cases x with
      | normal => exact hk.2 _ _ hr
      | exit j =>
        simp only at hr ⊢
        split at hr
        · exact hk.2 _ _ hr
        · exact hk.2 _ _ hr
      | goto j => exact hk.2 _ _ hr
      | ret => exact hk.2 _ _ hr
  | .join keep out a, env, h, kn, k, hk, r, hs => by
    simp only [z08, Option.bind_eq_some_iff] at hs ⊢
    obtain ⟨p, hl, hs⟩ := hs
    obtain ⟨n1, hn1⟩ := zav (a := a) (kn := fun _ p => some (p.1, zt out 0 p.2.1, p.2.2)) (k := fun p => some (p.1, zt out 0 p.2.1, p.2.2)) (KLim.const _) hl
    obtain ⟨n2, hn2⟩ := hk.2 _ _ hs
    refine ⟨max n1 n2, p, ?_, hk.1 n2 _ (Nat.le_max_right _ _) _ _ hn2⟩
    exact z6n (zbp fun f args h => hc.le n1 _ (Nat.le_max_left _ _) f args h) a _ h (fun x e h => LeO.refl _) p hn1
  | .loop keep out a, env, h, kn, k, hk, r, hs => by
    simp only [z08, Option.bind_eq_some_iff] at hs ⊢
    obtain ⟨p, hl, hs⟩ := hs
    obtain ⟨m, hm⟩ := zfe (show lim (fun n => z3i _ n _ h) = some p from hl)
    obtain ⟨n1, hn1⟩ := zww hc (bn := fun n env h => z08 (envW meth (c n)) a env h fun x env h => match x with
      | .normal => some (.normal, zt keep 0 env, h)
      | x => some (x, zt out 0 env, h)) (fun n m hnm e h => z6n (zbp fun f args h => hc.le n m hnm f args h) a e h fun x e h => LeO.refl _)
      (fun e h r hr => zav (a := a) (kn := fun _ p => match p.1 with
        | .normal => some (.normal, zt keep 0 p.2.1, p.2.2)
        | x => some (x, zt out 0 p.2.1, p.2.2)) (k := fun p => match p.1 with
        | .normal => some (.normal, zt keep 0 p.2.1, p.2.2)
        | x => some (x, zt out 0 p.2.1, p.2.2)) (KLim.const _) hr) hm
    obtain ⟨n2, hn2⟩ := hk.2 _ _ hs
    refine ⟨max n1 n2, p, ?_, hk.1 n2 _ (Nat.le_max_right _ _) _ _ hn2⟩
    exact (zbp (meth := meth) fun f args h => hc.le n1 (max n1 n2) (Nat.le_max_left _ _) f args h).loop _ _ _ _ (fun e h => z6n (zbp fun f args h => hc.le n1 _ (Nat.le_max_left _ _) f args h) a e h fun x e h => LeO.refl _) p (znh hn1)
  | .scope keep out a alts, env, h, kn, k, hk, r, hs => by
    simp only [z08, Option.bind_eq_some_iff] at hs ⊢
    obtain ⟨p, hl, hs⟩ := hs
    obtain ⟨m, hm⟩ := zfe (show lim (fun n => z1o _ n 0 env h) = some p from hl)
    have hle : ∀ n m, n ≤ m → ∀ l e h, LeO ((fun (n : Nat) (l : Nat) (env : List V) (h : H) => (match (generalizing := false) l with
        | 0 => z08 (envW meth (c n)) a env h fun x env h => match x with
          | .goto j => some (AX.goto j, zt keep 0 env, h)
          | x => some (x, zt out 0 env, h)
        | l + 1 => z0p (envW meth (c n)) alts l env h fun x env h => match x with
          | .goto j => some (AX.goto j, zt keep 0 env, h)
          | x => some (x, zt out 0 env, h) : Option (AX × List V × H))) n l e h) ((fun (n : Nat) (l : Nat) (env : List V) (h : H) => (match (generalizing := false) l with
        | 0 => z08 (envW meth (c n)) a env h fun x env h => match x with
          | .goto j => some (AX.goto j, zt keep 0 env, h)
          | x => some (x, zt out 0 env, h)
        | l + 1 => z0p (envW meth (c n)) alts l env h fun x env h => match x with
          | .goto j => some (AX.goto j, zt keep 0 env, h)
          | x => some (x, zt out 0 env, h) : Option (AX × List V × H))) m l e h) := by
      intro n m hnm l e h
      cases l with
      | zero => exact z6n (zbp fun f args h => hc.le n m hnm f args h) a e h fun x e h => LeO.refl _
      | succ l => exact zux (zbp fun f args h => hc.le n m hnm f args h) alts l e h fun x e h => LeO.refl _
    obtain ⟨n1, hn1⟩ := zvr hc (bn := fun (n : Nat) (l : Nat) (env : List V) (h : H) => (match (generalizing := false) l with
        | 0 => z08 (envW meth (c n)) a env h fun x env h => match x with
          | .goto j => some (AX.goto j, zt keep 0 env, h)
          | x => some (x, zt out 0 env, h)
        | l + 1 => z0p (envW meth (c n)) alts l env h fun x env h => match x with
          | .goto j => some (AX.goto j, zt keep 0 env, h)
          | x => some (x, zt out 0 env, h) : Option (AX × List V × H))) hle
      (fun l e h r hr => by
        cases l with
        | zero => exact zav (a := a) (kn := fun _ p => match p.1 with
            | .goto j => some (AX.goto j, zt keep 0 p.2.1, p.2.2)
            | x => some (x, zt out 0 p.2.1, p.2.2)) (k := fun p => match p.1 with
            | .goto j => some (AX.goto j, zt keep 0 p.2.1, p.2.2)
            | x => some (x, zt out 0 p.2.1, p.2.2)) (KLim.const _) hr
        | succ l => exact zxo (a := alts) (kn := fun _ p => match p.1 with
            | .goto j => some (AX.goto j, zt keep 0 p.2.1, p.2.2)
            | x => some (x, zt out 0 p.2.1, p.2.2)) (k := fun p => match p.1 with
            | .goto j => some (AX.goto j, zt keep 0 p.2.1, p.2.2)
            | x => some (x, zt out 0 p.2.1, p.2.2)) (KLim.const _) hr) hm
    obtain ⟨n2, hn2⟩ := hk.2 _ _ hs
    refine ⟨max n1 n2, p, ?_, hk.1 n2 _ (Nat.le_max_right _ _) _ _ hn2⟩
    exact zxe (fun l e h => hle n1 (max n1 n2) (Nat.le_max_left _ _) l e h) 0 env h p (ziw hn1)
  | .alt _ _ _, _, _, _, _, _, _, hs => by simp [z08] at hs
  | .exit id, env, h, kn, k, hk, r, hs => hk.2 _ _ hs
  | .goto id, env, h, kn, k, hk, r, hs => hk.2 _ _ hs
  | .ret, env, h, kn, k, hk, r, hs => hk.2 _ _ hs
theorem zxo {R : Type} : ∀ {a : ACode} {l : Nat} {env : List V} {h : H} {kn : Nat → AX × List V × H → Option R} {k : AX × List V × H → Option R} (_ : KLim kn k) {r : R},
    z0p (envW meth cw) a l env h (fun x e h => k (x, e, h)) = some r → ∃ n, z0p (envW meth (c n)) a l env h (fun x e h => kn n (x, e, h)) = some r
  | .alt l' a more, l, env, h, kn, k, hk, r, hs => by
    simp only [z0p] at hs ⊢
    split at hs
    · exact zav (a := a) hk hs
    · exact zxo (a := more) hk hs
  | .skip, _, _, _, _, _, _, _, hs => by simp [z0p] at hs
  | .ops _, _, _, _, _, _, _, _, hs => by simp [z0p] at hs
  | .seq _ _, _, _, _, _, _, _, _, hs => by simp [z0p] at hs
  | .cond _ _ _, _, _, _, _, _, _, _, hs => by simp [z0p] at hs
  | .block _ _, _, _, _, _, _, _, _, hs => by simp [z0p] at hs
  | .join _ _ _, _, _, _, _, _, _, _, hs => by simp [z0p] at hs
  | .loop _ _ _, _, _, _, _, _, _, _, hs => by simp [z0p] at hs
  | .scope _ _ _ _, _, _, _, _, _, _, _, hs => by simp [z0p] at hs
  | .exit _, _, _, _, _, _, _, _, hs => by simp [z0p] at hs
  | .goto _, _, _, _, _, _, _, _, hs => by simp [z0p] at hs
  | .ret, _, _, _, _, _, _, _, hs => by simp [z0p] at hs
end
theorem zx3 {f : AFunc} {args : List V} {h : H} {r : V × H} (hs : z0g (envW meth cw) f args h = some r) : ∃ n, z0g (envW meth (c n)) f args h = some r := by
  unfold z0g at hs ⊢
  split at hs
  · rename_i hb
    obtain ⟨n, hn⟩ := zav hc (kn := fun _ p => fin f p.1 p.2.1 p.2.2) (k := fun p => fin f p.1 p.2.1 p.2.2) (KLim.const _) hs
    exact ⟨n, hn⟩
  · cases hs
theorem z03h {f : AFunc} {args : List V} {h : H} {r : V × H} (hs : z9v (envW meth cw) f args h = some r) : ∃ n, z9v (envW meth (c n)) f args h = some r := by
  unfold z9v at hs ⊢
  split at hs
  · exact zx3 hc hs
  · split at hs
    · simp only [Option.bind_eq_some_iff] at hs
      obtain ⟨p, hp, hs⟩ := hs
      obtain ⟨n, hn⟩ := zx3 hc hp
      exact ⟨n, by rw [hn]; exact hs⟩
    · cases hs
end
theorem z07t : Chain (callN prog meth) (callW prog meth) := ⟨fun _ _ hnm f args h => zuk hnm f args h, fun _ _ _ _ h => zfe h⟩
theorem zuu {f : Nat} {af : AFunc} (hf : prog f = some af) {args : List V} {h : H} {r : V × H} (hs : z9v (envW meth (callW prog meth)) af args h = some r) : callW prog meth f args h = some r := by
  obtain ⟨n, hn⟩ := z03h z07t hs
  exact zzw (n := n + 1) (by simp only [callN, hf]; exact hn)
theorem z00x {call : Nat → List V → H → Option (V × H)} : LoopOk (envW meth call) := ⟨fun _ _ _ _ h => zfe h, fun _ _ _ _ _ h => zfe h⟩
theorem zzv {P : Program} {tab : Tab} (hm : P.follows .mixedOrders = true) (hP : ProgOk P tab prog) (hM : MethOk P tab meth) : ∀ n, z9o P tab (callN prog meth n) ∧ NdOk (callN prog meth n)
  | 0 => ⟨fun f args h v h' e => by simp [callN] at e, fun f args h v h' e => by simp [callN] at e⟩
  | n + 1 => by
    obtain ⟨ih1, ih2⟩ := zzv hm hP hM n
    constructor
    · intro f args h v h' e k hk
      simp only [callN] at e
      split at e
      · rename_i af hf
        obtain ⟨hcl, fn, hs, hfn, hcomp⟩ := hP f af hf k hk
        exact ⟨hcl, fun β w cargs hR hF ha => z04m hm ih1 hM ih2 z00x hfn hcomp e hR hF ha⟩
      · cases e
    · intro f args h v h' e
      simp only [callN] at e
      split at e
      · exact z04e ih2 z00x e
      · cases e
theorem z04j {P : Program} {tab : Tab} (hm : P.follows .mixedOrders = true) (hP : ProgOk P tab prog) (hM : MethOk P tab meth) : z9o P tab (callW prog meth) := fun f args h v h' e => by
  obtain ⟨n, hn⟩ := zfe e
  exact (zzv hm hP hM n).1 f args h v h' hn
end
end Wm
