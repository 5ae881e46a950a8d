/- Functions, and whole runs. -/
import Derived.Test.YthkimcdeejjmbaaWmCode
set_option linter.all false
namespace Wm
open Go (Value Addr World Obj Program IntKind TypeId Oper Operand Act Exit Sem TypeDesc Code Func)
section
variable {P : Program} {tab : Tab}
def zif (tmps : Array Value) : Go.ResultVar → Sem Value
  | .tmp t => pure (tmps.getD t Go.undef)
  | .cell a t => do Go.loadVar t (← Go.asAddr (tmps.getD a Go.undef))
theorem z07d {α : Type} {f : α → Sem Value} {w : World} : ∀ {l : List α} {cs : List Value}, l.length = cs.length → (∀ (i : Nat) x c, l[i]? = some x → cs[i]? = some c → (f x).run P w = .ok c w) → (l.mapM f).run P w = .ok cs w
  | [], [], _, _ => by simp
  | x :: l, c :: cs, hl, h => by
    have h1 := h 0 x c rfl rfl
    have h2 := z07d (f := f) (l := l) (cs := cs) (by simpa using hl) fun i x c a b => h (i + 1) x c (by simpa using a) (by simpa using b)
    simp [List.mapM_cons, h1, h2]
  | [], _ :: _, hl, _ => by simp at hl
  | _ :: _, [], hl, _ => by simp at hl
theorem z06a {β : Nat → Option Loc} {env : List V} {h : H} {w : World} {tmps : Array Value} (hR : Rel tab β h.get w) (hE : RVs tab β env tmps.toList) {r : Go.ResultVar} {A : ARes} (hc : cRes P r = some A) {v : V} (hv : zo2 env h A = some v) :
    ∃ c, (zif tmps r).run P w = .ok c w ∧ RV tab β v c := by
  cases r with
  | tmp t =>
    simp only [cRes, Option.some.injEq] at hc
    subst hc
    simp only [zo2, Option.some.injEq] at hv
    subst hv
    refine ⟨tmps.getD t Go.undef, by simp [zif], ?_⟩
    rw [zou]; exact RVs.getD hE t
  | cell a t =>
    simp only [cRes, Option.map_eq_some_iff] at hc
    obtain ⟨d, hu, rfl⟩ := hc
    have hx : RV tab β (env.getD a .undef) (tmps.getD a Go.undef) := by rw [zou]; exact RVs.getD hE a
    cases hag : z3e P t with
    | true =>
      rw [hag] at hv
      simp only [zo2] at hv
      obtain ⟨B, O, dd, hcv, hcell, hr⟩ := z00y (P := P) hR hx hv
      refine ⟨.agg dd, ?_, hr⟩
      simp [zif, hcv, Go.asAddr, Go.loadVar, zje hu, hag, zmv hu, hcell]
    | false =>
      rw [hag] at hv
      simp only [zo2] at hv
      obtain ⟨B, O, cv, hcv, hcell, hr, _⟩ := z01a hR hx hv
      refine ⟨cv, ?_, hr⟩
      simp [zif, hcv, Go.asAddr, Go.loadVar, zje hu, hag, hcell]
theorem z01i (fn : Func) (tmps : Array Value) : Go.results fn tmps = (do
    let vs ← fn.results.mapM (zif tmps)
    pure (if h : vs.size = 1 then vs[0] else .tuple vs)) := by
  unfold Go.results
  congr 1
theorem zw0 {β : Nat → Option Loc} {env : List V} {h : H} {w : World} {tmps : Array Value} (hR : Rel tab β h.get w) (hE : RVs tab β env tmps.toList) : ∀ {rs : List Go.ResultVar} {As : List ARes} {vs : List V}, z3s (rs.map (cRes P)) = some As → zgu env h As = some vs →
    ∃ cs : List Value, (rs.mapM (zif tmps)).run P w = .ok cs w ∧ RVs tab β vs cs
  | [], As, vs, hc, hv => by
    simp [z3s] at hc; subst hc
    simp [zgu] at hv; subst hv
    exact ⟨[], by simp, rfl⟩
  | r :: rs, As, vs, hc, hv => by
    rw [List.map_cons] at hc
    cases h1 : cRes P r with
    | none => rw [h1] at hc; simp [z3s] at hc
    | some A =>
      rw [h1] at hc
      simp only [z3s] at hc
      split at hc
      · rename_i As' hA
        cases hc
        simp only [zgu] at hv
        split at hv
        · rename_i v hv1
          split at hv
          · rename_i vs' hv2
            cases hv
            obtain ⟨c, hc1, hc2⟩ := z06a hR hE h1 hv1
            obtain ⟨cs, hcs1, hcs2⟩ := zw0 hR hE hA hv2
            exact ⟨c :: cs, by simp [List.mapM_cons, hc1, hcs1], RVs.cons hc2 hcs2⟩
          · cases hv
        · cases hv
      · cases hc
theorem z00b {β : Nat → Option Loc} {env : List V} {h : H} {w : World} {fn : Func} {tmps : Array Value} (hR : Rel tab β h.get w) (hE : RVs tab β env tmps.toList) {As : List ARes} {vs : List V} (hc : z3s (fn.results.toList.map (cRes P)) = some As) (hv : zgu env h As = some vs) :
    ∃ c, (Go.results fn tmps).run P w = .ok c w ∧ RV tab β (z2n vs) c := by
  obtain ⟨cs, h1, h2⟩ := zw0 hR hE hc hv
  have h3 : (fn.results.mapM (zif tmps)).run P w = .ok cs.toArray w := by
    rw [Array.mapM_eq_mapM_toList]
    simp [h1]
  refine ⟨if h : cs.toArray.size = 1 then cs.toArray[0] else .tuple cs.toArray, by rw [z01i]; simp [h3], ?_⟩
  unfold z2n
  split
  · rename_i v
    obtain ⟨y, ys, rfl, hy, hys⟩ := h2
    cases hys
    exact hy
  · rename_i hne
    have hl := RVs.length h2
    have : ¬ cs.toArray.size = 1 := by
      intro e
      have e' : vs.length = 1 := by rw [hl]; simpa using e
      obtain ⟨v, rfl⟩ := List.length_eq_one_iff.mp e'
      exact hne v rfl
    rw [dif_neg this]
    exact ⟨cs.toArray, rfl, h2⟩
theorem z00v {β : Nat → Option Loc} : ∀ n, RVs tab β (und n) (List.replicate n Go.undef)
  | 0 => rfl
  | n + 1 => RVs.cons RV.undef (z00v n)
def ProgOk (P : Program) (tab : Tab) (prog : Nat → Option AFunc) : Prop :=
  ∀ f af, prog f = some af → ∀ k, z6e tab.fn k = some f → zdq P k = true ∧ ∃ fn hs, P.funcs[k]? = some fn ∧ comp P tab af.closed hs fn = some af
theorem z04i {M : Env} (hN : NdOk M.call) (hL : LoopOk M) {f : AFunc} {args : List V} {h h' : H} {v : V} (he : z0g M f args h = some (v, h')) : Nd h h' := by
  unfold z0g at he
  split at he
  · obtain ⟨x, e1, h1, n1, hx⟩ := z81 hN hL (c := f.body) he
    unfold fin at hx
    split at hx
    · split at hx
      · cases hx; exact n1
      · cases hx
    · split at hx
      · cases hx; exact n1
      · cases hx
    · cases hx
  · cases he
theorem zzg {M : Env} (hm : P.follows .mixedOrders = true) (hC : z9o P tab M.call) (hM : MethOk P tab M.meth) (hN : NdOk M.call) (hL : LoopOk M) {k : Nat} {fn : Func} {hs : z7f} {cl : Bool} {af : AFunc} (hk : P.funcs[k]? = some fn) (hc : comp P tab cl hs fn = some af)
    {args : List V} {h h' : H} {v : V} (he : z0g M af args h = some (v, h')) {β : Nat → Option Loc} {w : World} {cargs : Array Value} (hR : Rel tab β h.get w) (hF : zbm β h h') (ha : RVs tab β args cargs.toList) :
    Go.Calls P k cargs w fun e w' => ∃ cv, e = .returned cv ∧ Post tab β h w v h' cv w' := by
  unfold comp at hc
  simp only [Option.bind_eq_some_iff, Option.map_eq_some_iff] at hc
  obtain ⟨c, hb, p, hp, r, hr, rfl⟩ := hc
  unfold z0g at he
  split at he
  · rename_i hlen
    have hlen := Nat.eq_of_beq_eq_true hlen
    refine Go.calls_of_wp hk hb ((z06q hm hC hM hN hL c).1 hp _ _ _ h'.next _ h β _ w _ he hR ?_ hF ?_ ?_)
    · show RVs tab β (args ++ und (fn.ntmps - args.length)) (cargs ++ Array.replicate (fn.ntmps - cargs.size) Go.undef).toList
      have : cargs.size = args.length := by rw [RVs.length ha]; simp
      rw [this]
      simpa using ha.append (z00v _)
    · intro x env' h1 hx
      unfold fin at hx
      split at hx
      · split at hx
        · cases hx; exact Nat.le_refl _
        · cases hx
      · split at hx
        · cases hx; exact Nat.le_refl _
        · cases hx
      · cases hx
    · intro x env' h1 a' w' β' hx hE' hR' ht' hd'
      have fin_ok : ∀ vs, zgu env' h1 r = some vs → some (z2n vs, h1) = some (v, h') → a'.defers = [] ∧ ∃ cv, (Go.results fn a'.tmps).run P w' = .ok cv w' ∧ ∃ cv', Go.Ending.returned cv = .returned cv' ∧ Post tab β h w v h' cv' w' := by
        intro vs hvs e
        cases e
        obtain ⟨cv, h2, h3⟩ := z00b hR' hE' hr hvs
        exact ⟨hd', cv, h2, cv, rfl, β', h3, hR', ht'⟩
      unfold fin at hx
      split at hx
      · split at hx
        · rename_i vs hvs; exact fin_ok vs hvs hx
        · cases hx
      · split at hx
        · rename_i vs hvs; exact fin_ok vs hvs hx
        · cases hx
      · cases hx
  · cases he
mutual
theorem zul {β β2 : Nat → Option Loc} : ∀ (v : V) (c : Value), V.flat v = true → RV tab β v c → RV tab β2 v c
  | .bool _, _, _, r => r
  | .int _ _, _, _, r => r
  | .str _, _, _, r => r
  | .ptr _ _, _, h, _ => by simp [V.flat] at h
  | .nilp, _, _, r => r
  | .sl _ _ _ _, _, h, _ => by simp [V.flat] at h
  | .nilsl, _, _, r => r
  | .map _, _, h, _ => by simp [V.flat] at h
  | .nilmap, _, _, r => r
  | .fn _ caps, _, h, r => let ⟨k, cs, e, a, m⟩ := r; ⟨k, cs, e, a, zj8 caps cs.toList (by simpa [V.flat] using h) m⟩
  | .nilfn, _, _, r => r
  | .ifc _ x, _, h, r => let ⟨T, y, e, a, m⟩ := r; ⟨T, y, e, a, zul x y (by simpa [V.flat] using h) m⟩
  | .nilifc, _, _, r => r
  | .agg cs, _, h, r => let ⟨a, e, m⟩ := r; ⟨a, e, zj8 cs a.toList (by simpa [V.flat] using h) m⟩
  | .tup vs, _, h, r => let ⟨a, e, m⟩ := r; ⟨a, e, zj8 vs a.toList (by simpa [V.flat] using h) m⟩
  | .dead, _, h, _ => by simp [V.flat] at h
theorem zj8 {β β2 : Nat → Option Loc} : ∀ (vs : List V) (cs : List Value), V.flats vs = true → RVs tab β vs cs → RVs tab β2 vs cs
  | [], _, _, r => r
  | x :: xs, _, h, r => let ⟨y, ys, e, a, b⟩ := r; ⟨y, ys, e, zul x y (by simp only [V.flats, Bool.and_eq_true] at h; exact h.1) a, zj8 xs ys (by simp only [V.flats, Bool.and_eq_true] at h; exact h.2) b⟩
end
theorem z04e {M : Env} (hN : NdOk M.call) (hL : LoopOk M) {f : AFunc} {args : List V} {h h' : H} {v : V} (he : z9v M f args h = some (v, h')) : Nd h h' := by
  unfold z9v at he
  split at he
  · exact z04i hN hL he
  · split at he
    · simp only [Option.bind_eq_some_iff] at he
      obtain ⟨p, _, he⟩ := he
      split at he
      · cases he; exact Nd.refl h
      · cases he
    · cases he
theorem z04m {M : Env} (hm : P.follows .mixedOrders = true) (hC : z9o P tab M.call) (hM : MethOk P tab M.meth) (hN : NdOk M.call) (hL : LoopOk M) {k : Nat} {fn : Func} {hs : z7f} {cl : Bool} {af : AFunc} (hk : P.funcs[k]? = some fn) (hc : comp P tab cl hs fn = some af)
    {args : List V} {h h' : H} {v : V} (he : z9v M af args h = some (v, h')) {β : Nat → Option Loc} {w : World} {cargs : Array Value} (hR : Rel tab β h.get w) (hF : zbm β h h') (ha : RVs tab β args cargs.toList) :
    Go.Calls P k cargs w fun e w' => ∃ cv, e = .returned cv ∧ Post tab β h w v h' cv w' := by
  unfold z9v at he
  split at he
  · exact zzg hm hC hM hN hL hk hc he hR hF ha
  · split at he
    · rename_i hfl
      simp only [Option.bind_eq_some_iff] at he
      obtain ⟨⟨v1, h1⟩, he1, he⟩ := he
      split at he
      · rename_i hv
        simp only [Option.some.injEq, Prod.mk.injEq] at he
        obtain ⟨rfl, rfl⟩ := he
        have hempty : ∀ b, (H.empty).get b = none := fun b => T.get_leaf b
        refine (zzg hm hC hM hN hL hk hc he1 (β := fun _ => none) (w := w) (cargs := cargs) ⟨?_, ?_⟩ ?_ (zj8 _ _ hfl ha)).mono ?_
        · intro b x hb; rw [hempty] at hb; cases hb
        · intro b x b' x' l l' hb; rw [hempty] at hb; cases hb
        · intro b _ _; rfl
        · rintro e w' ⟨cv, rfl, β', hr, _, ht⟩
          have hB : ∀ B, B < w.heap.size → w'.heap[B]? = w.heap[B]? := fun B hB => ht.frame B hB fun b x l hb => by rw [hempty] at hb; cases hb
          refine ⟨cv, rfl, β, zul _ _ hv hr, ⟨fun b x hb => ?_, hR.sep⟩, ⟨Ext.refl _, fun _ hb => .inl hb, Nat.le_refl _, ht.os, ht.tape, ht.output, ht.size, fun B hB' _ => hB B hB', fun b x l hb hl => .inr ⟨b, x, l, hb, hl, rfl, id⟩⟩⟩
          obtain ⟨l, hl, hBk⟩ := hR.blk b x hb
          exact ⟨l, hl, hBk.keep (Ext.refl _) ht.size (hB _ hBk.lt)⟩
      · cases he
    · cases he
end
end Wm
