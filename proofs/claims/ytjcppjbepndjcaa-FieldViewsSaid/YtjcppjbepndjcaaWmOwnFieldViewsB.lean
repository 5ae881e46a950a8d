/- What the functions come to, and the law: of my machine. -/
import Derived.Test.YtjcppjbepndjcaaWmOwnFieldViewsA
import Derived.Test.YtjcppjbepndjcaaWmFast
import Derived.Test.YtjcppjbepndjcaaWmEv
import Derived.Test.YtjcppjbepndjcaaWmProgFieldViews
import Derived.Test.YtjcppjbepndjcaaWmPOp0
import Derived.Test.YtjcppjbepndjcaaWmTxtFieldViewsA
set_option linter.all false
section
/- A machine alone: it goes on until it is over. Lays, reads and turns alone. -/
namespace Wm
attribute [local congr] bind_congr1
attribute [local irreducible] wr

/-- Steps until it is over, within so many. -/
def Go {X : Type} (st : X → X) (fin : X → Prop) : Nat → X → (X → Prop) → Prop
  | 0, _, _ => False
  | m + 1, x, Q => (fin (st x) ∧ Q (st x)) ∨ (¬ fin (st x) ∧ Go st fin m (st x) Q)
section
variable {X : Type} {st : X → X} {fin : X → Prop}
theorem Go.done {m : Nat} {x : X} {Q : X → Prop} (y : X) (h : st x = y) (hf : fin y) (hq : Q y) : Go st fin (m + 1) x Q := .inl ⟨h ▸ hf, h ▸ hq⟩
theorem Go.next {m : Nat} {x : X} {Q : X → Prop} (y : X) (h : st x = y) (hf : ¬ fin y) (hq : Go st fin m y Q) : Go st fin (m + 1) x Q := .inr ⟨h ▸ hf, h ▸ hq⟩
theorem Go.more {Q : X → Prop} : ∀ {m : Nat} {x : X} (j : Nat), Go st fin m x Q → Go st fin (m + j) x Q
  | 0, _, _, h => h.elim
  | m + 1, x, j, h => by
    rw [Nat.succ_add]
    rcases h with h | ⟨h1, h2⟩
    · exact .inl h
    · exact .inr ⟨h1, h2.more j⟩
end

/-- The same but for headers and the grays. -/
def SameB (f f' : Wd → Int) : Prop := ∀ w, w ≠ .grays → (∀ q, w ≠ .header q) → f' w = f w
theorem SameB.refl (f : Wd → Int) : SameB f f := fun _ _ _ => rfl
theorem SameB.body {f f' : Wd → Int} (h : SameB f f') (q i : Nat) : f' (.body q i) = f (.body q i) := h _ (by simp) (by simp)
theorem SameB.clock {f f' : Wd → Int} (h : SameB f f') : f' .clock = f .clock := h _ (by simp) (by simp)

abbrev LaySt := Lay × (Wd → Int) × BookT
def layX (k : Cfg) (x : LaySt) : LaySt := x.1.step k x.2.1 x.2.2
def layFin (x : LaySt) : Prop := x.1.next = 6

/-- The last part: the record is stamped. -/
theorem lay_stamp {k : Cfg} {m : Nat} {s : Lay} {f : Wd → Int} {B : BookT} {Q : LaySt → Prop} {rec : Nat} (h5 : s.next = 5) (hr : s.rec' = rec) (hst : s.stamp = some ⟨rec, 0, 0, 0⟩)
    (hQ : ∀ s' B', s'.laid = true → Q (s', (if f (.body rec 1) = 0 then wset f (.body rec 1) (f .clock) else f), B')) : Go (layX k) layFin (m + 3) (s, f, B) Q := by
  obtain ⟨la, pt, n, rec', ex, e, sh, stamp, next⟩ := s
  simp only at h5 hr hst
  subst h5 hr hst
  by_cases hz : f (.body rec' 1) = 0
  · have e1 : layX k (⟨la, pt, n, rec', ex, e, sh, some ⟨rec', 0, 0, 0⟩, 5⟩, f, B) = (⟨la, pt, n, rec', ex, e, sh, some ⟨rec', 1, 0, 0⟩, 5⟩, f, B) := by
      simp only [layX, Lay.step, Stamp.step, Int.reduceEq, if_false, if_true, hz]
    have e2 : layX k (⟨la, pt, n, rec', ex, e, sh, some ⟨rec', 1, 0, 0⟩, 5⟩, f, B) = (⟨la, pt, n, rec', ex, e, sh, some ⟨rec', 2, f .clock, B.now⟩, 5⟩, f, B) := by
      simp only [layX, Lay.step, Stamp.step, Int.reduceEq, if_false, if_true, hz]
    refine Go.next _ e1 (by simp [layFin]) (Go.next _ e2 (by simp [layFin]) ?_)
    refine Go.done (⟨true, BookT.at' (mset B.born rec' B.now) rec', n, rec', ex, e, sh, some ⟨rec', 3, f .clock, B.now⟩, 6⟩, wset f (.body rec' 1) (f .clock), { B with born := mset B.born rec' B.now }) ?_ rfl ?_
    · simp only [layX, Lay.step, Stamp.step, Int.reduceEq, if_false, if_true, hz]
    · have := hQ ⟨true, BookT.at' (mset B.born rec' B.now) rec', n, rec', ex, e, sh, some ⟨rec', 3, f .clock, B.now⟩, 6⟩ { B with born := mset B.born rec' B.now } rfl
      rw [if_pos hz] at this; exact this
  · refine Go.done (⟨true, BookT.at' B.born rec', n, rec', ex, e, sh, some ⟨rec', 3, 0, 0⟩, 6⟩, f, B) ?_ rfl ?_
    · simp only [layX, Lay.step, Stamp.step, Int.reduceEq, if_false, if_true, hz]
    · have := hQ ⟨true, BookT.at' B.born rec', n, rec', ex, e, sh, some ⟨rec', 3, 0, 0⟩, 6⟩ B rfl
      rw [if_neg hz] at this; exact this

/-- What is laid. -/
def laidF (f : Wd → Int) (fld : Wd) (rec : Nat) : Wd → Int :=
  let g := wset (wset f (.body rec 2) (f fld)) fld (rec + 1)
  if f (.body rec 1) = 0 then wset g (.body rec 1) (f .clock) else g

/-- From the swap on. -/
theorem lay_swap {k : Cfg} {m : Nat} {s : Lay} {f f0 : Wd → Int} {B : BookT} {Q : LaySt → Prop} {rec i : Nat} (h4 : s.next = 4) (hr : s.rec' = rec) (hf : s.n.fld = .body 0 i) (hne : rec ≠ 0)
    (hat : f (.body 0 i) = sl s.n.rec' + 1) (hS : SameB (wset f0 (.body rec 2) (f0 (.body 0 i))) f)
    (hQ : ∀ s' f' B', s'.laid = true → SameB (laidF f0 (.body 0 i) rec) f' → Q (s', f', B')) : Go (layX k) layFin (m + 4) (s, f, B) Q := by
  obtain ⟨la, pt, n, rec', ex, e, sh, stamp, next⟩ := s
  simp only at h4 hr hf hat
  subst h4 hr
  have e1 : layX k (⟨la, pt, n, rec', ex, e, sh, stamp, 4⟩, f, B) = (⟨la, pt, n, rec', ex, e, sh, some ⟨rec', 0, 0, 0⟩, 5⟩, wset f (.body 0 i) (rec' + 1), B) := by
    simp only [layX, Lay.step, Int.reduceEq, if_false, if_true, hf, hat]
  refine Go.next _ e1 (by simp [layFin]) (lay_stamp rfl rfl rfl fun s' B' hl => hQ s' _ B' hl ?_)
  intro w h1 h2
  have hb : ∀ q j, f (.body q j) = wset f0 (.body rec' 2) (f0 (.body 0 i)) (.body q j) := fun q j => hS.body q j
  have hc : f .clock = f0 .clock := (hS.clock).trans (wset_ne (by simp))
  have hw := hS w h1 h2
  have c1 : wset f (.body 0 i) (rec' + 1) (.body rec' 1) = f0 (.body rec' 1) := by
    rw [wset_ne (by simp [hne]), hb, wset_ne (by simp)]
  have c2 : wset f (.body 0 i) (rec' + 1) .clock = f0 .clock := by rw [wset_ne (by simp), hc]
  have c3 : ∀ w, w ≠ .grays → (∀ q, w ≠ .header q) → wset f (.body 0 i) (rec' + 1) w = wset (wset f0 (.body rec' 2) (f0 (.body 0 i))) (.body 0 i) (rec' + 1) w := by
    intro w h1 h2
    unfold wset
    split
    · rfl
    · exact (hS w h1 h2)
  unfold laidF
  rw [c1, c2]
  simp only
  by_cases hz : f0 (.body rec' 1) = 0
  · rw [if_pos hz, if_pos hz]
    unfold wset
    split
    · rfl
    · exact c3 w h1 h2
  · rw [if_neg hz, if_neg hz]; exact c3 w h1 h2

/-- From the older record on. -/
theorem lay_older {k : Cfg} {m : Nat} {s : Lay} {f : Wd → Int} {B : BookT} {Q : LaySt → Prop} {rec i : Nat} (h2 : s.next = 2) (hr : s.rec' = rec) (hf : s.n.fld = .body 0 i) (hne : rec ≠ 0)
    (hat : f (.body 0 i) = sl s.n.rec' + 1)
    (hQ : ∀ s' f' B', s'.laid = true → SameB (laidF f (.body 0 i) rec) f' → Q (s', f', B')) : Go (layX k) layFin (m + 8) (s, f, B) Q := by
  obtain ⟨la, pt, n, rec', ex, e, sh, stamp, next⟩ := s
  simp only at h2 hr hf hat
  subst h2 hr
  have hne2 : (Wd.body 0 i) ≠ .body rec' 2 := by simp [Ne.symm hne]
  have hat' : wset f (.body rec' 2) (f (.body 0 i)) (.body 0 i) = sl n.rec' + 1 := by rw [wset_ne hne2, hat]
  cases hq : n.rec' with
  | none =>
    have e1 : layX k (⟨la, pt, n, rec', ex, e, sh, stamp, 2⟩, f, B) = (⟨la, pt, n, rec', ex, e, sh, stamp, 4⟩, wset f (.body rec' 2) (f (.body 0 i)), B) := by
      simp only [layX, Lay.step, Int.reduceEq, if_false, if_true, hq, hat]
    exact Go.next _ e1 (by simp [layFin]) (Go.more 3 (lay_swap (f0 := f) rfl rfl hf hne hat' (SameB.refl _) hQ))
  | some q =>
    by_cases hfe : fenced e
    · have e1 : layX k (⟨la, pt, n, rec', ex, e, sh, stamp, 2⟩, f, B) = (⟨la, pt, n, rec', ex, e, some ⟨false, 0, 0⟩, stamp, 3⟩, wset f (.body rec' 2) (f (.body 0 i)), B) := by
        simp only [layX, Lay.step, Int.reduceEq, if_false, if_true, hq, hat, hfe]
      refine Go.next _ e1 (by simp [layFin]) ?_
      generalize hg : wset f (.body rec' 2) (f (.body 0 i)) = g at hat'
      by_cases hw : white (g (.header q)) e
      · have e2 : layX k (⟨la, pt, n, rec', ex, e, some ⟨false, 0, 0⟩, stamp, 3⟩, g, B) = (⟨la, pt, n, rec', ex, e, some ⟨false, 1, g (.header q)⟩, stamp, 3⟩, g, B) := by
          simp only [layX, Lay.step, Sh.step, Int.reduceEq, if_false, if_true, hq, hw]
        have e3 : layX k (⟨la, pt, n, rec', ex, e, some ⟨false, 1, g (.header q)⟩, stamp, 3⟩, g, B) = (⟨la, pt, n, rec', ex, e, some ⟨false, 2, g (.header q)⟩, stamp, 3⟩, wset g .grays (wr .u64 (g .grays + 1)), B) := by
          simp only [layX, Lay.step, Sh.step, Int.reduceEq, if_false, if_true, hq]
        have hgh : wset g .grays (wr .u64 (g .grays + 1)) (.header q) = g (.header q) := wset_ne (by simp)
        have e4 : layX k (⟨la, pt, n, rec', ex, e, some ⟨false, 2, g (.header q)⟩, stamp, 3⟩, wset g .grays (wr .u64 (g .grays + 1)), B) = (⟨la, pt, n, rec', ex, e, some ⟨true, 4, g (.header q)⟩, stamp, 4⟩, wset (wset g .grays (wr .u64 (g .grays + 1))) (.header q) (shaded (g (.header q)) e), B) := by
          simp only [layX, Lay.step, Sh.step, Int.reduceEq, if_false, if_true, hq, hgh]
        have hS : SameB g (wset (wset g .grays (wr .u64 (g .grays + 1))) (.header q) (shaded (g (.header q)) e)) := fun w h1 h2 => by
          rw [wset_ne (h2 q), wset_ne h1]
        refine Go.next _ e2 (by simp [layFin]) (Go.next _ e3 (by simp [layFin]) (Go.next _ e4 (by simp [layFin]) ?_))
        exact lay_swap (f0 := f) rfl rfl hf hne (by rw [hS.body]; exact hat') (hg ▸ hS) hQ
      · have e2 : layX k (⟨la, pt, n, rec', ex, e, some ⟨false, 0, 0⟩, stamp, 3⟩, g, B) = (⟨la, pt, n, rec', ex, e, some ⟨false, 4, g (.header q)⟩, stamp, 4⟩, g, B) := by
          simp only [layX, Lay.step, Sh.step, Int.reduceEq, if_false, if_true, hq, hw, Bool.false_eq_true]
        refine Go.next _ e2 (by simp [layFin]) (Go.more 2 ?_)
        exact lay_swap (f0 := f) rfl rfl hf hne hat' (hg ▸ SameB.refl _) hQ
    · have e1 : layX k (⟨la, pt, n, rec', ex, e, sh, stamp, 2⟩, f, B) = (⟨la, pt, n, rec', ex, e, sh, stamp, 4⟩, wset f (.body rec' 2) (f (.body 0 i)), B) := by
        simp only [layX, Lay.step, Int.reduceEq, if_false, if_true, hq, hat, hfe, Bool.false_eq_true]
      exact Go.next _ e1 (by simp [layFin]) (Go.more 3 (lay_swap (f0 := f) rfl rfl hf hne hat' (SameB.refl _) hQ))

/-- A field, as it is when nobody is at work: its record is stamped. -/
structure Rests (k : Cfg) (f : Wd → Int) (i : Nat) : Prop where
  at' : f (.body 0 i) = sl (namedO k (f (.body 0 i))) + 1
  stamped : ∀ q, namedO k (f (.body 0 i)) = some q → f (.body q 1) ≠ 0
/-- What a field has. -/
def valF (k : Cfg) (f : Wd → Int) (i : Nat) : Int := match namedO k (f (.body 0 i)) with | none => -1 | some q => sl (namedO k (f (.body q 0)))

theorem lay_alone {k : Cfg} {m : Nat} {f : Wd → Int} {B : BookT} {Q : LaySt → Prop} {rec i : Nat} {ex e : Int} (hne : rec ≠ 0) (hR : Rests k f i)
    (hQ : ∀ s' f' B', s'.laid = decide (ex < -1 ∨ ex = valF k f i) → (if s'.laid then SameB (laidF f (.body 0 i) rec) f' else f' = f) → Q (s', f', B')) :
    Go (layX k) layFin (m + 11) (⟨false, 0, .fresh (.body 0 i), rec, ex, e, none, none, 0⟩, f, B) Q := by
  obtain ⟨hat, hst⟩ := hR
  have hQ1 : (ex < -1 ∨ ex = valF k f i) → ∀ s' f' B', s'.laid = true → SameB (laidF f (.body 0 i) rec) f' → Q (s', f', B') := fun h s' f' B' hl hs =>
    hQ s' f' B' (by rw [hl, decide_eq_true h]) (by rw [hl]; exact hs)
  have hQ0 : ¬ (ex < -1 ∨ ex = valF k f i) → ∀ s' B', s'.laid = false → Q (s', f, B') := fun h s' B' hl => hQ s' f B' (by rw [hl, decide_eq_false h]) (by rw [hl]; rfl)
  unfold valF at hQ1 hQ0
  cases hq : namedO k (f (.body 0 i)) with
  | none =>
    rw [hq] at hat
    simp only [hq] at hQ1 hQ0
    by_cases h0 : 0 ≤ ex
    · refine Go.done ((⟨false, max B.now (BookT.at' B.born (-1)), ⟨.body 0 i, none, B.now, none, 2⟩, rec, ex, e, none, none, 6⟩, f, B)) ?_ rfl (hQ0 (by omega) _ _ rfl)
      have h1 : -1 ≤ ex := by omega
      simp only [layX, Lay.step, Newest.step, Newest.fresh, Lay.headed, Lay.refuse, Newest.point, Int.reduceEq, if_false, if_true, hq, h0, ne_eq, not_true_eq_false, and_false, sl]
    · refine Go.next (⟨false, 0, ⟨.body 0 i, none, B.now, none, 2⟩, rec, ex, e, none, none, 2⟩, f, B) ?_ (by simp [layFin]) (Go.more 2 (lay_older rfl rfl rfl hne hat (hQ1 (by omega))))
      simp only [layX, Lay.step, Newest.step, Newest.fresh, Lay.headed, Int.reduceEq, if_false, if_true, hq, h0, ne_eq, not_true_eq_false, and_false]
  | some q =>
    rw [hq] at hat
    simp only [hq] at hQ1 hQ0
    have hs := hst q hq
    refine Go.next (⟨false, 0, ⟨.body 0 i, some q, B.now, some ⟨q, 0, 0, 0⟩, 1⟩, rec, ex, e, none, none, 0⟩, f, B) ?_ (by simp [layFin]) ?_
    · simp only [layX, Lay.step, Newest.step, Newest.fresh, Int.reduceEq, if_false, if_true, hq]
    by_cases h1 : -1 ≤ ex
    · refine Go.next (⟨false, 0, ⟨.body 0 i, some q, B.now, some ⟨q, 3, 0, 0⟩, 2⟩, rec, ex, e, none, none, 1⟩, f, B) ?_ (by simp [layFin]) ?_
      · simp only [layX, Lay.step, Newest.step, Stamp.step, Lay.headed, Int.reduceEq, if_false, if_true, hs, h1, ne_eq, reduceCtorEq, not_false_eq_true, and_self]
      by_cases hv : sl (namedO k (f (.body q 0))) = ex
      · refine Go.next (⟨false, 0, ⟨.body 0 i, some q, B.now, some ⟨q, 3, 0, 0⟩, 2⟩, rec, ex, e, none, none, 2⟩, f, B) ?_ (by simp [layFin]) (lay_older rfl rfl rfl hne hat (hQ1 (.inr hv.symm)))
        simp only [layX, Lay.step, Int.reduceEq, if_false, if_true, hv]
      · refine Go.done ((⟨false, max B.now (BookT.at' B.born (sl (some q))), ⟨.body 0 i, some q, B.now, some ⟨q, 3, 0, 0⟩, 2⟩, rec, ex, e, none, none, 6⟩, f, B)) ?_ rfl (hQ0 (by intro h; rcases h with h | h; omega; exact hv h.symm) _ _ rfl)
        simp only [layX, Lay.step, Lay.refuse, Newest.point, Int.reduceEq, if_false, if_true, hv]
    · refine Go.next (⟨false, 0, ⟨.body 0 i, some q, B.now, some ⟨q, 3, 0, 0⟩, 2⟩, rec, ex, e, none, none, 2⟩, f, B) ?_ (by simp [layFin]) (Go.more 1 (lay_older rfl rfl rfl hne hat (hQ1 (.inl (by omega)))))
      have h0 : ¬ 0 ≤ ex := by omega
      simp only [layX, Lay.step, Newest.step, Stamp.step, Lay.headed, Int.reduceEq, if_false, if_true, hs, h1, h0, false_and]

end Wm
end

section
/- A run within bounds that is told what some calls come to. -/
namespace Wm

section
variable (orc : Nat → List V → Option V) (prog : Nat → Option AFunc) (meth : Nat → Nat → Option Nat) (rounds : Nat)
noncomputable def runO : Nat → Nat → List V → H → Option (V × H)
  | 0, _, _, _ => none
  | n + 1, f, args, h => match orc f args with
    | some v => some (v, h)
    | none => match prog f with
      | some af => callFF { call := runO n, loop := fun body env h => loopN body rounds env h, scope := fun body l env h => scopeN body rounds l env h, meth } rounds af args h
      | none => none

theorem runO_le (hO : ∀ f args v, orc f args = some v → ∀ h, callW prog meth f args h = some (v, h)) : ∀ (n f : Nat) (args : List V) (h : H), LeO (runO orc prog meth rounds n f args h) (callW prog meth f args h)
  | 0, _, _, _ => fun q hq => by simp [runO] at hq
  | n + 1, f, args, h => fun q hq => by
    simp only [runO] at hq
    cases ho : orc f args with
    | some v => rw [ho] at hq; cases hq; exact hO f args v ho h
    | none =>
      rw [ho] at hq
      cases hf : prog f with
      | none => rw [hf] at hq; cases hq
      | some af =>
        rw [hf] at hq
        simp only at hq
        rw [callFF_eq _ _ rfl rfl] at hq
        exact callW_eq hf (callF_le (M := { call := runO orc prog meth rounds n, loop := fun body env h => loopN body rounds env h, scope := fun body l env h => scopeN body rounds l env h, meth }) (M' := envW meth (callW prog meth)) ⟨fun f args h => runO_le hO n f args h, fun b b' e h hb r hr => loopW_of (loopN_le hb (Nat.le_refl _) e h r hr), fun b b' l e h hb r hr => scopeW_of (scopeN_le hb (Nat.le_refl _) l e h r hr), rfl⟩ af args h q hq)
end

def beqNats : List Nat → List Nat → Bool
  | [], [] => true
  | a :: l, b :: m => Nat.beq a b && beqNats l m
  | _, _ => false
theorem beqNats_eq : ∀ {l m : List Nat}, beqNats l m = true → l = m
  | [], [], _ => rfl
  | a :: l, b :: m, h => by
    simp only [beqNats, Bool.and_eq_true] at h
    rw [Nat.eq_of_beq_eq_true h.1, beqNats_eq h.2]
  | [], _ :: _, h => by cases h
  | _ :: _, [], h => by cases h

def bytesN (b : ByteArray) : List Nat := b.data.toList.map UInt8.toNat
theorem bytesN_eq {a b : ByteArray} (h : bytesN a = bytesN b) : a = b := by
  unfold bytesN at h
  have := List.map_inj_right (f := UInt8.toNat) (fun x y e => UInt8.toNat_inj.mp e) |>.mp h
  exact ByteArray.ext (Array.ext' this)

def Wd.okB (k : Cfg) : Wd → Bool
  | .clock | .epoch | .grays | .top => true
  | .pin q | .view q | .start q => Nat.blt q k.C
  | .entry q i => Nat.blt q k.C && Nat.blt i k.H
  | .header s | .link s => Nat.blt s k.S
  | .body s i => Nat.blt s k.S && Nat.blt i k.room
theorem Wd.okB_ok {k : Cfg} {l : Wd} (h : l.okB k = true) : l.ok k := by
  cases l <;> simp only [Wd.okB, Wd.ok, Bool.and_eq_true, Nat.blt_eq] at h ⊢ <;> exact h

def natOf : Int → Option Nat
  | .ofNat n => some n
  | .negSucc _ => none

def cands (q i : Nat) : List Wd := [.header q, .body q i, .link q, .pin q, .entry q i, .view q, .start q, .clock, .epoch, .grays, .top]
def isWd (k : Cfg) (nm : ByteArray) (q i : Nat) (l : Wd) : Bool := beqNats (bytesN nm) (bytesN l.name) && (Nat.beq l.who q && (Nat.beq l.i i && l.okB k))

def orcAt (k : Cfg) (f : Nat) (args : List V) : Option V :=
  match Nat.beq f 108 with
  | false => none
  | true => match args with
    | [.agg [.int .i64 s, .int .i64 a, .int .i64 c, .int .i64 hd, .int .i64 g, .int .i64 st], .agg [.str nm, .int .i64 q, .int .i64 i]] =>
      match decide (s = k.s) && (decide (a = k.a) && (decide (c = k.c) && (decide (hd = k.hd) && (decide (g = k.g) && decide (st = k.st))))) with
      | false => none
      | true => (natOf q).bind fun q => (natOf i).bind fun i => ((cands q i).find? (isWd k nm q i)).map fun l => .int .i64 (Int.ofNat (l.pos k))
    | _ => none

theorem natOf_some {x : Int} {n : Nat} (h : natOf x = some n) : x = n := by
  cases x with
  | ofNat m => cases h; rfl
  | negSucc m => cases h

theorem orcAt_ok {k : Cfg} (hr : k.R = true) {f : Nat} {args : List V} {v : V} (h : orcAt k f args = some v) (hp : H) : C f args hp = some (v, hp) := by
  unfold orcAt at h
  split at h
  · cases h
  · rename_i hf
    have hf := Nat.eq_of_beq_eq_true hf
    subst hf
    split at h
    · rename_i s a c hd g st nm q i
      split at h
      · cases h
      · rename_i hc
        simp only [Bool.and_eq_true, decide_eq_true_eq] at hc
        obtain ⟨rfl, rfl, rfl, rfl, rfl, rfl⟩ := hc
        rw [Option.bind_eq_some_iff] at h
        obtain ⟨q', hq, h⟩ := h
        rw [Option.bind_eq_some_iff] at h
        obtain ⟨i', hi, h⟩ := h
        rw [Option.map_eq_some_iff] at h
        obtain ⟨l, hl, rfl⟩ := h
        have hw := List.find?_some hl
        unfold isWd at hw
        simp only [Bool.and_eq_true] at hw
        obtain ⟨h1, h2, h3, h4⟩ := hw
        have h1 := bytesN_eq (beqNats_eq h1)
        have h2 := Nat.eq_of_beq_eq_true h2
        have h3 := Nat.eq_of_beq_eq_true h3
        have hq := natOf_some hq
        have hi := natOf_some hi
        subst h1 h2 h3 hq hi
        exact at_wd hr (Wd.okB_ok h4) hp
    · cases h

theorem C_orc {k : Cfg} (hr : k.R = true) {rounds n f : Nat} {args : List V} {h : H} {q : V × H} (hq : runO (orcAt k) prog meth rounds n f args h = some q) : C f args h = some q :=
  runO_le _ prog meth rounds (fun _ _ _ ho h => orcAt_ok hr ho h) n f args h q hq

theorem C_closed_any {f : Nat} {af : AFunc} (hf : prog f = some af) (hc : af.closed = true) {v : V} (e : (C f [] .empty).map (·.1) = some v) (h : H) : C f [] h = some (v, h) := by
  rw [Option.map_eq_some_iff] at e
  obtain ⟨⟨w, h0⟩, e, hw⟩ := e
  dsimp only at hw
  subst hw
  obtain ⟨n, hn⟩ := of_lim e
  cases n with
  | zero => simp [callN] at hn
  | succ n =>
    refine callW_of (n := n + 1) ?_
    simp only [callN, hf] at hn ⊢
    unfold callF at hn ⊢
    simp only [hc] at hn ⊢
    split at hn
    · rename_i hfl
      simp only [Option.bind_eq_some_iff] at hn ⊢
      obtain ⟨p, hp, hn⟩ := hn
      refine ⟨p, hp, ?_⟩
      split at hn
      · cases hn; rfl
      · cases hn
    · cases hn

theorem orc_closed {k : Cfg} (hr : k.R = true) {rounds n f : Nat} {af : AFunc} (hf : prog f = some af) (hc : af.closed = true) {v : V} (hq : (runO (orcAt k) prog meth rounds n f [] .empty).map (·.1) = some v) (h : H) : C f [] h = some (v, h) := by
  refine C_closed_any hf hc ?_ h
  rw [Option.map_eq_some_iff] at hq ⊢
  obtain ⟨q, hq, e⟩ := hq
  exact ⟨q, C_orc hr hq, e⟩
end Wm
end

section
/- The document's example of layer 10, run by the kernel; where a word stands is told. -/
namespace Wm
def cfg10 : Cfg := ⟨40, 3, 1, 1, 9, 0⟩
theorem cfg10_R : cfg10.R = true := by decide
set_option maxRecDepth 100000 in
theorem awake10_run : (runO (orcAt cfg10) prog meth 2000 200 125 [] .empty).map (·.1) = some (.bool true) := by kernel_rfl
theorem awake10 (h : H) : C 125 [] h = some (.bool true, h) := orc_closed cfg10_R (af := F.withylaw10_awake) (by kernel_rfl) rfl awake10_run h
end Wm
end

section
/- The worlds of layer 10's laws: their config, a word's place. -/
namespace Wm
attribute [local congr] bind_congr1
attribute [local irreducible] wr

theorem config10 (h : H) : C 301 [] h = some (cfg10.v, h) := by
  refine call_closed (af := F.withylaw10_config) (by kernel_rfl) rfl (by rfl) (by rfl) h ?_
  rw [S.withylaw10_config_eq]
  have hv : cfg10.v = .agg [.int .i64 40, .int .i64 3, .int .i64 1, .int .i64 1, .int .i64 9, .int .i64 0] := rfl
  rw [hv]
  exact ⟨_, rfl, rfl⟩

theorem at10 {l : Wd} (hl : l.ok cfg10) (h : H) : C 131 [cfg10.v, .str l.name, .int .i64 l.who, .int .i64 l.i] h = some (.int .i64 (l.pos cfg10 : Nat), h) := by
  refine call_closed (af := F.withylaw10_at) (by kernel_rfl) rfl (by rfl) (by rfl) h ?_
  have hv : cfg10.v = .agg [.int .i64 40, .int .i64 3, .int .i64 1, .int .i64 1, .int .i64 9, .int .i64 0] := rfl
  have ha := fun h => at_wd cfg10_R hl h
  unfold Wd.cells at ha
  rw [hv] at ha ⊢
  rw [S.withylaw10_at_eq]
  simp only [S.withylaw10_at, Option.bind_some, ldN_get', get_new', ldNB_cells, Nat.zero_add, Nat.reduceAdd, Nat.reduceLeDiff, List.length_cons, List.length_nil, decide_true, if_true, List.take_succ_cons, List.take_zero, List.drop_zero, W_call, ha]
  exact Ev.some rfl
end Wm
end

section
/- The memory that the laws of layer 9 begin with: withylaw09.filled. -/
namespace Wm
attribute [local congr] bind_congr1
attribute [local irreducible] wr

theorem mem0_U64 {k : Cfg} (hr : k.R = true) (w : Wd) : U64 (mem0 k w) := by
  have hb := Cfg.R_iff.mp hr
  cases w <;> simp only [mem0, U64] <;> (try split) <;> omega
theorem row_U64 {k : Cfg} {f : Wd → Int} (h : ∀ l, U64 (f l)) : ∀ w ∈ k.row f, U64 w := fun w hw => by
  obtain ⟨l, _, rfl⟩ := List.mem_map.mp hw; exact h l
theorem row_splice {ws : List Int} {p : Nat} (hp : p < ws.length) {kd : Go.IntKind} {v : Int} : (ws.map (V.int kd)).take p ++ [V.int kd v] ++ (ws.map (V.int kd)).drop (p + 1) = (ws.set p v).map (V.int kd) := by
  rw [List.map_set, List.set_eq_take_append_cons_drop, if_pos (by rw [List.length_map]; exact hp), List.append_assoc]; rfl

end Wm
end

section
/- Fields' machines of any arguments: is there one? And the steps of none. -/
namespace Wm
attribute [local congr] bind_congr1
attribute [local irreducible] wr

/-! ### A new book -/
def BookT.new : BookT := ⟨0, fun _ => none, fun _ => none⟩
theorem newBook_at {h : H} (ok : h.ok) : Ev (C 148 [] h) fun r => ∃ b, r.1 = .ptr b 0 ∧ Fr [] h r.2 ∧ ∃ m1 m2, b ≠ m1 ∧ b ≠ m2 ∧ m1 ≠ m2 ∧ h.next ≤ b ∧ h.next ≤ m1 ∧ h.next ≤ m2 ∧ BkAt r.2 b m1 m2 .new := by
  refine call_ev (af := F.field_NewBook) (by kernel_rfl) rfl ?_
  rw [S.field_NewBook_eq]
  unfold S.field_NewBook
  have e : ((h.new (.map [])).new (.map [])).next = h.next + 2 := rfl
  have e1 : (h.new (.map [])).next = h.next + 1 := rfl
  refine Ev.some ⟨_, rfl, (((Fr.refl ok).new _).new _).new _, h.next, h.next + 1, ?_, ?_, ?_, ?_, ?_, ?_, ⟨?_, ⟨[], ?_, ?_⟩, ⟨[], ?_, ?_⟩⟩⟩
  · rw [e]; omega
  · rw [e]; omega
  · omega
  · rw [e]; omega
  · omega
  · omega
  · exact get_new_self _ _
  · rw [get_new_ne (by rw [e]; omega), get_new_ne (by rw [e1]; omega)]; exact get_new_self _ _
  · exact findKey_nil _
  · rw [get_new_ne (by rw [e]; omega)]; exact get_new_self _ _
  · exact findKey_nil _
end Wm
end

section
/- The world that layer 10's laws begin with. -/
namespace Wm
attribute [local congr] bind_congr1
attribute [local irreducible] wr

def hdN (q : Nat) : Hdr := if 4 < q then ⟨2, 0, false, 0, 0, 0⟩ else ⟨1, 0, false, 3, 0, 0⟩
def beg10 (n : Nat) : Wd → Int
  | .header q => if q < n then (hdN q).word else 0
  | w => mem0 cfg10 w
theorem hdN_right (q : Nat) : (hdN q).right = true := by unfold hdN; split <;> decide
theorem beg10_U64 (n : Nat) (w : Wd) : U64 (beg10 n w) := by
  cases w with
  | header q =>
    simp only [beg10]
    split
    · exact word_U64 (hdN_right q)
    · exact ⟨by decide, by decide⟩
  | clock => exact mem0_U64 cfg10_R .clock
  | epoch => exact mem0_U64 cfg10_R .epoch
  | grays => exact mem0_U64 cfg10_R .grays
  | top => exact mem0_U64 cfg10_R .top
  | pin q => exact mem0_U64 cfg10_R (.pin q)
  | entry q i => exact mem0_U64 cfg10_R (.entry q i)
  | view q => exact mem0_U64 cfg10_R (.view q)
  | start q => exact mem0_U64 cfg10_R (.start q)
  | link q => exact mem0_U64 cfg10_R (.link q)
  | body q i => exact mem0_U64 cfg10_R (.body q i)
theorem beg10_succ {n : Nat} (hn : n < cfg10.S) : cfg10.row (beg10 (n + 1)) = (cfg10.row (beg10 n)).set ((Wd.header n).pos cfg10) (hdN n).word := by
  rw [row_set (show (Wd.header n).ok cfg10 from hn)]
  apply row_congr
  intro w _
  unfold wset
  cases w with
  | header q =>
    simp only [beg10, Wd.header.injEq]
    by_cases h1 : q = n
    · subst h1; rw [if_pos (Nat.lt_succ_self _), if_pos rfl]
    · rw [if_neg h1]
      by_cases h2 : q < n
      · rw [if_pos (Nat.lt_succ_of_lt h2), if_pos h2]
      · rw [if_neg (by omega), if_neg h2]
  | _ => rfl
theorem beg10_zero : beg10 0 = mem0 cfg10 := by
  funext w; cases w <;> simp [beg10, mem0]

theorem begin10_loop {h0 : H} {cb bw : Nat} (ok : h0.ok) (hcb : h0.get cb = some (.cells cfg10.cs .rw)) (hne : cb ≠ bw) (w0 : h0.get bw = some (.cells ((cfg10.row (mem0 cfg10)).map (.int .u64)) .rw)) :
    ∀ (K : AX × List V × H → Option (V × H)) (Q : V × H → Prop), (∀ g, Fr [bw] h0 g → g.get bw = some (.cells ((cfg10.row (beg10 cfg10.S)).map (.int .u64)) .rw) → Ev (K (.exit 0, S.withylaw10_begin_c1_O (.ptr cb 0) (.sl bw 0 cfg10.size (.ex cfg10.size)), g)) Q) →
    Ev ((W.loop (S.withylaw10_begin_c1_B W) (S.withylaw10_begin_c1_E (.ptr cb 0) (.sl bw 0 cfg10.size (.ex cfg10.size)) (.int .i64 0)) h0).bind K) Q := by
  intro K Q hK
  have hcs : cfg10.cs = [.int .i64 40, .int .i64 3, .int .i64 1, .int .i64 1, .int .i64 9, .int .i64 0] := rfl
  have hv : cfg10.v = .agg [.int .i64 40, .int .i64 3, .int .i64 1, .int .i64 1, .int .i64 9, .int .i64 0] := rfl
  rw [hcs] at hcb
  refine loop_ev (α := Nat) (fun i => S.withylaw10_begin_c1_E (.ptr cb 0) (.sl bw 0 cfg10.size (.ex cfg10.size)) (.int .i64 i))
    (fun i g => i ≤ cfg10.S ∧ Fr [bw] h0 g ∧ g.get bw = some (.cells ((cfg10.row (beg10 i)).map (.int .u64)) .rw)) (fun i _ => cfg10.S - i)
    (fun r => r.1 = .exit 0 ∧ r.2.1 = S.withylaw10_begin_c1_O (.ptr cb 0) (.sl bw 0 cfg10.size (.ex cfg10.size)) ∧ Fr [bw] h0 r.2.2 ∧ r.2.2.get bw = some (.cells ((cfg10.row (beg10 cfg10.S)).map (.int .u64)) .rw)) 0 rfl ⟨Nat.zero_le _, .refl ok, by rw [beg10_zero]; exact w0⟩ ?_ ?_
  rotate_left
  · rintro ⟨x, env, g⟩ ⟨rfl, rfl, fg, wg⟩
    exact hK g fg wg
  rintro i g ⟨hi0, fg, wg⟩
  rw [S.withylaw10_begin_c1_eq]
  have hcg := fg.get ok hcb (by simp [hne])
  have hs : cfg10.S = 40 := rfl
  by_cases hic : i < cfg10.S
  · have hd1 : decide ((i : Int) < 40) = true := by rw [hs] at hic; exact decide_eq_true (by omega)
    have w1 : wr .i64 ((i : Int) + 1) = ((i + 1 : Nat) : Int) := by rw [hs] at hic; rw [wr64 (by omega) (by omega)]; rfl
    have hmu : cfg10.S - (i + 1) < cfg10.S - i := Nat.sub_lt_sub_left hic (Nat.lt_succ_self i)
    have hat := at10 (l := .header i) hic
    have hat' : ∀ h, C 131 [.agg [.int .i64 40, .int .i64 3, .int .i64 1, .int .i64 1, .int .i64 9, .int .i64 0], .str ⟨⟨[104, 101, 97, 100, 101, 114]⟩⟩, .int .i64 (i : Int), .int .i64 0] h = some (.int .i64 ((Wd.header i).pos cfg10 : Nat), h) := hat
    have hix : indexAV 1 (.sl bw 0 cfg10.size (.ex cfg10.size)) (.int .i64 ((Wd.header i).pos cfg10 : Nat)) = some (.ptr bw ((Wd.header i).pos cfg10)) := sl_idx1 (pos_lt (show (Wd.header i).ok cfg10 from hic))
    have hbl : bw < g.next := fg.lt (ok.lt w0)
    have hbn : bw ≠ g.next := Nat.ne_of_lt hbl
    have hcn : cb ≠ g.next := Nat.ne_of_lt (fg.lt (ok.lt hcb))
    have hPk := fun h => refPack_spec (hdN_right i) h
    have hpl : (Wd.header i).pos cfg10 < (cfg10.row (beg10 i)).length := by rw [row_length]; exact pos_lt (show (Wd.header i).ok cfg10 from hic)
    have hle : decide ((Wd.header i).pos cfg10 + 1 ≤ ((cfg10.row (beg10 i)).map (V.int .u64)).length) = true := decide_eq_true (by rw [List.length_map]; exact hpl)
    have hne0 : decide (Bk.rw = Bk.ro) = false := rfl
    have fr3 : ∀ b1 b2 b3, Fr [bw] h0 (((g.new b1).put g.next b2).put bw b3) := fun b1 b2 b3 => ((fg.new _).put (.inr fg.le) (Nat.lt_succ_self _) _).put (.inl (by simp)) (Nat.lt_succ_of_lt hbl) _
    have hset := beg10_succ hic
    by_cases h4 : 4 < i
    · have h4' : decide ((4 : Int) < (i : Int)) = true := decide_eq_true (by omega)
      have e4 : hdN i = ⟨2, 0, false, 0, 0, 0⟩ := by unfold hdN; rw [if_pos h4]
      rw [e4] at hPk hset
      simp only [Hdr.cs] at hPk
      simp only [S.withylaw10_begin_c1_S, ptrAt_ptr, Option.bind_some, Option.map_some, ld1_get', ldN_get', st_get', get_put', get_new', put_put', ldB_cells, ldNB_cells, stB_cells, List.getElem?_cons_zero, Nat.zero_add, Nat.add_zero, Nat.reduceAdd, Nat.reduceLeDiff, V.one, V.cells, V.beq, V.beqs, ckB_some, asI_int, List.length_cons, List.length_nil, Nat.beq_refl, List.all_cons, List.all_nil, Bool.not_true, Bool.or_self, Bool.and_self, decide_true, decide_false, if_true, if_false, splice, List.take_succ_cons, List.take_zero, List.drop_succ_cons, List.drop_zero, List.cons_append, List.nil_append, reduceCtorEq, W_call, hcg, hd1, h4', w1, hcn, hbn, hat', hPk, hix, BEq.rfl, wg, hle]
      refine Ev.some (.inl ⟨i + 1, rfl, rfl, ⟨hic, fr3 _ _ _, ?_⟩, hmu⟩)
      rw [get_put_self, row_splice hpl, hset]
    · have h4' : decide ((4 : Int) < (i : Int)) = false := decide_eq_false (by omega)
      have e4 : hdN i = ⟨1, 0, false, 3, 0, 0⟩ := by unfold hdN; rw [if_neg h4]
      rw [e4] at hPk hset
      simp only [Hdr.cs] at hPk
      simp only [S.withylaw10_begin_c1_S, ptrAt_ptr, Option.bind_some, Option.map_some, ld1_get', ldN_get', st_get', get_put', get_new', ldB_cells, ldNB_cells, stB_cells, List.getElem?_cons_zero, Nat.zero_add, Nat.add_zero, Nat.reduceAdd, Nat.reduceLeDiff, V.one, V.cells, V.beq, V.beqs, ckB_some, asI_int, List.length_cons, List.length_nil, Nat.beq_refl, List.all_cons, List.all_nil, Bool.not_true, Bool.or_self, Bool.and_self, decide_true, decide_false, if_true, if_false, splice, List.take_succ_cons, List.take_zero, List.drop_succ_cons, List.drop_zero, List.cons_append, List.nil_append, reduceCtorEq, W_call, hcg, hd1, h4', w1, hcn, hbn, hat', hPk, hix, BEq.rfl, wg, hle]
      refine Ev.some (.inl ⟨i + 1, rfl, rfl, ⟨hic, fr3 _ _ _, ?_⟩, hmu⟩)
      rw [get_put_self, row_splice hpl, hset]
  · have : i = cfg10.S := Nat.le_antisymm hi0 (Nat.le_of_not_lt hic)
    subst this
    have hd1 : decide (((cfg10.S : Nat) : Int) < 40) = false := rfl
    simp only [S.withylaw10_begin_c1_S, ptrAt_ptr, Option.bind_some, Option.map_some, ld1_get', ldN_get', st_get', get_put', get_new', put_put', ldB_cells, ldNB_cells, stB_cells, List.getElem?_cons_zero, Nat.zero_add, Nat.add_zero, Nat.reduceAdd, Nat.reduceLeDiff, V.one, V.cells, asI_int, List.length_cons, List.length_nil, Nat.beq_refl, List.all_cons, List.all_nil, Bool.not_true, Bool.or_self, Bool.and_self, decide_true, decide_false, if_true, splice, List.take_succ_cons, List.take_zero, List.drop_succ_cons, List.drop_zero, List.cons_append, List.nil_append, reduceCtorEq, W_call, hcg, hd1]
    exact Ev.some (.inr ⟨by simp, rfl, rfl, fg, wg⟩)

/-- A world of layer 10's laws, at its begin. -/
structure World10 (h : H) (w : Nat) (A : Adr) (f : Wd → Int) (n : Int) (B : BookT) : Prop where
  own : h.get w = some (.cells [.int .i64 40, .int .i64 3, .int .i64 1, .int .i64 1, .int .i64 9, .int .i64 0, .ptr A.p 0, .ptr A.bk 0, .int .i64 5, .nilsl, .bool false] .rw)
  out : w ∉ A.l
  base : Base h A cfg10 f n B

theorem begin10_spec {h : H} (ok : h.ok) : Ev (C 126 [] h) fun r => ∃ w A, r.1 = .ptr w 0 ∧ Fr [] h r.2 ∧ h.next ≤ w ∧ (∀ c ∈ A.l, h.next ≤ c) ∧ World10 r.2 w A (beg10 cfg10.S) 0 .new := by
  refine call_ev (af := F.withylaw10_begin) (by kernel_rfl) rfl ?_
  have hv : cfg10.v = .agg [.int .i64 40, .int .i64 3, .int .i64 1, .int .i64 1, .int .i64 9, .int .i64 0] := rfl
  have hcs : (Blk.cells cfg10.cs .rw) = .cells [.int .i64 40, .int .i64 3, .int .i64 1, .int .i64 1, .int .i64 9, .int .i64 0] .rw := rfl
  have hc := config10
  obtain ⟨g0, bw, e0, f0, n0, n1, w0⟩ := Memory_spec cfg10_R ((ok.new (.cells [.int .i64 0, .int .i64 0, .int .i64 0, .int .i64 0, .int .i64 0, .int .i64 0] .rw)).put (Nat.lt_succ_self _) (some (.cells cfg10.cs .rw)))
  have hcfg : g0.get h.next = some (.cells [.int .i64 40, .int .i64 3, .int .i64 1, .int .i64 1, .int .i64 9, .int .i64 0] .rw) := f0.get ((ok.new (.cells [.int .i64 0, .int .i64 0, .int .i64 0, .int .i64 0, .int .i64 0, .int .i64 0] .rw)).put (Nat.lt_succ_self _) (some (.cells [.int .i64 40, .int .i64 3, .int .i64 1, .int .i64 1, .int .i64 9, .int .i64 0] .rw))) (get_put_self _ _ _) (by simp)
  have hfr0 : Fr [] h g0 := (((Fr.refl ok).new (.cells [.int .i64 0, .int .i64 0, .int .i64 0, .int .i64 0, .int .i64 0, .int .i64 0] .rw)).put (.inr (Nat.le_refl _)) (Nat.lt_succ_self _) (some (.cells [.int .i64 40, .int .i64 3, .int .i64 1, .int .i64 1, .int .i64 9, .int .i64 0] .rw))).trans' f0
  have n0 : h.next + 1 ≤ bw := n0
  rw [hv] at e0 hc
  rw [hcs] at e0
  rw [S.withylaw10_begin_eq]
  simp only [S.withylaw10_begin, Option.bind_some, Option.map_some, ldN_get', st_get', get_put', get_new', ldNB_cells, stB_cells, Nat.zero_add, Nat.reduceAdd, Nat.reduceLeDiff, V.one, V.cells, List.length_cons, List.length_nil, Nat.beq_refl, List.all_cons, List.all_nil, Bool.not_true, Bool.false_or, Bool.or_self, Bool.and_self, decide_true, decide_false, if_true, splice, List.take_succ_cons, List.take_zero, List.drop_succ_cons, List.drop_zero, List.cons_append, List.nil_append, reduceCtorEq, W_call, hc, e0]
  refine begin10_loop f0.ok hcfg (by omega) w0 _ _ ?_
  intro g fg wg
  rw [S.withylaw10_begin_c1_e0_eq]
  have o1 := fg.get f0.ok hcfg (by simp; omega)
  have hrow : RowIs g.get (.sl bw 0 cfg10.size (.ex cfg10.size)) (cfg10.row (beg10 cfg10.S)) := ⟨by rw [row_length]; decide, .inr ⟨bw, _, _, by rw [row_length], wg⟩⟩
  have hlen := row_length cfg10 (beg10 cfg10.S)
  have hM := memOf_spec (x := .sl bw 0 cfg10.size (.ex cfg10.size)) (ws := cfg10.row (beg10 cfg10.S)) fg.ok hrow (by intro q; rw [q] at hlen; exact absurd hlen (by decide)) (by rw [hlen]; decide) (row_U64 (beg10_U64 _))
  simp only [S.withylaw10_begin_c1_e0, Option.bind_some, ldN_get', ldNB_cells, Nat.zero_add, Nat.reduceAdd, Nat.reduceLeDiff, V.cells, List.length_cons, List.length_nil, Nat.beq_refl, Bool.and_true, Bool.true_and, Bool.and_self, decide_true, splice, List.take_succ_cons, List.take_zero, List.drop_succ_cons, List.drop_zero, List.cons_append, List.nil_append, fill, opd, boxc, W_call, o1]
  refine Ev.bind hM ?_
  rintro ⟨v1, g1⟩ ⟨p, q, rfl, F1, p1, p2, M1⟩
  dsimp only at F1 M1 ⊢
  have o2 := F1.get fg.ok o1 (by simp)
  have ok1 := F1.ok
  simp only [ldNB_cells, Nat.zero_add, Nat.reduceAdd, Nat.reduceLeDiff, V.beq, V.beqs, ckB_some, List.length_cons, List.length_nil, Nat.beq_refl, Bool.and_true, Bool.and_self, decide_true, List.take_succ_cons, List.take_zero, List.drop_succ_cons, List.drop_zero, List.cons_append, List.nil_append, o2]
  refine Ev.bind (newBook_at ok1) ?_
  rintro ⟨v2, g2⟩ ⟨b, rfl, F2, m1, m2, n1, n2, n3, n4, n5, n6, K⟩
  dsimp only at F2 K ⊢
  have o3 := F2.get ok1 o2 (by simp)
  have ok2 := F2.ok
  simp only [Option.bind_some, ldNB_cells, Nat.zero_add, Nat.reduceAdd, Nat.reduceLeDiff, V.beq, V.beqs, ckB_some, List.length_cons, List.length_nil, Nat.beq_refl, Bool.and_self, decide_true, List.take_succ_cons, List.take_zero, List.drop_succ_cons, List.drop_zero, List.cons_append, List.nil_append, o3]
  obtain ⟨_, Mo⟩ := M1.own
  have lp := ok1.lt Mo
  obtain ⟨kk, _, Mr⟩ := M1.row
  have lq := ok1.lt Mr
  have Fg : Fr [] h g := hfr0.trans fg (by intro c hc; simp only [List.mem_singleton] at hc; subst hc; right; omega)
  have F12 : Fr [] h g2 := (Fg.trans F1 (by simp)).trans F2 (by simp)
  have lg : h.next ≤ g.next := Fg.le
  have lg1 : g.next ≤ g1.next := F1.le
  have l2 := F2.le
  have Fn : Fr [] g2 (g2.new (.cells [.int .i64 40, .int .i64 3, .int .i64 1, .int .i64 1, .int .i64 9, .int .i64 0, .ptr p 0, .ptr b 0, .int .i64 5, .nilsl, .bool false] .rw)) := (Fr.refl ok2).new _
  have M2 := (M1.fr ok1 F2 (by simp) (by simp)).fr ok2 Fn (by simp) (by simp)
  have K2 := K.fr ok2 Fn (by simp) (by simp) (by simp)
  have hne := M1.ne
  have hbl : b < g2.next := ok2.lt K.own
  obtain ⟨e1, K1, _⟩ := K.born
  obtain ⟨e2, K3, _⟩ := K.turned
  have hm1 := ok2.lt K1
  have hm2 := ok2.lt K3
  refine Ev.some ⟨g2.next, ⟨p, q, b, m1, m2⟩, rfl, F12.new _, Nat.le_trans lg (Nat.le_trans lg1 l2), ?_, ⟨get_new_self _ _, ?_, ⟨?_, ⟨_, M2⟩, K2⟩⟩⟩
  · unfold Adr.l
    simp only [List.mem_cons, List.not_mem_nil, or_false, forall_eq_or_imp, forall_eq]
    refine ⟨?_, ?_, ?_, ?_, ?_⟩ <;> omega
  · unfold Adr.l
    simp only [List.mem_cons, List.not_mem_nil, or_false, not_or]
    refine ⟨?_, ?_, ?_, ?_, ?_⟩ <;> omega
  · unfold Adr.l
    simp only [List.nodup_cons, List.mem_cons, List.not_mem_nil, or_false, not_or, not_false_eq_true, List.nodup_nil, and_true]
    refine ⟨⟨hne, ?_, ?_, ?_⟩, ⟨?_, ?_, ?_⟩, ⟨n1, n2⟩, n3⟩ <;> omega
end Wm
end

section
/- Layer 10's laws of one machine alone: values' slots, words that are laid. -/
namespace Wm
attribute [local congr] bind_congr1
attribute [local irreducible] wr

theorem slot10 {v : Int} (h0 : -1 ≤ v) (h1 : v ≤ 100) (h : H) : C 129 [.int .i64 v] h = some (.int .i64 (if v < 0 then -1 else v + 1), h) := by
  refine call_closed (af := F.withylaw10_slot) (by kernel_rfl) rfl (by rfl) (by rfl) h ?_
  rw [S.withylaw10_slot_eq]
  by_cases hv : v < 0
  · simp only [S.withylaw10_slot, Int.reduceNeg, decide_true, if_true, hv]
    exact Ev.some rfl
  · have w : wr .i64 (v + 1) = v + 1 := wr64 (by omega) (by omega)
    simp only [S.withylaw10_slot, Int.reduceNeg, decide_false, if_false, hv, w]
    exact Ev.some rfl

theorem laid10 {h : H} {A : Adr} {k : Cfg} {f : Wd → Int} {n : Int} {B : BookT} (E : Base h A k f n B) (ok : h.ok) {l : Wd} (hl : l.ok k) {v : Int} (hv : U64 v) :
    Ev (C 130 [.ptr A.p 0, .int .i64 (l.pos k : Nat), .int .u64 v] h) fun r => r.1 = .ptr A.p 0 ∧ Fr [A.p, A.pw] h r.2 ∧ Base r.2 A k (wset f l v) (wr .i64 (n + 1)) B := by
  refine call_ev (af := F.withylaw10_laid) (by kernel_rfl) rfl ?_
  rw [S.withylaw10_laid_eq]
  simp only [S.withylaw10_laid, W_call]
  refine Ev.bind (E.store ok hl hv) ?_
  rintro ⟨x, g⟩ ⟨_, F1, E1⟩
  exact Ev.some ⟨rfl, F1, E1⟩
end Wm
end

section
/- Fields' machines: a step of a Lay. -/
namespace Wm
attribute [local congr] bind_congr1
attribute [local irreducible] wr

theorem wr_plus1 {o : Option Nat} (h : ∀ q, o = some q → q ≤ 1000) : wr .u64 (wr .i64 (sl o + 1)) = sl o + 1 ∧ U64 (sl o + 1) := by
  have hb : -1 ≤ sl o ∧ sl o ≤ 1000 := by
    cases o with
    | none => exact ⟨Int.le_refl _, by decide⟩
    | some q => have := h q rfl; unfold sl; simp only; omega
  generalize sl o = x at hb
  rw [wr64 (by omega) (by omega), wru64 (by omega) (by omega)]
  exact ⟨rfl, by unfold U64; omega⟩
theorem wr_rec1 {q : Nat} (h : q ≤ 1000) : wr .u64 (wr .i64 ((q : Int) + 1)) = (q : Int) + 1 ∧ U64 ((q : Int) + 1) := by
  rw [wr64 (by omega) (by omega), wru64 (by omega) (by omega)]
  exact ⟨rfl, by unfold U64; omega⟩

theorem LayAt.step {h : H} (ok : h.ok) {A : Adr} {k : Cfg} (hr : k.R = true) {f : Wd → Int} {n : Int} {B : BookT} {b : Nat} {s : Lay} {L : List Nat} (Z : LayAt h b k A.bk s L) (E : Base h A k f n B) (hb : ∀ c ∈ L, c ∉ A.l) :
    Ev (C 133 [.ptr b 0, .ptr A.p 0] h) fun r => r.1 = .bool (decide ((s.step k f B).1.next = 6)) ∧ ∃ L', Fr (L ++ A.l) h r.2 ∧ LayAt r.2 b k A.bk (s.step k f B).1 L' ∧ (∀ c ∈ L', c ∈ L ∨ h.next ≤ c) ∧ Base r.2 A k (s.step k f B).2.1 (if s.works then wr .i64 (n + 1) else n) (s.step k f B).2.2 := by
  refine call_ev (af := F.field_Lay_Step) (by kernel_rfl) rfl ?_
  rw [S.field_Lay_Step_eq]
  obtain ⟨hbL, hlt⟩ := Z.mem ok
  have hbA := hb b hbL
  have hbl := hlt b hbL
  obtain ⟨⟨nb, r0, L0, shv, stv, LX, So, v1, v2, v3, v4, N, hr0, X, hbL0, hbLX, hLX0, rfl⟩, hrec, he, hone⟩ := Z
  have hb' := hbA
  unfold Adr.l at hb'
  simp only [List.mem_cons, List.not_mem_nil, or_false, not_or] at hb'
  obtain ⟨nb1, nb2, nb3, nb4, nb5⟩ := hb'
  have hAb : ∀ c ∈ A.l, c ∉ [b] := fun c hc h => hbA (by simp only [List.mem_singleton] at h; rw [← h]; exact hc)
  have hLb : ∀ c ∈ L0, c ∉ [b] := fun c hc h => hbL0 (by simp only [List.mem_singleton] at h; rw [← h]; exact hc)
  have hXb : ∀ c ∈ LX, c ∉ [b] := fun c hc h => hbLX (by simp only [List.mem_singleton] at h; rw [← h]; exact hc)
  have hL0A : ∀ c ∈ L0, c ∉ A.l := fun c hc => hb c (by simp [hc])
  have hLXA : ∀ c ∈ LX, c ∉ A.l := fun c hc => hb c (by simp [hc])
  have hmb : ∀ {g g' : H}, Fr [b] g g' → Fr (b :: (L0 ++ LX) ++ A.l) g g' := fun F => F.mono (by simp)
  have hmp : ∀ {g g' : H}, Fr [A.p, A.pw] g g' → Fr (b :: (L0 ++ LX) ++ A.l) g g' := fun F => F.mono (by unfold Adr.l; simp)
  have hpL : ∀ {c : Nat}, c ∉ A.l → c ∉ [A.p, A.pw] := fun hc => by unfold Adr.l at hc; simp only [List.mem_cons, List.not_mem_nil, or_false, not_or] at hc ⊢; exact ⟨hc.1, hc.2.1⟩
  have nbL := (N.mem ok).1
  have hnbb : nb ≠ b := fun h => hbL0 (h ▸ nbL)
  have hnbl := (N.mem ok).2 nb nbL
  have hbn : b ≠ h.next := Nat.ne_of_lt hbl
  have hnbn : nb ≠ h.next := Nat.ne_of_lt hnbl
  have hrm := (Cfg.bounds hr).2.1
  have hS64 := (Cfg.bounds hr).1.2
  have h0r : 0 < k.room := Nat.lt_of_lt_of_le (by decide) hrm.1
  have h2r : 2 < k.room := Nat.lt_of_lt_of_le (by decide) hrm.1
  obtain ⟨⟨sv, No, Ns⟩, Nf, None1, Nr, Nr0⟩ := id N
  -- the heap behind the copy of the config
  let z : Blk := .cells [.int .i64 0, .int .i64 0, .int .i64 0, .int .i64 0, .int .i64 0, .int .i64 0] .rw
  let cf : Option Blk := some (.cells [.int .i64 k.s, .int .i64 k.a, .int .i64 k.c, .int .i64 k.hd, .int .i64 k.g, .int .i64 k.st] .rw)
  have F0 : Fr [] h ((h.new z).put h.next cf) := ((Fr.refl ok).new _).put (.inr (Nat.le_refl _)) (Nat.lt_succ_self _) _
  have C0 : ((h.new z).put h.next cf).get h.next = cf := get_put_self _ _ _
  have hF0 : Fr (b :: (L0 ++ LX) ++ A.l) h ((h.new z).put h.next cf) := F0.mono (by simp)
  have So0 := F0.get ok So (by simp)
  have No0 := F0.get ok No (by simp)
  have N0 := N.fr ok F0 (by simp)
  have X0 := X.fr ok F0 (by simp)
  have E0 := E.fr ok F0 (by simp)
  have hcb : h.next ≠ b := hbn.symm
  have hcA : ∀ c ∈ A.l, c ≠ h.next := fun c hc => Nat.ne_of_lt (E.lt ok c hc)
  have hbl0 : b < ((h.new z).put h.next cf).next := F0.lt hbl
  obtain ⟨laid, point, nw, rec, expect, e, shade, stamp, next⟩ := s
  unfold Lay.cs at So
  unfold Lay.step Lay.works
  simp only at So So0 N hr0 X hrec he hone N0 X0 No No0 Nf Nr Nr0 ⊢
  by_cases c0 : next = 0
  · subst c0
    have hLX : LX = [] := by
      rcases X with ⟨h0, _⟩ | ⟨h0, _⟩ | ⟨_, _, h0⟩
      · cases h0
      · cases h0
      · exact h0
    subst hLX
    simp only [S.field_Lay_Step, nilc_ptr, eqPtr_ptr, ptrAt_ptr, Option.bind_some, Option.map_some, ld1_get', ldN_get', st_get', get_put', get_new', ldB_cells, ldNB_cells, stB_cells, List.getElem?_cons_zero, List.getElem?_cons_succ, Nat.zero_add, Nat.add_zero, Nat.reduceAdd, Nat.reduceLeDiff, Int.reduceEq, Int.reduceNeg, V.one, V.cells, asI_int, List.length_cons, List.length_nil, Nat.beq_refl, List.all_cons, List.all_nil, Bool.and_true, Bool.true_and, Bool.false_and, Bool.not_true, Bool.or_false, Bool.false_or, Bool.or_self, Bool.and_self, decide_true, decide_false, if_true, if_false, splice, List.take_succ_cons, List.take_zero, List.drop_succ_cons, List.drop_zero, List.cons_append, List.nil_append, reduceCtorEq, fill, opd, boxc, eqV, W_call, So, No, hbn, hnbn]
    refine Ev.bind (N0.step F0.ok hr E0 hL0A) ?_
    rintro ⟨v, g⟩ ⟨rfl, L', r1, F1, N1, hL', E1⟩
    dsimp only at F1 N1 E1
    have hle0 : h.next ≤ ((h.new z).put h.next cf).next := F0.le
    have G1 := F1.get F0.ok So0 (by simp only [List.mem_append, not_or]; exact ⟨hbL0, hbA⟩)
    have hb1 : b < g.next := F1.lt hbl0
    have hbL' : b ∉ L' := fun hc => (hL' b hc).elim hbL0 (fun h => absurd hbl0 (Nat.not_lt_of_le h))
    have hLb' : ∀ c ∈ L', c ∉ [b] := fun c hc h => hbL' (by simp only [List.mem_singleton] at h; rw [← h]; exact hc)
    have F1' : Fr (b :: (L0 ++ []) ++ A.l) h g := hF0.trans' (F1.mono (by intro c hc; simp only [List.append_nil]; exact .inl (List.mem_cons_of_mem _ hc)))
    have hsub : ∀ c ∈ b :: (L' ++ []), c ∈ b :: (L0 ++ []) ∨ h.next ≤ c := fun c hc => by
      simp only [List.append_nil] at hc ⊢
      rcases List.mem_cons.mp hc with rfl | hc
      · exact .inl (by simp)
      · exact (hL' c hc).imp (fun h => by simp [h]) (fun h => Nat.le_trans hle0 h)
    unfold Lay.cs at G1
    simp only at G1
    by_cases hd : (nw.step k f B).1.next = 2
    · obtain ⟨⟨sv1, No1, Ns1⟩, Nf1, None11, Nr1, Nr01⟩ := id N1
      have hr1 : r1 = sl (nw.step k f B).1.rec' := Nr01.resolve_left (by rw [hd]; decide)
      have nbL1 := (N1.mem F1.ok).1
      have hnbb1 : nb ≠ b := fun h => hbL' (h ▸ nbL1)
      have F3 : ∀ x, Fr [b] g (g.put b x) := fun x => (Fr.refl F1.ok).put (.inl (by simp)) hb1 _
      unfold Lay.headed
      simp only
      by_cases hx1 : -1 ≤ expect
      · cases hrc : (nw.step k f B).1.rec' with
        | some q =>
          have hsl : decide ((0 : Int) ≤ sl (some q)) = true := decide_eq_true (Int.natCast_nonneg q)
          rw [hr1, hrc] at No1
          simp only [nilc_ptr, ptrAt_ptr, Option.bind_some, Option.map_some, ld1_get', get_put', put_put', ldB_cells, stB_cells, List.getElem?_cons_zero, List.getElem?_cons_succ, Nat.zero_add, Nat.reduceAdd, Nat.reduceLeDiff, Int.reduceEq, Int.reduceNeg, V.one, asI_int, asB_bool, List.length_cons, List.length_nil, List.all_cons, List.all_nil, Bool.not_true, Bool.or_self, Bool.and_self, decide_true, decide_false, if_true, if_false, splice, List.take_succ_cons, List.take_zero, List.drop_succ_cons, List.drop_zero, List.cons_append, List.nil_append, reduceCtorEq, hd, G1, No1, hx1, hsl, hnbb1, ne_eq, not_false_eq_true, and_self]
          exact Ev.some ⟨rfl, b :: (L' ++ []), F1'.trans' (hmb (F3 _)), ⟨⟨nb, r1, L', shv, stv, [], get_put_self _ _ _, v1, v2, v3, v4, N1.fr F1.ok (F3 _) hLb', fun _ => hr1, .inr (.inr ⟨by simp, by simp, rfl⟩), hbL', by simp, by simp, rfl⟩, hrec, he, fun _ => by simp [hrc]⟩, hsub, E1.fr F1.ok (F3 _) hAb⟩
        | none =>
          have hsl : decide ((0 : Int) ≤ sl none) = false := rfl
          rw [hr1, hrc] at No1
          by_cases hx0 : 0 ≤ expect
          · have hrf : ∀ x, C 307 [.ptr b 0] (g.put b (some (.cells (Lay.cs nb shv stv ⟨laid, point, (nw.step k f B).1, rec, expect, e, shade, stamp, x⟩) .rw))) = _ := fun x => layRefuse_spec (get_put_self _ _ _) v1 v2 (N1.fr F1.ok (F3 _) hLb') hr1 (E1.fr F1.ok (F3 _) hAb)
            have hrf2 := hrf 2
            unfold Lay.cs Lay.refuse at hrf2
            simp only at hrf2
            simp only [nilc_ptr, ptrAt_ptr, Option.bind_some, Option.map_some, ld1_get', get_put', put_put', ldB_cells, stB_cells, List.getElem?_cons_zero, List.getElem?_cons_succ, Nat.zero_add, Nat.reduceAdd, Nat.reduceLeDiff, Int.reduceEq, Int.reduceNeg, V.one, asI_int, asB_bool, List.length_cons, List.length_nil, List.all_cons, List.all_nil, Bool.not_true, Bool.or_self, Bool.and_self, decide_true, decide_false, if_true, if_false, splice, List.take_succ_cons, List.take_zero, List.drop_succ_cons, List.drop_zero, List.cons_append, List.nil_append, reduceCtorEq, hd, G1, No1, hx1, hx0, hsl, hnbb1, hrf2, ne_eq, not_true_eq_false, and_false]
            exact Ev.some ⟨rfl, b :: (L' ++ []), F1'.trans' (hmb (F3 _)), ⟨⟨nb, r1, L', shv, stv, [], get_put_self _ _ _, v1, v2, v3, v4, N1.fr F1.ok (F3 _) hLb', fun _ => hr1, .inr (.inr ⟨by simp [Lay.refuse], by simp [Lay.refuse], rfl⟩), hbL', by simp, by simp, rfl⟩, hrec, he, by simp [Lay.refuse]⟩, hsub, E1.fr F1.ok (F3 _) hAb⟩
          · simp only [nilc_ptr, ptrAt_ptr, Option.bind_some, Option.map_some, ld1_get', get_put', put_put', ldB_cells, stB_cells, List.getElem?_cons_zero, List.getElem?_cons_succ, Nat.zero_add, Nat.reduceAdd, Nat.reduceLeDiff, Int.reduceEq, Int.reduceNeg, V.one, asI_int, asB_bool, List.length_cons, List.length_nil, List.all_cons, List.all_nil, Bool.not_true, Bool.or_self, Bool.and_self, decide_true, decide_false, if_true, if_false, splice, List.take_succ_cons, List.take_zero, List.drop_succ_cons, List.drop_zero, List.cons_append, List.nil_append, reduceCtorEq, hd, G1, No1, hx1, hx0, hsl, hnbb1, ne_eq, not_true_eq_false, and_false]
            exact Ev.some ⟨rfl, b :: (L' ++ []), F1'.trans' (hmb (F3 _)), ⟨⟨nb, r1, L', shv, stv, [], get_put_self _ _ _, v1, v2, v3, v4, N1.fr F1.ok (F3 _) hLb', fun _ => hr1, .inr (.inr ⟨by simp, by simp, rfl⟩), hbL', by simp, by simp, rfl⟩, hrec, he, by simp⟩, hsub, E1.fr F1.ok (F3 _) hAb⟩
      · have hx0 : ¬ 0 ≤ expect := fun h => hx1 (Int.le_trans (by decide) h)
        simp only [nilc_ptr, ptrAt_ptr, Option.bind_some, Option.map_some, ld1_get', get_put', put_put', ldB_cells, stB_cells, List.getElem?_cons_zero, List.getElem?_cons_succ, Nat.zero_add, Nat.reduceAdd, Nat.reduceLeDiff, Int.reduceEq, Int.reduceNeg, V.one, asI_int, asB_bool, List.length_cons, List.length_nil, List.all_cons, List.all_nil, Bool.not_true, Bool.or_self, Bool.and_self, decide_true, decide_false, if_true, if_false, splice, List.take_succ_cons, List.take_zero, List.drop_succ_cons, List.drop_zero, List.cons_append, List.nil_append, reduceCtorEq, hd, G1, hx1, hx0, false_and]
        exact Ev.some ⟨rfl, b :: (L' ++ []), F1'.trans' (hmb (F3 _)), ⟨⟨nb, r1, L', shv, stv, [], get_put_self _ _ _, v1, v2, v3, v4, N1.fr F1.ok (F3 _) hLb', fun _ => hr1, .inr (.inr ⟨by simp, by simp, rfl⟩), hbL', by simp, by simp, rfl⟩, hrec, he, by simp⟩, hsub, E1.fr F1.ok (F3 _) hAb⟩
    · simp only [nilc_ptr, ptrAt_ptr, Option.bind_some, Option.map_some, ld1_get', get_put', put_put', ldB_cells, stB_cells, List.getElem?_cons_zero, List.getElem?_cons_succ, Nat.zero_add, Nat.reduceAdd, Nat.reduceLeDiff, Int.reduceEq, Int.reduceNeg, V.one, asI_int, asB_bool, List.length_cons, List.length_nil, List.all_cons, List.all_nil, Bool.not_true, Bool.not_false, Bool.or_self, Bool.and_self, decide_true, decide_false, if_true, if_false, splice, List.take_succ_cons, List.take_zero, List.drop_succ_cons, List.drop_zero, List.cons_append, List.nil_append, reduceCtorEq, hd, G1]
      exact Ev.some ⟨rfl, b :: (L' ++ []), F1', ⟨⟨nb, r1, L', shv, stv, [], by unfold Lay.cs; exact G1, v1, v2, v3, v4, N1, by simp, .inr (.inr ⟨by simp, by simp, rfl⟩), hbL', by simp, by simp, rfl⟩, hrec, he, by simp⟩, hsub, E1⟩
  · have hr0' := hr0 c0
    have put0 : ∀ x, Fr [b] ((h.new z).put h.next cf) (((h.new z).put h.next cf).put b x) := fun x => (Fr.refl F0.ok).put (.inl (by simp)) hbl0 _
    have E0p : ∀ x, Base (((h.new z).put h.next cf).put b x) A k f n B := fun x => E0.fr F0.ok (put0 x) hAb
    have N0p : ∀ x, NewestAt (((h.new z).put h.next cf).put b x) nb k A.bk nw r0 L0 := fun x => N0.fr F0.ok (put0 x) hLb
    have hcfp : ∀ x, (((h.new z).put h.next cf).put b x).get h.next = cf := fun x => by rw [get_put_ne hcb]; exact C0
    have hN : ∀ {g g' : H}, g.ok → NewestAt g nb k A.bk nw r0 L0 → Fr [A.p, A.pw] g g' → NewestAt g' nb k A.bk nw r0 L0 := fun okg Ng F => Ng.fr okg F (fun c hc => hpL (hL0A c hc))
    have hnp : h.next ∉ [A.p, A.pw] := by
      simp only [List.mem_cons, List.not_mem_nil, or_false, not_or]
      exact ⟨(hcA A.p (by unfold Adr.l; simp)).symm, (hcA A.pw (by unfold Adr.l; simp)).symm⟩
    have hnmr : nb ∉ [A.p, A.pw] := hpL (hL0A nb nbL)
    have hbmr : b ∉ [A.p, A.pw] := hpL hbA
    have hv : k.v = .agg [.int .i64 k.s, .int .i64 k.a, .int .i64 k.c, .int .i64 k.hd, .int .i64 k.g, .int .i64 k.st] := rfl
    have e0 : ((0 : Nat) : Int) = 0 := rfl
    have e2 : ((2 : Nat) : Int) = 2 := rfl
    rw [hr0'] at No No0
    by_cases c1 : next = 1
    · subst c1
      have hLX : LX = [] := by
        rcases X with ⟨h0, _⟩ | ⟨h0, _⟩ | ⟨_, _, h0⟩
        · cases h0
        · cases h0
        · exact h0
      subst hLX
      obtain ⟨q, hnq⟩ : ∃ q, nw.rec' = some q := Option.ne_none_iff_exists'.mp (hone rfl)
      have hq := Nr q hnq
      rw [hnq] at No No0
      have hbd : ∀ h, C 305 [.agg [.int .i64 k.s, .int .i64 k.a, .int .i64 k.c, .int .i64 k.hd, .int .i64 k.g, .int .i64 k.st], .int .i64 (sl (some q)), .int .i64 0] h = some (.int .i64 ((Wd.body q 0).pos k : Nat), h) := fun h => body_at hr hq h0r h
      have hwo : (Wd.body q 0).ok k := ⟨hq, h0r⟩
      simp only [S.field_Lay_Step, nilc_ptr, eqPtr_ptr, ptrAt_ptr, Option.bind_some, Option.map_some, ld1_get', ldN_get', st_get', get_put', get_new', ldB_cells, ldNB_cells, stB_cells, List.getElem?_cons_zero, List.getElem?_cons_succ, Nat.zero_add, Nat.add_zero, Nat.reduceAdd, Nat.reduceLeDiff, Int.reduceEq, Int.reduceNeg, V.one, V.cells, V.beq, V.beqs, ckB_some, asI_int, List.length_cons, List.length_nil, Nat.beq_refl, List.all_cons, List.all_nil, Bool.and_true, Bool.false_and, Bool.not_true, Bool.or_false, Bool.false_or, Bool.or_self, Bool.and_self, decide_true, decide_false, if_true, if_false, splice, List.take_succ_cons, List.take_zero, List.drop_succ_cons, List.drop_zero, List.cons_append, List.nil_append, reduceCtorEq, fill, opd, boxc, eqV, W_call, So, No, hbn, hnbn, hnbb, hcb, hbd]
      refine Ev.bind ((E0p _).load (put0 _).ok hwo) ?_
      rintro ⟨v, g⟩ ⟨rfl, F1, E1⟩
      dsimp only at F1 E1
      have G1 := F1.get (put0 _).ok (get_put_self _ _ _) hbmr
      have Cg := F1.get (put0 _).ok (hcfp _) hnp
      have N1 := hN (put0 _).ok (N0p _) F1
      have hnm := namedS hr (E.u64 hwo)
      have hb1 : b < g.next := F1.lt hbl0
      have F1' : Fr (b :: (L0 ++ []) ++ A.l) h g := (hF0.trans' (hmb (put0 _))).trans' (hmp F1)
      have F3 : ∀ x, Fr [b] g (g.put b x) := fun x => (Fr.refl F1.ok).put (.inl (by simp)) hb1 _
      by_cases hx : sl (namedO k (f (.body q 0))) = expect
      · simp only [Option.bind_some, ldB_cells, ldNB_cells, List.getElem?_cons_zero, List.getElem?_cons_succ, Nat.zero_add, Nat.reduceAdd, Nat.reduceLeDiff, Int.reduceEq, V.one, V.beq, V.beqs, ckB_some, asI_int, List.length_cons, List.length_nil, Bool.not_true, Bool.and_self, decide_true, decide_false, if_true, List.take_succ_cons, List.take_zero, List.drop_zero, G1, Cg, hnm, hx, hnq]
        exact Ev.some ⟨rfl, b :: (L0 ++ []), F1', ⟨⟨nb, r0, L0, shv, stv, [], by unfold Lay.cs; exact G1, v1, v2, v3, v4, N1, fun _ => hr0', .inr (.inr ⟨by simp, by simp, rfl⟩), hbL0, by simp, by simp, rfl⟩, hrec, he, by simp⟩, fun c hc => .inl hc, E1⟩
      · have hrf := layRefuse_spec (s := ⟨laid, point, nw, rec, expect, e, shade, stamp, 2⟩) (nb := nb) (shv := shv) (stv := stv) (by unfold Lay.cs; exact G1) v1 v2 N1 hr0' E1
        unfold Lay.cs Lay.refuse at hrf
        simp only at hrf
        simp only [Option.bind_some, get_put', ldB_cells, ldNB_cells, List.getElem?_cons_zero, List.getElem?_cons_succ, Nat.zero_add, Nat.reduceAdd, Nat.reduceLeDiff, V.one, V.beq, V.beqs, ckB_some, asI_int, List.length_cons, List.length_nil, Bool.not_false, Bool.and_self, decide_true, decide_false, if_true, if_false, List.take_succ_cons, List.take_zero, List.drop_zero, G1, Cg, hnm, hx, hnq, hrf]
        exact Ev.some ⟨rfl, b :: (L0 ++ []), F1'.trans' (hmb (F3 _)), ⟨⟨nb, r0, L0, shv, stv, [], get_put_self _ _ _, v1, v2, v3, v4, N1.fr F1.ok (F3 _) hLb, fun _ => hr0', .inr (.inr ⟨by simp [Lay.refuse], by simp [Lay.refuse], rfl⟩), hbL0, by simp, by simp, rfl⟩, hrec, he, by simp [Lay.refuse]⟩, fun c hc => .inl hc, E1.fr F1.ok (F3 _) hAb⟩
    · by_cases c2 : next = 2
      · subst c2
        have hLX : LX = [] := by
          rcases X with ⟨h0, _⟩ | ⟨h0, _⟩ | ⟨_, _, h0⟩
          · cases h0
          · cases h0
          · exact h0
        subst hLX
        have hbd : ∀ h, C 305 [.agg [.int .i64 k.s, .int .i64 k.a, .int .i64 k.c, .int .i64 k.hd, .int .i64 k.g, .int .i64 k.st], .int .i64 (rec : Int), .int .i64 2] h = some (.int .i64 ((Wd.body rec 2).pos k : Nat), h) := fun h => body_at hr hrec h2r h
        have hwo : (Wd.body rec 2).ok k := ⟨hrec, h2r⟩
        obtain ⟨w1, w2⟩ := wr_plus1 (o := nw.rec') (fun q hq => Nat.le_of_lt (Nat.lt_of_lt_of_le (Nr q hq) (Nat.le_trans hS64 (by decide))))
        simp only [S.field_Lay_Step, nilc_ptr, eqPtr_ptr, ptrAt_ptr, Option.bind_some, Option.map_some, ld1_get', ldN_get', st_get', get_put', get_new', ldB_cells, ldNB_cells, stB_cells, List.getElem?_cons_zero, List.getElem?_cons_succ, Nat.zero_add, Nat.add_zero, Nat.reduceAdd, Nat.reduceLeDiff, Int.reduceEq, Int.reduceNeg, V.one, V.cells, V.beq, ckB_some, asI_int, List.length_cons, List.length_nil, Nat.beq_refl, List.all_cons, List.all_nil, Bool.and_true, Bool.false_and, Bool.not_true, Bool.or_false, Bool.false_or, Bool.or_self, Bool.and_self, decide_true, decide_false, if_true, if_false, splice, List.take_succ_cons, List.take_zero, List.drop_succ_cons, List.drop_zero, List.cons_append, List.nil_append, reduceCtorEq, fill, opd, boxc, eqV, W_call, So, No, hbn, hnbn, hnbb, hcb, hbd, w1]
        refine Ev.bind (E0.store F0.ok hwo w2) ?_
        rintro ⟨v, g⟩ ⟨rfl, F1, E1⟩
        dsimp only at F1 E1
        have G1 := F1.get F0.ok So0 hbmr
        have Cg := F1.get F0.ok C0 hnp
        have No1 := F1.get F0.ok No0 hnmr
        have N1 := hN F0.ok N0 F1
        have hb1 : b < g.next := F1.lt hbl0
        have F1' : Fr (b :: (L0 ++ []) ++ A.l) h g := hF0.trans' (hmp F1)
        have F3 : ∀ x, Fr [b] g (g.put b x) := fun x => (Fr.refl F1.ok).put (.inl (by simp)) hb1 _
        unfold Lay.cs at G1
        simp only at G1
        cases hnq : nw.rec' with
        | none =>
          have hsl : decide ((0 : Int) ≤ sl none) = false := rfl
          rw [hnq] at No1
          simp only [nilc_ptr, ptrAt_ptr, Option.bind_some, Option.map_some, ld1_get', get_put', ldB_cells, stB_cells, List.getElem?_cons_zero, List.getElem?_cons_succ, Nat.zero_add, Nat.reduceAdd, Nat.reduceLeDiff, Int.reduceEq, V.one, asI_int, List.length_cons, List.length_nil, List.all_cons, List.all_nil, Bool.not_true, Bool.or_self, Bool.and_self, decide_true, decide_false, if_true, if_false, splice, List.take_succ_cons, List.take_zero, List.drop_succ_cons, List.drop_zero, List.cons_append, List.nil_append, reduceCtorEq, G1, No1, hsl, hnbb]
          exact Ev.some ⟨rfl, b :: (L0 ++ []), F1'.trans' (hmb (F3 _)), ⟨⟨nb, r0, L0, shv, stv, [], get_put_self _ _ _, v1, v2, v3, v4, N1.fr F1.ok (F3 _) hLb, fun _ => hr0', .inr (.inr ⟨by simp, by simp, rfl⟩), hbL0, by simp, by simp, rfl⟩, hrec, he, by simp⟩, fun c hc => .inl hc, by rw [hnq] at E1; exact E1.fr F1.ok (F3 _) hAb⟩
        | some q =>
          have hq := Nr q hnq
          have hsl : decide ((0 : Int) ≤ sl (some q)) = true := decide_eq_true (Int.natCast_nonneg q)
          rw [hnq] at No1 E1
          cases hfe : fenced e with
          | false =>
            simp only [nilc_ptr, ptrAt_ptr, Option.bind_some, Option.map_some, ld1_get', get_put', ldB_cells, stB_cells, List.getElem?_cons_zero, List.getElem?_cons_succ, Nat.zero_add, Nat.reduceAdd, Nat.reduceLeDiff, Int.reduceEq, V.one, asI_int, asB_bool, List.length_cons, List.length_nil, List.all_cons, List.all_nil, Bool.not_true, Bool.or_self, Bool.and_self, decide_true, decide_false, if_true, if_false, splice, List.take_succ_cons, List.take_zero, List.drop_succ_cons, List.drop_zero, List.cons_append, List.nil_append, reduceCtorEq, G1, No1, hsl, hnbb, fenced_spec he, hfe, Bool.false_eq_true]
            exact Ev.some ⟨rfl, b :: (L0 ++ []), F1'.trans' (hmb (F3 _)), ⟨⟨nb, r0, L0, shv, stv, [], get_put_self _ _ _, v1, v2, v3, v4, N1.fr F1.ok (F3 _) hLb, fun _ => hr0', .inr (.inr ⟨by simp, by simp, rfl⟩), hbL0, by simp, by simp, rfl⟩, hrec, he, by simp⟩, fun c hc => .inl hc, E1.fr F1.ok (F3 _) hAb⟩
          | true =>
            simp only [nilc_ptr, ptrAt_ptr, Option.bind_some, Option.map_some, ld1_get', get_put', ldB_cells, ldNB_cells, stB_cells, List.getElem?_cons_zero, List.getElem?_cons_succ, Nat.zero_add, Nat.reduceAdd, Nat.reduceLeDiff, Int.reduceEq, V.one, asI_int, asB_bool, List.length_cons, List.length_nil, List.all_cons, List.all_nil, Bool.not_true, Bool.or_self, Bool.and_self, decide_true, decide_false, if_true, if_false, splice, List.take_succ_cons, List.take_zero, List.drop_succ_cons, List.drop_zero, List.cons_append, List.nil_append, reduceCtorEq, G1, No1, Cg, hsl, hnbb, hcb, fenced_spec he, hfe]
            have hns := NewShade_spec hr hq e (F3 (some (.cells [.bool laid, .int .i64 point, .ptr nb 0, .int .i64 rec, .int .i64 expect, .int .u64 e, shv, stv, .int .i64 4] .rw))).ok
            refine Ev.bind hns ?_
            rintro ⟨v, g4⟩ ⟨sb, rfl, F4, hsb, T4⟩
            dsimp only at F4 hsb T4
            have G4 := F4.get (F3 _).ok (get_put_self _ _ _) (by simp)
            have hb4 : b < g4.next := F4.lt hb1
            have F5 : ∀ x, Fr [b] g4 (g4.put b x) := fun x => (Fr.refl F4.ok).put (.inl (by simp)) hb4 _
            have hsbb : sb ≠ b := Nat.ne_of_gt (Nat.lt_of_lt_of_le hb1 hsb)
            have hle : h.next ≤ sb := Nat.le_trans (Nat.le_trans F0.le F1.le) hsb
            have hsL : sb ∉ L0 := fun hc => absurd ((N1.mem F1.ok).2 sb hc) (Nat.not_lt_of_le hsb)
            simp only [Option.bind_some, Option.map_some, get_put', put_put', ldB_cells, stB_cells, List.getElem?_cons_zero, List.getElem?_cons_succ, Nat.zero_add, Nat.reduceAdd, Nat.reduceLeDiff, Int.reduceEq, V.one, asI_int, List.length_cons, List.length_nil, Nat.beq_refl, List.all_cons, List.all_nil, Bool.not_true, Bool.or_self, Bool.and_self, decide_true, decide_false, if_true, splice, List.take_succ_cons, List.take_zero, List.drop_succ_cons, List.drop_zero, List.cons_append, List.nil_append, reduceCtorEq, G4]
            refine Ev.some ⟨rfl, b :: (L0 ++ [sb]), ((F1'.trans' (hmb (F3 _))).trans F4 (by simp)).trans' (hmb (F5 _)), ⟨⟨nb, r0, L0, .ptr sb 0, stv, [sb], get_put_self _ _ _, rfl, v2, rfl, v4, ((N1.fr F1.ok (F3 _) hLb).fr (F3 _).ok F4 (by simp)).fr F4.ok (F5 _) hLb, fun _ => hr0', .inl ⟨rfl, sb, _, q, rfl, rfl, hnq, hq, T4.fr F4.ok (F5 _) (by simp [hsbb]), rfl⟩, hbL0, by simp [hsbb.symm], by simp [hsL], rfl⟩, hrec, he, by simp⟩, ?_, ((E1.fr F1.ok (F3 _) hAb).fr (F3 _).ok F4 (by simp)).fr F4.ok (F5 _) hAb⟩
            intro c hc
            simp only [List.mem_cons, List.mem_append, List.not_mem_nil, or_false] at hc ⊢
            rcases hc with rfl | hc | rfl
            · exact .inl (.inl rfl)
            · exact .inl (.inr hc)
            · exact .inr hle
      · by_cases c3 : next = 3
        · subst c3
          obtain ⟨_, sb, sh, q, hsh, rfl, hnq, hq, T, rfl⟩ | ⟨h0, _⟩ | ⟨h0, _⟩ := X0
          rotate_left
          · cases h0
          · exact absurd rfl h0
          replace hnq : nw.rec' = some q := hnq
          replace hsh : shade = some sh := hsh
          subst hsh
          have hsb := hLXA sb (by simp)
          have hsbb : sb ≠ b := fun h => hbLX (by simp [h])
          have hsL : sb ∉ L0 := hLX0 sb (by simp)
          simp only [S.field_Lay_Step, nilc_ptr, eqPtr_ptr, ptrAt_ptr, Option.bind_some, Option.map_some, ld1_get', ldN_get', st_get', get_put', get_new', ldB_cells, ldNB_cells, stB_cells, List.getElem?_cons_zero, List.getElem?_cons_succ, Nat.zero_add, Nat.add_zero, Nat.reduceAdd, Nat.reduceLeDiff, Int.reduceEq, Int.reduceNeg, V.one, V.cells, asI_int, List.length_cons, List.length_nil, Nat.beq_refl, List.all_cons, List.all_nil, Bool.and_true, Bool.true_and, Bool.false_and, Bool.not_true, Bool.or_false, Bool.false_or, Bool.or_self, Bool.and_self, decide_true, decide_false, if_true, if_false, splice, List.take_succ_cons, List.take_zero, List.drop_succ_cons, List.drop_zero, List.cons_append, List.nil_append, reduceCtorEq, fill, opd, boxc, eqV, W_call, So, No, hbn, hnbn, hnbb, hcb, hnq]
          refine Ev.bind (T.stepB F0.ok hq he E0 hsb) ?_
          rintro ⟨v, g⟩ ⟨rfl, F1, T1, E1⟩
          dsimp only at F1 T1 E1
          have G1 := F1.get F0.ok So0 (by simp only [List.mem_cons, not_or] at hbmr ⊢; exact ⟨hsbb.symm, hbmr⟩)
          have N1 := N0.fr F0.ok F1 (fun c hc => by have := hpL (hL0A c hc); simp only [List.mem_cons, not_or] at this ⊢; exact ⟨fun h => hsL (h ▸ hc), this⟩)
          have hb1 : b < g.next := F1.lt hbl0
          have F1' : Fr (b :: (L0 ++ [sb]) ++ A.l) h g := hF0.trans' (F1.mono (by unfold Adr.l; simp))
          have F3 : ∀ x, Fr [b] g (g.put b x) := fun x => (Fr.refl F1.ok).put (.inl (by simp)) hb1 _
          unfold Lay.cs at G1
          simp only at G1
          by_cases hd : (sh.step q e f).1.next = 4
          · simp only [Option.bind_some, Option.map_some, get_put', ldB_cells, stB_cells, List.getElem?_cons_zero, List.getElem?_cons_succ, Nat.zero_add, Nat.reduceAdd, Nat.reduceLeDiff, Int.reduceEq, V.one, asI_int, asB_bool, List.length_cons, List.length_nil, List.all_cons, List.all_nil, Bool.not_true, Bool.or_self, Bool.and_self, decide_true, decide_false, if_true, splice, List.take_succ_cons, List.take_zero, List.drop_succ_cons, List.drop_zero, List.cons_append, List.nil_append, reduceCtorEq, G1, hd]
            exact Ev.some ⟨rfl, b :: (L0 ++ []), F1'.trans' (hmb (F3 _)), ⟨⟨nb, r0, L0, .ptr sb 0, stv, [], get_put_self _ _ _, v1, v2, v3, v4, N1.fr F1.ok (F3 _) hLb, fun _ => hr0', .inr (.inr ⟨by simp, by simp, rfl⟩), hbL0, by simp, by simp, rfl⟩, hrec, he, by simp⟩, fun c hc => .inl (by simp only [List.append_nil, List.mem_cons, List.mem_append] at hc ⊢; rcases hc with h | h; exact .inl h; exact .inr (.inl h)), E1.fr F1.ok (F3 _) hAb⟩
          · simp only [Option.bind_some, Option.map_some, get_put', ldB_cells, stB_cells, List.getElem?_cons_zero, List.getElem?_cons_succ, Nat.zero_add, Nat.reduceAdd, Nat.reduceLeDiff, Int.reduceEq, V.one, asI_int, asB_bool, List.length_cons, List.length_nil, List.all_cons, List.all_nil, Bool.not_true, Bool.or_self, Bool.and_self, decide_true, decide_false, if_true, if_false, splice, List.take_succ_cons, List.take_zero, List.drop_succ_cons, List.drop_zero, List.cons_append, List.nil_append, reduceCtorEq, G1, hd]
            exact Ev.some ⟨rfl, b :: (L0 ++ [sb]), F1', ⟨⟨nb, r0, L0, .ptr sb 0, stv, [sb], by unfold Lay.cs; exact G1, v1, v2, v3, v4, N1, fun _ => hr0', .inl ⟨rfl, sb, _, q, rfl, rfl, hnq, hq, T1, rfl⟩, hbL0, by simp [hsbb.symm], by simp [hsL], rfl⟩, hrec, he, by simp⟩, fun c hc => .inl hc, E1⟩
        · by_cases c4 : next = 4
          · subst c4
            have hLX : LX = [] := by
              rcases X with ⟨h0, _⟩ | ⟨h0, _⟩ | ⟨_, _, h0⟩
              · cases h0
              · cases h0
              · exact h0
            subst hLX
            obtain ⟨w1, w2⟩ := wr_plus1 (o := nw.rec') (fun q hq => Nat.le_of_lt (Nat.lt_of_lt_of_le (Nr q hq) (Nat.le_trans hS64 (by decide))))
            obtain ⟨w3, w4⟩ := wr_rec1 (q := rec) (Nat.le_of_lt (Nat.lt_of_lt_of_le hrec (Nat.le_trans hS64 (by decide))))
            simp only [S.field_Lay_Step, nilc_ptr, eqPtr_ptr, ptrAt_ptr, Option.bind_some, Option.map_some, ld1_get', ldN_get', st_get', get_put', get_new', ldB_cells, ldNB_cells, stB_cells, List.getElem?_cons_zero, List.getElem?_cons_succ, Nat.zero_add, Nat.add_zero, Nat.reduceAdd, Nat.reduceLeDiff, Int.reduceEq, Int.reduceNeg, V.one, V.cells, asI_int, List.length_cons, List.length_nil, Nat.beq_refl, List.all_cons, List.all_nil, Bool.and_true, Bool.false_and, Bool.not_true, Bool.or_false, Bool.false_or, Bool.or_self, Bool.and_self, decide_true, decide_false, if_true, if_false, splice, List.take_succ_cons, List.take_zero, List.drop_succ_cons, List.drop_zero, List.cons_append, List.nil_append, reduceCtorEq, fill, opd, boxc, eqV, W_call, So, No, hbn, hnbn, hnbb, hcb, w1, w3]
            refine Ev.bind (E0.swap F0.ok Nf _ w4) ?_
            rintro ⟨v, g⟩ ⟨rfl, F1, E1⟩
            dsimp only at F1 E1
            have G1 := F1.get F0.ok So0 hbmr
            have Cg := F1.get F0.ok C0 hnp
            have No1 := F1.get F0.ok No0 hnmr
            have N1 := hN F0.ok N0 F1
            have hb1 : b < g.next := F1.lt hbl0
            have F1' : Fr (b :: (L0 ++ []) ++ A.l) h g := hF0.trans' (hmp F1)
            have F3 : ∀ x, Fr [b] g (g.put b x) := fun x => (Fr.refl F1.ok).put (.inl (by simp)) hb1 _
            unfold Lay.cs at G1
            simp only at G1
            by_cases hsw : f nw.fld = sl nw.rec' + 1
            · rw [if_pos hsw] at E1
              simp only [nilc_ptr, ptrAt_ptr, Option.bind_some, ld1_get', ldB_cells, ldNB_cells, List.getElem?_cons_zero, List.getElem?_cons_succ, Nat.zero_add, Nat.reduceAdd, Nat.reduceLeDiff, Int.reduceEq, V.one, asB_bool, List.length_cons, List.length_nil, Nat.beq_refl, Bool.and_true, Bool.true_and, decide_true, decide_false, if_true, List.take_succ_cons, List.take_zero, List.drop_succ_cons, List.drop_zero, List.cons_append, List.nil_append, hsw, G1, No1, Cg]
              refine Ev.bind (newStamp_spec hr hrec A.bk F1.ok) ?_
              rintro ⟨v, g4⟩ ⟨tb, rfl, F4, htb, T4⟩
              dsimp only at F4 htb T4
              have G4 := F4.get F1.ok G1 (by simp)
              have hb4 : b < g4.next := F4.lt hb1
              have F5 : ∀ x, Fr [b] g4 (g4.put b x) := fun x => (Fr.refl F4.ok).put (.inl (by simp)) hb4 _
              have htbb : tb ≠ b := Nat.ne_of_gt (Nat.lt_of_lt_of_le hb1 htb)
              have hle : h.next ≤ tb := Nat.le_trans (Nat.le_trans F0.le F1.le) htb
              have htL : tb ∉ L0 := fun hc => absurd ((N1.mem F1.ok).2 tb hc) (Nat.not_lt_of_le htb)
              simp only [Option.bind_some, Option.map_some, get_put', put_put', ldB_cells, stB_cells, List.getElem?_cons_zero, List.getElem?_cons_succ, Nat.zero_add, Nat.reduceAdd, Nat.reduceLeDiff, Int.reduceEq, V.one, asI_int, List.length_cons, List.length_nil, Nat.beq_refl, List.all_cons, List.all_nil, Bool.not_true, Bool.or_self, Bool.and_self, decide_true, decide_false, if_true, splice, List.take_succ_cons, List.take_zero, List.drop_succ_cons, List.drop_zero, List.cons_append, List.nil_append, reduceCtorEq, G4]
              refine Ev.some ⟨rfl, b :: (L0 ++ [tb]), (F1'.trans F4 (by simp)).trans' (hmb (F5 _)), ⟨⟨nb, r0, L0, shv, .ptr tb 0, [tb], get_put_self _ _ _, v1, rfl, v3, rfl, (N1.fr F1.ok F4 (by simp)).fr F4.ok (F5 _) hLb, fun _ => hr0', .inr (.inl ⟨rfl, tb, _, rfl, rfl, T4.fr F4.ok (F5 _) (by simp [htbb]), rfl⟩), hbL0, by simp [htbb.symm], by simp [htL], rfl⟩, hrec, he, by simp⟩, ?_, (E1.fr F1.ok F4 (by simp)).fr F4.ok (F5 _) hAb⟩
              intro c hc
              simp only [List.mem_cons, List.mem_append, List.not_mem_nil, or_false] at hc ⊢
              rcases hc with rfl | hc | rfl
              · exact .inl (.inl rfl)
              · exact .inl (.inr hc)
              · exact .inr hle
            · rw [if_neg hsw] at E1
              have hgn : b ≠ g.next := Nat.ne_of_lt hb1
              have hnbg : nb ≠ g.next := Nat.ne_of_lt ((N1.mem F1.ok).2 nb nbL)
              have hcg : h.next ≠ g.next := F1.ok.ne0 Cg
              simp only [nilc_ptr, ptrAt_ptr, Option.bind_some, Option.map_some, ld1_get', get_put', get_new', put_put', ldB_cells, ldNB_cells, stB_cells, List.getElem?_cons_zero, List.getElem?_cons_succ, Nat.zero_add, Nat.reduceAdd, Nat.reduceLeDiff, Int.reduceEq, V.one, asI_int, asB_bool, List.length_cons, List.length_nil, Nat.beq_refl, List.all_cons, List.all_nil, Bool.and_true, Bool.true_and, Bool.not_true, Bool.or_self, Bool.and_self, decide_true, decide_false, if_true, if_false, splice, List.take_succ_cons, List.take_zero, List.drop_succ_cons, List.drop_zero, List.cons_append, List.nil_append, reduceCtorEq, hsw, G1, No1, Cg, hgn]
              have F4 : ∀ y, Fr [] g (g.new y) := fun y => (Fr.refl F1.ok).new y
              have hb4 : ∀ y, b < (g.new y).next := fun y => (F4 y).lt hb1
              have F5 : ∀ y x, Fr [b] (g.new y) ((g.new y).put b x) := fun y x => (Fr.refl (F4 y).ok).put (.inl (by simp)) (hb4 y) _
              have hle : h.next ≤ g.next := Nat.le_trans F0.le F1.le
              refine Ev.some ⟨rfl, b :: ([g.next] ++ []), (F1'.trans (F4 _) (by simp)).trans' (hmb (F5 _ _)), ⟨⟨g.next, 0, [g.next], shv, stv, [], get_put_self _ _ _, v1, v2, v3, v4, ⟨⟨.nilp, (F5 _ _).get (F4 _).ok (get_new_self _ _) (by simp [hgn.symm]), .inl ⟨rfl, rfl, rfl⟩⟩, Nf, by simp [Newest.fresh], by simp [Newest.fresh], .inl rfl⟩, by simp, .inr (.inr ⟨by simp, by simp, rfl⟩), by simp [hgn], by simp, by simp, rfl⟩, hrec, he, by simp⟩, ?_, (E1.fr F1.ok (F4 _) (by simp)).fr (F4 _).ok (F5 _ _) hAb⟩
              intro c hc
              simp only [List.mem_cons, List.mem_append, List.not_mem_nil, or_false] at hc ⊢
              rcases hc with rfl | rfl
              · exact .inl (.inl rfl)
              · exact .inr hle
          · by_cases c5 : next = 5
            · subst c5
              obtain ⟨h0, _⟩ | ⟨_, tb, t, hst, rfl, T, rfl⟩ | ⟨_, h0, _⟩ := X0
              · cases h0
              rotate_left
              · exact absurd rfl h0
              replace hst : stamp = some t := hst
              subst hst
              have htb := hLXA tb (by simp)
              have htbb : tb ≠ b := fun h => hbLX (by simp [h])
              have htL : tb ∉ L0 := hLX0 tb (by simp)
              simp only [S.field_Lay_Step, nilc_ptr, eqPtr_ptr, ptrAt_ptr, Option.bind_some, Option.map_some, ld1_get', ldN_get', st_get', get_put', get_new', ldB_cells, ldNB_cells, stB_cells, List.getElem?_cons_zero, List.getElem?_cons_succ, Nat.zero_add, Nat.add_zero, Nat.reduceAdd, Nat.reduceLeDiff, Int.reduceEq, Int.reduceNeg, V.one, V.cells, asI_int, List.length_cons, List.length_nil, Nat.beq_refl, List.all_cons, List.all_nil, Bool.and_true, Bool.true_and, Bool.false_and, Bool.not_true, Bool.false_or, Bool.or_self, Bool.and_self, decide_true, decide_false, if_true, if_false, splice, List.take_succ_cons, List.take_zero, List.drop_succ_cons, List.drop_zero, List.cons_append, List.nil_append, reduceCtorEq, fill, opd, boxc, eqV, W_call, So, No, hbn, hnbn, hnbb, hcb]
              refine Ev.bind (T.step F0.ok hr E0 htb) ?_
              rintro ⟨v, g⟩ ⟨rfl, F1, T1, E1⟩
              dsimp only at F1 T1 E1
              have G1 := F1.get F0.ok So0 (by simp only [List.mem_cons, not_or]; exact ⟨htbb.symm, hbA⟩)
              have N1 := N0.fr F0.ok F1 (fun c hc => by simp only [List.mem_cons, not_or]; exact ⟨fun h => htL (h ▸ hc), hL0A c hc⟩)
              obtain ⟨⟨sv1, No1, Ns1⟩, _⟩ := id N1
              have hb1 : b < g.next := F1.lt hbl0
              have F1' : Fr (b :: (L0 ++ [tb]) ++ A.l) h g := hF0.trans' (F1.mono (fun c hc => .inl (by rcases List.mem_cons.mp hc with rfl | hc <;> simp_all)))
              have F3 : ∀ x, Fr [b] g (g.put b x) := fun x => (Fr.refl F1.ok).put (.inl (by simp)) hb1 _
              unfold Lay.cs at G1
              simp only at G1
              by_cases hd : (t.step f B).1.next = 3
              · have hbo := E1.bk.bornS (rec : Int)
                simp only [nilc_ptr, ptrAt_ptr, Option.bind_some, Option.map_some, ld1_get', get_put', put_put', ldB_cells, stB_cells, List.getElem?_cons_zero, List.getElem?_cons_succ, Nat.zero_add, Nat.reduceAdd, Nat.reduceLeDiff, Int.reduceEq, V.one, asI_int, asB_bool, List.length_cons, List.length_nil, Nat.beq_refl, List.all_cons, List.all_nil, Bool.not_true, Bool.or_self, Bool.and_self, decide_true, decide_false, if_true, splice, List.take_succ_cons, List.take_zero, List.drop_succ_cons, List.drop_zero, List.cons_append, List.nil_append, reduceCtorEq, G1, hd, No1, hbo]
                exact Ev.some ⟨rfl, b :: (L0 ++ []), F1'.trans' (hmb (F3 _)), ⟨⟨nb, r0, L0, shv, .ptr tb 0, [], get_put_self _ _ _, v1, v2, v3, v4, N1.fr F1.ok (F3 _) hLb, fun _ => hr0', .inr (.inr ⟨by simp, by simp, rfl⟩), hbL0, by simp, by simp, rfl⟩, hrec, he, by simp⟩, fun c hc => .inl (by simp only [List.append_nil, List.mem_cons, List.mem_append] at hc ⊢; rcases hc with h | h; exact .inl h; exact .inr (.inl h)), E1.fr F1.ok (F3 _) hAb⟩
              · simp only [nilc_ptr, ptrAt_ptr, Option.bind_some, ld1_get', ldB_cells, List.getElem?_cons_zero, List.getElem?_cons_succ, Nat.zero_add, Int.reduceEq, V.one, asI_int, asB_bool, decide_false, if_false, G1, hd]
                exact Ev.some ⟨rfl, b :: (L0 ++ [tb]), F1', ⟨⟨nb, r0, L0, shv, .ptr tb 0, [tb], by unfold Lay.cs; exact G1, v1, v2, v3, v4, N1, fun _ => hr0', .inr (.inl ⟨rfl, tb, _, rfl, rfl, T1, rfl⟩), hbL0, by simp [htbb.symm], by simp [htL], rfl⟩, hrec, he, by simp⟩, fun c hc => .inl hc, E1⟩
            · have hLX : LX = [] := by
                rcases X with ⟨h0, _⟩ | ⟨h0, _⟩ | ⟨_, _, h0⟩
                · exact absurd h0 c3
                · exact absurd h0 c5
                · exact h0
              subst hLX
              simp only [S.field_Lay_Step, nilc_ptr, eqPtr_ptr, ptrAt_ptr, Option.bind_some, Option.map_some, ld1_get', ldN_get', st_get', get_put', get_new', ldB_cells, ldNB_cells, stB_cells, List.getElem?_cons_zero, List.getElem?_cons_succ, Nat.zero_add, Nat.add_zero, Nat.reduceAdd, Nat.reduceLeDiff, Int.reduceNeg, V.one, V.cells, asI_int, List.length_cons, List.length_nil, Nat.beq_refl, List.all_cons, List.all_nil, Bool.and_true, Bool.false_and, Bool.not_true, Bool.false_or, Bool.or_self, Bool.and_self, decide_true, decide_false, if_true, if_false, splice, List.take_succ_cons, List.take_zero, List.drop_succ_cons, List.drop_zero, List.cons_append, List.nil_append, reduceCtorEq, fill, opd, boxc, eqV, W_call, So, No, hbn, hnbn, hnbb, hcb, c0, c1, c2, c3, c4, c5, Bool.false_eq_true]
              exact Ev.some ⟨rfl, b :: (L0 ++ []), hF0, ⟨⟨nb, r0, L0, shv, stv, [], So0, v1, v2, v3, v4, N0, fun _ => hr0', .inr (.inr ⟨c3, c5, rfl⟩), hbL0, by simp, by simp, rfl⟩, hrec, he, hone⟩, fun c hc => .inl hc, E0⟩
end Wm
end

section
/- Slices that grow: what is appended, one element at a time. -/
namespace Wm
attribute [local congr] bind_congr1
attribute [local irreducible] wr

/-- The block of a slice. -/
def V.blk : V → List Nat
  | .sl b _ _ _ => [b]
  | _ => []

/-- A slice that grew: elements of 'e' cells. -/
def Grown (g : Nat → Option Blk) (x : V) (e : Nat) (l : List V) : Prop :=
  (x = .nilsl ∧ l = []) ∨ ∃ b n, x = .sl b 0 n (.op e) ∧ l.length = n * e ∧ g b = some (.cells l (.gr e))

theorem Grown.nil (g : Nat → Option Blk) (e : Nat) : Grown g .nilsl e [] := .inl ⟨rfl, rfl⟩
theorem Grown.len {g : Nat → Option Blk} {x : V} {e : Nat} {l : List V} (G : Grown g x e l) (he : 0 < e) : ∃ n, lenSl x = some n ∧ l.length = n * e := by
  obtain ⟨rfl, rfl⟩ | ⟨b, n, rfl, hl, _⟩ := G
  · exact ⟨0, rfl, by simp⟩
  · exact ⟨n, rfl, hl⟩
theorem Grown.len1 {g : Nat → Option Blk} {x : V} {l : List V} (G : Grown g x 1 l) : lenSl x = some l.length := by
  obtain ⟨n, h1, h2⟩ := G.len (by omega)
  rw [h1, h2, Nat.mul_one]
theorem Grown.fr {g g' : H} {L : List Nat} {x : V} {e : Nat} {l : List V} (G : Grown g.get x e l) (ok : g.ok) (F : Fr L g g') (h : ∀ b ∈ x.blk, b ∉ L) : Grown g'.get x e l := by
  obtain h1 | ⟨b, n, rfl, hl, hb⟩ := G
  · exact .inl h1
  · exact .inr ⟨b, n, rfl, hl, F.get ok hb (h b (by simp [V.blk]))⟩
theorem Grown.lt {g : H} {x : V} {e : Nat} {l : List V} (G : Grown g.get x e l) (ok : g.ok) : ∀ b ∈ x.blk, b < g.next := by
  obtain ⟨rfl, rfl⟩ | ⟨b, n, rfl, hl, hb⟩ := G
  · simp [V.blk]
  · intro c hc; simp only [V.blk, List.mem_singleton] at hc; subst hc; exact ok.lt hb
/-- An element. -/
theorem Grown.at1 {g : H} {x : V} {l : List V} (G : Grown g.get x 1 l) {i : Nat} {v : V} (hv : l[i]? = some v) (h1 : v.one = true) : ∃ b, indexAV 1 x (.int .i64 (i : Int)) = some (.ptr b i) ∧ g.ld1 (.ptr b i) = some v := by
  have hi := lt_of_get hv
  obtain ⟨rfl, rfl⟩ | ⟨b, n, rfl, hl, hb⟩ := G
  · simp at hv
  · refine ⟨b, sl_idx1 (by omega), ?_⟩
    rw [ld1_get', hb, ldB_cells, hv]; simp only [h1]

theorem Grown.push {g : H} (ok : g.ok) {x : V} {e : Nat} {l new : List V} {nb : Nat} {k : Bk} {bytes : Nat} (G : Grown g.get x e l) (hn : g.get nb = some (.cells new k)) (hlen : new.length = e) (h1 : new.all V.one = true) (he : 0 < e) (hb : 0 < bytes ∧ bytes ≤ 1000) (hs : l.length ≤ 1000000) :
    ∃ x' g', g.append e bytes x (.sl nb 0 1 (.ex 1)) = some (x', g') ∧ Fr x.blk g g' ∧ Grown g'.get x' e (l ++ new) ∧ (∀ b ∈ x'.blk, g.next ≤ b) ∧ x'.blk ≠ [] := by
  have hslc : g.slc e (.sl nb 0 1 (.ex 1)) = some new := by
    rw [slc_get hn (by omega), List.drop_zero, List.take_of_length_le (by omega)]
  obtain ⟨rfl, rfl⟩ | ⟨b, n, rfl, hl, hbk⟩ := G
  · refine ⟨_, _, append_nil (n := 1) rfl hslc (by omega) h1 (by omega) he hb.1, (Fr.refl ok).new _, .inr ⟨_, _, rfl, by simp; omega, ?_⟩, by simp [V.blk], by simp [V.blk]⟩
    rw [List.nil_append]; exact get_new_self _ _
  · have hnn : n ≤ 1000000 := by
      have : n * 1 ≤ n * e := Nat.mul_le_mul_left _ he
      omega
    have hold : g.slc e (.sl b 0 n (.op e)) = some l := by rw [slc_get hbk (by omega), List.drop_zero, List.take_of_length_le (by omega)]
    have hsz : (n + 1 + (n + 1) / 2 + 1000) * bytes ≤ 281474976710656 := by
      have : (n + 1 + (n + 1) / 2 + 1000) * bytes ≤ 2000000 * 1000 := Nat.mul_le_mul (by omega) hb.2
      omega
    refine ⟨_, _, append_op (n := 1) rfl hslc hold hbk h1 hsz he hb.1, ?_, .inr ⟨_, _, rfl, by rw [List.length_append, hl, hlen, Nat.add_mul, Nat.one_mul], get_new_self _ _⟩, by simp [V.blk], by simp [V.blk]⟩
    exact ((Fr.refl ok).put (.inl (by simp [V.blk])) (ok.lt hbk) _).new _

/-- A row of numbers of a kind that is only read, or nil. -/
def RowN (kd : Go.IntKind) (g : Nat → Option Blk) (x : V) (ws : List Int) : Prop := (x = .nilsl ∧ ws = []) ∨ ∃ b c k, x = .sl b 0 ws.length c ∧ g b = some (.cells (ws.map (.int kd)) k)
theorem RowN.len {kd : Go.IntKind} {g : Nat → Option Blk} {x : V} {ws : List Int} (h : RowN kd g x ws) : lenSl x = some ws.length := by
  obtain ⟨rfl, rfl⟩ | ⟨b, c, k, rfl, _⟩ := h <;> rfl
theorem RowN.at {kd : Go.IntKind} {g : H} {x : V} {ws : List Int} (h : RowN kd g.get x ws) {i : Nat} {w : Int} (hw : ws[i]? = some w) : ∃ b, indexAV 1 x (.int .i64 (i : Int)) = some (.ptr b i) ∧ g.ld1 (.ptr b i) = some (.int kd w) := by
  have hi := lt_of_get hw
  obtain ⟨rfl, rfl⟩ | ⟨b, c, k, rfl, hb⟩ := h
  · simp at hw
  · refine ⟨b, sl_idx1 hi, ?_⟩
    rw [ld1_get', hb, ldB_cells, List.getElem?_map, hw]; rfl
theorem RowN.fr {kd : Go.IntKind} {g g' : H} {L : List Nat} {x : V} {ws : List Int} (h : RowN kd g.get x ws) (ok : g.ok) (F : Fr L g g') (hL : ∀ b ∈ x.blk, b ∉ L) : RowN kd g'.get x ws := by
  obtain h1 | ⟨b, c, k, rfl, hb⟩ := h
  · exact .inl h1
  · exact .inr ⟨b, c, k, rfl, F.get ok hb (hL b (by simp [V.blk]))⟩
theorem RowN.lt {kd : Go.IntKind} {g : H} {x : V} {ws : List Int} (h : RowN kd g.get x ws) (ok : g.ok) : ∀ b ∈ x.blk, b < g.next := by
  obtain ⟨rfl, rfl⟩ | ⟨b, c, k, rfl, hb⟩ := h
  · simp [V.blk]
  · intro c' hc; simp only [V.blk, List.mem_singleton] at hc; subst hc; exact ok.lt hb
end Wm
end

section
/- What arguments are, as lists of typed things. -/
namespace Wm

theorem chunks {α : Type} {P : List V → Prop} {enc : α → List V} {Q : α → Prop} {z : Nat} (hP : ∀ c, P c → ∃ y, c = enc y ∧ Q y) :
    ∀ (n : Nat) (cs : List V), cs.length = n * z → (∀ i, i < n → P ((cs.drop (i * z)).take z)) → ∃ ys : List α, cs = (ys.map enc).flatten ∧ ys.length = n ∧ ∀ y ∈ ys, Q y
  | 0, cs, hl, _ => ⟨[], by simpa using hl, rfl, by simp⟩
  | n + 1, cs, hl, h => by
    obtain ⟨y, hy, qy⟩ := hP _ (h 0 (by omega))
    have hl2 : (cs.drop z).length = n * z := by rw [List.length_drop, hl, Nat.add_mul]; omega
    obtain ⟨ys, h1, h2, h3⟩ := chunks hP n (cs.drop z) hl2 (fun i hi => by
      have := h (i + 1) (by omega)
      rw [Nat.add_mul, Nat.one_mul, Nat.add_comm (i * z) z, ← List.drop_drop] at this
      exact this)
    refine ⟨y :: ys, ?_, by simp [h2], fun x hx => ?_⟩
    · rw [List.map_cons, List.flatten_cons, ← h1, ← hy, Nat.zero_mul, List.drop_zero, List.take_append_drop]
    · rcases List.mem_cons.mp hx with rfl | hx
      · exact qy
      · exact h3 x hx

theorem flat_ones {α β : Type} (f : α → β) (l : List α) : (l.map fun m => [f m]).flatten = l.map f := by
  induction l with
  | nil => rfl
  | cons x l ih => simp only [List.map_cons, List.flatten_cons, ih, List.cons_append, List.nil_append]

theorem rowN_of {g : Nat → Option Blk} {kd : Go.IntKind} {by' : Nat} {v : V} (h : CellOk g (.sl by' [.int kd]) v) :
    ∃ ws, RowN kd g v ws ∧ (∀ w ∈ ws, (Go.Lit.int kd w).wf = true) ∧ ws.length * by' ≤ 140737488351232 ∧ ws.length ≤ Go.maxLen := by
  unfold CellOk at h
  rcases h with rfl | ⟨b, n, cs, rfl, ⟨h1, h2⟩, h3, h4, h5⟩
  · exact ⟨[], .inl ⟨rfl, rfl⟩, by simp, by simp, by simp⟩
  · obtain ⟨ws, e1, e2, e3⟩ := chunks (α := Int) (enc := fun m => [V.int kd m]) (Q := fun w => (Go.Lit.int kd w).wf = true) (P := CellsOk g [.int kd]) (fun c hc => by
      obtain ⟨v, vs, rfl, ⟨m, rfl, hm⟩, h⟩ := hc
      unfold CellsOk at h
      subst h
      exact ⟨m, rfl, hm⟩) n cs h4 h5
    have e4 : cs = ws.map (.int kd) := by
      rw [e1]; exact flat_ones _ ws
    subst e2
    exact ⟨ws, .inr ⟨b, _, .ro, rfl, by rw [h3, e4]⟩, e3, h2, h1⟩

end Wm
end

section
/- The law FieldAlone, of my machine. -/
namespace Wm
attribute [local congr] bind_congr1
attribute [local irreducible] wr

theorem World10.fr {g g' : H} {L : List Nat} {w : Nat} {A : Adr} {f : Wd → Int} {n : Int} {B : BookT} (Y : World10 g w A f n B) (ok : g.ok) (F : Fr L g g') (hw : w ∉ L) (hL : ∀ c ∈ A.l, c ∉ L) : World10 g' w A f n B :=
  ⟨F.get ok Y.own hw, Y.out, Y.base.fr ok F hL⟩
/-- Behind a touch. -/
theorem World10.to {g g' : H} {L : List Nat} {w : Nat} {A : Adr} {f f' : Wd → Int} {n n' : Int} {B B' : BookT} (Y : World10 g w A f n B) (ok : g.ok) (F : Fr L g g') (hw : w ∉ L) (E : Base g' A cfg10 f' n' B') : World10 g' w A f' n' B' :=
  ⟨F.get ok Y.own hw, Y.out, E⟩

/-! ### Between two values -/
structure Inv10 (f : Wd → Int) (i0 : Nat) (last : Int) (next : Nat) : Prop where
  rests : Rests cfg10 f i0
  val : valF cfg10 f i0 = last
  clock : f .clock ≠ 0
  old : ∀ q, namedO cfg10 (f (.body 0 i0)) = some q → q ≠ 0 ∧ q < next
theorem fa_mod {n : Int} (h : 0 ≤ n ∧ n < 256) : wr .i64 ((wr .i64 (Int.tmod n 5)) - 1) = n % 5 - 1 := by
  rw [tm h.1, wr64 (n := n % 5) (by omega) (by omega), wr64 (by omega) (by omega)]
def slotZ (n : Int) : Int := if n % 5 - 1 < 0 then -1 else n % 5 - 1 + 1
theorem slotZ_bd (n : Int) : -1 ≤ slotZ n ∧ slotZ n ≤ 30 := by unfold slotZ; split <;> omega
theorem slotZ_spec (n : Int) (h : H) : C 129 [.int .i64 (n % 5 - 1)] h = some (.int .i64 (slotZ n), h) := slot10 (v := n % 5 - 1) (by omega) (by omega) h
theorem fa_v1 {v : Int} (h : -1 ≤ v ∧ v ≤ 30) : wr .u64 (wr .i64 (v + 1)) = v + 1 ∧ U64 (v + 1) := by
  refine ⟨?_, ⟨by omega, by omega⟩⟩
  rw [wr64 (n := v + 1) (by omega) (by omega), wru64 (by omega) (by omega)]
theorem fa_i5 {i : Nat} (h : i < 30) : wr .i64 (5 + (i : Int)) = ((5 + i : Nat) : Int) := by rw [wr64 (by omega) (by omega)]; omega
theorem fa_lt {i l : Nat} (h : i < l) (hl : l ≤ 30) : i < 30 ∧ decide ((i : Int) < (l : Int)) = true ∧ 5 + i < 40 ∧ 5 + i ≠ 0 := ⟨by omega, decide_eq_true (by omega), by omega, by omega⟩
theorem wf_u8 {n : Int} (h : (Go.Lit.int .u8 n).wf = true) : 0 ≤ n ∧ n < 256 := by
  have : 0 ≤ n ∧ n ≤ 255 := by simpa [Go.Lit.wf, Go.IntKind.min, Go.IntKind.max, Go.IntKind.signed, Go.IntKind.bits] using h
  exact ⟨this.1, by omega⟩

end Wm
end

section
/- What views see: a field's records, one older than the other. -/
namespace Wm
attribute [local congr] bind_congr1
attribute [local irreducible] wr

/-- A field's records, the newest first: stamps and values. -/
def ChainF (f : Wd → Int) : Int → Nat → List (Int × Int) → Prop
  | w, _, [] => w = 0
  | w, r, (t, v) :: l => ∃ q : Nat, w = q + 1 ∧ 5 ≤ q ∧ q < r ∧ f (.body q 1) = t ∧ 0 < t ∧ f (.body q 0) = v + 1 ∧ -1 ≤ v ∧ v ≤ 30 ∧ ChainF f (f (.body q 2)) q l
theorem ChainF.congr {f f' : Wd → Int} : ∀ {l : List (Int × Int)} {w : Int} {r : Nat}, ChainF f w r l → (∀ q j, 5 ≤ q → q < r → f' (.body q j) = f (.body q j)) → ChainF f' w r l
  | [], _, _, h, _ => h
  | (t, v) :: l, w, r, ⟨q, h1, h2, h3, h4, h5, h6, h7, h8, h9⟩, e => by
    refine ⟨q, h1, h2, h3, by rw [e q 1 h2 h3]; exact h4, h5, by rw [e q 0 h2 h3]; exact h6, h7, h8, ?_⟩
    rw [e q 2 h2 h3]
    exact h9.congr fun q' j a b => e q' j a (Nat.lt_trans b h3)
theorem ChainF.mono {f : Wd → Int} {l : List (Int × Int)} {w : Int} {r r' : Nat} (h : ChainF f w r l) (hr : r ≤ r') : ChainF f w r' l := by
  match l, h with
  | [], h => exact h
  | (t, v) :: l, ⟨q, h1, h2, h3, h4⟩ => exact ⟨q, h1, h2, Nat.lt_of_lt_of_le h3 hr, h4⟩
theorem ChainF.len {f : Wd → Int} : ∀ {l : List (Int × Int)} {w : Int} {r : Nat}, ChainF f w r l → 5 ≤ r → l.length + 5 ≤ r
  | [], _, _, _, h => by simpa using h
  | (t, v) :: l, w, r, ⟨q, h1, h2, h3, h4, h5, h6, h7, h8, h9⟩, _ => by
    have := h9.len h2
    simp only [List.length_cons]; omega
/-- What a view sees. -/
def seesL : List (Int × Int) → Int → Int
  | [], _ => -1
  | (t, v) :: l, view => if t ≤ view then v else seesL l view
def headL : List (Int × Int) → Int
  | [] => -1
  | (_, v) :: _ => v
theorem seesL_all : ∀ {l : List (Int × Int)} {view : Int}, (∀ x ∈ l, x.1 ≤ view) → seesL l view = headL l
  | [], _, _ => rfl
  | (t, v) :: l, view, h => by
    have := h (t, v) (by simp)
    simp only [seesL, headL]; rw [if_pos this]

theorem namedO_succ {k : Cfg} {q : Nat} (hq : (q : Int) < k.s) : namedO k ((q : Int) + 1) = some q := by
  unfold namedO
  rw [if_pos (by omega)]; congr 1; omega
theorem namedO_zero {k : Cfg} : namedO k 0 = none := by unfold namedO; rw [if_neg (by omega)]
theorem named_val {k : Cfg} {v : Int} (h0 : -1 ≤ v) (h1 : v < k.s) : sl (namedO k (v + 1)) = v := by
  unfold namedO
  by_cases h : 1 ≤ v + 1
  · rw [if_pos ⟨h, by omega⟩]; show (((v + 1 - 1).toNat : Nat) : Int) = v; omega
  · rw [if_neg (by omega)]; show (-1 : Int) = v; omega

theorem ChainF.rests {k : Cfg} {f : Wd → Int} {l : List (Int × Int)} {r i : Nat} (h : ChainF f (f (.body 0 i)) r l) (hr : (r : Int) ≤ k.s) : Rests k f i := by
  match l, h with
  | [], h =>
    have h : f (.body 0 i) = 0 := h
    exact ⟨by rw [h, namedO_zero]; rfl, fun q hq => by rw [h, namedO_zero] at hq; cases hq⟩
  | (t, v) :: l, ⟨q, h1, h2, h3, h4, h5, _⟩ =>
    have e := namedO_succ (k := k) (q := q) (by omega)
    refine ⟨by rw [h1, e]; rfl, fun q' hq => ?_⟩
    rw [h1, e] at hq
    cases hq
    rw [h4]; omega

abbrev SeeSt := See × (Wd → Int) × BookT
def seeX (k : Cfg) (x : SeeSt) : SeeSt := x.1.step k x.2.1 x.2.2
def seeFin (x : SeeSt) : Prop := x.1.next = 4

theorem see_walk {k : Cfg} (hk : 31 ≤ k.s) {f : Wd → Int} {B : BookT} {Q : SeeSt → Prop} {view : Int} {n : Newest} : ∀ {l : List (Int × Int)} {q r : Nat}, (r : Int) ≤ k.s → ChainF f ((q : Int) + 1) r l →
    (∀ s' : See, s'.next = 4 → sl s'.val = seesL l view → Q (s', f, B)) → ∀ m, Go (seeX k) seeFin (m + 2 * l.length) (⟨none, n, view, some q, 1⟩, f, B) Q
  | [], q, r, _, h, _, _ => by exfalso; have h : (q : Int) + 1 = 0 := h; omega
  | (t, v) :: l, q, r, hr, ⟨q', h1, h2, h3, h4, h5, h6, h7, h8, h9⟩, hQ, m => by
    have hqq : q' = q := by omega
    subst hqq
    have hv := named_val (k := k) h7 (by omega)
    rw [show m + 2 * ((t, v) :: l).length = (m + 2 * l.length) + 1 + 1 by simp only [List.length_cons]; omega]
    by_cases ht : t ≤ view
    · refine Go.next (⟨none, n, view, some q', 3⟩, f, B) ?_ (by simp [seeFin]) ?_
      · simp only [seeX, See.step, Int.reduceEq, if_false, if_true, h4, ht, ne_eq, Int.ne_of_gt h5, not_false_eq_true, and_self]
      refine Go.done (⟨namedO k (f (.body q' 0)), n, view, some q', 4⟩, f, B) ?_ rfl (hQ _ rfl ?_)
      · simp only [seeX, See.step, Int.reduceEq, if_false, if_true]
      · simp only [seesL]; rw [if_pos ht, h6, hv]
    · refine Go.next (⟨none, n, view, some q', 2⟩, f, B) ?_ (by simp [seeFin]) ?_
      · simp only [seeX, See.step, Int.reduceEq, if_false, if_true, h4, ht, and_false]
      match l, h9 with
      | [], h9 =>
        have h9 : f (.body q' 2) = 0 := h9
        refine Go.done (⟨none, n, view, none, 4⟩, f, B) ?_ rfl (hQ _ rfl ?_)
        · simp only [seeX, See.step, Int.reduceEq, if_false, if_true, h9, namedO_zero]
        · simp only [seesL]; rw [if_neg ht]; rfl
      | (t2, v2) :: l2, h9 =>
        obtain ⟨q2, e1, e2, e3, _⟩ := id h9
        have e := namedO_succ (k := k) (q := q2) (by omega)
        refine Go.next (⟨none, n, view, some q2, 1⟩, f, B) ?_ (by simp [seeFin]) ?_
        · simp only [seeX, See.step, Int.reduceEq, if_false, if_true, e1, e, reduceCtorEq]
        rw [e1] at h9
        refine see_walk hk (r := q') (by omega) h9 (fun s' a b => hQ s' a ?_) m
        rw [b]
        show _ = (if t ≤ view then v else seesL ((t2, v2) :: l2) view)
        rw [if_neg ht]

theorem see_alone {k : Cfg} (hk : 31 ≤ k.s) {f : Wd → Int} {B : BookT} {Q : SeeSt → Prop} {view : Int} {i : Nat} {l : List (Int × Int)} {r : Nat} (hr : (r : Int) ≤ k.s) (h : ChainF f (f (.body 0 i)) r l)
    (hQ : ∀ s' : See, s'.next = 4 → sl s'.val = seesL l view → Q (s', f, B)) (m : Nat) : Go (seeX k) seeFin (m + 2 * l.length + 2) (⟨none, .fresh (.body 0 i), view, none, 0⟩, f, B) Q := by
  match l, h with
  | [], h =>
    have h : f (.body 0 i) = 0 := h
    refine Go.done (⟨none, ⟨.body 0 i, none, B.now, none, 2⟩, view, none, 4⟩, f, B) ?_ rfl (hQ _ rfl rfl)
    simp only [seeX, See.step, Newest.step, Newest.fresh, Int.reduceEq, if_false, if_true, h, namedO_zero]
  | (t, v) :: l, h =>
    obtain ⟨q, h1, h2, h3, h4, h5, _⟩ := id h
    have e := namedO_succ (k := k) (q := q) (by omega)
    have ht : ¬ f (.body q 1) = 0 := by rw [h4]; omega
    refine Go.next (⟨none, ⟨.body 0 i, some q, B.now, some ⟨q, 0, 0, 0⟩, 1⟩, view, none, 0⟩, f, B) ?_ (by simp [seeFin]) ?_
    · simp only [seeX, See.step, Newest.step, Newest.fresh, Int.reduceEq, if_false, if_true, h1, e]
    refine Go.next (⟨none, ⟨.body 0 i, some q, B.now, some ⟨q, 3, 0, 0⟩, 2⟩, view, some q, 1⟩, f, B) ?_ (by simp [seeFin]) ?_
    · simp only [seeX, See.step, Newest.step, Stamp.step, Int.reduceEq, if_false, if_true, ht, reduceCtorEq]
    rw [h1] at h
    exact see_walk hk hr h hQ m
end Wm
end

section
/- The law FieldViews, of my machine. -/
namespace Wm
attribute [local congr] bind_congr1
attribute [local irreducible] wr

/-- The loop of a Lay alone. -/
theorem fv_lay {x0 x4 x5 : V} {x6 x7 : Int} {g0 : H} (ok : g0.ok) {w : Nat} {A : Adr} {f0 : Wd → Int} {n0 : Int} {B0 : BookT} (Y : World10 g0 w A f0 n0 B0) {b : Nat} {s0 : Lay} {L : List Nat}
    (Z : LayAt g0 b cfg10 A.bk s0 L) (hLA : ∀ c ∈ L, c ∉ A.l) (hw : w ∉ L) {Q : LaySt → Prop} (G : Go (layX cfg10) layFin 30 (s0, f0, B0) Q)
    (K : AX × List V × H → Option (AX × List V × H)) (R : AX × List V × H → Prop)
    (hK : ∀ (s : Lay) (f : Wd → Int) (n : Int) (B : BookT) (L' : List Nat) (j : Nat) (g : H), j < 30 → Q (s, f, B) → Fr (L ++ A.l) g0 g → LayAt g b cfg10 A.bk s L' → World10 g w A f n B →
      Ev (K (.exit 2, S.withylaw10_FieldViews_c5_O x0 (.ptr w 0) x4 x5 (.int .i64 x6) (.int .i64 x7), g)) R) :
    Ev ((W.loop (S.withylaw10_FieldViews_c5_B W) (S.withylaw10_FieldViews_c5_E x0 (.ptr w 0) x4 x5 (.int .i64 x6) (.int .i64 x7) (.ptr b 0) (.int .i64 0)) g0).bind K) R := by
  have hA0' := Y.base.lt ok
  have hw0' := ok.lt Y.own
  refine loop_ev (α := Nat × LaySt × List Nat × Int) (fun y => S.withylaw10_FieldViews_c5_E x0 (.ptr w 0) x4 x5 (.int .i64 x6) (.int .i64 x7) (.ptr b 0) (.int .i64 (y.1 : Nat)))
    (fun y g => Go (layX cfg10) layFin (30 - y.1) y.2.1 Q ∧ Fr (L ++ A.l) g0 g ∧ LayAt g b cfg10 A.bk y.2.1.1 y.2.2.1 ∧ (∀ c ∈ y.2.2.1, c ∈ L ∨ g0.next ≤ c) ∧ World10 g w A y.2.1.2.1 y.2.2.2 y.2.1.2.2)
    (fun y _ => 30 - y.1)
    (fun r => ∃ (j : Nat) (s : Lay) (f : Wd → Int) (n : Int) (B : BookT) (L' : List Nat), r.1 = .exit 2 ∧ r.2.1 = S.withylaw10_FieldViews_c5_O x0 (.ptr w 0) x4 x5 (.int .i64 x6) (.int .i64 x7) ∧ j < 30 ∧ Q (s, f, B) ∧ Fr (L ++ A.l) g0 r.2.2 ∧ LayAt r.2.2 b cfg10 A.bk s L' ∧ World10 r.2.2 w A f n B)
    (0, (s0, f0, B0), L, n0) rfl ⟨G, .refl ok, Z, fun _ h => .inl h, Y⟩ ?_ ?_
  rotate_left
  · rintro ⟨x, env, g⟩ ⟨j, s, f, n, B, L', rfl, rfl, hj, hq, F, Z', Y'⟩
    exact hK s f n B L' j g hj hq F Z' Y'
  rintro ⟨j, ⟨s, f, B⟩, L', n⟩ g ⟨G, F, Z, hL', Y⟩
  dsimp only at G Z hL' Y ⊢
  have hj : j < 30 := by
    by_cases h : j < 30
    · exact h
    · rw [show 30 - j = 0 by omega] at G; exact G.elim
  obtain ⟨m, hm⟩ : ∃ m, 30 - j = m + 1 := ⟨29 - j, by omega⟩
  rw [hm] at G
  rw [S.withylaw10_FieldViews_c5_eq]
  have hd : decide ((j : Int) < 30) = true := decide_eq_true (by omega)
  have hA0 := hA0'
  have hw0 := hw0'
  have hLA' : ∀ c ∈ L', c ∉ A.l := fun c hc hA => (hL' c hc).elim (fun h => hLA c h hA) (fun h => absurd (hA0 c hA) (Nat.not_lt_of_le h))
  have hwL' : w ∉ L' := fun hc => (hL' w hc).elim hw (fun h => absurd hw0 (Nat.not_lt_of_le h))
  have hY := Y.own
  simp only [S.withylaw10_FieldViews_c5_S, nilc_ptr, ptrAt_ptr, Option.bind_some, ld1_get', ldB_cells, List.getElem?_cons_zero, List.getElem?_cons_succ, Nat.zero_add, V.one, W_call, hd, hY]
  refine Ev.bind (Z.step F.ok cfg10_R Y.base hLA') ?_
  rintro ⟨v, g'⟩ ⟨rfl, L2, F1, Z1, hL2, E1⟩
  dsimp only at F1 Z1 E1 ⊢
  have F2 : Fr (L ++ A.l) g0 g' := F.trans F1 (by
    intro c hc
    rcases List.mem_append.mp hc with h | h
    · exact (hL' c h).imp (fun h => by simp [h]) id
    · exact .inl (by simp [h]))
  have Y1 := Y.to F.ok F1 (by simp only [List.mem_append, not_or]; exact ⟨hwL', Y.out⟩) E1
  have hL2' : ∀ c ∈ L2, c ∈ L ∨ g0.next ≤ c := fun c hc => (hL2 c hc).elim (hL' c) (fun h => .inr (Nat.le_trans F.le h))
  rcases G with ⟨hf, hq⟩ | ⟨hf, G1⟩
  · have hd2 : decide ((s.step cfg10 f B).1.next = 6) = true := decide_eq_true hf
    simp only [Option.bind_some, asB_bool, Bool.not_true, hd2]
    exact Ev.some (.inr ⟨by simp, j, _, _, _, _, L2, rfl, rfl, hj, hq, F2, Z1, Y1⟩)
  · have hd2 : decide ((s.step cfg10 f B).1.next = 6) = false := decide_eq_false hf
    have w1 : wr .i64 ((j : Int) + 1) = ((j + 1 : Nat) : Int) := by rw [wr64 (by omega) (by omega)]; rfl
    simp only [Option.bind_some, asB_bool, Bool.not_false, hd2, w1]
    refine Ev.some (.inl ⟨(j + 1, layX cfg10 (s, f, B), L2, _), rfl, rfl, ⟨?_, F2, Z1, hL2', Y1⟩, ?_⟩)
    · show Go _ _ (30 - (j + 1)) _ Q
      rw [show 30 - (j + 1) = m by omega]; exact G1
    · show 30 - (j + 1) < 30 - j
      omega
/-- The loop of a See alone. -/
theorem fv_see {x4 x5 : V} {x11 : Int} {g0 : H} (ok : g0.ok) {w : Nat} {A : Adr} {f0 : Wd → Int} {n0 : Int} {B0 : BookT} (Y : World10 g0 w A f0 n0 B0) {b : Nat} {s0 : See} {L : List Nat}
    (Z : SeeAt g0 b cfg10 A.bk s0 L) (hLA : ∀ c ∈ L, c ∉ A.l) (hw : w ∉ L) {Q : SeeSt → Prop} (G : Go (seeX cfg10) seeFin 100 (s0, f0, B0) Q)
    (K : AX × List V × H → Option (AX × List V × H)) (R : AX × List V × H → Prop)
    (hK : ∀ (s : See) (f : Wd → Int) (n : Int) (B : BookT) (L' : List Nat) (j : Nat) (g : H), j < 100 → Q (s, f, B) → Fr (L ++ A.l) g0 g → SeeAt g b cfg10 A.bk s L' → (∀ c ∈ L', c ∈ L ∨ g0.next ≤ c) → World10 g w A f n B →
      Ev (K (.exit 6, S.withylaw10_FieldViews_c12_O (.ptr w 0) x4 x5 (.int .i64 x11) (.ptr b 0), g)) R) :
    Ev ((W.loop (S.withylaw10_FieldViews_c12_B W) (S.withylaw10_FieldViews_c12_E (.ptr w 0) x4 x5 (.int .i64 x11) (.ptr b 0) (.int .i64 0)) g0).bind K) R := by
  have hA0' := Y.base.lt ok
  have hw0' := ok.lt Y.own
  refine loop_ev (α := Nat × SeeSt × List Nat × Int) (fun y => S.withylaw10_FieldViews_c12_E (.ptr w 0) x4 x5 (.int .i64 x11) (.ptr b 0) (.int .i64 (y.1 : Nat)))
    (fun y g => Go (seeX cfg10) seeFin (100 - y.1) y.2.1 Q ∧ Fr (L ++ A.l) g0 g ∧ SeeAt g b cfg10 A.bk y.2.1.1 y.2.2.1 ∧ (∀ c ∈ y.2.2.1, c ∈ L ∨ g0.next ≤ c) ∧ World10 g w A y.2.1.2.1 y.2.2.2 y.2.1.2.2)
    (fun y _ => 100 - y.1)
    (fun r => ∃ (j : Nat) (s : See) (f : Wd → Int) (n : Int) (B : BookT) (L' : List Nat), r.1 = .exit 6 ∧ r.2.1 = S.withylaw10_FieldViews_c12_O (.ptr w 0) x4 x5 (.int .i64 x11) (.ptr b 0) ∧ j < 100 ∧ Q (s, f, B) ∧ Fr (L ++ A.l) g0 r.2.2 ∧ SeeAt r.2.2 b cfg10 A.bk s L' ∧ (∀ c ∈ L', c ∈ L ∨ g0.next ≤ c) ∧ World10 r.2.2 w A f n B)
    (0, (s0, f0, B0), L, n0) rfl ⟨G, .refl ok, Z, fun _ h => .inl h, Y⟩ ?_ ?_
  rotate_left
  · rintro ⟨x, env, g⟩ ⟨j, s, f, n, B, L', rfl, rfl, hj, hq, F, Z', hl', Y'⟩
    exact hK s f n B L' j g hj hq F Z' hl' Y'
  rintro ⟨j, ⟨s, f, B⟩, L', n⟩ g ⟨G, F, Z, hL', Y⟩
  dsimp only at G Z hL' Y ⊢
  have hj : j < 100 := by
    by_cases h : j < 100
    · exact h
    · rw [show 100 - j = 0 by omega] at G; exact G.elim
  obtain ⟨m, hm⟩ : ∃ m, 100 - j = m + 1 := ⟨99 - j, by omega⟩
  rw [hm] at G
  rw [S.withylaw10_FieldViews_c12_eq]
  have hd : decide ((j : Int) < 100) = true := decide_eq_true (by omega)
  have hA0 := hA0'
  have hw0 := hw0'
  have hLA' : ∀ c ∈ L', c ∉ A.l := fun c hc hA => (hL' c hc).elim (fun h => hLA c h hA) (fun h => absurd (hA0 c hA) (Nat.not_lt_of_le h))
  have hwL' : w ∉ L' := fun hc => (hL' w hc).elim hw (fun h => absurd hw0 (Nat.not_lt_of_le h))
  have hY := Y.own
  simp only [S.withylaw10_FieldViews_c12_S, nilc_ptr, ptrAt_ptr, Option.bind_some, ld1_get', ldB_cells, List.getElem?_cons_zero, List.getElem?_cons_succ, Nat.zero_add, V.one, W_call, hd, hY]
  refine Ev.bind (Z.step F.ok cfg10_R Y.base hLA') ?_
  rintro ⟨v, g'⟩ ⟨rfl, L2, F1, Z1, hL2, E1⟩
  dsimp only at F1 Z1 E1 ⊢
  have F2 : Fr (L ++ A.l) g0 g' := F.trans F1 (by
    intro c hc
    rcases List.mem_append.mp hc with h | h
    · exact (hL' c h).imp (fun h => by simp [h]) id
    · exact .inl (by simp [h]))
  have Y1 := Y.to F.ok F1 (by simp only [List.mem_append, not_or]; exact ⟨hwL', Y.out⟩) E1
  have hL2' : ∀ c ∈ L2, c ∈ L ∨ g0.next ≤ c := fun c hc => (hL2 c hc).elim (hL' c) (fun h => .inr (Nat.le_trans F.le h))
  rcases G with ⟨hf, hq⟩ | ⟨hf, G1⟩
  · have hd2 : decide ((s.step cfg10 f B).1.next = 4) = true := decide_eq_true hf
    simp only [Option.bind_some, asB_bool, Bool.not_true, hd2]
    exact Ev.some (.inr ⟨by simp, j, _, _, _, _, L2, rfl, rfl, hj, hq, F2, Z1, hL2', Y1⟩)
  · have hd2 : decide ((s.step cfg10 f B).1.next = 4) = false := decide_eq_false hf
    have w1 : wr .i64 ((j : Int) + 1) = ((j + 1 : Nat) : Int) := by rw [wr64 (by omega) (by omega)]; rfl
    simp only [Option.bind_some, asB_bool, Bool.not_false, hd2, w1]
    refine Ev.some (.inl ⟨(j + 1, seeX cfg10 (s, f, B), L2, _), rfl, rfl, ⟨?_, F2, Z1, hL2', Y1⟩, ?_⟩)
    · show Go _ _ (100 - (j + 1)) _ Q
      rw [show 100 - (j + 1) = m by omega]; exact G1
    · show 100 - (j + 1) < 100 - j
      omega


/-! ### What is known between two values -/
structure FV (f : Wd → Int) (l : List (Int × Int)) (views : List Int) (r : Nat) (c : Int) : Prop where
  chain : ChainF f (f (.body 0 1)) r l
  t0 : 1 ≤ f .clock
  t1 : f .clock ≤ c
  st : ∀ x ∈ l, x.1 ≤ f .clock
  vw : ∀ v ∈ views, 0 ≤ v ∧ v < f .clock
  zero : ∀ q, r ≤ q → f (.body q 1) = 0
theorem FV.mono {f : Wd → Int} {l : List (Int × Int)} {views : List Int} {r r' : Nat} {c c' : Int} (Z : FV f l views r c) (hr : r ≤ r') (hc : c ≤ c') : FV f l views r' c' :=
  ⟨Z.chain.mono hr, Z.t0, Int.le_trans Z.t1 hc, Z.st, Z.vw, fun q hq => Z.zero q (Nat.le_trans hr hq)⟩
theorem FV.laid {f f' : Wd → Int} {l : List (Int × Int)} {views : List Int} {r : Nat} {c v : Int} (Z : FV f l views r c) (h5 : 5 ≤ r) (v0 : -1 ≤ v) (v1 : v ≤ 30)
    (hS : SameB (laidF (wset f (.body r 0) (v + 1)) (.body 0 1) r) f') : FV f' ((f .clock, v) :: l) views (r + 1) c ∧ f' .clock = f .clock := by
  have hr : r ≠ 0 := Nat.ne_of_gt (Nat.lt_of_lt_of_le (by decide) h5)
  have hz : wset f (.body r 0) (v + 1) (.body r 1) = 0 := by rw [wset_ne (by simp)]; exact Z.zero r (Nat.le_refl r)
  have hb : ∀ q j, f' (.body q j) = if q = r ∧ j = 1 then f .clock else if q = 0 ∧ j = 1 then (r : Int) + 1 else if q = r ∧ j = 2 then f (.body 0 1) else if q = r ∧ j = 0 then v + 1 else f (.body q j) := by
    intro q j
    rw [hS.body]
    unfold laidF
    simp only [hz, if_true]
    by_cases h1 : q = r ∧ j = 1
    · rw [if_pos h1]; obtain ⟨rfl, rfl⟩ := h1; rw [wset_same, wset_ne (by simp)]
    · rw [if_neg h1, wset_ne (by simpa using h1)]
      by_cases h2 : q = 0 ∧ j = 1
      · rw [if_pos h2]; obtain ⟨rfl, rfl⟩ := h2; rw [wset_same]
      · rw [if_neg h2, wset_ne (by simpa using h2)]
        by_cases h3 : q = r ∧ j = 2
        · rw [if_pos h3]; obtain ⟨rfl, rfl⟩ := h3; rw [wset_same, wset_ne (by simp [Ne.symm hr])]
        · rw [if_neg h3, wset_ne (by simpa using h3)]
          by_cases h4 : q = r ∧ j = 0
          · rw [if_pos h4]; obtain ⟨rfl, rfl⟩ := h4; rw [wset_same]
          · rw [if_neg h4, wset_ne (by simpa using h4)]
  have hc : f' .clock = f .clock := by
    rw [hS.clock]
    unfold laidF
    simp only [hz, if_true]
    rw [wset_ne (by simp), wset_ne (by simp), wset_ne (by simp), wset_ne (by simp)]
  have h01 : f' (.body 0 1) = (r : Int) + 1 := by rw [hb, if_neg (by simp [Ne.symm hr]), if_pos ⟨rfl, rfl⟩]
  refine ⟨⟨?_, by rw [hc]; exact Z.t0, by rw [hc]; exact Z.t1, ?_, fun y hy => by rw [hc]; exact Z.vw y hy, ?_⟩, hc⟩
  · refine ⟨r, h01, h5, Nat.lt_succ_self r, by rw [hb, if_pos ⟨rfl, rfl⟩], by have := Z.t0; omega, ?_, v0, v1, ?_⟩
    · rw [hb, if_neg (by simp), if_neg (by simp), if_neg (by simp), if_pos ⟨rfl, rfl⟩]
    · rw [hb, if_neg (by simp), if_neg (by simp), if_pos ⟨rfl, rfl⟩]
      refine Z.chain.congr fun q j hq hqr => ?_
      rw [hb, if_neg (fun h => Nat.ne_of_lt hqr h.1), if_neg (fun h => absurd (h.1 ▸ hq) (by decide)), if_neg (fun h => Nat.ne_of_lt hqr h.1), if_neg (fun h => Nat.ne_of_lt hqr h.1)]
  · intro x hx
    rw [hc]
    rcases List.mem_cons.mp hx with rfl | hx
    · exact Int.le_refl _
    · exact Z.st x hx
  · intro q hq
    have h1 : q ≠ r := by omega
    have h2 : q ≠ 0 := by omega
    rw [hb, if_neg (fun h => h1 h.1), if_neg (fun h => h2 h.1), if_neg (fun h => h1 h.1), if_neg (fun h => h1 h.1)]
    exact Z.zero q (by omega)
theorem FV.sees {f : Wd → Int} {l : List (Int × Int)} {views : List Int} {r : Nat} {c v : Int} (Z : FV f l views r c) : views.map (seesL ((f .clock, v) :: l)) = views.map (seesL l) := by
  apply List.map_congr_left
  intro y hy
  have := (Z.vw y hy).2
  show (if f .clock ≤ y then v else seesL l y) = _
  rw [if_neg (by omega)]
theorem FV.turn {f : Wd → Int} {l : List (Int × Int)} {views : List Int} {r : Nat} {c : Int} (Z : FV f l views r c) : FV (wset f .clock (f .clock + 1)) l (views ++ [f .clock]) r (c + 1) := by
  have hb : ∀ q j, wset f .clock (f .clock + 1) (.body q j) = f (.body q j) := fun q j => wset_ne (by simp)
  have h0 := Z.t0
  have h1 := Z.t1
  refine ⟨by rw [hb]; exact Z.chain.congr fun q j _ _ => hb q j, ?_, ?_, ?_, ?_, fun q hq => by rw [hb]; exact Z.zero q hq⟩
  · rw [wset_same]; omega
  · rw [wset_same]; omega
  · intro x hx; rw [wset_same]; have := Z.st x hx; omega
  · intro y hy
    rw [wset_same]
    rcases List.mem_append.mp hy with hy | hy
    · have := Z.vw y hy; omega
    · rw [List.mem_singleton.mp hy]; omega
theorem FV.begin : FV (beg10 cfg10.S) [] [] 5 1 :=
  ⟨rfl, by decide, by decide, by simp, by simp, fun q _ => rfl⟩

def ints (kd : Go.IntKind) (l : List Int) : List V := l.map (.int kd)
theorem ints_len (kd : Go.IntKind) (l : List Int) : (ints kd l).length = l.length := List.length_map _
theorem ints_snoc (kd : Go.IntKind) (l : List Int) (x : Int) : ints kd l ++ [.int kd x] = ints kd (l ++ [x]) := by unfold ints; rw [List.map_append]; rfl

/-- The state of the laws' first loop. -/
structure FvAt (h g : H) (x4 x5 : V) (w : Nat) (A : Adr) (f : Wd → Int) (n : Int) (B : BookT) (l : List (Int × Int)) (views : List Int) (r : Nat) (c : Int) : Prop where
  fr : Fr [] h g
  wn : h.next ≤ w
  An : ∀ b ∈ A.l, h.next ≤ b
  world : World10 g w A f n B
  fv : FV f l views r c
  vs : Grown g.get x5 1 (ints .u64 views)
  ws : Grown g.get x4 1 (ints .i64 (views.map (seesL l)))
  n4 : ∀ b ∈ x4.blk, h.next ≤ b ∧ b ≠ w ∧ b ∉ A.l
  n5 : ∀ b ∈ x5.blk, h.next ≤ b ∧ b ≠ w ∧ b ∉ A.l
  n45 : ∀ b ∈ x4.blk, b ∉ x5.blk
  few : (views.length : Int) ≤ c

/-- Behind what touches the world alone. -/
theorem FvAt.to {h g g' : H} {x4 x5 : V} {w : Nat} {A : Adr} {f f' : Wd → Int} {n n' : Int} {B B' : BookT} {l l' : List (Int × Int)} {views : List Int} {r r' : Nat} {c c' : Int} (Z : FvAt h g x4 x5 w A f n B l views r c)
    {L : List Nat} (F : Fr L g g') (hL : ∀ b ∈ L, b ∈ A.l ∨ b = w ∨ g.next ≤ b) (Y : World10 g' w A f' n' B') (fv : FV f' l' views r' c') (hm : views.map (seesL l') = views.map (seesL l)) (hc : c ≤ c') : FvAt h g' x4 x5 w A f' n' B' l' views r' c' := by
  have ok := Z.fr.ok
  have hn : ∀ (x : V) (e : Nat) (q : List V), Grown g.get x e q → (∀ b ∈ x.blk, h.next ≤ b ∧ b ≠ w ∧ b ∉ A.l) → ∀ b ∈ x.blk, b ∉ L := fun x e q G hx b hb hbL => by
    have h1 := hx b hb
    rcases hL b hbL with h2 | h2 | h2
    · exact h1.2.2 h2
    · exact h1.2.1 h2
    · exact absurd (G.lt ok b hb) (Nat.not_lt_of_le h2)
  refine ⟨Z.fr.trans F (fun b hb => .inr ?_), Z.wn, Z.An, Y, fv, Z.vs.fr ok F (hn _ _ _ Z.vs Z.n5), ?_, Z.n4, Z.n5, Z.n45, Int.le_trans Z.few hc⟩
  · rcases hL b hb with h2 | h2 | h2
    · exact Z.An b h2
    · rw [h2]; exact Z.wn
    · exact Nat.le_trans Z.fr.le h2
  · rw [hm]; exact Z.ws.fr ok F (hn _ _ _ Z.ws Z.n4)

theorem fa_d3 {n : Int} (h : 0 ≤ n ∧ n < 256) : wr .u8 (Int.tdiv n 3) = n / 3 ∧ (0 ≤ n / 3 ∧ n / 3 < 256) := by rw [td h.1]; simp only [wr]; omega
/-- Something is laid. -/
theorem fv_c4 {h : H} {x0 : V} {vals : List Int} (hx : RowN .u8 h.get x0 vals) (ok : h.ok) (hb : ∀ y ∈ vals, 0 ≤ y ∧ y < 256) (hlen : vals.length ≤ 30) {x4 x5 : V} {w : Nat} {A : Adr}
    {i : Nat} {last : Int} {f : Wd → Int} {n : Int} {B : BookT} {g : H} {l : List (Int × Int)} {views : List Int} (Z : FvAt h g x4 x5 w A f n B l views (5 + i) (1 + i)) (hi : i < vals.length) (hlast : headL l = last) :
    Ev (S.withylaw10_FieldViews_c4_S W x0 (.ptr w 0) x4 x5 last (i : Nat) g) fun r => ∃ f' n' B' l', r.1 = .normal ∧ r.2.1 = S.withylaw10_FieldViews_c4_O x0 (.ptr w 0) x4 x5 (.int .i64 (headL l')) (.int .i64 (i : Nat)) ∧ FvAt h r.2.2 x4 x5 w A f' n' B' l' views (5 + (i + 1)) (1 + i) := by
  have hv10 : cfg10.v = .agg [.int .i64 40, .int .i64 3, .int .i64 1, .int .i64 1, .int .i64 9, .int .i64 0] := rfl
  have F0 := Z.fr
  have Y := Z.world
  have ok0 := F0.ok
  have hS40 : cfg10.S = 40 := rfl
  obtain ⟨hi30, hd, h540, h5n⟩ := fa_lt hi hlen
  obtain ⟨n3, hn3⟩ : ∃ n3, vals[i]? = some n3 := ⟨_, List.getElem?_eq_getElem hi⟩
  have hn := hb n3 (List.mem_of_getElem? hn3)
  obtain ⟨xb, hix, hld⟩ := (hx.fr ok F0 (by simp)).at hn3
  have hY := Y.own
  subst hlast
  by_cases hp : 0 < Int.tmod n3 3
  rotate_left
  · simp only [S.withylaw10_FieldViews_c4_S, Option.bind_some, asI_int, decide_false, hix, hld, hp]
    exact Ev.some ⟨f, n, B, l, rfl, rfl, { Z with fv := Z.fv.mono (Nat.le_succ (5 + i)) (Int.le_refl _) }⟩
  obtain ⟨w8, hn8⟩ := fa_d3 hn
  have w1 := fa_mod hn8
  have hs := slotZ_spec (n3 / 3)
  obtain ⟨v0, v1⟩ := slotZ_bd (n3 / 3)
  generalize slotZ (n3 / 3) = v at hs v0 v1
  have hat := at10 (l := .body (5 + i) 0) ⟨h540, by show 0 < 3; decide⟩
  have hat' : ∀ h, C 131 [.agg [.int .i64 40, .int .i64 3, .int .i64 1, .int .i64 1, .int .i64 9, .int .i64 0], .str ⟨⟨[98, 111, 100, 121]⟩⟩, .int .i64 ((5 + i : Nat) : Int), .int .i64 0] h = some (.int .i64 ((Wd.body (5 + i) 0).pos cfg10 : Nat), h) := hat
  have w5 := fa_i5 hi30
  obtain ⟨wv, uv⟩ := fa_v1 ⟨v0, v1⟩
  simp only [S.withylaw10_FieldViews_c4_S, nilc_ptr, ptrAt_ptr, Option.bind_some, ld1_get', ldN_get', st_get', ldB_cells, ldNB_cells, List.getElem?_cons_zero, List.getElem?_cons_succ, Nat.zero_add, Nat.add_zero, Nat.reduceAdd, Nat.reduceLeDiff, Int.reduceNeg, V.one, V.cells, V.beq, ckB_some, asI_int, List.length_cons, List.length_nil, Nat.beq_refl, Bool.and_self, decide_true, List.take_succ_cons, List.take_zero, List.drop_zero, W_call, hp, hix, hld, w8, w1, hs, hY, w5, hat', wv]
  refine Ev.bind (laid10 Y.base ok0 (l := .body (5 + i) 0) ⟨h540, by show 0 < 3; decide⟩ (v := v + 1) uv) ?_
  rintro ⟨_, g1⟩ ⟨rfl, F1, E1⟩
  dsimp only at F1 E1 ⊢
  have hAw := Y.out
  unfold Adr.l at hAw
  simp only [List.mem_cons, List.not_mem_nil, or_false, not_or] at hAw
  have Y1 := Y.to ok0 F1 (by simp [hAw.1, hAw.2.1]) E1
  have hY1 := Y1.own
  simp only [Option.bind_some, Option.map_some, get_put', ldB_cells, ldNB_cells, stB_cells, List.getElem?_cons_zero, List.getElem?_cons_succ, Nat.zero_add, Nat.reduceAdd, Nat.reduceLeDiff, Int.reduceNeg, V.one, List.length_cons, List.length_nil, Nat.beq_refl, List.all_cons, List.all_nil, Bool.not_true, Bool.or_self, Bool.and_self, decide_true, decide_false, if_true, splice, List.take_succ_cons, List.take_zero, List.drop_succ_cons, List.drop_zero, List.cons_append, List.nil_append, reduceCtorEq, hY1]
  have hwl := F1.ok.lt hY1
  have F2 : Fr [w] g1 (g1.put w (some (.cells [.int .i64 40, .int .i64 3, .int .i64 1, .int .i64 1, .int .i64 9, .int .i64 0, .ptr A.p 0, .ptr A.bk 0, .int .i64 5, .nilsl, .bool false] .rw))) := (Fr.refl F1.ok).put (.inl (by simp)) hwl _
  have Y2 : World10 (g1.put w (some (.cells [.int .i64 40, .int .i64 3, .int .i64 1, .int .i64 1, .int .i64 9, .int .i64 0, .ptr A.p 0, .ptr A.bk 0, .int .i64 5, .nilsl, .bool false] .rw))) w A _ _ B :=
    ⟨get_put_self _ _ _, Y.out, E1.fr F1.ok F2 (fun c hc h => Y.out (by simp only [List.mem_singleton] at h; rw [← h]; exact hc))⟩
  generalize (g1.put w (some (.cells [.int .i64 40, .int .i64 3, .int .i64 1, .int .i64 1, .int .i64 9, .int .i64 0, .ptr A.p 0, .ptr A.bk 0, .int .i64 5, .nilsl, .bool false] .rw))) = g2 at F2 Y2 ⊢
  have F12 : Fr [w, A.p, A.pw] g g2 := (F1.mono (by simp)).trans' (F2.mono (by simp))
  have ok2 := F2.ok
  have hY2 := Y2.own
  have hNL := newLay_spec cfg10_R (q := 0) (i := 1) (rec := 5 + i) (by rw [hS40]; decide) (by decide) h540 (-2) (e := 0) ⟨by decide, by decide⟩ A.bk ok2
  rw [hv10, show ((0 : Nat) : Int) = 0 from rfl, show ((1 : Nat) : Int) = 1 from rfl] at hNL
  refine Ev.bind hNL ?_
  rintro ⟨_, g3⟩ ⟨b, L, rfl, F3, hL, Z3⟩
  dsimp only at F3 Z3 ⊢
  have hAl := Y2.base.lt ok2
  have hwl2 := ok2.lt Y2.own
  have Y3 := Y2.fr ok2 F3 (by simp) (by simp)
  have hLA : ∀ c ∈ L, c ∉ A.l := fun c hc hA => absurd (hAl c hA) (Nat.not_lt_of_le (hL c hc))
  have hwL : w ∉ L := fun hc => absurd hwl2 (Nat.not_lt_of_le (hL w hc))
  have hle : g.next ≤ g2.next := F12.le
  have F13 : Fr [w, A.p, A.pw] g g3 := F12.trans F3 (by simp)
  have hCh : ChainF (wset f (.body (5 + i) 0) (v + 1)) (wset f (.body (5 + i) 0) (v + 1) (.body 0 1)) (5 + i) l := by
    rw [wset_ne (by simp)]
    exact Z.fv.chain.congr fun q j _ hq => wset_ne (by simp [Nat.ne_of_lt hq])
  have hR : Rests cfg10 (wset f (.body (5 + i) 0) (v + 1)) 1 := hCh.rests (Int.ofNat_le.mpr (Nat.le_of_lt h540))
  have G := lay_alone (k := cfg10) (m := 19) (f := wset f (.body (5 + i) 0) (v + 1)) (B := B) (Q := fun x => SameB (laidF (wset f (.body (5 + i) 0) (v + 1)) (.body 0 1) (5 + i)) x.2.1) (e := 0) (ex := -2) h5n hR (fun s' f' B' h1 h2 => by
    rw [h1, decide_eq_true (.inl (by decide))] at h2; exact h2)
  refine fv_lay F3.ok Y3 Z3 hLA hwL G _ _ ?_
  rintro s f2 n2 B2 L2 j g4 hj hS F4 Z4 Y4
  dsimp only at hS ⊢
  rw [S.withylaw10_FieldViews_c5_e2_eq]
  simp only [S.withylaw10_FieldViews_c5_e2]
  have F14 : Fr ([w] ++ (L ++ A.l)) g g4 := (F13.mono (fun c hc => .inl (by unfold Adr.l; simp only [List.mem_cons, List.not_mem_nil, or_false, List.mem_append] at hc ⊢; rcases hc with h | h | h <;> simp [h]))).trans' (F4.mono (fun c hc => .inl (by simp only [List.mem_append] at hc ⊢; exact .inr hc)))
  obtain ⟨fv, _⟩ := Z.fv.laid (Nat.le_add_right 5 i) v0 v1 hS
  refine Ev.some ⟨f2, n2, B2, (f .clock, v) :: l, rfl, rfl, Z.to F14 ?_ Y4 fv Z.fv.sees (Int.le_refl _)⟩
  intro c hc
  simp only [List.mem_append, List.mem_singleton] at hc
  rcases hc with hc | hc | hc
  · exact .inr (.inl hc)
  · exact .inr (.inr (Nat.le_trans hle (hL c hc)))
  · exact .inl hc

theorem FV.init {f : Wd → Int} {l : List (Int × Int)} {views : List Int} {y : Int} {r : Nat} {c : Int} (Z : FV f l (views ++ [y]) r c) : FV f l views r c :=
  ⟨Z.chain, Z.t0, Z.t1, Z.st, fun v hv => Z.vw v (by simp [hv]), Z.zero⟩
/-- A view more. -/
theorem FvAt.push {h g : H} {x4 x5 : V} {w : Nat} {A : Adr} {f : Wd → Int} {n : Int} {B : BookT} {l : List (Int × Int)} {views : List Int} {r : Nat} {c c' : Int} (Z : FvAt h g x4 x5 w A f n B l views r c) {y v : Int} (fv : FV f l (views ++ [y]) r c')
    (hv : v = seesL l y) {c0 : Int} (few : (views.length : Int) ≤ c0) (hc : c0 + 1 ≤ c') (hc1 : c0 ≤ 1000) :
    ∃ x5' g5 x4' g6, (g.new (.cells [.int .u64 y] .rw)).append 1 8 x5 (.sl g.next 0 1 (.ex 1)) = some (x5', g5) ∧ (g5.new (.cells [.int .i64 v] .rw)).append 1 8 x4 (.sl g5.next 0 1 (.ex 1)) = some (x4', g6) ∧ FvAt h g6 x4' x5' w A f n B l (views ++ [y]) r c' := by
  have ok := Z.fr.ok
  have hl5 : (ints .u64 views).length ≤ 1000000 := by rw [ints_len]; omega
  have hl4 : (ints .i64 (views.map (seesL l))).length ≤ 1000000 := by rw [ints_len, List.length_map]; omega
  have Fa : Fr [] g (g.new (.cells [.int .u64 y] .rw)) := (Fr.refl ok).new _
  have oka := Fa.ok
  have w5 := Z.vs.lt ok
  have w4 := Z.ws.lt ok
  have hwl := ok.lt Z.world.own
  have hAl := Z.world.base.lt ok
  obtain ⟨x5', g5, e5, F5, G5, hn5, _⟩ := Grown.push oka (bytes := 8) (Z.vs.fr ok Fa (by simp)) (get_new_self g _) rfl rfl (by decide) ⟨by decide, by decide⟩ hl5
  have ok5 := F5.ok
  have F05 : Fr x5.blk g g5 := (Fa.mono (by simp)).trans' F5
  have Fb : Fr [] g5 (g5.new (.cells [.int .i64 v] .rw)) := (Fr.refl ok5).new _
  have okb := Fb.ok
  have G4 := (Z.ws.fr ok F05 Z.n45).fr ok5 Fb (by simp)
  obtain ⟨x4', g6, e6, F6, G6, hn6, _⟩ := Grown.push okb (bytes := 8) G4 (get_new_self g5 _) rfl rfl (by decide) ⟨by decide, by decide⟩ hl4
  have ok6 := F6.ok
  have F56 : Fr x4.blk g5 g6 := (Fb.mono (by simp)).trans' F6
  have hle : g.next ≤ g5.next := F05.le
  have hla : g.next ≤ (g.new (.cells [.int .u64 y] .rw)).next := Fa.le
  have hlb : g5.next ≤ (g5.new (.cells [.int .i64 v] .rw)).next := Fb.le
  have h5lt := G5.lt ok5
  have hw5 : w ∉ x5.blk := fun hm => (Z.n5 w hm).2.1 rfl
  have hw4 : w ∉ x4.blk := fun hm => (Z.n4 w hm).2.1 rfl
  have hA5 : ∀ b ∈ A.l, b ∉ x5.blk := fun b hb hm => (Z.n5 b hm).2.2 hb
  have hA4 : ∀ b ∈ A.l, b ∉ x4.blk := fun b hb hm => (Z.n4 b hm).2.2 hb
  have newer : ∀ b, g.next ≤ b → h.next ≤ b ∧ b ≠ w ∧ b ∉ A.l := fun b hb => ⟨Nat.le_trans Z.fr.le hb, fun q => absurd hwl (Nat.not_lt_of_le (q ▸ hb)), fun hm => absurd (hAl b hm) (Nat.not_lt_of_le hb)⟩
  refine ⟨x5', g5, x4', g6, e5, e6, ⟨(Z.fr.trans F05 fun b hb => .inr (Z.n5 b hb).1).trans F56 fun b hb => .inr (Z.n4 b hb).1, Z.wn, Z.An, (Z.world.fr ok F05 hw5 hA5).fr ok5 F56 hw4 hA4, fv, ?_, ?_, fun b hb => newer b (Nat.le_trans hle (Nat.le_trans hlb (hn6 b hb))), fun b hb => newer b (Nat.le_trans hla (hn5 b hb)), ?_, ?_⟩⟩
  · rw [← ints_snoc]
    exact G5.fr ok5 F56 (fun b hb hm => absurd (w4 b hm) (Nat.not_lt_of_le (Nat.le_trans hla (hn5 b hb))))
  · rw [List.map_append]
    rw [ints_snoc, hv] at G6
    exact G6
  · intro b hb hm
    exact absurd (h5lt b hm) (Nat.not_lt_of_le (Nat.le_trans hlb (hn6 b hb)))
  · rw [List.length_append]; show ((views.length + 1 : Nat) : Int) ≤ c'; omega

theorem fv_wr {t c : Int} (h0 : 1 ≤ t) (h1 : t ≤ c) (hc : c ≤ 1000) : wr .u64 (t + 1) = t + 1 := wru64 (by omega) (by omega)
theorem fv_c {i : Nat} (h : i < 30) : wr .i64 ((i : Int) + 1) = ((i + 1 : Nat) : Int) ∧ (1 + (i : Int)) ≤ 1000 ∧ (1 + (i : Int)) + 1 ≤ 1 + ((i + 1 : Nat) : Int) ∧ (1 + (i : Int)) ≤ 1 + ((i + 1 : Nat) : Int) := ⟨by rw [wr64 (by omega) (by omega)]; rfl, by omega, by omega, by omega⟩
/-- The clock may be turned. -/
theorem fv_n {h : H} {x0 : V} {vals : List Int} (hx : RowN .u8 h.get x0 vals) (ok : h.ok) (hb : ∀ y ∈ vals, 0 ≤ y ∧ y < 256) (hlen : vals.length ≤ 30) {x4 x5 : V} {w : Nat} {A : Adr}
    {i : Nat} {last : Int} {f : Wd → Int} {n : Int} {B : BookT} {g : H} {l : List (Int × Int)} {views : List Int} (Z : FvAt h g x4 x5 w A f n B l views (5 + (i + 1)) (1 + i)) (hi : i < vals.length) (hlast : headL l = last) :
    Ev (S.withylaw10_FieldViews_c4_n W x0 (.ptr w 0) x4 x5 last (i : Nat) g) fun r => ∃ x4' x5' f' n' B' views', r.1 = .normal ∧ r.2.1 = S.withylaw10_FieldViews_c1_E x0 (.ptr w 0) x4' x5' (.int .i64 last) (.int .i64 (i + 1 : Nat)) ∧ FvAt h r.2.2 x4' x5' w A f' n' B' l views' (5 + (i + 1)) (1 + (i + 1 : Nat)) := by
  have hv10 : cfg10.v = .agg [.int .i64 40, .int .i64 3, .int .i64 1, .int .i64 1, .int .i64 9, .int .i64 0] := rfl
  have F0 := Z.fr
  have Y := Z.world
  have ok0 := F0.ok
  obtain ⟨hi30, hd, h540, h5n⟩ := fa_lt hi hlen
  obtain ⟨n3, hn3⟩ : ∃ n3, vals[i]? = some n3 := ⟨_, List.getElem?_eq_getElem hi⟩
  obtain ⟨xb, hix, hld⟩ := (hx.fr ok F0 (by simp)).at hn3
  have hY := Y.own
  obtain ⟨wi, hc0, hc1, hc2⟩ := fv_c hi30
  have fvt := Z.fv.turn
  have hwr := fv_wr Z.fv.t0 Z.fv.t1 hc0
  have hsee : last = seesL l (f .clock) := by rw [seesL_all Z.fv.st]; exact hlast.symm
  by_cases hp : Int.tmod n3 3 = 1
  · simp only [S.withylaw10_FieldViews_c4_n, Option.bind_some, asI_int, Bool.not_true, decide_true, hix, hld, hp, wi]
    exact Ev.some ⟨x4, x5, f, n, B, views, rfl, rfl, { Z with fv := Z.fv.mono (Nat.le_refl _) hc2, few := Int.le_trans Z.few hc2 }⟩
  have hNT := newTurn_spec cfg10_R A.bk ok0
  rw [hv10] at hNT
  simp only [S.withylaw10_FieldViews_c4_n, nilc_ptr, ptrAt_ptr, Option.bind_some, ld1_get', ldN_get', ldB_cells, ldNB_cells, List.getElem?_cons_zero, List.getElem?_cons_succ, Nat.zero_add, Nat.add_zero, Nat.reduceAdd, Nat.reduceLeDiff, V.one, asI_int, List.length_cons, List.length_nil, Bool.not_false, decide_true, decide_false, List.take_succ_cons, List.take_zero, List.drop_zero, W_call, hix, hld, hp, hY]
  refine Ev.bind hNT ?_
  rintro ⟨_, g1⟩ ⟨b, rfl, F1, hb1, T1⟩
  dsimp only at F1 T1 ⊢
  have hAl := Y.base.lt ok0
  have hwl := ok0.lt Y.own
  have hbA : b ∉ A.l := fun hm => absurd (hAl b hm) (Nat.not_lt_of_le hb1)
  have hbw : w ≠ b := fun q => absurd hwl (Nat.not_lt_of_le (q ▸ hb1))
  have Y1 := Y.fr ok0 F1 (by simp) (by simp)
  have hY1 := Y1.own
  have hwL : w ∉ b :: A.l := by simp only [List.mem_cons, not_or]; exact ⟨hbw, Y.out⟩
  have hc7 : Ev (S.withylaw10_FieldViews_c7_S W x0 (.ptr w 0) x4 x5 last (i : Nat) (.ptr b 0) g1) fun r => r.1 = .normal ∧ r.2.1 = S.withylaw10_FieldViews_c7_O x0 .dead (.ptr w 0) x4 x5 (.int .i64 last) (.int .i64 (i : Nat)) (.ptr b 0) ∧ Fr (b :: A.l) g1 r.2.2 ∧ (∃ cs, r.2.2.get b = some (.cells (.int .u64 (f .clock) :: cs) .rw)) ∧ ∃ n' B', World10 r.2.2 w A (wset f .clock (f .clock + 1)) n' B' := by
    have e1 : Turn.step ⟨0, 0, 0⟩ f B = (⟨f .clock, 0, 1⟩, f, B) := by simp only [Turn.step, if_true]
    have e2 : Turn.step ⟨f .clock, 0, 1⟩ f B = (⟨f .clock, B.now, 2⟩, wset f .clock (f .clock + 1), { B with turned := mset B.turned (f .clock) B.now }) := by
      simp only [Turn.step, Int.reduceEq, if_false, if_true, hwr]
    have s1 := T1.step F1.ok Y1.base hbA
    rw [e1] at s1
    simp only [S.withylaw10_FieldViews_c7_S, nilc_ptr, eqPtr_ptr, ptrAt_ptr, Option.bind_some, ld1_get', ldB_cells, List.getElem?_cons_zero, List.getElem?_cons_succ, Nat.zero_add, V.one, eqV, W_call, hY1]
    refine Ev.bind s1 ?_
    rintro ⟨_, g2⟩ ⟨rfl, F2, T2, E2⟩
    dsimp only at F2 T2 E2 ⊢
    have Y2 := Y1.to F1.ok F2 hwL E2
    have hY2 := Y2.own
    have s2 := T2.step F2.ok E2 hbA
    rw [e2] at s2
    simp only [Option.bind_some, ldB_cells, List.getElem?_cons_zero, List.getElem?_cons_succ, Int.reduceEq, V.one, decide_false, hY2]
    refine Ev.bind s2 ?_
    rintro ⟨_, g3⟩ ⟨rfl, F3, T3, E3⟩
    dsimp only at F3 T3 E3 ⊢
    have Y3 := Y2.to F2.ok F3 hwL E3
    simp only [Option.bind_some, asB_bool, Bool.not_true, decide_true]
    exact Ev.some ⟨rfl, rfl, F2.trans' F3, ⟨_, T3.own⟩, _, _, Y3⟩
  rw [S.withylaw10_FieldViews_c7_eq]
  refine Ev.bind hc7 ?_
  rintro ⟨_, _, g3⟩ ⟨rfl, rfl, F3, ⟨cs, hown⟩, n3', B3, Y3⟩
  dsimp only at F3 hown Y3 ⊢
  rw [S.withylaw10_FieldViews_c7_n_eq]
  have F13 : Fr (b :: A.l) g g3 := (F1.mono (by simp)).trans' F3
  have Z3 := Z.to (c' := 1 + (i : Int) + 1) F13 (by
    intro c hc
    rcases List.mem_cons.mp hc with rfl | hc
    · exact .inr (.inr hb1)
    · exact .inl hc) Y3 fvt.init rfl (Int.le_add_one (Int.le_refl _))
  obtain ⟨x5', g5, x4', g6, e5, e6, Z6⟩ := Z3.push (c' := 1 + (i + 1 : Nat)) (fvt.mono (Nat.le_refl _) hc1) hsee Z.few hc1 hc0
  simp only [S.withylaw10_FieldViews_c7_n, nilc_ptr, ptrAt_ptr, Option.bind_some, ld1_get', ldB_cells, List.getElem?_cons_zero, Nat.zero_add, Nat.add_zero, Nat.reduceLeDiff, V.one, V.cells, List.length_cons, List.length_nil, Nat.beq_refl, Bool.and_true, decide_true, splice, List.take_zero, List.drop_succ_cons, List.drop_zero, List.cons_append, List.nil_append, fill, repl, opd, boxc, hown, e5, e6, wi]
  exact Ev.some ⟨x4', x5', _, _, _, _, rfl, rfl, Z6⟩

theorem see_over {s : See} (h : s.next = 4) (k : Cfg) (f : Wd → Int) (B : BookT) : See.step s k f B = (s, f, B) := by
  obtain ⟨val, n, view, now, next⟩ := s
  simp only at h
  subst h
  cases now with
  | none => simp only [See.step, Int.reduceEq, if_false]
  | some q => simp only [See.step, Int.reduceEq, if_false]
theorem fv_dec {m : Nat} (h : m < 10000) : decide ((0 : Int) ≤ (m : Int)) = true ∧ wr .i64 ((m : Int) - 1) = (m : Int) - 1 := ⟨decide_eq_true (by omega), wr64 (by omega) (by omega)⟩
/-- One view is seen. -/
theorem fv_look {h g : H} {x4 x5 : V} {w : Nat} {A : Adr} {f : Wd → Int} {n : Int} {B : BookT} {l : List (Int × Int)} {views : List Int} {r : Nat} {c : Int} (Z : FvAt h g x4 x5 w A f n B l views r c) (h5 : 5 ≤ r) (hr : r ≤ 40) {m : Nat} (hm : m < views.length) (hm1 : m < 10000) :
    Ev (S.withylaw10_FieldViews_c9_S W (.ptr w 0) x4 x5 (m : Nat) g) fun r' => ∃ n', r'.1 = .normal ∧ r'.2.1 = S.withylaw10_FieldViews_c9_E (.ptr w 0) x4 x5 (.int .i64 ((m : Int) - 1)) ∧ FvAt h r'.2.2 x4 x5 w A f n' B l views r c := by
  have hv10 : cfg10.v = .agg [.int .i64 40, .int .i64 3, .int .i64 1, .int .i64 1, .int .i64 9, .int .i64 0] := rfl
  have ok0 := Z.fr.ok
  have Y := Z.world
  have hY := Y.own
  obtain ⟨hd, wm⟩ := fv_dec hm1
  obtain ⟨y, hy⟩ : ∃ y, views[m]? = some y := ⟨_, List.getElem?_eq_getElem hm⟩
  have hy5 : (ints .u64 views)[m]? = some (.int .u64 y) := by unfold ints; rw [List.getElem?_map, hy]; rfl
  have hy4 : (ints .i64 (views.map (seesL l)))[m]? = some (.int .i64 (seesL l y)) := by unfold ints; rw [List.getElem?_map, List.getElem?_map, hy]; rfl
  obtain ⟨b5, hix5, hld5⟩ := Z.vs.at1 hy5 rfl
  have hNS := newSee_spec cfg10_R (q := 0) (i := 1) (by decide) (by decide) y A.bk ok0
  rw [hv10, show ((0 : Nat) : Int) = 0 from rfl, show ((1 : Nat) : Int) = 1 from rfl] at hNS
  simp only [S.withylaw10_FieldViews_c9_S, nilc_ptr, ptrAt_ptr, Option.bind_some, ld1_get', ldN_get', ldB_cells, ldNB_cells, List.getElem?_cons_zero, List.getElem?_cons_succ, Nat.zero_add, Nat.add_zero, Nat.reduceAdd, Nat.reduceLeDiff, V.one, List.length_cons, List.length_nil, decide_true, List.take_succ_cons, List.take_zero, List.drop_zero, W_call, hd, hY, hix5, hld5]
  refine Ev.bind hNS ?_
  rintro ⟨_, g1⟩ ⟨b, L, rfl, F1, hL, Z1⟩
  dsimp only at F1 Z1 ⊢
  have hAl := Y.base.lt ok0
  have hwl := ok0.lt Y.own
  have Y1 := Y.fr ok0 F1 (by simp) (by simp)
  have hLA : ∀ c ∈ L, c ∉ A.l := fun c hc hA => absurd (hAl c hA) (Nat.not_lt_of_le (hL c hc))
  have hwL : w ∉ L := fun hc => absurd hwl (Nat.not_lt_of_le (hL w hc))
  have hll := Z.fv.chain.len h5
  have G := see_alone (k := cfg10) (by decide) (f := f) (B := B) (Q := fun x => x.1.next = 4 ∧ sl x.1.val = seesL l y ∧ x.2 = (f, B)) (view := y) (Int.ofNat_le.mpr hr) Z.fv.chain (fun s' a b => ⟨a, b, rfl⟩) (98 - 2 * l.length)
  have h100 : 98 - 2 * l.length + 2 * l.length + 2 = 100 := by clear wm; omega
  rw [h100] at G
  refine fv_see F1.ok Y1 Z1 hLA hwL G _ _ ?_
  rintro s f2 n2 B2 L2 j g2 hj ⟨hn4, hval, hfB⟩ F2 Z2 hl2 Y2
  cases hfB
  dsimp only at hn4 hval ⊢
  rw [S.withylaw10_FieldViews_c12_e6_eq]
  have hsub : ∀ b ∈ L ++ A.l, b ∈ A.l ∨ b = w ∨ g.next ≤ b := fun b hb => by
    rcases List.mem_append.mp hb with hb | hb
    · exact .inr (.inr (hL b hb))
    · exact .inl hb
  have F02 : Fr (L ++ A.l) g g2 := (F1.mono (by simp)).trans' F2
  have W2 := Z.to F02 hsub Y2 Z.fv rfl (Int.le_refl _)
  have ok2 := F2.ok
  have hY2 := Y2.own
  have hLA2 : ∀ c ∈ L2, c ∉ A.l := fun c hc hA => (hl2 c hc).elim (fun h => hLA c h hA) (fun h => absurd (Nat.lt_of_lt_of_le (hAl c hA) F1.le) (Nat.not_lt_of_le h))
  have hwL2 : w ∉ L2 := fun hc => (hl2 w hc).elim hwL (fun h => absurd (Nat.lt_of_lt_of_le hwl F1.le) (Nat.not_lt_of_le h))
  have hst := Z2.step ok2 cfg10_R Y2.base hLA2
  rw [see_over hn4] at hst
  simp only [S.withylaw10_FieldViews_c12_e6, nilc_ptr, ptrAt_ptr, Option.bind_some, ld1_get', ldB_cells, List.getElem?_cons_zero, List.getElem?_cons_succ, Nat.zero_add, Nat.add_zero, V.one, W_call, hY2]
  refine Ev.bind hst ?_
  rintro ⟨_, g3⟩ ⟨rfl, L3, F3, Z3, hL3, E3⟩
  dsimp only at F3 Z3 E3 ⊢
  have Y3 := Y2.to ok2 F3 (by simp only [List.mem_append, not_or]; exact ⟨hwL2, Y.out⟩) E3
  have F03 : Fr (L ++ A.l) g g3 := F02.trans F3 (by
    intro c hc
    rcases List.mem_append.mp hc with hc | hc
    · exact (hl2 c hc).imp (fun h => by simp [h]) (fun h => Nat.le_trans F1.le h)
    · exact .inl (by simp [hc]))
  have W3 := Z.to F03 hsub Y3 Z.fv rfl (Int.le_refl _)
  obtain ⟨⟨nb, r0, L0, w0, hown, _⟩, _⟩ := Z3
  obtain ⟨b4, hix4, hld4⟩ := W3.ws.at1 hy4 rfl
  simp only [Option.bind_some, ldB_cells, List.getElem?_cons_zero, V.one, asI_int, asB_bool, Bool.not_true, decide_true, hn4, hown, hix4, hld4, hval, wm]
  exact Ev.some ⟨_, rfl, rfl, W3⟩

def shFieldViews : List (Bool × List CSh) := [(false, [.sl 1 [.int .u8]])]
theorem lawFieldViews (h : H) (us : List V) (ok : h.ok) (ha : ArgsOk h.get shFieldViews us) : Ev (C 22 us h) fun r => r.1 = .bool true := by
  obtain ⟨_, _, rfl, ⟨_, _, hx, hxc, rfl⟩, rfl⟩ := ha
  cases hx
  rename_i x0
  obtain ⟨vals, hx, hw, _, _⟩ := rowN_of hxc
  have hlt := hx.lt ok
  refine call_ev (af := F.withylaw10_FieldViews) (by kernel_rfl) rfl ?_
  rw [S.withylaw10_FieldViews_eq]
  by_cases h30 : 30 < vals.length
  · have hd : decide ((30 : Int) < (vals.length : Int)) = true := decide_eq_true (by omega)
    simp only [S.withylaw10_FieldViews, Option.bind_some, W_call, hx.len, hd, awake10]
    exact Ev.some rfl
  have hd : decide ((30 : Int) < (vals.length : Int)) = false := decide_eq_false (by omega)
  have hlen : vals.length ≤ 30 := Nat.le_of_not_lt h30
  simp only [S.withylaw10_FieldViews, Option.bind_some, Int.reduceNeg, asB_bool, Bool.not_true, W_call, hx.len, hd, awake10]
  refine Ev.bind (begin10_spec ok) ?_
  rintro ⟨_, g1⟩ ⟨w, A, rfl, F1, hwn, hAn, Y1⟩
  dsimp only at F1 Y1 ⊢
  have Z1 : FvAt h g1 .nilsl .nilsl w A (beg10 cfg10.S) 0 .new [] [] (5 + 0) (1 + (0 : Nat)) := ⟨F1, hwn, hAn, Y1, FV.begin, .nil _ _, .nil _ _, by simp [V.blk], by simp [V.blk], by simp [V.blk], by simp⟩
  refine loop_ev (α := Nat × V × V × (Wd → Int) × Int × BookT × List (Int × Int) × List Int) (fun y => S.withylaw10_FieldViews_c1_E x0 (.ptr w 0) y.2.1 y.2.2.1 (.int .i64 (headL y.2.2.2.2.2.2.1)) (.int .i64 (y.1 : Nat)))
    (fun y g => y.1 ≤ vals.length ∧ FvAt h g y.2.1 y.2.2.1 w A y.2.2.2.1 y.2.2.2.2.1 y.2.2.2.2.2.1 y.2.2.2.2.2.2.1 y.2.2.2.2.2.2.2 (5 + y.1) (1 + (y.1 : Nat)))
    (fun y _ => vals.length - y.1)
    (fun r => ∃ x4 x5 f n B l views, r.1 = .exit 0 ∧ r.2.1 = S.withylaw10_FieldViews_c1_O .dead (.ptr w 0) x4 x5 ∧ FvAt h r.2.2 x4 x5 w A f n B l views (5 + vals.length) (1 + (vals.length : Nat)))
    (0, .nilsl, .nilsl, beg10 cfg10.S, 0, .new, [], []) rfl ⟨Nat.zero_le _, Z1⟩ ?_ ?_
  rotate_left
  · rintro ⟨x, env, g⟩ ⟨x4, x5, f, n, B, l, views, rfl, rfl, Z⟩
    dsimp only at Z ⊢
    rw [S.withylaw10_FieldViews_c1_e0_eq]
    have hl5 := Z.vs.len1
    rw [ints_len] at hl5
    have few := Z.few
    have hv1 : views.length < 10000 := by omega
    have h540 : 5 + vals.length ≤ 40 := by omega
    have w1 : wr .i64 ((views.length : Int) - 1) = (views.length : Int) - 1 := wr64 (by omega) (by omega)
    simp only [S.withylaw10_FieldViews_c1_e0, Option.bind_some, hl5, w1]
    refine loop_ev (α := Nat × Int) (fun y => S.withylaw10_FieldViews_c9_E (.ptr w 0) x4 x5 (.int .i64 ((y.1 : Int) - 1)))
      (fun y g => y.1 ≤ views.length ∧ FvAt h g x4 x5 w A f y.2 B l views (5 + vals.length) (1 + (vals.length : Nat)))
      (fun y _ => y.1)
      (fun r => r.1 = .exit 4 ∧ r.2.1 = S.withylaw10_FieldViews_c9_O .dead)
      (views.length, n) rfl ⟨Nat.le_refl _, Z⟩ ?_ ?_
    rotate_left
    · rintro ⟨x, env, g'⟩ ⟨rfl, rfl⟩
      rw [S.withylaw10_FieldViews_c9_e4_eq]
      simp only [S.withylaw10_FieldViews_c9_e4, Option.bind_some, W_call, awake10]
      exact Ev.some rfl
    rintro ⟨j, n'⟩ g' ⟨hj, Z'⟩
    dsimp only at hj Z' ⊢
    rw [S.withylaw10_FieldViews_c9_eq]
    cases j with
    | zero =>
      have hd1 : decide ((0 : Int) ≤ ((0 : Nat) : Int) - 1) = false := rfl
      simp only [S.withylaw10_FieldViews_c9_S, hd1]
      exact Ev.some (.inr ⟨by simp, rfl, rfl⟩)
    | succ m =>
      have hm : ((m + 1 : Nat) : Int) - 1 = (m : Int) := by clear w1; omega
      rw [hm]
      refine (fv_look Z' (Nat.le_add_right 5 _) h540 hj (Nat.lt_trans hj hv1)).mono ?_
      rintro ⟨x, env, g2⟩ ⟨n2, rfl, rfl, Z2⟩
      exact .inl ⟨(m, n2), rfl, rfl, ⟨Nat.le_of_lt hj, Z2⟩, Nat.lt_succ_self m⟩
  rintro ⟨i, x4, x5, f, n, B, l, views⟩ g ⟨hi, Z⟩
  dsimp only at hi Z ⊢
  rw [S.withylaw10_FieldViews_c1_eq]
  have hl := (hx.fr ok Z.fr (by simp) : RowN .u8 g.get x0 vals).len
  by_cases hil : i < vals.length
  · have hd1 : decide ((i : Int) < (vals.length : Int)) = true := decide_eq_true (by omega)
    have hw8 := fun y hy => wf_u8 (hw y hy)
    simp only [S.withylaw10_FieldViews_c1_S, hl, Option.bind_some, hd1]
    rw [S.withylaw10_FieldViews_c4_eq]
    refine Ev.bind (fv_c4 hx ok hw8 hlen Z hil rfl) ?_
    rintro ⟨_, _, g2⟩ ⟨f2, n2, B2, l2, rfl, rfl, Z2⟩
    dsimp only at Z2 ⊢
    rw [S.withylaw10_FieldViews_c4_n_eq]
    refine (fv_n hx ok hw8 hlen Z2 hil rfl).mono ?_
    rintro ⟨_, _, g3⟩ ⟨x4', x5', f3, n3, B3, views3, rfl, rfl, Z3⟩
    exact .inl ⟨(i + 1, x4', x5', f3, n3, B3, l2, views3), rfl, rfl, ⟨hil, Z3⟩, Nat.sub_lt_sub_left hil (Nat.lt_succ_self i)⟩
  · have hd1 : decide ((i : Int) < (vals.length : Int)) = false := decide_eq_false (by omega)
    have he : i = vals.length := Nat.le_antisymm hi (Nat.le_of_not_lt hil)
    subst he
    simp only [S.withylaw10_FieldViews_c1_S, hl, Option.bind_some, hd1]
    exact Ev.some (.inr ⟨by simp, x4, x5, f, n, B, l, views, rfl, rfl, Z⟩)
end Wm
end

