/- A run within bounds that is told what some calls come to. -/
import Derived.Test.YtbnlhmaedapjlaaWmFast
import Derived.Test.YtbnlhmaedapjlaaWmEv
import Derived.Test.YtbnlhmaedapjlaaWmOwnIterNoneA
set_option linter.all false
namespace Wm

section
variable (orc : Nat → List V → Option V) (prog : Nat → Option AFunc) (meth : Nat → Nat → Option Nat) (rounds : Nat)
noncomputable def runO : Nat → Nat → List V → H → Option (V × H)
  | 0, _, _, _ => none
  | n + 1, f, args, h => match orc f args with
    | some v => some (v, h)
    | none => match prog f with
      | some af => callFF { call := runO n, loop := fun body env h => loopN body rounds env h, scope := fun body l env h => scopeN body rounds l env h, meth } rounds af args h
      | none => none

theorem runO_le (hO : ∀ f args v, orc f args = some v → ∀ h, callW prog meth f args h = some (v, h)) : ∀ (n f : Nat) (args : List V) (h : H), LeO (runO orc prog meth rounds n f args h) (callW prog meth f args h)
  | 0, _, _, _ => fun q hq => by simp [runO] at hq
  | n + 1, f, args, h => fun q hq => by
    simp only [runO] at hq
    cases ho : orc f args with
    | some v => rw [ho] at hq; cases hq; exact hO f args v ho h
    | none =>
      rw [ho] at hq
      cases hf : prog f with
      | none => rw [hf] at hq; cases hq
      | some af =>
        rw [hf] at hq
        simp only at hq
        rw [callFF_eq _ _ rfl rfl] at hq
        exact callW_eq hf (callF_le (M := { call := runO orc prog meth rounds n, loop := fun body env h => loopN body rounds env h, scope := fun body l env h => scopeN body rounds l env h, meth }) (M' := envW meth (callW prog meth)) ⟨fun f args h => runO_le hO n f args h, fun b b' e h hb r hr => loopW_of (loopN_le hb (Nat.le_refl _) e h r hr), fun b b' l e h hb r hr => scopeW_of (scopeN_le hb (Nat.le_refl _) l e h r hr), rfl⟩ af args h q hq)
end

def beqNats : List Nat → List Nat → Bool
  | [], [] => true
  | a :: l, b :: m => Nat.beq a b && beqNats l m
  | _, _ => false
theorem beqNats_eq : ∀ {l m : List Nat}, beqNats l m = true → l = m
  | [], [], _ => rfl
  | a :: l, b :: m, h => by
    simp only [beqNats, Bool.and_eq_true] at h
    rw [Nat.eq_of_beq_eq_true h.1, beqNats_eq h.2]
  | [], _ :: _, h => by cases h
  | _ :: _, [], h => by cases h

def bytesN (b : ByteArray) : List Nat := b.data.toList.map UInt8.toNat
theorem bytesN_eq {a b : ByteArray} (h : bytesN a = bytesN b) : a = b := by
  unfold bytesN at h
  have := List.map_inj_right (f := UInt8.toNat) (fun x y e => UInt8.toNat_inj.mp e) |>.mp h
  exact ByteArray.ext (Array.ext' this)

def Wd.okB (k : Cfg) : Wd → Bool
  | .clock | .epoch | .grays | .top => true
  | .pin q | .view q | .start q => Nat.blt q k.C
  | .entry q i => Nat.blt q k.C && Nat.blt i k.H
  | .header s | .link s => Nat.blt s k.S
  | .body s i => Nat.blt s k.S && Nat.blt i k.room
theorem Wd.okB_ok {k : Cfg} {l : Wd} (h : l.okB k = true) : l.ok k := by
  cases l <;> simp only [Wd.okB, Wd.ok, Bool.and_eq_true, Nat.blt_eq] at h ⊢ <;> exact h

def natOf : Int → Option Nat
  | .ofNat n => some n
  | .negSucc _ => none

def cands (q i : Nat) : List Wd := [.header q, .body q i, .link q, .pin q, .entry q i, .view q, .start q, .clock, .epoch, .grays, .top]
def isWd (k : Cfg) (nm : ByteArray) (q i : Nat) (l : Wd) : Bool := beqNats (bytesN nm) (bytesN l.name) && (Nat.beq l.who q && (Nat.beq l.i i && l.okB k))

def orcAt (k : Cfg) (f : Nat) (args : List V) : Option V :=
  match Nat.beq f 108 with
  | false => none
  | true => match args with
    | [.agg [.int .i64 s, .int .i64 a, .int .i64 c, .int .i64 hd, .int .i64 g, .int .i64 st], .agg [.str nm, .int .i64 q, .int .i64 i]] =>
      match decide (s = k.s) && (decide (a = k.a) && (decide (c = k.c) && (decide (hd = k.hd) && (decide (g = k.g) && decide (st = k.st))))) with
      | false => none
      | true => (natOf q).bind fun q => (natOf i).bind fun i => ((cands q i).find? (isWd k nm q i)).map fun l => .int .i64 (Int.ofNat (l.pos k))
    | _ => none

theorem natOf_some {x : Int} {n : Nat} (h : natOf x = some n) : x = n := by
  cases x with
  | ofNat m => cases h; rfl
  | negSucc m => cases h

theorem orcAt_ok {k : Cfg} (hr : k.R = true) {f : Nat} {args : List V} {v : V} (h : orcAt k f args = some v) (hp : H) : C f args hp = some (v, hp) := by
  unfold orcAt at h
  split at h
  · cases h
  · rename_i hf
    have hf := Nat.eq_of_beq_eq_true hf
    subst hf
    split at h
    · rename_i s a c hd g st nm q i
      split at h
      · cases h
      · rename_i hc
        simp only [Bool.and_eq_true, decide_eq_true_eq] at hc
        obtain ⟨rfl, rfl, rfl, rfl, rfl, rfl⟩ := hc
        rw [Option.bind_eq_some_iff] at h
        obtain ⟨q', hq, h⟩ := h
        rw [Option.bind_eq_some_iff] at h
        obtain ⟨i', hi, h⟩ := h
        rw [Option.map_eq_some_iff] at h
        obtain ⟨l, hl, rfl⟩ := h
        have hw := List.find?_some hl
        unfold isWd at hw
        simp only [Bool.and_eq_true] at hw
        obtain ⟨h1, h2, h3, h4⟩ := hw
        have h1 := bytesN_eq (beqNats_eq h1)
        have h2 := Nat.eq_of_beq_eq_true h2
        have h3 := Nat.eq_of_beq_eq_true h3
        have hq := natOf_some hq
        have hi := natOf_some hi
        subst h1 h2 h3 hq hi
        exact at_wd hr (Wd.okB_ok h4) hp
    · cases h

theorem C_orc {k : Cfg} (hr : k.R = true) {rounds n f : Nat} {args : List V} {h : H} {q : V × H} (hq : runO (orcAt k) prog meth rounds n f args h = some q) : C f args h = some q :=
  runO_le _ prog meth rounds (fun _ _ _ ho h => orcAt_ok hr ho h) n f args h q hq

theorem C_closed_any {f : Nat} {af : AFunc} (hf : prog f = some af) (hc : af.closed = true) {v : V} (e : (C f [] .empty).map (·.1) = some v) (h : H) : C f [] h = some (v, h) := by
  rw [Option.map_eq_some_iff] at e
  obtain ⟨⟨w, h0⟩, e, hw⟩ := e
  dsimp only at hw
  subst hw
  obtain ⟨n, hn⟩ := of_lim e
  cases n with
  | zero => simp [callN] at hn
  | succ n =>
    refine callW_of (n := n + 1) ?_
    simp only [callN, hf] at hn ⊢
    unfold callF at hn ⊢
    simp only [hc] at hn ⊢
    split at hn
    · rename_i hfl
      simp only [Option.bind_eq_some_iff] at hn ⊢
      obtain ⟨p, hp, hn⟩ := hn
      refine ⟨p, hp, ?_⟩
      split at hn
      · cases hn; rfl
      · cases hn
    · cases hn

theorem orc_closed {k : Cfg} (hr : k.R = true) {rounds n f : Nat} {af : AFunc} (hf : prog f = some af) (hc : af.closed = true) {v : V} (hq : (runO (orcAt k) prog meth rounds n f [] .empty).map (·.1) = some v) (h : H) : C f [] h = some (v, h) := by
  refine C_closed_any hf hc ?_ h
  rw [Option.map_eq_some_iff] at hq ⊢
  obtain ⟨q, hq, e⟩ := hq
  exact ⟨q, C_orc hr hq, e⟩
end Wm
