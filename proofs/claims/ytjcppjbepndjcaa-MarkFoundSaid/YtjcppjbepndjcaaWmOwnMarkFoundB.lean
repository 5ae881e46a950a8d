/- What the functions come to, and the law: of my machine. -/
import Derived.Test.YtjcppjbepndjcaaWmOwnMarkFoundA
import Derived.Test.YtjcppjbepndjcaaWmTxtMarkFoundA
import Derived.Test.YtjcppjbepndjcaaWmEv
import Derived.Test.YtjcppjbepndjcaaWmProgMarkFound
import Derived.Test.YtjcppjbepndjcaaWmFast
import Derived.Test.YtjcppjbepndjcaaWmPOp0
set_option linter.all false
section
/- Which slots are found: the least set that is closed, and two ways to it. -/
namespace Wm

def nmO (k : Cfg) (w : Int) : Option Nat := if 1 ≤ w ∧ w ≤ k.S then some (w - 1).toNat else none
theorem nmO_lt {k : Cfg} {w : Int} {q : Nat} (h : nmO k w = some q) : q < k.S ∧ w = q + 1 := by
  unfold nmO at h
  split at h
  · rename_i hw; cases h; omega
  · cases h
def fieldO (k : Cfg) (f : Wd → Int) (q i : Nat) : Option Nat := nmO k (f (.body q i))
def fieldsL (k : Cfg) (f : Wd → Int) (q : Nat) : List Nat :=
  if (unp (f (.header q))).kind = 1 then List.range (min (unp (f (.header q))).arity.toNat k.room) else if (unp (f (.header q))).kind = 2 then [0, 2] else []
def namesL (k : Cfg) (f : Wd → Int) (q : Nat) : List Nat := (fieldsL k f q).filterMap (fieldO k f q)
def entryO (k : Cfg) (f : Wd → Int) (c i : Nat) : Option Nat := nmO k (f (.entry c i) % 4294967296)
def startO (k : Cfg) (f : Wd → Int) (c : Nat) : Option Nat := nmO k (f (.start c))
def clientL (k : Cfg) (f : Wd → Int) (c : Nat) : List Nat := (List.range k.H).filterMap (entryO k f c) ++ (startO k f c).toList
def rootsL (k : Cfg) (f : Wd → Int) (n : Nat) : List Nat := (List.range n).flatMap (clientL k f)
theorem rootsL_succ (k : Cfg) (f : Wd → Int) (n : Nat) : rootsL k f (n + 1) = rootsL k f n ++ clientL k f n := by
  unfold rootsL
  rw [List.range_succ, List.flatMap_append, List.flatMap_cons, List.flatMap_nil, List.append_nil]
theorem namesL_lt {k : Cfg} {f : Wd → Int} {q s : Nat} (h : s ∈ namesL k f q) : s < k.S := by
  unfold namesL at h
  obtain ⟨i, _, hi⟩ := List.mem_filterMap.mp h
  exact (nmO_lt hi).1
theorem clientL_lt {k : Cfg} {f : Wd → Int} {c s : Nat} (h : s ∈ clientL k f c) : s < k.S := by
  unfold clientL at h
  rcases List.mem_append.mp h with h | h
  · obtain ⟨i, _, hi⟩ := List.mem_filterMap.mp h
    exact (nmO_lt hi).1
  · rw [Option.mem_toList] at h
    exact (nmO_lt h).1
theorem rootsL_lt {k : Cfg} {f : Wd → Int} {n s : Nat} (h : s ∈ rootsL k f n) : s < k.S := by
  unfold rootsL at h
  obtain ⟨c, _, hc⟩ := List.mem_flatMap.mp h
  exact clientL_lt hc
theorem namesL_len {k : Cfg} (hr : k.R = true) {f : Wd → Int} {q : Nat} : (namesL k f q).length ≤ 8 := by
  have hb := (Cfg.bounds hr).2.1
  refine Nat.le_trans (List.length_filterMap_le _ _) ?_
  unfold fieldsL
  split
  · rw [List.length_range]; omega
  · split <;> simp
theorem clientL_len {k : Cfg} (hr : k.R = true) {f : Wd → Int} {c : Nat} : (clientL k f c).length ≤ 17 := by
  have hb := (Cfg.bounds hr).2.2.2.1
  unfold clientL
  rw [List.length_append]
  have h1 := List.length_filterMap_le (entryO k f c) (List.range k.H)
  rw [List.length_range] at h1
  have h2 : (startO k f c).toList.length ≤ 1 := by cases startO k f c <;> simp
  omega
theorem rootsL_len {k : Cfg} (hr : k.R = true) {f : Wd → Int} : ∀ n, (rootsL k f n).length ≤ 17 * n
  | 0 => Nat.le_refl _
  | n + 1 => by
    rw [rootsL_succ, List.length_append]
    have := rootsL_len hr (f := f) n
    have := clientL_len hr (f := f) (c := n)
    omega

section
variable (k : Cfg) (f : Wd → Int) (e : Int)
def mkd (q : Nat) : Bool := markedW (f (.header q)) e
def wht (q : Nat) : Bool := white (f (.header q)) e
def gry (q : Nat) : Bool := (unp (f (.header q))).gray
/-- Is it gone through? -/
def thr (X : Nat → Bool) (p : Nat) : Bool := gry f p || (X p && !mkd f e p)
structure FClosed (X : Nat → Bool) : Prop where
  m : ∀ q, q < k.S → mkd f e q = true → X q = true
  r : ∀ q ∈ rootsL k f k.C, wht f e q = true → X q = true
  n : ∀ p, p < k.S → thr f e X p = true → ∀ q ∈ namesL k f p, wht f e q = true → X q = true
structure FLeast (X : Nat → Bool) : Prop where
  c : FClosed k f e X
  l : ∀ Y, FClosed k f e Y → ∀ q, q < k.S → X q = true → Y q = true
end
theorem FLeast.same {k : Cfg} {f : Wd → Int} {e : Int} {X Y : Nat → Bool} (hX : FLeast k f e X) (hY : FLeast k f e Y) {q : Nat} (hq : q < k.S) : X q = Y q := by
  have h1 := hX.l Y hY.c q hq
  have h2 := hY.l X hX.c q hq
  cases hx : X q <;> cases hy : Y q <;> simp_all
theorem wht_not {f : Wd → Int} {e : Int} {q : Nat} (h : wht f e q = true) : mkd f e q = false := by
  have := (white_iff _ _).mp h
  unfold mkd markedW
  rw [decide_eq_false this.2, Bool.and_false]
theorem lives_wht {f : Wd → Int} {e : Int} {q : Nat} (h : lives (f (.header q)) = true) (hm : mkd f e q = false) : wht f e q = true := by
  unfold mkd markedW at hm
  rw [h, Bool.true_and] at hm
  exact (white_iff _ _).mpr ⟨h, of_decide_eq_false hm⟩
def bupd (X : Nat → Bool) (s : Nat) : Nat → Bool := fun q => if q = s then true else X q
theorem bupd_self (X : Nat → Bool) (s : Nat) : bupd X s s = true := if_pos rfl
theorem bupd_ne {X : Nat → Bool} {s q : Nat} (h : q ≠ s) : bupd X s q = X q := if_neg h
theorem bupd_of {X : Nat → Bool} {s q : Nat} (h : X q = true) : bupd X s q = true := by
  unfold bupd; split
  · rfl
  · exact h
/-- How many aren't found. -/
def nfN (X : Nat → Bool) (n : Nat) : Nat := ((List.range n).filter fun q => !X q).length
theorem nfN_succ (X : Nat → Bool) (n : Nat) : nfN X (n + 1) = nfN X n + if X n then 0 else 1 := by
  unfold nfN
  rw [cnt_succ]
  cases X n <;> rfl
theorem nfN_le (X : Nat → Bool) (n : Nat) : nfN X n ≤ n := Nat.le_trans (List.length_filter_le _ _) (by simp)
theorem nfN_bupd {X : Nat → Bool} {s : Nat} (hs : X s = false) : ∀ n, nfN (bupd X s) n + (if s < n then 1 else 0) = nfN X n
  | 0 => rfl
  | n + 1 => by
    have ih := nfN_bupd hs n
    rw [nfN_succ, nfN_succ]
    by_cases h : n = s
    · subst h
      rw [bupd_self, hs]
      simp at ih ⊢
      omega
    · rw [bupd_ne h]
      by_cases h2 : s < n
      · rw [if_pos h2] at ih
        rw [if_pos (show s < n + 1 by omega)]
        omega
      · rw [if_neg h2] at ih
        rw [if_neg (show ¬ s < n + 1 by omega)]
        omega

/-! ### The code's way: a queue -/
structure Fnd where
  X : Nat → Bool
  todo : List Nat
def Fnd.find (f : Wd → Int) (e : Int) (s : Fnd) (q : Nat) : Fnd := if s.X q then s else if wht f e q then ⟨bupd s.X q, s.todo ++ [q]⟩ else s
def Fnd.finds (f : Wd → Int) (e : Int) (s : Fnd) (l : List Nat) : Fnd := l.foldl (Fnd.find f e) s
theorem Fnd.finds_app (f : Wd → Int) (e : Int) (s : Fnd) (l m : List Nat) : s.finds f e (l ++ m) = (s.finds f e l).finds f e m := by simp [Fnd.finds]

structure Inv (k : Cfg) (f : Wd → Int) (e : Int) (s : Fnd) (P : List Nat) : Prop where
  a : ∀ q, q < k.S → mkd f e q = true → s.X q = true
  b : ∀ Y, FClosed k f e Y → ∀ q, q < k.S → s.X q = true → Y q = true
  c : ∀ t ∈ s.todo, t < k.S ∧ thr f e s.X t = true
  d : ∀ q ∈ rootsL k f k.C, wht f e q = true → s.X q = true ∨ q ∈ P
  n : ∀ p, p < k.S → thr f e s.X p = true → p ∈ s.todo ∨ ∀ q ∈ namesL k f p, wht f e q = true → s.X q = true ∨ q ∈ P
  p : ∀ q ∈ P, q < k.S ∧ ∀ Y, FClosed k f e Y → wht f e q = true → Y q = true
  m : s.todo.length + nfN s.X k.S ≤ 2 * k.S
theorem Inv.find {k : Cfg} {f : Wd → Int} {e : Int} {s : Fnd} {q : Nat} {P : List Nat} (I : Inv k f e s (q :: P)) : Inv k f e (s.find f e q) P := by
  obtain ⟨a, b, c, d, n, p, m⟩ := I
  unfold Fnd.find
  have hp : ∀ x ∈ P, x < k.S ∧ ∀ Y, FClosed k f e Y → wht f e x = true → Y x = true := fun x hx => p x (List.mem_cons_of_mem _ hx)
  cases hX : s.X q with
  | true =>
    simp only [if_true]
    refine ⟨a, b, c, fun x hx hw => ?_, fun y hy ht => (n y hy ht).imp id fun h x hx hw => ?_, hp, m⟩
    · rcases d x hx hw with h | h
      · exact .inl h
      · rcases List.mem_cons.mp h with rfl | h
        · exact .inl hX
        · exact .inr h
    · rcases h x hx hw with h | h
      · exact .inl h
      · rcases List.mem_cons.mp h with rfl | h
        · exact .inl hX
        · exact .inr h
  | false =>
    simp only [Bool.false_eq_true, if_false]
    cases hw : wht f e q with
    | false =>
      simp only [Bool.false_eq_true, if_false]
      refine ⟨a, b, c, fun x hx hwx => ?_, fun y hy ht => (n y hy ht).imp id fun h x hx hwx => ?_, hp, m⟩
      · rcases d x hx hwx with h | h
        · exact .inl h
        · rcases List.mem_cons.mp h with rfl | h
          · rw [hw] at hwx; cases hwx
          · exact .inr h
      · rcases h x hx hwx with h | h
        · exact .inl h
        · rcases List.mem_cons.mp h with rfl | h
          · rw [hw] at hwx; cases hwx
          · exact .inr h
    | true =>
      simp only [if_true]
      obtain ⟨hq, hY⟩ := p q (List.mem_cons_self ..)
      have hthr : ∀ t, thr f e s.X t = true → thr f e (bupd s.X q) t = true := fun t ht => by
        unfold thr at ht ⊢
        simp only [Bool.or_eq_true, Bool.and_eq_true] at ht ⊢
        exact ht.imp id fun h => ⟨bupd_of h.1, h.2⟩
      have hthr2 : ∀ t, t ≠ q → thr f e (bupd s.X q) t = true → thr f e s.X t = true := fun t hne ht => by
        unfold thr at ht ⊢
        rw [bupd_ne hne] at ht
        exact ht
      refine ⟨fun x hx hm => bupd_of (a x hx hm), fun Y hYc x hx hX' => ?_, fun t ht => ?_, fun x hx hwx => ?_, fun y hy ht => ?_, hp, ?_⟩
      · by_cases h : x = q
        · subst h; exact hY Y hYc hw
        · simp only [bupd_ne h] at hX'; exact b Y hYc x hx hX'
      · rcases List.mem_append.mp ht with ht | ht
        · exact ⟨(c t ht).1, hthr t (c t ht).2⟩
        · rw [List.mem_singleton] at ht
          subst ht
          refine ⟨hq, ?_⟩
          unfold thr
          simp only [bupd_self, wht_not hw, Bool.not_false, Bool.and_self, Bool.or_true]
      · rcases d x hx hwx with h | h
        · exact .inl (bupd_of h)
        · rcases List.mem_cons.mp h with rfl | h
          · exact .inl (bupd_self _ _)
          · exact .inr h
      · by_cases hyq : y = q
        · exact .inl (by simp [hyq])
        · refine (n y hy (hthr2 y hyq ht)).imp (fun h => by simp [h]) fun h x hx hwx => ?_
          rcases h x hx hwx with h | h
          · exact .inl (bupd_of h)
          · rcases List.mem_cons.mp h with rfl | h
            · exact .inl (bupd_self _ _)
            · exact .inr h
      · have := nfN_bupd hX k.S
        rw [if_pos hq] at this
        simp only [List.length_append, List.length_cons, List.length_nil]
        omega
theorem Inv.finds {k : Cfg} {f : Wd → Int} {e : Int} : ∀ {P : List Nat} {s : Fnd}, Inv k f e s P → Inv k f e (s.finds f e P) []
  | [], _, I => I
  | q :: P, s, I => Inv.finds (P := P) (s := s.find f e q) I.find
theorem Inv.pop {k : Cfg} {f : Wd → Int} {e : Int} {X : Nat → Bool} {t : Nat} {todo : List Nat} (I : Inv k f e ⟨X, t :: todo⟩ []) : Inv k f e ⟨X, todo⟩ (namesL k f t) := by
  obtain ⟨a, b, c, d, n, p, m⟩ := I
  obtain ⟨ht, hth⟩ := c t (by simp)
  refine ⟨a, b, fun x hx => c x (by simp [hx]), fun x hx hw => (d x hx hw).imp id (by simp), fun y hy hy2 => ?_, fun x hx => ⟨namesL_lt hx, fun Y hY hw => ?_⟩, by simp only [List.length_cons] at m ⊢; omega⟩
  · rcases n y hy hy2 with h | h
    · rcases List.mem_cons.mp h with rfl | h
      · exact .inr fun x hx _ => .inr hx
      · exact .inl h
    · exact .inr fun x hx hw => (h x hx hw).imp id (by simp)
  · refine hY.n t ht ?_ x hx hw
    unfold thr at hth ⊢
    simp only [Bool.or_eq_true, Bool.and_eq_true] at hth ⊢
    exact hth.imp id fun h => ⟨b Y hY t ht h.1, h.2⟩
theorem Inv.done {k : Cfg} {f : Wd → Int} {e : Int} {X : Nat → Bool} (I : Inv k f e ⟨X, []⟩ []) : FLeast k f e X := by
  obtain ⟨a, b, c, d, n, p, m⟩ := I
  refine ⟨⟨a, fun q hq hw => (d q hq hw).resolve_right (by simp), fun p hp ht q hq hw => ?_⟩, b⟩
  rcases n p hp ht with h | h
  · cases h
  · exact (h q hq hw).resolve_right (by simp)
/-- The beginning: what is marked is found, what is gray waits. -/
def fnd0 (k : Cfg) (f : Wd → Int) (e : Int) (j : Nat) : Fnd := ⟨fun q => decide (q < j) && mkd f e q, (List.range j).filter (gry f)⟩
theorem fnd0_inv (k : Cfg) (f : Wd → Int) (e : Int) : Inv k f e (fnd0 k f e k.S) (rootsL k f k.C) := by
  have hX : ∀ q, q < k.S → (fnd0 k f e k.S).X q = mkd f e q := fun q hq => by
    show (decide (q < k.S) && mkd f e q) = _
    rw [decide_eq_true hq, Bool.true_and]
  refine ⟨fun q hq hm => by rw [hX q hq]; exact hm, fun Y hY q hq h => hY.m q hq (by rw [← hX q hq]; exact h), fun t ht => ?_, fun q hq _ => .inr hq, fun p hp ht => .inl ?_, fun q hq => ⟨rootsL_lt hq, fun Y hY hw => hY.r q hq hw⟩, ?_⟩
  · have ht : t ∈ (List.range k.S).filter (gry f) := ht
    rw [List.mem_filter, List.mem_range] at ht
    exact ⟨ht.1, by unfold thr; rw [ht.2]; rfl⟩
  · show p ∈ (List.range k.S).filter (gry f)
    rw [List.mem_filter, List.mem_range]
    refine ⟨hp, ?_⟩
    unfold thr at ht
    rw [hX p hp] at ht
    cases hm : mkd f e p <;> rw [hm] at ht <;> simpa using ht
  · have h1 := nfN_le (fnd0 k f e k.S).X k.S
    have h2 : (fnd0 k f e k.S).todo.length ≤ k.S := Nat.le_trans (List.length_filter_le _ _) (by simp)
    omega
theorem fnd0_zero (k : Cfg) (f : Wd → Int) (e : Int) : (fnd0 k f e 0).todo = [] ∧ ∀ q, (fnd0 k f e 0).X q = false := ⟨rfl, fun q => by simp [fnd0]⟩
theorem fnd0_succ (k : Cfg) (f : Wd → Int) (e : Int) (j : Nat) : (fnd0 k f e (j + 1)).todo = (fnd0 k f e j).todo ++ (if gry f j then [j] else []) ∧ ∀ q, (fnd0 k f e (j + 1)).X q = if q = j then mkd f e j else (fnd0 k f e j).X q := by
  refine ⟨?_, fun q => ?_⟩
  · show (List.range (j + 1)).filter (gry f) = (List.range j).filter (gry f) ++ _
    rw [List.range_succ, List.filter_append]
    congr 1
    cases h : gry f j <;> simp [h]
  · show (decide (q < j + 1) && mkd f e q) = if q = j then mkd f e j else (decide (q < j) && mkd f e q)
    by_cases h : q = j
    · subst h; simp
    · rw [if_neg h]; congr 1; exact decide_eq_decide.mpr (by omega)

/-! ### The document's way: a list that grows -/
structure InvB (k : Cfg) (f : Wd → Int) (e : Int) (X T : Nat → Bool) (P : List Nat) : Prop where
  a : ∀ q, q < k.S → mkd f e q = true → X q = true
  b : ∀ Y, FClosed k f e Y → ∀ q, q < k.S → X q = true → Y q = true
  c : ∀ q, q < k.S → T q = thr f e X q
  d : ∀ q ∈ rootsL k f k.C, wht f e q = true → X q = true ∨ q ∈ P
  n : ∀ p, p < k.S → T p = true → ∀ q ∈ namesL k f p, wht f e q = true → X q = true ∨ q ∈ P
  p : ∀ q ∈ P, q < k.S ∧ ∀ Y, FClosed k f e Y → wht f e q = true → Y q = true
theorem InvB.skip {k : Cfg} {f : Wd → Int} {e : Int} {X T : Nat → Bool} {s : Nat} {P : List Nat} (I : InvB k f e X T (s :: P)) (h : X s = true ∨ wht f e s = false) : InvB k f e X T P := by
  obtain ⟨a, b, c, d, n, p⟩ := I
  have key : ∀ x, wht f e x = true → (X x = true ∨ x ∈ s :: P) → (X x = true ∨ x ∈ P) := fun x hw hx => by
    rcases hx with hx | hx
    · exact .inl hx
    · rcases List.mem_cons.mp hx with rfl | hx
      · rcases h with h | h
        · exact .inl h
        · rw [h] at hw; cases hw
      · exact .inr hx
  exact ⟨a, b, c, fun q hq hw => key q hw (d q hq hw), fun y hy ht q hq hw => key q hw (n y hy ht q hq hw), fun q hq => p q (List.mem_cons_of_mem _ hq)⟩
theorem InvB.take {k : Cfg} {f : Wd → Int} {e : Int} {X T : Nat → Bool} {s : Nat} {P : List Nat} (I : InvB k f e X T (s :: P)) (hX : X s = false) (hw : wht f e s = true) :
    InvB k f e (bupd X s) (if T s then T else bupd T s) (P ++ if T s then [] else namesL k f s) := by
  obtain ⟨a, b, c, d, n, p⟩ := I
  obtain ⟨hs, hY⟩ := p s (List.mem_cons_self ..)
  have b' : ∀ Y, FClosed k f e Y → ∀ q, q < k.S → bupd X s q = true → Y q = true := fun Y hYc x hx hX' => by
    by_cases h : x = s
    · subst h; exact hY Y hYc hw
    · rw [bupd_ne h] at hX'; exact b Y hYc x hx hX'
  have key : ∀ x, wht f e x = true → (X x = true ∨ x ∈ s :: P) → (bupd X s x = true ∨ x ∈ P) := fun x _ hx => by
    rcases hx with hx | hx
    · exact .inl (bupd_of hx)
    · rcases List.mem_cons.mp hx with rfl | hx
      · exact .inl (bupd_self _ _)
      · exact .inr hx
  have hm := wht_not hw
  have hthr : ∀ q, q ≠ s → thr f e (bupd X s) q = thr f e X q := fun q h => by unfold thr; rw [bupd_ne h]
  have hths : thr f e (bupd X s) s = true := by unfold thr; rw [bupd_self, hm]; simp
  refine ⟨fun q hq h => bupd_of (a q hq h), b', fun q hq => ?_, fun q hq hwq => (key q hwq (d q hq hwq)).imp id (fun h => List.mem_append_left _ h), fun y hy ht q hq hwq => ?_, fun q hq => ?_⟩
  · by_cases h : q = s
    · subst h
      rw [hths]
      cases hT : T q
      · simp [bupd_self]
      · simp [hT]
    · rw [hthr q h, ← c q hq]
      cases hT : T s
      · simp [bupd_ne h]
      · simp
  · by_cases h : y = s
    · subst h
      cases hT : T y with
      | true => simp only [if_true, List.append_nil]; exact key q hwq (n y hy hT q hq hwq)
      | false => simp only [Bool.false_eq_true, if_false]; exact .inr (List.mem_append_right _ hq)
    · have hTy : T y = true := by
        cases hT : T s
        · simpa [hT, bupd_ne h] using ht
        · simpa [hT] using ht
      exact (key q hwq (n y hy hTy q hq hwq)).imp id (fun h => List.mem_append_left _ h)
  · rcases List.mem_append.mp hq with hq | hq
    · exact p q (List.mem_cons_of_mem _ hq)
    · cases hT : T s with
      | true => rw [hT] at hq; simp at hq
      | false =>
        rw [hT] at hq
        simp only [Bool.false_eq_true, if_false] at hq
        refine ⟨namesL_lt hq, fun Y hYc hwq => hYc.n s hs ?_ q hq hwq⟩
        have := hY Y hYc hw
        unfold thr; rw [this, hm]; simp
theorem InvB.done {k : Cfg} {f : Wd → Int} {e : Int} {X T : Nat → Bool} (I : InvB k f e X T []) : FLeast k f e X := by
  obtain ⟨a, b, c, d, n, p⟩ := I
  exact ⟨⟨a, fun q hq hw => (d q hq hw).resolve_right (by simp), fun y hy ht q hq hw => (n y hy (by rw [c y hy]; exact ht) q hq hw).resolve_right (by simp)⟩, b⟩
def graysL (k : Cfg) (f : Wd → Int) (n : Nat) : List Nat := (List.range n).flatMap fun q => if gry f q then namesL k f q else []
theorem graysL_succ (k : Cfg) (f : Wd → Int) (n : Nat) : graysL k f (n + 1) = graysL k f n ++ if gry f n then namesL k f n else [] := by
  unfold graysL
  rw [List.range_succ, List.flatMap_append, List.flatMap_cons, List.flatMap_nil, List.append_nil]
theorem graysL_len {k : Cfg} (hr : k.R = true) {f : Wd → Int} : ∀ n, (graysL k f n).length ≤ 8 * n
  | 0 => Nat.le_refl _
  | n + 1 => by
    rw [graysL_succ, List.length_append]
    have := graysL_len hr (f := f) n
    have h8 := namesL_len hr (f := f) (q := n)
    split
    · omega
    · simp only [List.length_nil]; omega
theorem invB0 (k : Cfg) (f : Wd → Int) (e : Int) : InvB k f e (mkd f e) (gry f) (rootsL k f k.C ++ graysL k f k.S) := by
  refine ⟨fun _ _ h => h, fun Y hY q hq h => hY.m q hq h, fun q hq => ?_, fun q hq _ => .inr (List.mem_append_left _ hq), fun y hy ht q hq _ => .inr (List.mem_append_right _ ?_), fun q hq => ?_⟩
  · unfold thr
    cases mkd f e q <;> simp
  · unfold graysL
    exact List.mem_flatMap.mpr ⟨y, List.mem_range.mpr hy, by rw [if_pos ht]; exact hq⟩
  · rcases List.mem_append.mp hq with hq | hq
    · exact ⟨rootsL_lt hq, fun Y hY hw => hY.r q hq hw⟩
    · unfold graysL at hq
      obtain ⟨y, hy, hq⟩ := List.mem_flatMap.mp hq
      split at hq
      · rename_i hg
        exact ⟨namesL_lt hq, fun Y hY hw => hY.n y (List.mem_range.mp hy) (by unfold thr; rw [hg]; rfl) q hq hw⟩
      · cases hq
end Wm
end

section
/- Events: rows of them, rows of truths. -/
namespace Wm
attribute [local congr] bind_congr1
attribute [local irreducible] wr

/-! ### Rows of truths -/
def bools (l : List Bool) : List V := l.map .bool
theorem bools_len (l : List Bool) : (bools l).length = l.length := List.length_map _
theorem bools_at {l : List Bool} {i : Nat} {v : Bool} (h : l[i]? = some v) : (bools l)[i]? = some (.bool v) := by unfold bools; rw [List.getElem?_map, h]; rfl
theorem bools_set (l : List Bool) (i : Nat) (v : Bool) : (bools l).set i (.bool v) = bools (l.set i v) := by unfold bools; rw [List.map_set]
theorem repl_bool (n : Nat) : repl [V.bool false] n = bools (List.replicate n false) := by
  unfold bools
  induction n with
  | zero => rfl
  | succ n ih => simp only [repl, ih, List.replicate_succ, List.map_cons, List.cons_append, List.nil_append]
/-- A made slice. -/
theorem mkBools {h : H} {n : Nat} (hn : n ≤ 1000000) : h.mkSl 1 1 [(.bool false)] (n : Int) (n : Int) = some (.sl h.next 0 n (.ex n), h.new (.cells (bools (List.replicate n false)) .rw)) := by
  have h0 : (0 : Int) ≤ (n : Int) := Int.natCast_nonneg n
  have h1 : (n : Int) * ((1 : Nat) : Int) ≤ 140737488355328 := by omega
  have h2 : (n : Int) ≤ 9223372036854775807 := by omega
  rw [mkSl_ok (e := 1) (z := [.bool false]) h0 (Int.le_refl _) h1 h2 rfl (by decide), Int.toNat_natCast, repl_bool]
end Wm
end

section
/- Rows of truths that are told by a function; lists of slots that grow. -/
namespace Wm
attribute [local congr] bind_congr1
attribute [local irreducible] wr

def bF (X : Nat → Bool) (n : Nat) : List Bool := (List.range n).map X
theorem bF_len (X : Nat → Bool) (n : Nat) : (bF X n).length = n := by unfold bF; rw [List.length_map, List.length_range]
theorem bF_at {X : Nat → Bool} {n q : Nat} (h : q < n) : (bF X n)[q]? = some (X q) := by unfold bF; rw [List.getElem?_map, List.getElem?_range h]; rfl
theorem bF_congr {X Y : Nat → Bool} {n : Nat} (h : ∀ q, q < n → X q = Y q) : bF X n = bF Y n := List.map_congr_left fun q hq => h q (List.mem_range.mp hq)
def bset (X : Nat → Bool) (s : Nat) (v : Bool) : Nat → Bool := fun q => if q = s then v else X q
theorem bset_true (X : Nat → Bool) (s : Nat) : bset X s true = bupd X s := rfl
theorem bF_set {X : Nat → Bool} {n s : Nat} {v : Bool} : (bF X n).set s v = bF (bset X s v) n := by
  apply List.ext_getElem?
  intro i
  rw [List.getElem?_set]
  by_cases hi : i < n
  · rw [bF_at (X := bset X s v) hi]
    by_cases h : s = i
    · subst h
      rw [if_pos rfl, if_pos (by rw [bF_len]; exact hi)]
      simp [bset]
    · rw [if_neg h, bF_at hi]
      unfold bset; rw [if_neg (Ne.symm h)]
  · have h1 : (bF (bset X s v) n)[i]? = none := List.getElem?_eq_none (by rw [bF_len]; omega)
    have h2 : (bF X n)[i]? = none := List.getElem?_eq_none (by rw [bF_len]; omega)
    rw [h1, h2, bF_len]
    by_cases h : s = i
    · rw [if_pos h, if_neg (by omega)]
    · rw [if_neg h]
theorem bF_false (n : Nat) : List.replicate n false = bF (fun _ => false) n := by
  unfold bF
  rw [List.map_const', List.length_range]
/-- A row of truths in a block. -/
def TruAt (g : H) (b : Nat) (X : Nat → Bool) (n : Nat) : Prop := g.get b = some (.cells (bools (bF X n)) .rw)
theorem TruAt.ld {g : H} {b : Nat} {X : Nat → Bool} {n q : Nat} (Z : TruAt g b X n) (h : q < n) : ldB (g.get b) q = some (.bool (X q)) := by
  unfold TruAt at Z
  rw [Z, ldB_cells, bools_at (bF_at h)]; rfl
theorem TruAt.stB {g : H} {b : Nat} {X : Nat → Bool} {n q : Nat} (Z : TruAt g b X n) (h : q < n) (v : Bool) : stB (g.get b) q [.bool v] = some (.cells (bools (bF (bset X q v) n)) .rw) := by
  unfold TruAt at Z
  have hne0 : decide (Bk.rw = Bk.ro) = false := rfl
  have hone : [V.bool v].all V.one = true := rfl
  have hlen : [V.bool v].length = 1 := rfl
  have hle : decide (q + 1 ≤ (bools (bF X n)).length) = true := decide_eq_true (by rw [bools_len, bF_len]; exact h)
  rw [Z, stB_cells, hlen, hle, hone, hne0]
  show some (Blk.cells (splice _ _ _) _) = _
  unfold splice
  rw [hlen, ← bF_set, ← bools_set, List.set_eq_take_append_cons_drop, if_pos (by rw [bools_len, bF_len]; exact h), List.append_assoc]; rfl
theorem TruAt.fr {g g' : H} {b : Nat} {X : Nat → Bool} {n : Nat} {L : List Nat} (Z : TruAt g b X n) (ok : g.ok) (F : Fr L g g') (h : b ∉ L) : TruAt g' b X n := F.get ok Z h
theorem TruAt.congr {g : H} {b : Nat} {X Y : Nat → Bool} {n : Nat} (Z : TruAt g b X n) (h : ∀ q, q < n → X q = Y q) : TruAt g b Y n := by unfold TruAt at Z ⊢; rw [Z, bF_congr h]

/-- A list of slots that grew. -/
def GI (g : Nat → Option Blk) (x : V) (l : List Nat) : Prop := Grown g x 1 (l.map fun q : Nat => .int .i64 (q : Int))
theorem GI.len {g : Nat → Option Blk} {x : V} {l : List Nat} (G : GI g x l) : lenSl x = some l.length := by have := Grown.len1 G; rw [List.length_map] at this; exact this
theorem GI.fr {g g' : H} {L : List Nat} {x : V} {l : List Nat} (G : GI g.get x l) (ok : g.ok) (F : Fr L g g') (h : ∀ b ∈ x.blk, b ∉ L) : GI g'.get x l := Grown.fr G ok F h
theorem GI.at {g : H} {x : V} {l : List Nat} (G : GI g.get x l) {i q : Nat} (hq : l[i]? = some q) : ∃ b, indexAV 1 x (.int .i64 (i : Int)) = some (.ptr b i) ∧ ldB (g.get b) i = some (.int .i64 (q : Int)) := by
  obtain ⟨b, h1, h2⟩ := Grown.at1 G (i := i) (v := .int .i64 (q : Int)) (by rw [List.getElem?_map, hq]; rfl) rfl
  exact ⟨b, h1, by rw [← h2, ld1_get']⟩
theorem GI.push {g : H} (ok : g.ok) {x : V} {l : List Nat} (G : GI g.get x l) (hl : l.length ≤ 100000) (q : Nat) :
    ∃ x' g', (g.new (.cells [.int .i64 (q : Int)] .rw)).append 1 8 x (.sl g.next 0 1 (.ex 1)) = some (x', g') ∧ Fr x.blk g g' ∧ GI g'.get x' (l ++ [q]) ∧ ∀ b ∈ x'.blk, g.next ≤ b := by
  have F1 : Fr [] g (g.new (.cells [.int .i64 (q : Int)] .rw)) := (Fr.refl ok).new _
  obtain ⟨x', g', e, F, G', hn, _⟩ := Grown.push F1.ok (bytes := 8) (Grown.fr G ok F1 (by simp)) (get_new_self g _) rfl rfl (by decide) ⟨by decide, by decide⟩ (by rw [List.length_map]; omega)
  exact ⟨x', g', e, (F1.mono (by simp)).trans' F, by unfold GI; rw [List.map_append]; exact G', fun b hb => Nat.le_trans F1.le (hn b hb)⟩
/-- One behind the other. -/
theorem GI.join {g : H} (ok : g.ok) {x y : V} {l m : List Nat} (G : GI g.get x l) (G2 : GI g.get y m) (hl : l.length ≤ 100000) (hm : m.length ≤ 100000) :
    ∃ x' g', g.append 1 8 x y = some (x', g') ∧ Fr x.blk g g' ∧ GI g'.get x' (l ++ m) ∧ ∀ b ∈ x'.blk, g.next ≤ b := by
  have hy : lenSl y = some m.length := G2.len
  have hs : g.slc 1 y = some (m.map fun q : Nat => .int .i64 (q : Int)) := by
    obtain ⟨rfl, h2⟩ | ⟨b, n, rfl, hl, hb⟩ := G2
    · rw [h2]; rfl
    · rw [slc_get hb (by omega), List.drop_zero, List.take_of_length_le (by omega)]
  have hone : (m.map fun q : Nat => V.int .i64 (q : Int)).all V.one = true := by rw [List.all_map, List.all_eq_true]; intro _ _; rfl
  obtain ⟨rfl, h0⟩ | ⟨b, n, rfl, hln, hb⟩ := G
  · have hl0 : l = [] := List.map_eq_nil_iff.mp h0
    subst hl0
    by_cases hm0 : m = []
    · subst hm0
      refine ⟨.nilsl, g, ?_, .refl ok, Grown.nil _ _, by simp [V.blk]⟩
      have h3 : lenSl .nilsl = some 0 := rfl
      have h4 : g.slc 1 .nilsl = some [] := rfl
      simp only [List.length_nil, List.map_nil] at hy hs
      simp only [H.append, hy, hs, h3, h4]
      rfl
    · have hml : m.length ≠ 0 := by simp [hm0]
      exact ⟨_, _, append_nil hy hs hml hone (by omega) (by decide) (by decide), (Fr.refl ok).new _, .inr ⟨_, _, rfl, by simp, by rw [List.nil_append]; exact get_new_self _ _⟩, by simp [V.blk]⟩
  · have hold : g.slc 1 (.sl b 0 n (.op 1)) = some (l.map fun q : Nat => .int .i64 (q : Int)) := by rw [slc_get hb (by omega), List.drop_zero, List.take_of_length_le (by omega)]
    rw [List.length_map, Nat.mul_one] at hln
    subst hln
    exact ⟨_, _, append_op hy hs hold hb hone (by omega) (by decide) (by decide), ((Fr.refl ok).put (.inl (by simp [V.blk])) (ok.lt hb) _).new _, .inr ⟨_, _, rfl, by simp, by rw [List.map_append]; exact get_new_self _ _⟩, by simp [V.blk]⟩

/-- The number of a slot that is named, or -1. -/
def nmS (k : Cfg) (w : Int) : Int := match nmO k w with
  | some q => (q : Int)
  | none => -1
theorem nmS_some {k : Cfg} {w : Int} {q : Nat} (h : nmO k w = some q) : nmS k w = (q : Int) := by unfold nmS; rw [h]
theorem nmS_none {k : Cfg} {w : Int} (h : nmO k w = none) : nmS k w = -1 := by unfold nmS; rw [h]
theorem nmO_zero (k : Cfg) : nmO k 0 = none := by unfold nmO; rw [if_neg (by omega)]
end Wm
end

section
/- A queue; what a code's entry and word name; withy/mark.Found's 'find'. -/
namespace Wm
attribute [local congr] bind_congr1
attribute [local irreducible] wr

def intL (l : List Nat) : List V := l.map fun q : Nat => .int .i64 (q : Int)
/-- A queue: nothing yet, or the end of what grew. -/
def Que (g : Nat → Option Blk) (x : V) (l : List Nat) : Prop :=
  (∃ b k, x = .sl b 0 0 (.ex 0) ∧ l = [] ∧ g b = some (.cells [] k)) ∨ ∃ b o cs, x = .sl b o l.length (.op 1) ∧ g b = some (.cells cs (.gr 1)) ∧ cs.drop o = intL l ∧ o + l.length = cs.length
theorem Que.len {g : Nat → Option Blk} {x : V} {l : List Nat} (G : Que g x l) : lenSl x = some l.length := by
  obtain ⟨b, k, rfl, rfl, _⟩ | ⟨b, o, cs, rfl, _⟩ := G <;> rfl
theorem Que.fr {g g' : H} {L : List Nat} {x : V} {l : List Nat} (G : Que g.get x l) (ok : g.ok) (F : Fr L g g') (h : ∀ b ∈ x.blk, b ∉ L) : Que g'.get x l := by
  obtain ⟨b, k, rfl, h0, hb⟩ | ⟨b, o, cs, rfl, hb, h1⟩ := G
  · exact .inl ⟨b, k, rfl, h0, F.get ok hb (h b (by simp [V.blk]))⟩
  · exact .inr ⟨b, o, cs, rfl, F.get ok hb (h b (by simp [V.blk])), h1⟩
theorem Que.sl {g : Nat → Option Blk} {x : V} {l : List Nat} (G : Que g x l) : ∃ b o n c, x = .sl b o n c := by
  obtain ⟨b, k, rfl, _⟩ | ⟨b, o, cs, rfl, _⟩ := G
  · exact ⟨_, _, _, _, rfl⟩
  · exact ⟨_, _, _, _, rfl⟩
theorem Que.push {g : H} (ok : g.ok) {x : V} {l : List Nat} (G : Que g.get x l) (hl : l.length ≤ 1000) (n : Nat) :
    ∃ x' g', (g.new (.cells [.int .i64 (n : Int)] .rw)).append 1 8 x (.sl g.next 0 1 (.ex 1)) = some (x', g') ∧ Fr x.blk g g' ∧ Que g'.get x' (l ++ [n]) ∧ ∀ b ∈ x'.blk, g.next ≤ b := by
  have F1 : Fr [] g (g.new (.cells [.int .i64 (n : Int)] .rw)) := (Fr.refl ok).new _
  have hnew : (g.new (.cells [.int .i64 (n : Int)] .rw)).slc 1 (.sl g.next 0 1 (.ex 1)) = some [.int .i64 (n : Int)] := by
    rw [slc_get (get_new_self _ _) (by simp), List.drop_zero, List.take_of_length_le (by simp)]
  have G1 := G.fr ok F1 (by simp)
  obtain ⟨b, k, rfl, rfl, hb⟩ | ⟨b, o, cs, rfl, hb, h1, h2⟩ := G1
  · have hold : (g.new (.cells [.int .i64 (n : Int)] .rw)).slc 1 (.sl b 0 0 (.ex 0)) = some [] := by rw [slc_get hb (by simp)]; rfl
    refine ⟨_, _, append_ex' (n := 1) rfl hnew hold rfl (by omega) (by decide) (by decide) (by simp), (F1.mono (by simp)).new _, .inr ⟨_, 0, _, rfl, get_new_self _ _, rfl, rfl⟩, ?_⟩
    intro c hc
    simp only [V.blk, List.mem_singleton] at hc
    subst hc; exact Nat.le_succ _
  · have hlen : (intL l).length = l.length := List.length_map _
    have hold : (g.new (.cells [.int .i64 (n : Int)] .rw)).slc 1 (.sl b o l.length (.op 1)) = some (intL l) := by
      rw [slc_get hb (by omega), h1, List.take_of_length_le (by omega)]
    refine ⟨_, _, append_op (n := 1) rfl hnew hold hb rfl (by omega) (by decide) (by decide), ((F1.mono (by simp)).put (.inl (by simp [V.blk])) (F1.ok.lt hb) _).new _, .inr ⟨_, 0, _, by simp, get_new_self _ _, ?_, ?_⟩, ?_⟩
    · rw [List.drop_zero]; unfold intL; rw [List.map_append]; rfl
    · simp [hlen]
    · intro c hc
      simp only [V.blk, List.mem_singleton] at hc
      subst hc; exact Nat.le_succ _
theorem Que.pop {g : Nat → Option Blk} {x : V} {l : List Nat} {t : Nat} (G : Que g x (t :: l)) :
    ∃ b o x', indexAV 1 x (.int .i64 0) = some (.ptr b o) ∧ ldB (g b) o = some (.int .i64 (t : Int)) ∧ sliceV 1 x (some (.int .i64 1)) none none = some x' ∧ Que g x' l ∧ x'.blk = x.blk := by
  obtain ⟨b, k, rfl, h0, _⟩ | ⟨b, o, cs, rfl, hb, h1, h2⟩ := G
  · cases h0
  · refine ⟨b, o, .sl b (o + 1) l.length (.op 1), ?_, ?_, ?_, .inr ⟨b, o + 1, cs, rfl, hb, ?_, ?_⟩, rfl⟩
    · rw [show (V.int .i64 0) = V.int .i64 ((0 : Nat) : Int) from rfl, indexAV_in (by omega) (by simp)]; simp
    · rw [hb, ldB_cells]
      have h3 : cs[o]? = some (.int .i64 (t : Int)) := by
        have := congrArg (fun l : List V => l[0]?) h1
        simp only [List.getElem?_drop, Nat.add_zero] at this
        rw [this]; rfl
      rw [h3]; rfl
    · have d1 : decide ((1 : Int) ≤ ((l.length + 1 : Nat) : Int)) = true := decide_eq_true (by omega)
      have hb1 : boundO 0 (l.length + 1) (some (.int .i64 1)) = some 1 := by
        show (match decide ((0 : Int) ≤ 1) && decide ((1 : Int) ≤ ((l.length + 1 : Nat) : Int)) with | true => _ | false => _) = _
        rw [d1]; rfl
      have hz : Nat.beq 1 1 = true := rfl
      have hb0 : boundO (l.length + 1) (l.length + 1) none = some (l.length + 1) := rfl
      rw [List.length_cons]
      simp only [sliceV, hb0, hb1, Nat.mul_one, Nat.add_sub_cancel]
    · rw [← List.drop_drop, h1]; rfl
    · simp only [List.length_cons] at h2; omega

theorem entryParts_spec {w : Int} (hw : U64 w) (h : H) : ∃ a, C 318 [.int .u64 w] h = some (.tup [.int .u64 a, .int .i64 (w % 4294967296 - 1)], h) := by
  refine ⟨getT w 32 32, call_closed (af := F.tag_EntryParts) (by kernel_rfl) rfl (by rfl) (by rfl) h ?_⟩
  rw [S.tag_EntryParts_eq]
  have g1 := fun h => get_spec hw 32 32 (by decide) (by decide) (by decide) h
  have g2 := fun h => get_spec hw 0 32 (by decide) (by decide) (by decide) h
  have e2 : getT w 0 32 = w % 4294967296 := by unfold getT; simp
  have w2 : wr .i64 (wr .i64 (w % 4294967296) - 1) = w % 4294967296 - 1 := by
    rw [wr64 (n := w % 4294967296) (by omega) (by omega), wr64 (by omega) (by omega)]
  simp only [Int.cast_ofNat_Int, e2] at g1 g2
  simp only [S.tag_EntryParts, Option.bind_some, asIAny, W_call, g1, g2, w2]
  exact Ev.some rfl
theorem markNamed_spec {k : Cfg} (hr : k.R = true) {w : Int} (hw : U64 w) {g : H} {b : Nat} {cs : List V} {kk : Bk} (hb : g.get b = some (.cells cs kk)) (h2 : cs[2]? = some (.int .i64 k.s)) : C 320 [.ptr b 0, .int .u64 w] g = some (.int .i64 (nmS k w), g) := by
  have hx : Ev (C 320 [.ptr b 0, .int .u64 w] g) fun r => r = (.int .i64 (nmS k w), g) := by
    refine call_ev (af := F.mark_Mark_named) (by kernel_rfl) rfl ?_
    have hB := Cfg.R_iff.mp hr
    have hS : (k.S : Int) = k.s := by unfold Cfg.S; omega
    have h1 : wr .u64 k.s = k.s := wru64 (by omega) (by omega)
    have hw0 := hw.1
    have hld : ldB (g.get b) 2 = some (.int .i64 k.s) := by rw [hb, ldB_cells, h2]; rfl
    rw [S.mark_Mark_named_eq]
    by_cases hkw : k.s < w
    · have d2 : decide (k.s < w) = true := decide_eq_true hkw
      have hn : nmS k w = -1 := nmS_none (by unfold nmO; rw [if_neg (by omega)])
      simp only [S.mark_Mark_named, nilc_ptr, ptrAt_ptr, Option.bind_some, ld1_get', Nat.zero_add, Nat.add_zero, Int.reduceNeg, asIAny, hld, h1, d2, hn]
      exact Ev.some rfl
    · have d2 : decide (k.s < w) = false := decide_eq_false hkw
      have hn : nmS k w = w - 1 := by
        by_cases h0 : w = 0
        · rw [h0, nmS_none (nmO_zero k)]; rfl
        · rw [nmS_some (q := (w - 1).toNat) (by unfold nmO; rw [if_pos (by omega)])]; omega
      have w1 : wr .i64 w = w := wr64 (by omega) (by omega)
      have w2 : wr .i64 (w - 1) = w - 1 := wr64 (by omega) (by omega)
      simp only [S.mark_Mark_named, nilc_ptr, ptrAt_ptr, Option.bind_some, ld1_get', Nat.zero_add, Nat.add_zero, Int.reduceNeg, asIAny, hld, h1, d2, hn, w1, w2]
      exact Ev.some rfl
  obtain ⟨r, e, rfl⟩ := hx
  exact e
end Wm
end

section
/- withy/mark.Found's 'find': what stands where, and what it does. -/
namespace Wm
attribute [local congr] bind_congr1
attribute [local irreducible] wr

/-- The blocks of a Found. -/
structure MFb where
  cb : Nat
  b4 : Nat
  b5 : Nat
  b7 : Nat
  b8 : Nat
  b9 : Nat
  qf : Nat
  bw : Nat
  cw : Cap
def MFb.fix (B : MFb) : List Nat := [B.cb, B.b4, B.b5, B.b7, B.b8, B.bw]
def MFb.all (B : MFb) : List Nat := B.qf :: B.b9 :: B.fix
structure MFAt (k : Cfg) (g : H) (B : MFb) (f : Wd → Int) (e : Int) (s : Fnd) (x : V) : Prop where
  cfg : g.get B.cb = some (.cells [.int .i64 k.s, .int .i64 k.a, .int .i64 k.c, .int .i64 k.hd, .int .i64 k.g, .int .i64 k.st] .rw)
  wb : g.get B.b4 = some (.cells [.sl B.bw 0 k.size B.cw] .rw)
  w : WordsAt k g B.bw f
  eb : g.get B.b5 = some (.cells [.int .u64 e] .rw)
  m : ∃ cs kk, g.get B.b7 = some (.cells cs kk) ∧ cs[2]? = some (.int .i64 k.s)
  fb : g.get B.b8 = some (.cells [.sl B.qf 0 k.S (.ex k.S)] .rw)
  tr : TruAt g B.qf s.X k.S
  tb : g.get B.b9 = some (.cells [x] .rw)
  q : Que g.get x s.todo
  n1 : B.qf ∉ B.fix
  n2 : B.b9 ∉ B.fix
  n3 : B.qf ≠ B.b9
  n4 : ∀ c ∈ x.blk, c ∉ B.all
theorem MFAt.fr {k : Cfg} {g g' : H} {B : MFb} {f : Wd → Int} {e : Int} {s : Fnd} {x : V} {L : List Nat} (Z : MFAt k g B f e s x) (ok : g.ok) (F : Fr L g g') (h1 : ∀ c ∈ L, c ∉ B.all) (h2 : ∀ c ∈ x.blk, c ∉ L) : MFAt k g' B f e s x := by
  have h : ∀ c ∈ B.all, c ∉ L := fun c hc hl => h1 c hl hc
  have hh : ∀ c ∈ B.fix, c ∉ L := fun c hc => h c (by unfold MFb.all; simp [hc])
  refine ⟨F.get ok Z.cfg (hh _ (by simp [MFb.fix])), F.get ok Z.wb (hh _ (by simp [MFb.fix])), Z.w.fr ok F (hh _ (by simp [MFb.fix])), F.get ok Z.eb (hh _ (by simp [MFb.fix])), ?_, F.get ok Z.fb (hh _ (by simp [MFb.fix])), Z.tr.fr ok F (h _ (by simp [MFb.all])), F.get ok Z.tb (h _ (by simp [MFb.all])), Z.q.fr ok F h2, Z.n1, Z.n2, Z.n3, Z.n4⟩
  obtain ⟨cs, kk, e1, e2⟩ := Z.m
  exact ⟨cs, kk, F.get ok e1 (hh _ (by simp [MFb.fix])), e2⟩
/-- What is found changes. -/
theorem MFAt.setX {k : Cfg} {g : H} {B : MFb} {f : Wd → Int} {e : Int} {s : Fnd} {x : V} (Z : MFAt k g B f e s x) (ok : g.ok) (X' : Nat → Bool) : MFAt k (g.put B.qf (some (.cells (bools (bF X' k.S)) .rw))) B f e ⟨X', s.todo⟩ x := by
  have F : Fr [B.qf] g (g.put B.qf (some (.cells (bools (bF X' k.S)) .rw))) := (Fr.refl ok).put (.inl (by simp)) (ok.lt Z.tr) _
  have hh : ∀ c ∈ B.fix, c ∉ [B.qf] := fun c hc q => Z.n1 (by rw [List.mem_singleton] at q; rw [← q]; exact hc)
  refine ⟨F.get ok Z.cfg (hh _ (by simp [MFb.fix])), F.get ok Z.wb (hh _ (by simp [MFb.fix])), Z.w.fr ok F (hh _ (by simp [MFb.fix])), F.get ok Z.eb (hh _ (by simp [MFb.fix])), ?_, F.get ok Z.fb (hh _ (by simp [MFb.fix])), get_put_self _ _ _, F.get ok Z.tb (by simp [Z.n3.symm]), Z.q.fr ok F (fun c hc q => Z.n4 c hc (by rw [List.mem_singleton] at q; rw [q]; simp [MFb.all])), Z.n1, Z.n2, Z.n3, Z.n4⟩
  obtain ⟨cs, kk, e1, e2⟩ := Z.m
  exact ⟨cs, kk, F.get ok e1 (hh _ (by simp [MFb.fix])), e2⟩
/-- The queue changes. -/
theorem MFAt.setQ {k : Cfg} {g g' : H} {B : MFb} {f : Wd → Int} {e : Int} {s : Fnd} {x x' : V} (Z : MFAt k g B f e s x) (ok : g.ok) (F : Fr x.blk g g') {todo : List Nat} (hq : Que g'.get x' todo) (hn : ∀ b ∈ x'.blk, b ∈ x.blk ∨ g.next ≤ b) : MFAt k (g'.put B.b9 (some (.cells [x'] .rw))) B f e ⟨s.X, todo⟩ x' ∧ Fr (B.b9 :: x.blk) g (g'.put B.b9 (some (.cells [x'] .rw))) := by
  have hall : ∀ c ∈ B.all, c < g.next := by
    intro c hc
    obtain ⟨cs, kk, e1, e2⟩ := Z.m
    simp only [MFb.all, MFb.fix, List.mem_cons, List.not_mem_nil, or_false] at hc
    rcases hc with rfl | rfl | rfl | rfl | rfl | rfl | rfl | rfl
    · exact ok.lt Z.tr
    · exact ok.lt Z.tb
    · exact ok.lt Z.cfg
    · exact ok.lt Z.wb
    · exact ok.lt Z.eb
    · exact ok.lt e1
    · exact ok.lt Z.fb
    · exact Z.w.lt ok
  have n4' : ∀ c ∈ x'.blk, c ∉ B.all := fun c hc => by
    rcases hn c hc with h | h
    · exact Z.n4 c h
    · exact fun q => absurd (hall c q) (Nat.not_lt_of_le h)
  have hb9 : B.b9 ∉ x.blk := fun q => Z.n4 _ q (by simp [MFb.all])
  have F2 : Fr (B.b9 :: x.blk) g (g'.put B.b9 (some (.cells [x'] .rw))) := (F.mono (fun b hb => .inl (List.mem_cons_of_mem _ hb))).put (.inl (List.mem_cons_self ..)) (Nat.lt_of_lt_of_le (ok.lt Z.tb) F.le) _
  have hh : ∀ c ∈ B.fix, c ∉ B.b9 :: x.blk := fun c hc q => by
    rcases List.mem_cons.mp q with q | q
    · exact Z.n2 (q ▸ hc)
    · exact Z.n4 c q (by simp [MFb.all, hc])
  have hqf : B.qf ∉ B.b9 :: x.blk := fun q => by
    rcases List.mem_cons.mp q with q | q
    · exact Z.n3 q
    · exact Z.n4 _ q (by simp [MFb.all])
  have F3 : Fr [B.b9] g' (g'.put B.b9 (some (.cells [x'] .rw))) := (Fr.refl F.ok).put (.inl (by simp)) (Nat.lt_of_lt_of_le (ok.lt Z.tb) F.le) _
  refine ⟨⟨F2.get ok Z.cfg (hh _ (by simp [MFb.fix])), F2.get ok Z.wb (hh _ (by simp [MFb.fix])), Z.w.fr ok F2 (hh _ (by simp [MFb.fix])), F2.get ok Z.eb (hh _ (by simp [MFb.fix])), ?_, F2.get ok Z.fb (hh _ (by simp [MFb.fix])), Z.tr.fr ok F2 hqf, get_put_self _ _ _, hq.fr F.ok F3 (fun c hc q => n4' c hc (by rw [List.mem_singleton] at q; rw [q]; simp [MFb.all])), Z.n1, Z.n2, Z.n3, n4'⟩, F2⟩
  obtain ⟨cs, kk, e1, e2⟩ := Z.m
  exact ⟨cs, kk, F2.get ok e1 (hh _ (by simp [MFb.fix])), e2⟩
theorem MFAt.congr {k : Cfg} {g : H} {B : MFb} {f : Wd → Int} {e : Int} {s s' : Fnd} {x : V} (Z : MFAt k g B f e s x) (hX : ∀ q, q < k.S → s.X q = s'.X q) (ht : s.todo = s'.todo) : MFAt k g B f e s' x :=
  ⟨Z.cfg, Z.wb, Z.w, Z.eb, Z.m, Z.fb, Z.tr.congr hX, Z.tb, ht ▸ Z.q, Z.n1, Z.n2, Z.n3, Z.n4⟩

/-- A number is a slot, or none. -/
def NumO (k : Cfg) (n : Int) (o : Option Nat) : Prop := (o = none ∧ (n < 0 ∨ (k.S : Int) ≤ n)) ∨ ∃ q : Nat, o = some q ∧ n = q ∧ q < k.S
theorem nmS_num (k : Cfg) (w : Int) : NumO k (nmS k w) (nmO k w) := by
  rcases Option.eq_none_or_eq_some (nmO k w) with h | ⟨q, h⟩
  · exact .inl ⟨h, .inl (by rw [nmS_none h]; decide)⟩
  · exact .inr ⟨q, h, nmS_some h, (nmO_lt h).1⟩
theorem minus_num {k : Cfg} {w : Int} (h : 0 ≤ w) : NumO k (w - 1) (nmO k w) := by
  unfold nmO
  by_cases h1 : 1 ≤ w ∧ w ≤ k.S
  · rw [if_pos h1]
    exact .inr ⟨(w - 1).toNat, rfl, by omega, by omega⟩
  · rw [if_neg h1]
    exact .inl ⟨rfl, by omega⟩

theorem mf_find {k : Cfg} (hr : k.R = true) {g : H} (ok : g.ok) {B : MFb} {f : Wd → Int} {e : Int} (hE : U64 e) {s : Fnd} {x : V} (Z : MFAt k g B f e s x) (hl : s.todo.length ≤ 1000) {n : Int} {o : Option Nat} (hn : NumO k n o) :
    Ev (C 316 [.int .i64 n, .ptr B.cb 0, .ptr B.b8 0, .ptr B.b4 0, .ptr B.b5 0, .ptr B.b9 0] g) fun r => r.1 = .tup [] ∧ ∃ x', Fr (B.qf :: B.b9 :: x.blk) g r.2 ∧ MFAt k r.2 B f e (s.finds f e o.toList) x' ∧ ∀ c ∈ x'.blk, c ∈ x.blk ∨ g.next ≤ c := by
  refine call_ev (af := F.mark_Found_1) (by kernel_rfl) rfl ?_
  rw [S.mark_Found_1_eq]
  have hks : k.s = (k.S : Int) := by have := Cfg.R_iff.mp hr; unfold Cfg.S; omega
  have hv : k.v = .agg [.int .i64 k.s, .int .i64 k.a, .int .i64 k.c, .int .i64 k.hd, .int .i64 k.g, .int .i64 k.st] := rfl
  have hc := Z.cfg
  rcases hn with ⟨rfl, hn⟩ | ⟨q, rfl, rfl, hq⟩
  · show Ev _ fun r : V × H => r.1 = .tup [] ∧ ∃ x', Fr (B.qf :: B.b9 :: x.blk) g r.2 ∧ MFAt k r.2 B f e s x' ∧ ∀ c ∈ x'.blk, c ∈ x.blk ∨ g.next ≤ c
    by_cases h0 : n < 0
    · have d0 : decide (n < 0) = true := decide_eq_true h0
      simp only [S.mark_Found_1, d0]
      exact Ev.some ⟨rfl, x, .refl ok, Z, fun c hc => .inl hc⟩
    · have d0 : decide (n < 0) = false := decide_eq_false h0
      have d1 : decide (k.s ≤ n) = true := decide_eq_true (by omega)
      simp only [S.mark_Found_1, ptrAt_ptr, Option.bind_some, ld1_get', ldN_get', st_get', ldB_cells, ldNB_cells, List.getElem?_cons_zero, Nat.zero_add, Nat.add_zero, Nat.reduceAdd, Nat.reduceLeDiff, V.one, V.cells, asI_int, List.length_cons, List.length_nil, decide_true, List.take_succ_cons, List.take_zero, List.drop_zero, W_call, d0, hc, d1]
      exact Ev.some ⟨rfl, x, .refl ok, Z, fun c hc => .inl hc⟩
  · show Ev _ fun r : V × H => r.1 = .tup [] ∧ ∃ x', Fr (B.qf :: B.b9 :: x.blk) g r.2 ∧ MFAt k r.2 B f e (s.find f e q) x' ∧ ∀ c ∈ x'.blk, c ∈ x.blk ∨ g.next ≤ c
    have d0 : decide ((q : Int) < 0) = false := decide_eq_false (by omega)
    have d1 : decide (k.s ≤ (q : Int)) = false := decide_eq_false (by omega)
    have hx1 : indexAV 1 (.sl B.qf 0 k.S (.ex k.S)) (.int .i64 (q : Int)) = some (.ptr B.qf q) := sl_idx1 hq
    have hX := Z.tr.ld hq
    have hfb := Z.fb
    unfold Fnd.find
    cases hXq : s.X q with
    | true =>
      rw [hXq] at hX
      simp only [S.mark_Found_1, ptrAt_ptr, Option.bind_some, ld1_get', ldN_get', st_get', ldB_cells, ldNB_cells, List.getElem?_cons_zero, Nat.zero_add, Nat.add_zero, Nat.reduceAdd, Nat.reduceLeDiff, V.one, V.cells, asI_int, asB_bool, List.length_cons, List.length_nil, decide_true, if_true, List.take_succ_cons, List.take_zero, List.drop_zero, W_call, d0, hc, d1, hfb, hx1, hX]
      exact Ev.some ⟨rfl, x, .refl ok, Z, fun c hc => .inl hc⟩
    | false =>
      rw [hXq] at hX
      have hwb := Z.wb
      have he := Z.eb
      have hat := fun h => header_at hr hq h
      rw [hv] at hat
      have hhok : (Wd.header q).ok k := hq
      have hix := words_ix (b := B.bw) (c := B.cw) hhok
      have hld := Z.w.ld hhok
      have hSh := fun h => shaded_spec (Z.w.u64 _ hhok) hE h
      cases hw : wht f e q with
      | false =>
        have hw' : white (f (.header q)) e = false := hw
        rw [hw'] at hSh
        simp only [S.mark_Found_1, ptrAt_ptr, Option.bind_some, ld1_get', ldN_get', st_get', ldB_cells, ldNB_cells, List.getElem?_cons_zero, List.getElem?_cons_succ, Nat.zero_add, Nat.add_zero, Nat.reduceAdd, Nat.reduceLeDiff, V.one, V.cells, V.beq, ckB_some, asI_int, asB_bool, List.length_cons, List.length_nil, Nat.beq_refl, Bool.and_self, decide_true, if_false, List.take_succ_cons, List.take_zero, List.drop_zero, reduceCtorEq, W_call, d0, hc, d1, hfb, hx1, hX, hwb, he, hat, hix, hld, hSh]
        exact Ev.some ⟨rfl, x, .refl ok, Z, fun c hc => .inl hc⟩
      | true =>
        have hw' : white (f (.header q)) e = true := hw
        rw [hw'] at hSh
        have hst := Z.tr.stB hq true
        rw [bset_true] at hst
        have Z1 := Z.setX ok (bupd s.X q)
        have F1 : Fr [B.qf] g (g.put B.qf (some (.cells (bools (bF (bupd s.X q) k.S)) .rw))) := (Fr.refl ok).put (.inl (by simp)) (ok.lt Z.tr) _
        have n9 : B.b9 ≠ B.qf := Z.n3.symm
        have htb := Z.tb
        obtain ⟨x', g', ea, F2, Q2, hn2⟩ := Que.push F1.ok Z1.q hl q
        obtain ⟨Z3, F3⟩ := Z1.setQ F1.ok F2 Q2 (fun b hb => .inr (hn2 b hb))
        have htb2 := F2.get F1.ok Z1.tb (fun q => Z.n4 _ q (by simp [MFb.all]))
        have F4 : Fr (B.qf :: B.b9 :: x.blk) g _ := (F1.mono (fun b hb => .inl (by simp only [List.mem_singleton] at hb; simp [hb]))).trans (F3.mono (L' := B.qf :: B.b9 :: x.blk) (fun b hb => .inl (List.mem_cons_of_mem _ hb))) (fun b hb => .inl hb)
        simp only [H.next_put] at ea
        obtain ⟨xb, xo, xn, xc, rfl⟩ := Z.q.sl
        obtain ⟨yb, yo, yn, yc, rfl⟩ := Q2.sl
        simp only [S.mark_Found_1, ptrAt_ptr, Option.bind_some, Option.map_some, ld1_get', ldN_get', st_get', get_put', ldB_cells, ldNB_cells, stB_cells, H.next_put, List.getElem?_cons_zero, List.getElem?_cons_succ, Nat.zero_add, Nat.add_zero, Nat.reduceAdd, Nat.reduceLeDiff, V.one, V.cells, V.beq, ckB_some, asI_int, asB_bool, List.length_cons, List.length_nil, Nat.beq_refl, List.all_cons, List.all_nil, Bool.not_true, Bool.or_self, Bool.and_self, decide_true, decide_false, if_true, if_false, splice, List.take_succ_cons, List.take_zero, List.drop_succ_cons, List.drop_zero, List.cons_append, List.nil_append, reduceCtorEq, W_call, d0, hc, d1, hfb, hx1, hX, hwb, he, hat, hix, hld, hSh, hst, n9, htb, ea, htb2]
        exact Ev.some ⟨rfl, _, F4, Z3, fun c hc => (Or.inr (hn2 c hc))⟩
end Wm
end

section
/- What the document finds: withyref13.named, Names, Roots. -/
namespace Wm
attribute [local congr] bind_congr1
attribute [local irreducible] wr

theorem rf_named {k : Cfg} (hr : k.R = true) {w : Int} (hw : U64 w) (h : H) : C 398 [k.v, .int .u64 w] h = some (.int .i64 (nmS k w), h) := by
  refine call_closed (af := F.withyref13_named) (by kernel_rfl) rfl (by rfl) (by rfl) h ?_
  have hb := Cfg.R_iff.mp hr
  have hv : k.v = .agg [.int .i64 k.s, .int .i64 k.a, .int .i64 k.c, .int .i64 k.hd, .int .i64 k.g, .int .i64 k.st] := rfl
  have hS : (k.S : Int) = k.s := by unfold Cfg.S; omega
  have h1 : wr .u64 k.s = k.s := wru64 (by omega) (by omega)
  rw [hv, S.withyref13_named_eq]
  by_cases h0 : w = 0
  · have d0 : decide (w = 0) = true := decide_eq_true h0
    have hn : nmS k w = -1 := nmS_none (by rw [h0]; exact nmO_zero k)
    simp only [S.withyref13_named, Int.reduceNeg, d0, hn]
    exact Ev.some rfl
  · have d0 : decide (w = 0) = false := decide_eq_false h0
    by_cases h2 : k.s < w
    · have d2 : decide (k.s < w) = true := decide_eq_true h2
      have hn : nmS k w = -1 := nmS_none (by unfold nmO; rw [if_neg (by omega)])
      simp only [S.withyref13_named, Option.bind_some, ld1_get', get_new', ldB_cells, List.getElem?_cons_zero, Int.reduceNeg, V.one, asIAny, if_true, d0, h1, d2, hn]
      exact Ev.some rfl
    · have d2 : decide (k.s < w) = false := decide_eq_false h2
      have hw0 := hw.1
      have hn : nmS k w = w - 1 := by
        rw [nmS_some (q := (w - 1).toNat) (by unfold nmO; rw [if_pos (by omega)])]; omega
      have w1 : wr .i64 w = w := wr64 (by omega) (by omega)
      have w2 : wr .i64 (w - 1) = w - 1 := wr64 (by omega) (by omega)
      simp only [S.withyref13_named, Option.bind_some, ld1_get', get_new', ldB_cells, List.getElem?_cons_zero, Int.reduceNeg, V.one, asIAny, if_true, d0, h1, d2, hn, w1, w2]
      exact Ev.some rfl

def bodyV (k : Cfg) (f : Wd → Int) (q i : Nat) : Int := if i < k.room then f (.body q i) else 0
theorem rf_body {k : Cfg} (hr : k.R = true) {h : H} (ok : h.ok) {b : Nat} {c : Cap} {f : Wd → Int} (Z : WordsAt k h b f) {q : Nat} (hq : q < k.S) (i : Nat) :
    Ev (C 322 [k.v, .sl b 0 k.size c, .str ⟨⟨[98, 111, 100, 121]⟩⟩, .int .i64 (q : Int), .int .i64 (i : Int)] h) fun r => r.1 = .int .u64 (bodyV k f q i) ∧ Fr [] h r.2 := by
  unfold bodyV
  by_cases hi : i < k.room
  · rw [if_pos hi]
    exact refAt13 hr (l := .body q i) ⟨hq, hi⟩ ok Z
  · rw [if_neg hi]
    exact refAt13_none hr (l := .body q i) (fun h => hi h.2) ok _
theorem bodyV_U64 {k : Cfg} {h : H} {b : Nat} {f : Wd → Int} (Z : WordsAt k h b f) {q : Nat} (hq : q < k.S) (i : Nat) : U64 (bodyV k f q i) := by
  unfold bodyV
  split
  · rename_i hi; exact Z.u64 (.body q i) ⟨hq, hi⟩
  · exact ⟨by decide, by decide⟩

def fld (x : Hdr) (i : Nat) : Bool := (decide (x.kind = 1) && decide ((i : Int) < x.arity)) || (decide (x.kind = 2) && (decide (i = 0) || decide (i = 2)))
def fieldR (k : Cfg) (f : Wd → Int) (q i : Nat) : Option Nat := if fld (unp (f (.header q))) i then nmO k (bodyV k f q i) else none
def namesR (k : Cfg) (f : Wd → Int) (q n : Nat) : List Nat := (List.range n).filterMap (fieldR k f q)
theorem namesR_succ (k : Cfg) (f : Wd → Int) (q n : Nat) : namesR k f q (n + 1) = namesR k f q n ++ (fieldR k f q n).toList := by
  unfold namesR
  rw [List.range_succ, List.filterMap_append]
  congr 1
theorem filterMap_cut {α : Type} (g : Nat → Option α) (m : Nat) : ∀ n, m ≤ n → (∀ i, m ≤ i → i < n → g i = none) → (List.range n).filterMap g = (List.range m).filterMap g := fun n hn h => by
  obtain ⟨d, rfl⟩ : ∃ d, n = m + d := ⟨n - m, by omega⟩
  rw [List.range_add, List.filterMap_append]
  have : List.filterMap g (List.map (fun x => m + x) (List.range d)) = [] := by
    rw [List.filterMap_eq_nil_iff]
    intro x hx
    obtain ⟨i, hi, rfl⟩ := List.mem_map.mp hx
    exact h _ (Nat.le_add_right _ _) (by have := List.mem_range.mp hi; omega)
  rw [this, List.append_nil]
theorem filterMap_same {α β : Type} {g g' : α → Option β} : ∀ {l : List α}, (∀ x ∈ l, g x = g' x) → l.filterMap g = l.filterMap g'
  | [], _ => rfl
  | x :: l, h => by
    rw [List.filterMap_cons, List.filterMap_cons, h x (by simp), filterMap_same fun y hy => h y (by simp [hy])]
theorem names15 {k : Cfg} (hr : k.R = true) (f : Wd → Int) (q : Nat) : namesR k f q 15 = namesL k f q := by
  have hR := (right_iff _).mp (unp_right (f (.header q)))
  have hb := (Cfg.bounds hr).2.1
  unfold namesL fieldsL namesR
  by_cases h1 : (unp (f (.header q))).kind = 1
  · rw [if_pos h1]
    rw [filterMap_cut _ (min (unp (f (.header q))).arity.toNat k.room) 15 (by omega) (fun i hi hi2 => ?_)]
    · refine filterMap_same fun i hi => ?_
      have hi := List.mem_range.mp hi
      unfold fieldR fld bodyV fieldO
      rw [h1, decide_eq_true (show (i : Int) < (unp (f (.header q))).arity by omega), if_pos (show i < k.room by omega)]
      rfl
    · unfold fieldR
      split
      · rename_i hf
        unfold fld at hf
        rw [h1] at hf
        simp at hf
        unfold bodyV
        rw [if_neg (by omega), nmO_zero]
      · rfl
  · rw [if_neg h1]
    by_cases h2 : (unp (f (.header q))).kind = 2
    · rw [if_pos h2]
      have e : ∀ i, fieldR k f q i = if i = 0 ∨ i = 2 then fieldO k f q i else none := fun i => by
        unfold fieldR fld bodyV fieldO
        rw [h2]
        by_cases hi : i = 0 ∨ i = 2
        · rw [if_pos hi, if_pos (show i < k.room by omega), if_pos (by rcases hi with rfl | rfl <;> simp)]
        · rw [if_neg hi, if_neg (by simp; omega)]
      rw [filterMap_cut _ 3 15 (by omega) (fun i hi _ => by rw [e, if_neg (by omega)])]
      show List.filterMap (fieldR k f q) [0, 1, 2] = _
      simp only [List.filterMap_cons, List.filterMap_nil, e]
      simp
    · rw [if_neg h2]
      show _ = []
      rw [List.filterMap_eq_nil_iff]
      intro i _
      unfold fieldR fld
      rw [decide_eq_false h1, decide_eq_false h2]; simp

/-- One field is looked at. -/
theorem nm_field {k : Cfg} (hr : k.R = true) {g : H} (ok : g.ok) {b cb hb : Nat} {c : Cap} {f : Wd → Int} (Z : WordsAt k g b f) {q : Nat} (hq : q < k.S) (hc : g.get cb = some (.cells [.int .i64 k.s, .int .i64 k.a, .int .i64 k.c, .int .i64 k.hd, .int .i64 k.g, .int .i64 k.st] .rw)) {x : Hdr} (hh : g.get hb = some (.cells [.int .i64 x.kind, .int .i64 x.mark, .bool x.gray, .int .i64 x.arity, .int .i64 x.gen, .int .i64 x.stamp] .rw)) {y : V} {l : List Nat} (G : GI g.get y l) (hl : l.length ≤ 1000) (hy : ∀ b ∈ y.blk, b ≠ cb) {i : Nat} (hi : i < 15) :
    Ev (S.withyref13_Names_c1_S W (.sl b 0 k.size c) (q : Int) (.ptr cb 0) (.ptr hb 0) y (i : Nat) g) fun r => r.1 = .normal ∧ ∃ y', r.2.1 = S.withyref13_Names_c1_E (.sl b 0 k.size c) (.int .i64 (q : Int)) (.ptr cb 0) (.ptr hb 0) y' (.int .i64 (i + 1 : Nat)) ∧ Fr y.blk g r.2.2 ∧ GI r.2.2.get y' (l ++ (if fld x i then nmO k (bodyV k f q i) else none).toList) ∧ ∀ b ∈ y'.blk, b ∈ y.blk ∨ g.next ≤ b := by
  have hv : k.v = .agg [.int .i64 k.s, .int .i64 k.a, .int .i64 k.c, .int .i64 k.hd, .int .i64 k.g, .int .i64 k.st] := rfl
  have d0 : decide ((i : Int) < 15) = true := decide_eq_true (by omega)
  have wi := gr_i (i := i) (by omega)
  have hB := rf_body hr ok (c := c) Z hq i
  have hN := fun h => rf_named hr (bodyV_U64 Z hq i) h
  rw [hv] at hB hN
  have e0 : decide ((i : Int) = 0) = decide (i = 0) := decide_eq_decide.mpr (by omega)
  have e2 : decide ((i : Int) = 2) = decide (i = 2) := decide_eq_decide.mpr (by omega)
  obtain ⟨kd, m, gr, ar, gn, st⟩ := x
  simp only at hh
  -- what is pushed
  have push : ∀ {g' : H}, Fr [] g g' → fld ⟨kd, m, gr, ar, gn, st⟩ i = true → ∀ {s : Nat}, nmO k (bodyV k f q i) = some s → ∃ y' g2, (g'.new (.cells [.int .i64 (s : Int)] .rw)).append 1 8 y (.sl g'.next 0 1 (.ex 1)) = some (y', g2) ∧ Fr y.blk g g2 ∧ GI g2.get y' (l ++ (if fld ⟨kd, m, gr, ar, gn, st⟩ i then nmO k (bodyV k f q i) else none).toList) ∧ ∀ b ∈ y'.blk, b ∈ y.blk ∨ g.next ≤ b := by
    intro g' F hf s hs
    obtain ⟨y', g2, e, F2, G2, hn⟩ := GI.push F.ok (G.fr ok F (by simp)) (by omega) s
    refine ⟨y', g2, e, (F.mono (by simp)).trans' F2, ?_, fun b hb => .inr (Nat.le_trans F.le (hn b hb))⟩
    rw [hf, if_pos rfl, hs]
    exact G2
  have stay : ∀ {g' : H}, Fr [] g g' → (fld ⟨kd, m, gr, ar, gn, st⟩ i = false ∨ nmO k (bodyV k f q i) = none) → Fr y.blk g g' ∧ GI g'.get y (l ++ (if fld ⟨kd, m, gr, ar, gn, st⟩ i then nmO k (bodyV k f q i) else none).toList) ∧ ∀ b ∈ y.blk, b ∈ y.blk ∨ g.next ≤ b := by
    intro g' F hf
    refine ⟨F.mono (by simp), ?_, fun b hb => .inl hb⟩
    have : (if fld ⟨kd, m, gr, ar, gn, st⟩ i then nmO k (bodyV k f q i) else none) = none := by
      rcases hf with hf | hf
      · rw [hf]; rfl
      · rw [hf]; simp
    rw [this]
    simpa using G.fr ok F (by simp)
  -- what comes behind a word that is looked at
  have hfin : fld ⟨kd, m, gr, ar, gn, st⟩ i = true → ∀ g', Fr [] g g' → Ev ((asI .i64 (.int .i64 (nmS k (bodyV k f q i)))).bind fun n10 => match decide (0 ≤ n10) with
      | true => ((g'.new (.cells [.int .i64 (nmS k (bodyV k f q i))] .rw)).append 1 8 y (.sl g'.next 0 1 (.ex 1))).bind fun p13 => some (.normal, S.withyref13_Names_c1_E (.sl b 0 k.size c) (.int .i64 (q : Int)) (.ptr cb 0) (.ptr hb 0) p13.1 (.int .i64 (i + 1 : Nat)), p13.2)
      | false => some (AX.normal, S.withyref13_Names_c1_E (.sl b 0 k.size c) (.int .i64 (q : Int)) (.ptr cb 0) (.ptr hb 0) y (.int .i64 (i + 1 : Nat)), g')) fun r => r.1 = .normal ∧ ∃ y', r.2.1 = S.withyref13_Names_c1_E (.sl b 0 k.size c) (.int .i64 (q : Int)) (.ptr cb 0) (.ptr hb 0) y' (.int .i64 (i + 1 : Nat)) ∧ Fr y.blk g r.2.2 ∧ GI r.2.2.get y' (l ++ (if fld ⟨kd, m, gr, ar, gn, st⟩ i then nmO k (bodyV k f q i) else none).toList) ∧ ∀ b ∈ y'.blk, b ∈ y.blk ∨ g.next ≤ b := by
    intro hf g' F
    rcases Option.eq_none_or_eq_some (nmO k (bodyV k f q i)) with hs | ⟨s, hs⟩
    · have hn := nmS_none hs
      rw [hn]
      simp only [Option.bind_some, Int.reduceLE, Int.reduceNeg, asI_int, decide_false]
      exact Ev.some ⟨rfl, y, rfl, stay F (.inr hs)⟩
    · have hn := nmS_some hs
      obtain ⟨y', g2, e, F2, G2, hn2⟩ := push F hf hs
      have ds : decide ((0 : Int) ≤ (s : Int)) = true := decide_eq_true (Int.natCast_nonneg s)
      rw [hn]
      simp only [Option.bind_some, asI_int, ds, e]
      exact Ev.some ⟨rfl, y', rfl, F2, G2, hn2⟩
  have nocase : fld ⟨kd, m, gr, ar, gn, st⟩ i = false → ∀ g', Fr [] g g' → Ev (some (AX.normal, S.withyref13_Names_c1_E (.sl b 0 k.size c) (.int .i64 (q : Int)) (.ptr cb 0) (.ptr hb 0) y (.int .i64 (i + 1 : Nat)), g')) fun r => r.1 = .normal ∧ ∃ y', r.2.1 = S.withyref13_Names_c1_E (.sl b 0 k.size c) (.int .i64 (q : Int)) (.ptr cb 0) (.ptr hb 0) y' (.int .i64 (i + 1 : Nat)) ∧ Fr y.blk g r.2.2 ∧ GI r.2.2.get y' (l ++ (if fld ⟨kd, m, gr, ar, gn, st⟩ i then nmO k (bodyV k f q i) else none).toList) ∧ ∀ b ∈ y'.blk, b ∈ y.blk ∨ g.next ≤ b := fun hf g' F => Ev.some ⟨rfl, y, rfl, stay F (.inl hf)⟩
  have fdef : fld ⟨kd, m, gr, ar, gn, st⟩ i = ((decide (kd = 1) && decide ((i : Int) < ar)) || (decide (kd = 2) && (decide (i = 0) || decide (i = 2)))) := rfl
  clear push stay
  cases k1 : decide (kd = 1) with
  | true =>
    have k2 : decide (kd = 2) = false := decide_eq_false (by have := of_decide_eq_true k1; omega)
    rw [k1, k2, Bool.true_and, Bool.false_and, Bool.or_false] at fdef
    cases ka : decide ((i : Int) < ar) with
    | true =>
      rw [ka] at fdef
      simp only [S.withyref13_Names_c1_S, ptrAt_ptr, Option.bind_some, ld1_get', ldN_get', ldB_cells, ldNB_cells, List.getElem?_cons_zero, List.getElem?_cons_succ, Nat.zero_add, Nat.add_zero, Nat.reduceAdd, Nat.reduceLeDiff, V.one, V.cells, asI_int, List.length_cons, List.length_nil, Bool.and_true, decide_true, splice, List.take_succ_cons, List.take_zero, List.drop_zero, List.cons_append, List.nil_append, fill, repl, opd, boxc, W_call, d0, hh, hc, k1, ka]
      refine Ev.bind hB ?_
      rintro ⟨_, g'⟩ ⟨rfl, F⟩
      dsimp only at F ⊢
      have hc' := F.get ok hc (by simp)
      have := hfin fdef g' F
      simp only [Option.bind_some, asI_int] at this
      simp only [Option.bind_some, ldNB_cells, Nat.zero_add, Nat.reduceAdd, Nat.reduceLeDiff, V.beq, V.beqs, ckB_some, asI_int, List.length_cons, List.length_nil, Nat.beq_refl, Bool.and_self, decide_true, List.take_succ_cons, List.take_zero, List.drop_succ_cons, List.drop_zero, List.cons_append, List.nil_append, hc', hN, wi]
      exact this
    | false =>
      rw [ka] at fdef
      simp only [S.withyref13_Names_c1_S, ptrAt_ptr, Option.bind_some, ld1_get', ldN_get', ldB_cells, ldNB_cells, List.getElem?_cons_zero, List.getElem?_cons_succ, Nat.zero_add, Nat.add_zero, Nat.reduceAdd, Nat.reduceLeDiff, V.one, V.cells, asI_int, List.length_cons, List.length_nil, Bool.and_true, decide_true, splice, List.take_succ_cons, List.take_zero, List.drop_zero, List.cons_append, List.nil_append, fill, repl, opd, boxc, W_call, d0, hh, hc, k1, ka, k2]
      refine Ev.bind hB ?_
      rintro ⟨_, g'⟩ ⟨rfl, F⟩
      dsimp only at F ⊢
      have hc' := F.get ok hc (by simp)
      simp only [Option.bind_some, ldNB_cells, Nat.zero_add, Nat.reduceAdd, Nat.reduceLeDiff, V.beq, V.beqs, ckB_some, List.length_cons, List.length_nil, Bool.and_self, decide_true, List.take_succ_cons, List.take_zero, List.drop_zero, hc', hN, wi]
      exact nocase fdef g' F
  | false =>
    rw [k1, Bool.false_and, Bool.false_or] at fdef
    cases k2 : decide (kd = 2) with
    | true =>
      rw [k2, Bool.true_and] at fdef
      cases i0 : decide (i = 0) with
      | true =>
        rw [i0, Bool.true_or] at fdef
        rw [i0] at e0
        simp only [S.withyref13_Names_c1_S, ptrAt_ptr, Option.bind_some, ld1_get', ldN_get', ldB_cells, ldNB_cells, List.getElem?_cons_zero, List.getElem?_cons_succ, Nat.zero_add, Nat.add_zero, Nat.reduceAdd, Nat.reduceLeDiff, V.one, V.cells, asI_int, List.length_cons, List.length_nil, Bool.and_true, decide_true, splice, List.take_succ_cons, List.take_zero, List.drop_zero, List.cons_append, List.nil_append, fill, repl, opd, boxc, W_call, d0, hh, hc, k1, k2, e0]
        refine Ev.bind hB ?_
        rintro ⟨_, g'⟩ ⟨rfl, F⟩
        dsimp only at F ⊢
        have hc' := F.get ok hc (by simp)
        have := hfin fdef g' F
        simp only [Option.bind_some, asI_int] at this
        simp only [Option.bind_some, ldNB_cells, Nat.zero_add, Nat.reduceAdd, Nat.reduceLeDiff, V.beq, V.beqs, ckB_some, asI_int, List.length_cons, List.length_nil, Nat.beq_refl, Bool.and_self, decide_true, List.take_succ_cons, List.take_zero, List.drop_succ_cons, List.drop_zero, List.cons_append, List.nil_append, hc', hN, wi]
        exact this
      | false =>
        rw [i0, Bool.false_or] at fdef
        rw [i0] at e0
        simp only [S.withyref13_Names_c1_S, ptrAt_ptr, Option.bind_some, ld1_get', ldN_get', ldB_cells, ldNB_cells, List.getElem?_cons_zero, List.getElem?_cons_succ, Nat.zero_add, Nat.add_zero, Nat.reduceAdd, Nat.reduceLeDiff, V.one, V.cells, asI_int, List.length_cons, List.length_nil, Bool.and_true, decide_true, splice, List.take_succ_cons, List.take_zero, List.drop_zero, List.cons_append, List.nil_append, fill, repl, opd, boxc, W_call, d0, hh, hc, k1, k2, e0]
        refine Ev.bind hB ?_
        rintro ⟨_, g'⟩ ⟨rfl, F⟩
        dsimp only at F ⊢
        have hc' := F.get ok hc (by simp)
        cases i2 : decide (i = 2) with
        | true =>
          rw [i2] at fdef e2
          have := hfin fdef g' F
          simp only [Option.bind_some, asI_int] at this
          simp only [Option.bind_some, ldNB_cells, Nat.zero_add, Nat.reduceAdd, Nat.reduceLeDiff, V.beq, V.beqs, ckB_some, asI_int, List.length_cons, List.length_nil, Nat.beq_refl, Bool.and_self, decide_true, List.take_succ_cons, List.take_zero, List.drop_succ_cons, List.drop_zero, List.cons_append, List.nil_append, hc', hN, e2, wi]
          exact this
        | false =>
          rw [i2] at fdef e2
          simp only [Option.bind_some, ldNB_cells, Nat.zero_add, Nat.reduceAdd, Nat.reduceLeDiff, V.beq, V.beqs, ckB_some, List.length_cons, List.length_nil, Bool.and_self, decide_true, List.take_succ_cons, List.take_zero, List.drop_zero, hc', hN, e2, wi]
          exact nocase fdef g' F
    | false =>
      rw [k2, Bool.false_and] at fdef
      simp only [S.withyref13_Names_c1_S, ptrAt_ptr, Option.bind_some, ld1_get', ldN_get', ldB_cells, ldNB_cells, List.getElem?_cons_zero, List.getElem?_cons_succ, Nat.zero_add, Nat.add_zero, Nat.reduceAdd, Nat.reduceLeDiff, V.one, V.cells, asI_int, List.length_cons, List.length_nil, Bool.and_true, decide_true, splice, List.take_succ_cons, List.take_zero, List.drop_zero, List.cons_append, List.nil_append, fill, repl, opd, boxc, W_call, d0, hh, hc, k1, k2]
      refine Ev.bind hB ?_
      rintro ⟨_, g'⟩ ⟨rfl, F⟩
      dsimp only at F ⊢
      have hc' := F.get ok hc (by simp)
      simp only [Option.bind_some, ldNB_cells, Nat.zero_add, Nat.reduceAdd, Nat.reduceLeDiff, V.beq, V.beqs, ckB_some, List.length_cons, List.length_nil, Bool.and_self, decide_true, List.take_succ_cons, List.take_zero, List.drop_zero, hc', hN, wi]
      exact nocase fdef g' F

theorem rf_names {k : Cfg} (hr : k.R = true) {h : H} (ok : h.ok) {b : Nat} {c : Cap} {f : Wd → Int} (Z : WordsAt k h b f) {q : Nat} (hq : q < k.S) :
    Ev (C 324 [k.v, .sl b 0 k.size c, .int .i64 (q : Int)] h) fun r => Fr [] h r.2 ∧ GI r.2.get r.1 (namesL k f q) ∧ ∀ b ∈ r.1.blk, h.next ≤ b := by
  refine call_ev (af := F.withyref13_Names) (by kernel_rfl) rfl ?_
  have hv : k.v = .agg [.int .i64 k.s, .int .i64 k.a, .int .i64 k.c, .int .i64 k.hd, .int .i64 k.g, .int .i64 k.st] := rfl
  rw [hv, S.withyref13_Names_eq]
  have F0 : Fr [] h (h.new (.cells [.int .i64 k.s, .int .i64 k.a, .int .i64 k.c, .int .i64 k.hd, .int .i64 k.g, .int .i64 k.st] .rw)) := (Fr.refl ok).new _
  have hA := refAt13 hr (l := .header q) hq F0.ok (c := c) (Z.fr ok F0 (by simp))
  have hA' : Ev (C 322 [.agg [.int .i64 k.s, .int .i64 k.a, .int .i64 k.c, .int .i64 k.hd, .int .i64 k.g, .int .i64 k.st], .sl b 0 k.size c, .str ⟨⟨[104, 101, 97, 100, 101, 114]⟩⟩, .int .i64 (q : Int), .int .i64 0] (h.new (.cells [.int .i64 k.s, .int .i64 k.a, .int .i64 k.c, .int .i64 k.hd, .int .i64 k.g, .int .i64 k.st] .rw))) fun r => r.1 = .int .u64 (f (.header q)) ∧ Fr [] _ r.2 := hA
  have hUn := fun h => refUnp_spec (Z.u64 (.header q) hq) h
  have hcs : (unp (f (.header q))).cs = [.int .i64 (unp (f (.header q))).kind, .int .i64 (unp (f (.header q))).mark, .bool (unp (f (.header q))).gray, .int .i64 (unp (f (.header q))).arity, .int .i64 (unp (f (.header q))).gen, .int .i64 (unp (f (.header q))).stamp] := rfl
  rw [hcs] at hUn
  simp only [S.withyref13_Names, Option.bind_some, ldN_get', st_get', get_new', ldNB_cells, stB_cells, Nat.zero_add, Nat.reduceAdd, Nat.reduceLeDiff, V.cells, List.length_cons, List.length_nil, Bool.false_or, decide_true, decide_false, if_true, splice, List.take_succ_cons, List.take_zero, List.drop_zero, List.nil_append, reduceCtorEq, W_call]
  refine Ev.bind hA' ?_
  rintro ⟨_, g1⟩ ⟨rfl, F1⟩
  dsimp only at F1 ⊢
  simp only [Option.bind_some, Option.map_some, List.getElem?_cons_zero, List.getElem?_cons_succ, Nat.zero_add, Nat.reduceAdd, Nat.reduceLeDiff, V.one, List.length_cons, List.length_nil, Nat.beq_refl, List.all_cons, List.all_nil, Bool.not_true, Bool.or_self, Bool.and_self, decide_true, List.drop_succ_cons, List.drop_zero, List.cons_append, List.nil_append, hUn]
  have hc1 := F1.get F0.ok (get_new_self _ _) (by simp)
  have ok1 := F1.ok
  have F2 : Fr [] g1 ((g1.new (.cells [.int .i64 0, .int .i64 0, .bool false, .int .i64 0, .int .i64 0, .int .i64 0] .rw)).put g1.next (some (.cells [.int .i64 (unp (f (.header q))).kind, .int .i64 (unp (f (.header q))).mark, .bool (unp (f (.header q))).gray, .int .i64 (unp (f (.header q))).arity, .int .i64 (unp (f (.header q))).gen, .int .i64 (unp (f (.header q))).stamp] .rw))) := ((Fr.refl ok1).new _).put (.inr (Nat.le_refl _)) (Nat.lt_succ_self _) _
  have hh2 := get_put_self (g1.new (.cells [.int .i64 0, .int .i64 0, .bool false, .int .i64 0, .int .i64 0, .int .i64 0] .rw)) g1.next (some (.cells [.int .i64 (unp (f (.header q))).kind, .int .i64 (unp (f (.header q))).mark, .bool (unp (f (.header q))).gray, .int .i64 (unp (f (.header q))).arity, .int .i64 (unp (f (.header q))).gen, .int .i64 (unp (f (.header q))).stamp] .rw))
  have hc2 := F2.get ok1 hc1 (by simp)
  have F02 := (F0.trans' F1).trans' F2
  have hl1 : h.next < g1.next := Nat.lt_of_lt_of_le (Nat.lt_succ_self _) F1.le
  generalize ((g1.new (.cells [.int .i64 0, .int .i64 0, .bool false, .int .i64 0, .int .i64 0, .int .i64 0] .rw)).put g1.next _) = g2 at F2 hh2 hc2 F02
  have hl2 := F2.le
  refine loop_ev (α := Nat × V) (fun y => S.withyref13_Names_c1_E (.sl b 0 k.size c) (.int .i64 (q : Int)) (.ptr h.next 0) (.ptr g1.next 0) y.2 (.int .i64 (y.1 : Nat)))
    (fun y g => y.1 ≤ 15 ∧ Fr [] g2 g ∧ GI g.get y.2 (namesR k f q y.1) ∧ (∀ b ∈ y.2.blk, g2.next ≤ b)) (fun y _ => 15 - y.1)
    (fun r => ∃ x, r.1 = .exit 0 ∧ r.2.1 = S.withyref13_Names_c1_O x ∧ Fr [] g2 r.2.2 ∧ GI r.2.2.get x (namesL k f q) ∧ ∀ b ∈ x.blk, g2.next ≤ b)
    (0, .nilsl) rfl ⟨Nat.zero_le _, .refl F02.ok, Grown.nil _ _, by simp [V.blk]⟩ ?_ ?_
  rotate_left
  · rintro ⟨_, _, g⟩ ⟨x, rfl, rfl, F, G, hx⟩
    show Ev (S.withyref13_Names_K2 W (.exit 0) _ g) _
    rw [S.withyref13_Names_c1_e0_eq]
    exact Ev.some ⟨F02.trans' F, G, fun b hb => Nat.le_trans F02.le (hx b hb)⟩
  rintro ⟨i, y⟩ g ⟨hi, F, G, hy⟩
  dsimp only at hi G hy ⊢
  rw [S.withyref13_Names_c1_eq]
  by_cases h15 : i < 15
  rotate_left
  · have he : i = 15 := by omega
    subst he
    have d0 : decide (((15 : Nat) : Int) < 15) = false := rfl
    simp only [S.withyref13_Names_c1_S, d0]
    exact Ev.some (.inr ⟨by simp, y, rfl, rfl, F, by rw [← names15 hr]; exact G, hy⟩)
  have hc3 := F.get F02.ok hc2 (by simp)
  have hh3 := F.get F02.ok hh2 (by simp)
  have Zg := Z.fr ok (F02.trans' F) (by simp)
  have hlen : (namesR k f q i).length ≤ 1000 := by
    refine Nat.le_trans (List.length_filterMap_le _ _) ?_
    rw [List.length_range]; omega
  refine (nm_field hr F.ok Zg hq hc3 hh3 G hlen (fun b hb => Nat.ne_of_gt (Nat.lt_of_lt_of_le (Nat.lt_of_lt_of_le hl1 hl2) (hy b hb))) h15).mono ?_
  rintro ⟨_, _, g'⟩ ⟨rfl, y', rfl, F', G', hy'⟩
  refine .inl ⟨(i + 1, y'), rfl, rfl, ⟨h15, F.trans F' (fun b hb => .inr (hy b hb)), ?_, fun b hb => ?_⟩, Nat.sub_lt_sub_left h15 (Nat.lt_succ_self i)⟩
  · rw [namesR_succ]; exact G'
  · rcases hy' b hb with h1 | h1
    · exact hy b h1
    · exact Nat.le_trans F.le h1
end Wm
end

section
/- Scopes with one label: code that is gone through again from its label on. -/
namespace Wm
theorem scopeW_next {b : Nat → List V → H → Option (AX × List V × H)} {l j : Nat} {e e' : List V} {h h' : H} {r : AX × List V × H} (hb : b l e h = some (.goto j, e', h')) (hr : scopeW b (j + 1) e' h' = some r) : scopeW b l e h = some r := by
  obtain ⟨n, hn⟩ := of_lim hr
  refine scopeW_of (n := n + 1) ?_
  simp only [scopeN, hb]
  exact hn
theorem scopeW_out {b : Nat → List V → H → Option (AX × List V × H)} {l : Nat} {e : List V} {h : H} {x : AX} {e' : List V} {h' : H} (hb : b l e h = some (x, e', h')) (hx : ∀ j, x ≠ .goto j) : scopeW b l e h = some (x, e', h') := by
  refine scopeW_of (n := 1) ?_
  simp only [scopeN, hb]
  cases x with
  | goto j => exact absurd rfl (hx j)
  | _ => rfl
theorem scopeW_ev {α : Type} {b : Nat → List V → H → Option (AX × List V × H)} {l : Nat} (enc : α → List V) (I : α → H → Prop) (μ : α → H → Nat) {Q : AX × List V × H → Prop}
    (step : ∀ a h, I a h → Ev (b (l + 1) (enc a) h) fun r => (∃ a', r.1 = .goto l ∧ r.2.1 = enc a' ∧ I a' r.2.2 ∧ μ a' r.2.2 < μ a h) ∨ ((∀ j, r.1 ≠ .goto j) ∧ Q r)) :
    ∀ (a : α) (h : H), I a h → Ev (scopeW b (l + 1) (enc a) h) Q := by
  have key : ∀ (n : Nat) (a : α) (h : H), μ a h = n → I a h → Ev (scopeW b (l + 1) (enc a) h) Q := by
    intro n
    induction n using Nat.strongRecOn with
    | ind n ih =>
      intro a h hn hI
      obtain ⟨⟨x, e', h'⟩, hb, hr⟩ := step a h hI
      rcases hr with ⟨a', hx, he, hI', hlt⟩ | ⟨hx, hQ⟩
      · simp only at hx he hI' hlt
        subst hx; subst he
        obtain ⟨r, hl, hq⟩ := ih _ (by omega) a' h' rfl hI'
        exact ⟨r, scopeW_next hb hl, hq⟩
      · exact ⟨_, scopeW_out hb hx, hQ⟩
  exact fun a h hI => key _ a h rfl hI
theorem scope_ev {α : Type} {call : Nat → List V → H → Option (V × H)} {meth : Nat → Nat → Option Nat} {b : Nat → List V → H → Option (AX × List V × H)} {R : Type} {k : AX × List V × H → Option R} {Q : R → Prop} {e : List V} {h : H} {l : Nat} (enc : α → List V) (I : α → H → Prop) (μ : α → H → Nat) (P : AX × List V × H → Prop)
    (start : Ev (b 0 e h) fun r => (∃ a', r.1 = .goto l ∧ r.2.1 = enc a' ∧ I a' r.2.2) ∨ ((∀ j, r.1 ≠ .goto j) ∧ P r))
    (step : ∀ a h, I a h → Ev (b (l + 1) (enc a) h) fun r => (∃ a', r.1 = .goto l ∧ r.2.1 = enc a' ∧ I a' r.2.2 ∧ μ a' r.2.2 < μ a h) ∨ ((∀ j, r.1 ≠ .goto j) ∧ P r)) (out : ∀ r, P r → Ev (k r) Q) : Ev (((envW meth call).scope b 0 e h).bind k) Q := by
  refine Ev.bind (Q := P) ?_ out
  obtain ⟨⟨x, e', h'⟩, hb, hr⟩ := start
  rcases hr with ⟨a', hx, he, hI⟩ | ⟨hx, hP⟩
  · simp only at hx he hI
    subst hx; subst he
    obtain ⟨r, hl, hq⟩ := scopeW_ev enc I μ step a' h' hI
    exact ⟨r, scopeW_next hb hl, hq⟩
  · exact ⟨_, scopeW_out hb hx, hP⟩
end Wm
end

section
/- Fields' machines of any arguments: is there one? And the steps of none. -/
namespace Wm
attribute [local congr] bind_congr1
attribute [local irreducible] wr

def wordB (k : Cfg) (q i : Int) : Bool := k.R && (decide (0 ≤ q) && (decide (q < k.s) && (decide (0 ≤ i) && decide (i < if k.a < 3 then 3 else k.a))))

theorem wordB_iff {k : Cfg} {q i : Int} : wordB k q i = true ↔ k.R = true ∧ 0 ≤ q ∧ q < k.s ∧ 0 ≤ i ∧ i < (if k.a < 3 then 3 else k.a) := by
  unfold wordB; simp only [Bool.and_eq_true, decide_eq_true_eq]

theorem nn_slots {c hd q r : Int} (hc : 0 ≤ c) (hh : 0 ≤ hd) (hq : 0 ≤ q) (hr : 0 ≤ r) : 0 ≤ slotsT c hd + q * r := by
  have q3 := Int.mul_nonneg hc (show 0 ≤ 1 + hd + 2 by omega)
  have q4 := Int.mul_nonneg hq hr
  unfold slotsT
  omega

theorem within_neg (s a c hd g st q j : Int) : withinT s a c hd g st q j < 0 ↔ ¬(cfgR s a c hd g st = true ∧ (0 ≤ q ∧ q ≤ s - 1) ∧ 0 ≤ j ∧ j ≤ roomT a - 1) := by
  unfold withinT
  constructor
  · intro h p
    rw [if_pos p] at h
    obtain ⟨_, _, ⟨c1, c2⟩, ⟨d1, d2⟩, _⟩ := cfgR_iff.mp p.1
    have := nn_slots (c := c) (hd := hd) (q := q) (r := roomT a) (by omega) (by omega) p.2.1.1 (by unfold roomT; omega)
    have := p.2.2.1
    omega
  · intro h
    rw [if_neg h]
    decide

theorem wr_two {i : Int} (h0 : 0 ≤ i) (h1 : i ≤ 8) : wr .i64 (2 + i) = 2 + i := wr64 (by omega) (by omega)

theorem body_any (k : Cfg) (q i : Int) : ∃ n : Int, (∀ h, C 305 [k.v, .int .i64 q, .int .i64 i] h = some (.int .i64 n, h)) ∧ (n < 0 ↔ wordB k q i = false) := by
  have hv : k.v = .agg [.int .i64 k.s, .int .i64 k.a, .int .i64 k.c, .int .i64 k.hd, .int .i64 k.g, .int .i64 k.st] := rfl
  by_cases h0 : i < 0
  · refine ⟨-1, fun h => ?_, ?_⟩
    · refine call_closed (af := F.plan_Body) (by kernel_rfl) rfl (by rfl) (by rfl) h ?_
      rw [hv, S.plan_Body_eq]
      simp only [S.plan_Body, Int.reduceNeg, decide_true, h0]
      exact Ev.some rfl
    · rw [← Bool.not_eq_true, wordB_iff]
      exact ⟨fun _ p => by have := p.2.2.2.1; omega, fun _ => by decide⟩
  · by_cases h8 : 8 < i
    · refine ⟨-1, fun h => ?_, ?_⟩
      · refine call_closed (af := F.plan_Body) (by kernel_rfl) rfl (by rfl) (by rfl) h ?_
        rw [hv, S.plan_Body_eq]
        simp only [S.plan_Body, Int.reduceNeg, decide_true, decide_false, h0, h8]
        exact Ev.some rfl
      · rw [← Bool.not_eq_true, wordB_iff]
        refine ⟨fun _ p => ?_, fun _ => by decide⟩
        obtain ⟨_, ⟨a1, a2⟩, _⟩ := cfgR_iff.mp (show cfgR k.s k.a k.c k.hd k.g k.st = true from p.1)
        have := p.2.2.2.2
        split at this <;> omega
    · refine ⟨withinT k.s k.a k.c k.hd k.g k.st q (2 + i), fun h => ?_, ?_⟩
      · refine call_closed (af := F.plan_Body) (by kernel_rfl) rfl (by rfl) (by rfl) h ?_
        have hw := fun h => within_spec k.s k.a k.c k.hd k.g k.st q (2 + i) h
        have e3 := wr_two (i := i) (by omega) (by omega)
        rw [hv, S.plan_Body_eq]
        simp only [S.plan_Body, Option.bind_some, ldN_get', get_new', ldNB_cells, Nat.zero_add, Nat.reduceAdd, Nat.reduceLeDiff, List.length_cons, List.length_nil, decide_true, decide_false, if_true, List.take_succ_cons, List.take_zero, List.drop_zero, W_call, h0, h8]
        rw [e3, show (V.agg [.int .i64 k.s, .int .i64 k.a, .int .i64 k.c, .int .i64 k.hd, .int .i64 k.g, .int .i64 k.st]) = cfgV k.s k.a k.c k.hd k.g k.st from rfl, hw]
        exact Ev.some rfl
      · rw [within_neg, ← Bool.not_eq_true, wordB_iff]
        have e : roomT k.a - 1 = 1 + (if k.a < 3 then 3 else k.a) := by unfold roomT; split <;> omega
        rw [e]
        refine not_congr ⟨fun p => ⟨p.1, p.2.1.1, by have := p.2.1.2; omega, by omega, by have := p.2.2.2; omega⟩, fun p => ⟨p.1, ⟨p.2.1, by have := p.2.2.1; omega⟩, by omega, by have := p.2.2.2.2; omega⟩⟩

end Wm
end

section
/- withy/mark.Found. -/
namespace Wm
attribute [local congr] bind_congr1
attribute [local irreducible] wr

theorem Fnd.find_m {k : Cfg} {f : Wd → Int} {e : Int} {s : Fnd} {q : Nat} (hq : q < k.S) : (s.find f e q).todo.length + nfN (s.find f e q).X k.S = s.todo.length + nfN s.X k.S := by
  unfold Fnd.find
  cases hX : s.X q with
  | true => simp
  | false =>
    simp only [Bool.false_eq_true, if_false]
    split
    · have := nfN_bupd hX k.S
      rw [if_pos hq] at this
      simp only [List.length_append, List.length_cons, List.length_nil]
      omega
    · rfl
theorem Fnd.finds_m {k : Cfg} {f : Wd → Int} {e : Int} : ∀ {l : List Nat} {s : Fnd}, (∀ q ∈ l, q < k.S) → (s.finds f e l).todo.length + nfN (s.finds f e l).X k.S = s.todo.length + nfN s.X k.S
  | [], _, _ => rfl
  | q :: l, s, h => by
    rw [← Fnd.find_m (s := s) (h q (by simp))]
    exact Fnd.finds_m (l := l) (s := s.find f e q) (fun x hx => h x (by simp [hx]))

/-- The function's closure. -/
def MFb.fn (B : MFb) : V := .fn 316 [.ptr B.cb 0, .ptr B.b8 0, .ptr B.b4 0, .ptr B.b5 0, .ptr B.b9 0]
/-- All that stands, in a heap that came of 'h'. -/
structure MFs (k : Cfg) (h g : H) (B : MFb) (f : Wd → Int) (e : Int) (s : Fnd) : Prop where
  fr : Fr [] h g
  at' : ∃ x, MFAt k g B f e s x ∧ ∀ c ∈ x.blk, h.next ≤ c
  small : s.todo.length + nfN s.X k.S ≤ 2 * k.S
structure MFn (h : H) (B : MFb) : Prop where
  qf : h.next ≤ B.qf
  b9 : h.next ≤ B.b9
theorem MFs.fr' {k : Cfg} {h g g' : H} {B : MFb} {f : Wd → Int} {e : Int} {s : Fnd} (M : MFs k h g B f e s) (F : Fr [] g g') : MFs k h g' B f e s := by
  obtain ⟨F0, ⟨x, Z, hx⟩, sm⟩ := M
  exact ⟨F0.trans' F, ⟨x, Z.fr F0.ok F (by simp) (by simp), hx⟩, sm⟩
theorem MFs.step {k : Cfg} {h g g' : H} {B : MFb} (N : MFn h B) {f : Wd → Int} {e : Int} {s' : Fnd} {x x' : V} (F0 : Fr [] h g) (hx : ∀ c ∈ x.blk, h.next ≤ c) (F : Fr (B.qf :: B.b9 :: x.blk) g g') (Z' : MFAt k g' B f e s' x') (hn : ∀ c ∈ x'.blk, c ∈ x.blk ∨ g.next ≤ c) (sm : s'.todo.length + nfN s'.X k.S ≤ 2 * k.S) : MFs k h g' B f e s' :=
  ⟨F0.trans F (fun b hb => by
    rcases List.mem_cons.mp hb with rfl | hb
    · exact .inr N.qf
    · rcases List.mem_cons.mp hb with rfl | hb
      · exact .inr N.b9
      · exact .inr (hx b hb)), ⟨x', Z', fun c hc => (hn c hc).elim (hx c) (fun h => Nat.le_trans F0.le h)⟩, sm⟩

def nodeL (k : Cfg) (f : Wd → Int) (t n : Nat) : List Nat := (List.range n).filterMap fun i => if i < k.room then fieldO k f t i else none
theorem nodeL_succ (k : Cfg) (f : Wd → Int) (t n : Nat) : nodeL k f t (n + 1) = nodeL k f t n ++ (if n < k.room then fieldO k f t n else none).toList := by
  unfold nodeL
  rw [List.range_succ, List.filterMap_append]
  congr 1
theorem nodeL_all (k : Cfg) (f : Wd → Int) (t n : Nat) : nodeL k f t n = (List.range (min n k.room)).filterMap (fieldO k f t) := by
  unfold nodeL
  rw [filterMap_cut _ (min n k.room) n (by omega) (fun i h1 h2 => by rw [if_neg (by omega)])]
  refine filterMap_same fun i hi => ?_
  have := List.mem_range.mp hi
  rw [if_pos (by omega)]

section
variable {k : Cfg} (hr : k.R = true) {h : H} {B : MFb} (N : MFn h B) {f : Wd → Int} {e : Int} (hE : U64 e)
include hr N hE
theorem mfs_find {g : H} {s : Fnd} (M : MFs k h g B f e s) {n : Int} {o : Option Nat} (hn : NumO k n o) :
    Ev (C 316 [.int .i64 n, .ptr B.cb 0, .ptr B.b8 0, .ptr B.b4 0, .ptr B.b5 0, .ptr B.b9 0] g) fun r => r.1 = .tup [] ∧ MFs k h r.2 B f e (s.finds f e o.toList) := by
  obtain ⟨F0, ⟨x, Z, hx⟩, sm⟩ := M
  have hb := (Cfg.bounds hr).1
  refine (mf_find hr F0.ok hE Z (by omega) hn).mono ?_
  rintro ⟨_, g'⟩ ⟨rfl, x', F, Z', hn'⟩
  refine ⟨rfl, MFs.step N F0 hx F Z' hn' ?_⟩
  rw [Fnd.finds_m (k := k)]
  · exact sm
  · intro q hq
    rcases hn with ⟨rfl, _⟩ | ⟨q', rfl, _, h⟩
    · cases hq
    · simp only [Option.toList_some, List.mem_singleton] at hq
      subst hq; exact h

/-- An entry. -/
theorem mf_entry {g : H} {s : Fnd} (M : MFs k h g B f e s) {w i : Nat} (hw : w < k.C) (hi : i < k.H) (x76 x77 : Int) :
    Ev (S.mark_Found_c8_S W (.ptr B.cb 0) (.ptr B.b4 0) (.ptr B.b7 0) (.ptr B.b8 0) (.ptr B.b9 0) B.fn (w : Nat) x76 x77 k.hd (i : Nat) g) fun r => r.1 = .normal ∧ r.2.1 = S.mark_Found_c8_E (.ptr B.cb 0) (.ptr B.b4 0) (.ptr B.b7 0) (.ptr B.b8 0) (.ptr B.b9 0) B.fn (.int .i64 (w : Nat)) (.int .i64 x76) (.int .i64 x77) (.int .i64 k.hd) (.int .i64 (i + 1 : Nat)) ∧ MFs k h r.2.2 B f e (s.finds f e (entryO k f w i).toList) := by
  have hv : k.v = .agg [.int .i64 k.s, .int .i64 k.a, .int .i64 k.c, .int .i64 k.hd, .int .i64 k.g, .int .i64 k.st] := rfl
  have hbd := (Cfg.bounds hr).2.2.2.1
  have hH : k.hd = (k.H : Int) := by have := Cfg.R_iff.mp hr; unfold Cfg.H; omega
  have d0 : decide ((i : Int) < k.hd) = true := decide_eq_true (by omega)
  have wi := gr_i (i := i) (by omega)
  clear hbd hH
  obtain ⟨x, Z, hx⟩ := M.at'
  have hwo : (Wd.entry w i).ok k := ⟨hw, hi⟩
  have hc := Z.cfg
  have hwb := Z.wb
  have hat := fun h => entry_at hr hw hi h
  rw [hv] at hat
  have hix := words_ix (b := B.bw) (c := B.cw) hwo
  have hld := Z.w.ld hwo
  have hu := Z.w.u64 _ hwo
  have hEP := fun h => entryParts_spec hu h
  have hF := mfs_find hr N hE M (minus_num (k := k) (w := f (.entry w i) % 4294967296) (by omega))
  obtain ⟨a, ha⟩ := hEP g
  unfold MFb.fn
  simp only [S.mark_Found_c8_S, Option.bind_some, ld1_get', ldN_get', ldB_cells, ldNB_cells, List.getElem?_cons_zero, List.getElem?_cons_succ, Nat.zero_add, Nat.reduceAdd, Nat.reduceLeDiff, V.one, V.beq, ckB_some, List.length_cons, List.length_nil, Nat.beq_refl, Bool.and_self, decide_true, List.take_succ_cons, List.take_zero, List.drop_zero, List.cons_append, List.nil_append, W_call, d0, hwb, hc, hat, hix, hld, ha, wi]
  refine Ev.bind hF ?_
  rintro ⟨_, g'⟩ ⟨rfl, M'⟩
  exact Ev.some ⟨rfl, rfl, M'⟩

/-- A start. -/
theorem mf_start {g : H} {s : Fnd} (M : MFs k h g B f e s) {w : Nat} (hw : w < k.C) (x76 : Int) :
    Ev (S.mark_Found_c8_e4 W (.ptr B.cb 0) (.ptr B.b4 0) (.ptr B.b7 0) (.ptr B.b8 0) (.ptr B.b9 0) B.fn (w : Nat) x76 (w : Nat) g) fun r => r.1 = .normal ∧ r.2.1 = S.mark_Found_c5_E (.ptr B.cb 0) (.ptr B.b4 0) (.ptr B.b7 0) (.ptr B.b8 0) (.ptr B.b9 0) B.fn (.int .i64 x76) (.int .i64 (w + 1 : Nat)) ∧ MFs k h r.2.2 B f e (s.finds f e (startO k f w).toList) := by
  have hv : k.v = .agg [.int .i64 k.s, .int .i64 k.a, .int .i64 k.c, .int .i64 k.hd, .int .i64 k.g, .int .i64 k.st] := rfl
  have hbd := (Cfg.bounds hr).2.2.1
  have wi := gr_i (i := w) (by omega)
  clear hbd
  obtain ⟨x, Z, hx⟩ := M.at'
  have hwo : (Wd.start w).ok k := hw
  have hc := Z.cfg
  have hwb := Z.wb
  have hat := fun h => start_at hr hw h
  rw [hv] at hat
  have hix := words_ix (b := B.bw) (c := B.cw) hwo
  have hld := Z.w.ld hwo
  have hu := Z.w.u64 _ hwo
  obtain ⟨cs, kk, e1, e2⟩ := Z.m
  have hNm := markNamed_spec hr hu e1 e2
  have hF := mfs_find hr N hE M (nmS_num k (f (.start w)))
  unfold MFb.fn
  simp only [S.mark_Found_c8_e4, Option.bind_some, ld1_get', ldN_get', ldB_cells, ldNB_cells, List.getElem?_cons_zero, Nat.zero_add, Nat.reduceAdd, Nat.reduceLeDiff, V.one, V.beq, ckB_some, List.length_cons, List.length_nil, Nat.beq_refl, Bool.and_self, decide_true, List.take_succ_cons, List.take_zero, List.drop_zero, List.cons_append, List.nil_append, W_call, hwb, hc, hat, hix, hld, hNm, wi]
  refine Ev.bind hF ?_
  rintro ⟨_, g'⟩ ⟨rfl, M'⟩
  exact Ev.some ⟨rfl, rfl, M'⟩

/-- A field of a node. -/
theorem mf_field {g : H} {s : Fnd} (M : MFs k h g B f e s) {t i : Nat} (ht : t < k.S) {ar : Int} (hi : (i : Int) < ar) (hi2 : i < 100) :
    Ev (S.mark_Found_c12_S W (.ptr B.cb 0) (.ptr B.b4 0) (.ptr B.b7 0) (.ptr B.b8 0) (.ptr B.b9 0) B.fn (t : Nat) ar (i : Nat) g) fun r => r.1 = .normal ∧ r.2.1 = S.mark_Found_c12_E (.ptr B.cb 0) (.ptr B.b4 0) (.ptr B.b7 0) (.ptr B.b8 0) (.ptr B.b9 0) B.fn (.int .i64 (t : Nat)) (.int .i64 ar) (.int .i64 (i + 1 : Nat)) ∧ MFs k h r.2.2 B f e (s.finds f e (if i < k.room then fieldO k f t i else none).toList) := by
  have hv : k.v = .agg [.int .i64 k.s, .int .i64 k.a, .int .i64 k.c, .int .i64 k.hd, .int .i64 k.g, .int .i64 k.st] := rfl
  have d0 : decide ((i : Int) < ar) = true := decide_eq_true hi
  have wi := gr_i (i := i) (by omega)
  obtain ⟨x, Z, hx⟩ := M.at'
  have hc := Z.cfg
  have hwb := Z.wb
  unfold MFb.fn
  by_cases hir : i < k.room
  · have hwo : (Wd.body t i).ok k := ⟨ht, hir⟩
    have hat := fun h => body_at hr ht hir h
    rw [hv] at hat
    have hix := words_ix (b := B.bw) (c := B.cw) hwo
    have hld := Z.w.ld hwo
    have hu := Z.w.u64 _ hwo
    obtain ⟨cs, kk, e1, e2⟩ := Z.m
    have hNm := markNamed_spec hr hu e1 e2
    have hF := mfs_find hr N hE M (nmS_num k (f (.body t i)))
    have d1 : decide ((0 : Int) ≤ (((Wd.body t i).pos k : Nat) : Int)) = true := decide_eq_true (Int.natCast_nonneg _)
    simp only [S.mark_Found_c12_S, Option.bind_some, ld1_get', ldN_get', ldB_cells, ldNB_cells, List.getElem?_cons_zero, Nat.zero_add, Nat.reduceAdd, Nat.reduceLeDiff, V.one, asI_int, List.length_cons, List.length_nil, decide_true, List.take_succ_cons, List.take_zero, List.drop_zero, List.cons_append, List.nil_append, W_call, d0, hwb, hc, hat, d1, hix, hld, hNm, wi]
    refine Ev.bind hF ?_
    rintro ⟨_, g'⟩ ⟨rfl, M'⟩
    rw [if_pos hir]
    exact Ev.some ⟨rfl, rfl, M'⟩
  · obtain ⟨n, hat, hn⟩ := body_any k (t : Int) (i : Int)
    rw [hv] at hat
    have d1 : decide ((0 : Int) ≤ n) = false := by
      refine decide_eq_false ?_
      have : n < 0 := hn.mpr (by
        rw [← Bool.not_eq_true, wordB_iff, room_int hr]
        intro p; omega)
      omega
    simp only [S.mark_Found_c12_S, Option.bind_some, ld1_get', ldN_get', ldNB_cells, Nat.zero_add, Nat.reduceAdd, Nat.reduceLeDiff, asI_int, List.length_cons, List.length_nil, decide_true, List.take_succ_cons, List.take_zero, List.drop_zero, List.cons_append, List.nil_append, W_call, d0, hc, hat, d1, wi]
    rw [if_neg hir]
    exact Ev.some ⟨rfl, rfl, M⟩

/-- All fields of a node. -/
theorem mf_node {g : H} {s : Fnd} (M : MFs k h g B f e s) {t : Nat} (ht : t < k.S) {ar : Nat} (ha : ar < 100) {R : Type} {kk : AX × List V × H → Option R} {Q : R → Prop}
    (out : ∀ g', MFs k h g' B f e (s.finds f e (nodeL k f t ar)) → Ev (kk (.exit 7, S.mark_Found_c12_O (.ptr B.cb 0) (.ptr B.b4 0) (.ptr B.b7 0) (.ptr B.b8 0) (.ptr B.b9 0) B.fn, g')) Q) :
    Ev ((W.loop (S.mark_Found_c12_B W) (S.mark_Found_c12_E (.ptr B.cb 0) (.ptr B.b4 0) (.ptr B.b7 0) (.ptr B.b8 0) (.ptr B.b9 0) B.fn (.int .i64 (t : Nat)) (.int .i64 (ar : Int)) (.int .i64 0)) g).bind kk) Q := by
  refine loop_ev (α := Nat) (fun i => S.mark_Found_c12_E (.ptr B.cb 0) (.ptr B.b4 0) (.ptr B.b7 0) (.ptr B.b8 0) (.ptr B.b9 0) B.fn (.int .i64 (t : Nat)) (.int .i64 (ar : Int)) (.int .i64 (i : Nat)))
    (fun i g' => i ≤ ar ∧ MFs k h g' B f e (s.finds f e (nodeL k f t i))) (fun i _ => ar - i)
    (fun r => r.1 = .exit 7 ∧ r.2.1 = S.mark_Found_c12_O (.ptr B.cb 0) (.ptr B.b4 0) (.ptr B.b7 0) (.ptr B.b8 0) (.ptr B.b9 0) B.fn ∧ MFs k h r.2.2 B f e (s.finds f e (nodeL k f t ar))) 0 rfl ⟨Nat.zero_le _, M⟩ ?_ ?_
  · rintro i g' ⟨hi, M'⟩
    rw [S.mark_Found_c12_eq]
    by_cases hia : i < ar
    · refine (mf_field hr N hE M' ht (ar := (ar : Int)) (by omega) (by omega)).mono ?_
      rintro ⟨_, _, g2⟩ ⟨rfl, rfl, M2⟩
      refine .inl ⟨i + 1, rfl, rfl, ⟨hia, ?_⟩, Nat.sub_lt_sub_left hia (Nat.lt_succ_self i)⟩
      rw [nodeL_succ, Fnd.finds_app]; exact M2
    · have he : i = ar := by omega
      subst he
      have d0 : decide ((i : Int) < (i : Int)) = false := decide_eq_false (Int.lt_irrefl _)
      simp only [S.mark_Found_c12_S, d0]
      exact Ev.some (.inr ⟨by simp, rfl, rfl, M'⟩)
  · rintro ⟨_, _, g'⟩ ⟨rfl, rfl, M'⟩
    exact out g' M'

/-- The queue's first is gone through. -/
theorem mf_pop {g : H} {s : Fnd} (M : MFs k h g B f e s) (hlt : ∀ t ∈ s.todo, t < k.S) :
    Ev (S.mark_Found_c0_l0 W (.ptr B.cb 0) (.ptr B.b4 0) (.ptr B.b7 0) (.ptr B.b8 0) (.ptr B.b9 0) B.fn g) fun r => (r.1 = .ret ∧ s.todo = [] ∧ r.2.1 = S.mark_Found_c0_O (.sl B.qf 0 k.S (.ex k.S)) ∧ r.2.2 = g) ∨
      (∃ t rest, s.todo = t :: rest ∧ r.1 = .goto 0 ∧ r.2.1 = S.mark_Found_c0_E (.ptr B.cb 0) (.ptr B.b4 0) (.ptr B.b7 0) (.ptr B.b8 0) (.ptr B.b9 0) B.fn ∧ MFs k h r.2.2 B f e ((⟨s.X, rest⟩ : Fnd).finds f e (namesL k f t))) := by
  have hv : k.v = .agg [.int .i64 k.s, .int .i64 k.a, .int .i64 k.c, .int .i64 k.hd, .int .i64 k.g, .int .i64 k.st] := rfl
  obtain ⟨F0, ⟨x, Z, hx⟩, sm⟩ := M
  have ok := F0.ok
  have htb := Z.tb
  have hln := Z.q.len
  obtain ⟨X, todo⟩ := s
  cases todo with
  | nil =>
    obtain ⟨xb, xo, xn, xc, rfl⟩ := Z.q.sl
    have hfb := Z.fb
    have hn0 : xn = 0 := by cases hln; rfl
    subst hn0
    simp only [S.mark_Found_c0_l0, lenSl_sl, Option.bind_some, ld1_get', ldN_get', st_get', get_new', ldB_cells, stB_cells, List.getElem?_cons_zero, Nat.zero_add, Nat.reduceAdd, V.one, V.cells, List.length_cons, List.length_nil, Bool.false_or, decide_true, decide_false, if_true, splice, List.take_zero, List.cons_append, List.nil_append, reduceCtorEq, W_call, htb, hfb, Int.cast_ofNat_Int, decide_true]
    exact Ev.some (.inl ⟨rfl, trivial, rfl, rfl⟩)
  | cons t rest =>
    have ht : t < k.S := hlt t (by simp)
    have d0 : decide ((((t :: rest).length : Nat) : Int) = 0) = false := decide_eq_false (by simp only [List.length_cons]; omega)
    obtain ⟨b, o, x', ix, il, isl, Q', hblk⟩ := Que.pop Z.q
    obtain ⟨Z1, F1⟩ := Z.setQ ok (.refl ok) Q' (fun c hc => .inl (hblk ▸ hc))
    have M1 : MFs k h (g.put B.b9 (some (.cells [x'] .rw))) B f e ⟨X, rest⟩ := MFs.step N F0 hx (F1.mono (fun c hc => .inl (List.mem_cons_of_mem _ hc))) Z1 (fun c hc => .inl (hblk ▸ hc)) (by simp only [List.length_cons] at sm ⊢; omega)
    obtain ⟨xb, xo, xn, xc, rfl⟩ := Z.q.sl
    obtain ⟨yb, yo, yn, yc, rfl⟩ := Q'.sl
    have hwo : (Wd.header t).ok k := ht
    have hat := fun h => header_at hr ht h
    rw [hv] at hat
    have hix := words_ix (b := B.bw) (c := B.cw) hwo
    have hUn := fun h => unpack_spec (Z.w.u64 _ hwo) h
    have hcs : (unp (f (.header t))).cs = [.int .i64 (unp (f (.header t))).kind, .int .i64 (unp (f (.header t))).mark, .bool (unp (f (.header t))).gray, .int .i64 (unp (f (.header t))).arity, .int .i64 (unp (f (.header t))).gen, .int .i64 (unp (f (.header t))).stamp] := rfl
    rw [hcs] at hUn
    have hln' : some xn = some (t :: rest).length := hln
    have hxn : xn = (t :: rest).length := by cases hln'; rfl
    rw [← hxn] at d0
    have ok1 := M1.fr.ok
    have n4 : B.b4 ≠ B.b9 := fun q => Z.n2 (by rw [← q]; simp [MFb.fix])
    have ncb : B.cb ≠ B.b9 := fun q => Z.n2 (by rw [← q]; simp [MFb.fix])
    have nbw : B.bw ≠ B.b9 := fun q => Z.n2 (by rw [← q]; simp [MFb.fix])
    have hwb := Z.wb
    have hc := Z.cfg
    have hld := Z.w.ld hwo
    have nb4 : B.b4 ≠ g.next := ok.ne0 hwb
    have ncc : B.cb ≠ g.next := ok.ne0 hc
    simp only [S.mark_Found_c0_l0, lenSl_sl, Option.bind_some, Option.map_some, ld1_get', ldN_get', st_get', get_put', get_new', ldB_cells, ldNB_cells, stB_cells, H.next_put, List.getElem?_cons_zero, List.getElem?_cons_succ, Nat.zero_add, Nat.reduceAdd, Nat.reduceLeDiff, V.one, V.cells, V.beq, ckB_some, asI_int, List.length_cons, List.length_nil, Nat.beq_refl, List.all_cons, List.all_nil, Bool.not_true, Bool.false_or, Bool.or_self, Bool.and_self, decide_true, decide_false, if_true, if_false, splice, List.take_succ_cons, List.take_zero, List.drop_succ_cons, List.drop_zero, List.cons_append, List.nil_append, reduceCtorEq, W_call, nb4, ncc, htb, d0, ix, il, isl, n4, ncb, nbw, hwb, hc, hat, hix, hld, hUn]
    have F2 : Fr [] (g.put B.b9 (some (.cells [.sl yb yo yn yc] .rw))) (((g.put B.b9 (some (.cells [.sl yb yo yn yc] .rw))).new (.cells [.int .i64 0, .int .i64 0, .bool false, .int .i64 0, .int .i64 0, .int .i64 0] .rw)).put g.next (some (.cells [.int .i64 (unp (f (.header t))).kind, .int .i64 (unp (f (.header t))).mark, .bool (unp (f (.header t))).gray, .int .i64 (unp (f (.header t))).arity, .int .i64 (unp (f (.header t))).gen, .int .i64 (unp (f (.header t))).stamp] .rw))) := ((Fr.refl ok1).new _).put (.inr (Nat.le_refl _)) (Nat.lt_succ_self _) _
    have M2 := M1.fr' F2
    have hR := (right_iff _).mp (unp_right (f (.header t)))
    generalize ((g.put B.b9 (some (.cells [.sl yb yo yn yc] .rw))).new (.cells [.int .i64 0, .int .i64 0, .bool false, .int .i64 0, .int .i64 0, .int .i64 0] .rw)).put g.next _ = g2 at M2 ⊢
    clear F2 hUn M1 Z1 F1
    have hnl : namesL k f t = (fieldsL k f t).filterMap (fieldO k f t) := rfl
    cases k1 : decide ((unp (f (.header t))).kind = 1) with
    | true =>
      simp only []
      obtain ⟨ar, har⟩ : ∃ ar : Nat, (unp (f (.header t))).arity = (ar : Int) := ⟨(unp (f (.header t))).arity.toNat, by omega⟩
      have hnm : nodeL k f t ar = namesL k f t := by
        rw [nodeL_all, hnl]
        unfold fieldsL
        rw [if_pos (of_decide_eq_true k1), har, Int.toNat_natCast]
      rw [har]
      refine mf_node hr N hE M2 ht (ar := ar) (by omega) ?_
      intro g' M'
      rw [hnm] at M'
      show Ev (S.mark_Found_K16 W (.exit 7) _ g') _
      rw [S.mark_Found_c12_e7_eq]
      exact Ev.some (.inr ⟨t, rest, rfl, rfl, rfl, M'⟩)
    | false =>
      cases k2 : decide ((unp (f (.header t))).kind = 2) with
      | true =>
        have hb3 := (Cfg.bounds hr).2.1
        have hnm : namesL k f t = (fieldO k f t 0).toList ++ (fieldO k f t 2).toList := by
          rw [hnl]
          unfold fieldsL
          rw [if_neg (of_decide_eq_false k1), if_pos (of_decide_eq_true k2)]
          cases h0 : fieldO k f t 0 <;> cases h2 : fieldO k f t 2 <;> simp [h0, h2]
        have r0 : 0 < k.room := by omega
        have r2 : 2 < k.room := by omega
        have hw0 : (Wd.body t 0).ok k := ⟨ht, r0⟩
        have hw2 : (Wd.body t 2).ok k := ⟨ht, r2⟩
        have hat0 : ∀ h, C 305 [.agg [.int .i64 k.s, .int .i64 k.a, .int .i64 k.c, .int .i64 k.hd, .int .i64 k.g, .int .i64 k.st], .int .i64 (t : Int), .int .i64 0] h = some (.int .i64 ((Wd.body t 0).pos k : Nat), h) := fun h => body_at hr ht r0 h
        have hat2 : ∀ h, C 305 [.agg [.int .i64 k.s, .int .i64 k.a, .int .i64 k.c, .int .i64 k.hd, .int .i64 k.g, .int .i64 k.st], .int .i64 (t : Int), .int .i64 2] h = some (.int .i64 ((Wd.body t 2).pos k : Nat), h) := fun h => body_at hr ht r2 h
        have ix0 := words_ix (b := B.bw) (c := B.cw) hw0
        have ix2 := words_ix (b := B.bw) (c := B.cw) hw2
        obtain ⟨x2, Z2, hx2⟩ := M2.at'
        have hwb2 := Z2.wb
        have hc2 := Z2.cfg
        have ld0 := Z2.w.ld hw0
        obtain ⟨cs, kk, e1, e2⟩ := Z2.m
        have hNm := markNamed_spec hr (Z2.w.u64 _ hw0) e1 e2
        have hF := mfs_find hr N hE M2 (nmS_num k (f (.body t 0)))
        unfold MFb.fn
        simp only [Option.bind_some, ld1_get', ldB_cells, List.getElem?_cons_zero, V.one, V.beq, ckB_some, Nat.beq_refl, Bool.and_self, decide_true, hwb2, hat0, ix0, ld0, hNm]
        refine Ev.bind hF ?_
        rintro ⟨_, g3⟩ ⟨rfl, M3⟩
        dsimp only at M3 ⊢
        obtain ⟨x3, Z3, hx3⟩ := M3.at'
        have hwb3 := Z3.wb
        have hc3 := Z3.cfg
        have ld2 := Z3.w.ld hw2
        obtain ⟨cs3, kk3, e13, e23⟩ := Z3.m
        have hNm3 := markNamed_spec hr (Z3.w.u64 _ hw2) e13 e23
        have hF3 := mfs_find hr N hE M3 (nmS_num k (f (.body t 2)))
        simp only [Option.bind_some, ld1_get', ldB_cells, ldNB_cells, List.getElem?_cons_zero, Nat.zero_add, Nat.reduceAdd, Nat.reduceLeDiff, V.one, V.beq, ckB_some, List.length_cons, List.length_nil, Nat.beq_refl, Bool.and_self, decide_true, List.take_succ_cons, List.take_zero, List.drop_zero, hwb3, hc3, hat2, ix2, ld2, hNm3]
        refine Ev.bind hF3 ?_
        rintro ⟨_, g4⟩ ⟨rfl, M4⟩
        rw [← Fnd.finds_app] at M4
        exact Ev.some (.inr ⟨t, rest, rfl, rfl, rfl, by rw [hnm]; exact M4⟩)
      | false =>
        have hnm : namesL k f t = [] := by
          rw [hnl]
          unfold fieldsL
          rw [if_neg (of_decide_eq_false k1), if_neg (of_decide_eq_false k2)]
          rfl
        simp only []
        exact Ev.some (.inr ⟨t, rest, rfl, rfl, rfl, by rw [hnm]; exact M2⟩)

/-- A slot, at the beginning. -/
theorem mf_first {g : H} {i : Nat} (hi : i < k.S) (M : MFs k h g B f e (fnd0 k f e i)) :
    Ev (S.mark_Found_c3_S W (.ptr B.cb 0) (.ptr B.b4 0) (.ptr B.b5 0) (.ptr B.b7 0) (.ptr B.b8 0) (.ptr B.b9 0) B.fn k.s (i : Nat) g) fun r => r.1 = .normal ∧ r.2.1 = S.mark_Found_c3_E (.ptr B.cb 0) (.ptr B.b4 0) (.ptr B.b5 0) (.ptr B.b7 0) (.ptr B.b8 0) (.ptr B.b9 0) B.fn (.int .i64 k.s) (.int .i64 (i + 1 : Nat)) ∧ MFs k h r.2.2 B f e (fnd0 k f e (i + 1)) := by
  have hv : k.v = .agg [.int .i64 k.s, .int .i64 k.a, .int .i64 k.c, .int .i64 k.hd, .int .i64 k.g, .int .i64 k.st] := rfl
  have hbd := (Cfg.bounds hr).1
  have hks : k.s = (k.S : Int) := by have := Cfg.R_iff.mp hr; unfold Cfg.S; omega
  have d0 : decide ((i : Int) < k.s) = true := decide_eq_true (by omega)
  have wi := gr_i (i := i) (by omega)
  obtain ⟨F0, ⟨x, Z, hx⟩, sm⟩ := M
  have ok := F0.ok
  have htd : (fnd0 k f e i).todo.length ≤ 1000 := Nat.le_trans (Nat.le_trans (List.length_filter_le _ _) (by simp : (List.range i).length ≤ i)) (by omega)
  have hs1 := fnd0_succ k f e i
  have sm' : (fnd0 k f e (i + 1)).todo.length + nfN (fnd0 k f e (i + 1)).X k.S ≤ 2 * k.S := by
    have h1 : (fnd0 k f e (i + 1)).todo.length ≤ i + 1 := Nat.le_trans (List.length_filter_le _ _) (by simp)
    have h2 := nfN_le (fnd0 k f e (i + 1)).X k.S
    omega
  clear hbd hks
  have hwo : (Wd.header i).ok k := hi
  have hc := Z.cfg
  have hwb := Z.wb
  have hat := fun h => header_at hr hi h
  rw [hv] at hat
  have hix := words_ix (b := B.bw) (c := B.cw) hwo
  have hld := Z.w.ld hwo
  have hu := Z.w.u64 _ hwo
  have hUn := fun h => unpack_spec hu h
  have hMk := fun h => marked_spec hu hE h
  have hmk : (lives (f (.header i)) && decide ((unp (f (.header i))).mark = black e)) = mkd f e i := rfl
  rw [hmk] at hMk
  have hcs : (unp (f (.header i))).cs = [.int .i64 (unp (f (.header i))).kind, .int .i64 (unp (f (.header i))).mark, .bool (unp (f (.header i))).gray, .int .i64 (unp (f (.header i))).arity, .int .i64 (unp (f (.header i))).gen, .int .i64 (unp (f (.header i))).stamp] := rfl
  rw [hcs] at hUn
  have F1 : Fr [] g ((g.new (.cells [.int .i64 0, .int .i64 0, .bool false, .int .i64 0, .int .i64 0, .int .i64 0] .rw)).put g.next (some (.cells [.int .i64 (unp (f (.header i))).kind, .int .i64 (unp (f (.header i))).mark, .bool (unp (f (.header i))).gray, .int .i64 (unp (f (.header i))).arity, .int .i64 (unp (f (.header i))).gen, .int .i64 (unp (f (.header i))).stamp] .rw))) := ((Fr.refl ok).new _).put (.inr (Nat.le_refl _)) (Nat.lt_succ_self _) _
  have hx1 : indexAV 1 (.sl B.qf 0 k.S (.ex k.S)) (.int .i64 (i : Int)) = some (.ptr B.qf i) := sl_idx1 hi
  have hfb := Z.fb
  have heb := Z.eb
  have ok1 := F1.ok
  have Z1 := Z.fr ok F1 (by simp) (by simp)
  have nq : B.qf ≠ g.next := ok.ne0 Z.tr
  have n8 : B.b8 ≠ g.next := ok.ne0 Z.fb
  have n5 : B.b5 ≠ g.next := ok.ne0 Z.eb
  have n9 : B.b9 ≠ g.next := ok.ne0 Z.tb
  have htb := Z.tb
  obtain ⟨xb, xo, xn, xc, rfl⟩ := Z.q.sl
  cases hg : gry f i with
  | false =>
    rw [hg] at hs1
    simp only [Bool.false_eq_true, if_false, List.append_nil] at hs1
    have hgr : (unp (f (.header i))).gray = false := hg
    have hst := Z.tr.stB hi (mkd f e i)
    have Z2 := Z1.setX ok1 (bset (fnd0 k f e i).X i (mkd f e i))
    have F2 : Fr (B.qf :: B.b9 :: (V.sl xb xo xn xc).blk) g _ := (F1.mono (by simp)).put (.inl (List.mem_cons_self ..)) (Nat.lt_of_lt_of_le (ok.lt Z.tr) F1.le) (some (.cells (bools (bF (bset (fnd0 k f e i).X i (mkd f e i)) k.S)) .rw))
    have M3 := MFs.step N F0 hx F2 (Z2.congr (s' := fnd0 k f e (i + 1)) (fun q _ => (hs1.2 q).symm) hs1.1.symm) (fun c hc => .inl hc) sm'
    cases ho : okT (f (.header i)) with
    | true =>
      rw [ho] at hUn
      rw [hgr] at hUn M3
      simp only [S.mark_Found_c3_S, Option.bind_some, Option.map_some, ld1_get', ldN_get', st_get', get_put', get_new', ldB_cells, ldNB_cells, stB_cells, H.next_new, H.next_put, List.getElem?_cons_zero, List.getElem?_cons_succ, Nat.zero_add, Nat.reduceAdd, Nat.reduceLeDiff, V.one, V.cells, V.beq, ckB_some, asB_bool, List.length_cons, List.length_nil, Nat.beq_refl, List.all_cons, List.all_nil, Bool.not_true, Bool.false_or, Bool.or_self, Bool.and_self, decide_true, decide_false, if_true, if_false, splice, List.take_succ_cons, List.take_zero, List.drop_succ_cons, List.drop_zero, List.cons_append, List.nil_append, reduceCtorEq, W_call, d0, hwb, hc, hat, hix, hld, hUn, hfb, heb, n8, n5, hMk, hx1, nq, hst, wi]
      exact Ev.some ⟨rfl, rfl, M3⟩
    | false =>
      rw [ho] at hUn
      simp only [S.mark_Found_c3_S, Option.bind_some, Option.map_some, ld1_get', ldN_get', st_get', get_put', get_new', ldB_cells, ldNB_cells, stB_cells, List.getElem?_cons_zero, List.getElem?_cons_succ, Nat.zero_add, Nat.reduceAdd, Nat.reduceLeDiff, V.one, V.cells, V.beq, ckB_some, List.length_cons, List.length_nil, Nat.beq_refl, List.all_cons, List.all_nil, Bool.not_true, Bool.false_or, Bool.or_self, Bool.and_self, decide_true, decide_false, if_true, if_false, splice, List.take_succ_cons, List.take_zero, List.drop_succ_cons, List.drop_zero, List.cons_append, List.nil_append, reduceCtorEq, W_call, d0, hwb, hc, hat, hix, hld, hUn, hfb, heb, n8, n5, hMk, hx1, nq, hst, wi]
      exact Ev.some ⟨rfl, rfl, M3⟩
  | true =>
    rw [hg] at hs1
    simp only [if_true] at hs1
    have hgr : (unp (f (.header i))).gray = true := hg
    have ho : okT (f (.header i)) = true := by
      cases ho : okT (f (.header i)) with
      | true => rfl
      | false => unfold unp at hgr; rw [ho] at hgr; cases hgr
    rw [ho, hgr] at hUn
    rw [hgr] at F1 Z1 ok1
    obtain ⟨x', g', ea, F2, Q2, hn2⟩ := Que.push ok1 Z1.q htd i
    obtain ⟨Z3, F3⟩ := Z1.setQ ok1 F2 Q2 (fun b hb => .inr (hn2 b hb))
    have htb2 := F2.get ok1 Z1.tb (fun q => Z.n4 _ q (by simp [MFb.all]))
    have hfb2 := F2.get ok1 Z1.fb (fun q => Z.n4 _ q (by simp [MFb.all, MFb.fix]))
    have heb2 := F2.get ok1 Z1.eb (fun q => Z.n4 _ q (by simp [MFb.all, MFb.fix]))
    have htr2 : TruAt g' B.qf _ k.S := F2.get ok1 Z1.tr (fun q => Z.n4 _ q (by simp [MFb.all]))
    have hst := htr2.stB hi (mkd f e i)
    have Z4 := Z3.setX F3.ok (bset (fnd0 k f e i).X i (mkd f e i))
    have n89 : B.b8 ≠ B.b9 := fun q => Z.n2 (by rw [← q]; simp [MFb.fix])
    have n59 : B.b5 ≠ B.b9 := fun q => Z.n2 (by rw [← q]; simp [MFb.fix])
    have nq9 := Z.n3
    have F34 : Fr (B.qf :: B.b9 :: (V.sl xb xo xn xc).blk) g _ := ((F1.mono (by simp)).trans (F3.mono (L' := B.qf :: B.b9 :: (V.sl xb xo xn xc).blk) (fun b hb => .inl (List.mem_cons_of_mem _ hb))) (fun b hb => .inl hb)).put (.inl (List.mem_cons_self ..)) (F3.ok.lt Z3.tr) (some (.cells (bools (bF (bset (fnd0 k f e i).X i (mkd f e i)) k.S)) .rw))
    have M3 := MFs.step N F0 hx F34 (Z4.congr (s' := fnd0 k f e (i + 1)) (fun q _ => (hs1.2 q).symm) hs1.1.symm) (fun c hc => .inr (Nat.le_trans F1.le (hn2 c hc))) sm'
    simp only [H.next_put, H.next_new] at ea
    obtain ⟨yb, yo, yn, yc, rfl⟩ := Q2.sl
    simp only [S.mark_Found_c3_S, Option.bind_some, Option.map_some, ld1_get', ldN_get', st_get', get_put', get_new', ldB_cells, ldNB_cells, stB_cells, H.next_new, H.next_put, List.getElem?_cons_zero, List.getElem?_cons_succ, Nat.zero_add, Nat.reduceAdd, Nat.reduceLeDiff, V.one, V.cells, V.beq, ckB_some, asB_bool, List.length_cons, List.length_nil, Nat.beq_refl, List.all_cons, List.all_nil, Bool.not_true, Bool.false_or, Bool.or_self, Bool.and_self, decide_true, decide_false, if_true, if_false, splice, List.take_succ_cons, List.take_zero, List.drop_succ_cons, List.drop_zero, List.cons_append, List.nil_append, reduceCtorEq, W_call, d0, hwb, hc, hat, hix, hld, hUn, n9, htb, ea, htb2, n89, n59, hfb2, heb2, hMk, hx1, nq9, hst, wi]
    exact Ev.some ⟨rfl, rfl, M3⟩
end
end Wm
end

section
/- What the document finds: withyref13.Roots. -/
namespace Wm
attribute [local congr] bind_congr1
attribute [local irreducible] wr

def entriesL (k : Cfg) (f : Wd → Int) (c n : Nat) : List Nat := (List.range n).filterMap (entryO k f c)
theorem entriesL_succ (k : Cfg) (f : Wd → Int) (c n : Nat) : entriesL k f c (n + 1) = entriesL k f c n ++ (entryO k f c n).toList := by
  unfold entriesL
  rw [List.range_succ, List.filterMap_append]
  congr 1
theorem entriesL_len (k : Cfg) (f : Wd → Int) (c n : Nat) : (entriesL k f c n).length ≤ n := by
  unfold entriesL
  refine Nat.le_trans (List.length_filterMap_le _ _) ?_
  rw [List.length_range]; exact Nat.le_refl _

section
variable {k : Cfg} (hr : k.R = true) {b cb : Nat} {c : Cap} {f : Wd → Int}
include hr
theorem rt_entry {g : H} (ok : g.ok) (Z : WordsAt k g b f) (hc : g.get cb = some (.cells [.int .i64 k.s, .int .i64 k.a, .int .i64 k.c, .int .i64 k.hd, .int .i64 k.g, .int .i64 k.st] .rw)) {w i : Nat} (hw : w < k.C) (hi : i < k.H) {y : V} {l : List Nat} (G : GI g.get y l) (hl : l.length ≤ 1000) :
    Ev (S.withyref13_Roots_c4_S W (.sl b 0 k.size c) (.ptr cb 0) y (w : Nat) (i : Nat) g) fun r => r.1 = .normal ∧ ∃ y', r.2.1 = S.withyref13_Roots_c4_E (.sl b 0 k.size c) (.ptr cb 0) y' (.int .i64 (w : Nat)) (.int .i64 (i + 1 : Nat)) ∧ Fr y.blk g r.2.2 ∧ GI r.2.2.get y' (l ++ (entryO k f w i).toList) ∧ ∀ b ∈ y'.blk, b ∈ y.blk ∨ g.next ≤ b := by
  have hv : k.v = .agg [.int .i64 k.s, .int .i64 k.a, .int .i64 k.c, .int .i64 k.hd, .int .i64 k.g, .int .i64 k.st] := rfl
  have hbd := (Cfg.bounds hr).2.2.2.1
  have hH : k.hd = (k.H : Int) := by have := Cfg.R_iff.mp hr; unfold Cfg.H; omega
  have d0 : decide ((i : Int) < k.hd) = true := decide_eq_true (by omega)
  have wi := gr_i (i := i) (by omega)
  have hwo : (Wd.entry w i).ok k := ⟨hw, hi⟩
  have hu := Z.u64 _ hwo
  have hA := refAt13 hr hwo ok (c := c) Z
  have hA' : Ev (C 322 [.agg [.int .i64 k.s, .int .i64 k.a, .int .i64 k.c, .int .i64 k.hd, .int .i64 k.g, .int .i64 k.st], .sl b 0 k.size c, .str ⟨⟨[101, 110, 116, 114, 121]⟩⟩, .int .i64 (w : Int), .int .i64 (i : Int)] g) fun r => r.1 = .int .u64 (f (.entry w i)) ∧ Fr [] g r.2 := hA
  have htm : Int.tmod (f (.entry w i)) 4294967296 = f (.entry w i) % 4294967296 := tm hu.1
  have hu2 : U64 (f (.entry w i) % 4294967296) := ⟨by omega, by omega⟩
  have hN := fun h => rf_named hr hu2 h
  rw [hv] at hN
  clear hbd
  simp only [S.withyref13_Roots_c4_S, ptrAt_ptr, Option.bind_some, ld1_get', ldN_get', ldB_cells, ldNB_cells, List.getElem?_cons_zero, List.getElem?_cons_succ, Nat.zero_add, Nat.reduceAdd, Nat.reduceLeDiff, V.one, V.cells, asI_int, List.length_cons, List.length_nil, Bool.and_true, decide_true, splice, List.take_succ_cons, List.take_zero, List.drop_zero, List.cons_append, List.nil_append, fill, repl, opd, boxc, W_call, hc, d0]
  refine Ev.bind hA' ?_
  rintro ⟨_, g'⟩ ⟨rfl, F⟩
  dsimp only at F ⊢
  have hc' := F.get ok hc (by simp)
  rcases Option.eq_none_or_eq_some (entryO k f w i) with hs | ⟨s, hs⟩
  · have hn := nmS_none (k := k) (w := f (.entry w i) % 4294967296) hs
    rw [hs]
    simp only [Option.bind_some, ldNB_cells, Nat.zero_add, Nat.reduceAdd, Nat.reduceLeDiff, Int.reduceLE, Int.reduceNeg, V.beq, V.beqs, ckB_some, asI_int, List.length_cons, List.length_nil, Bool.and_self, decide_true, decide_false, List.take_succ_cons, List.take_zero, List.drop_zero, hc', htm, hN, hn, wi]
    exact Ev.some ⟨rfl, y, rfl, F.mono (by simp), by rw [Option.toList_none, List.append_nil]; exact G.fr ok F (by simp), fun b hb => .inl hb⟩
  · have hn := nmS_some (k := k) (w := f (.entry w i) % 4294967296) hs
    obtain ⟨y', g2, e, F2, G2, hn2⟩ := GI.push F.ok (G.fr ok F (by simp)) (by omega) s
    have ds : decide ((0 : Int) ≤ (s : Int)) = true := decide_eq_true (Int.natCast_nonneg s)
    rw [hs]
    simp only [Option.bind_some, ldNB_cells, Nat.zero_add, Nat.reduceAdd, Nat.reduceLeDiff, V.beq, V.beqs, ckB_some, asI_int, List.length_cons, List.length_nil, Nat.beq_refl, Bool.and_self, decide_true, List.take_succ_cons, List.take_zero, List.drop_succ_cons, List.drop_zero, List.cons_append, List.nil_append, hc', htm, hN, hn, ds, e, wi]
    exact Ev.some ⟨rfl, y', rfl, (F.mono (by simp)).trans' F2, G2, fun b hb => .inr (Nat.le_trans F.le (hn2 b hb))⟩

theorem rt_start {g : H} (ok : g.ok) (Z : WordsAt k g b f) (hc : g.get cb = some (.cells [.int .i64 k.s, .int .i64 k.a, .int .i64 k.c, .int .i64 k.hd, .int .i64 k.g, .int .i64 k.st] .rw)) {w : Nat} (hw : w < k.C) {y : V} {l : List Nat} (G : GI g.get y l) (hl : l.length ≤ 1000) :
    Ev (S.withyref13_Roots_c4_e2 W (.sl b 0 k.size c) (.ptr cb 0) y (w : Nat) g) fun r => r.1 = .normal ∧ ∃ y', r.2.1 = S.withyref13_Roots_c1_E (.sl b 0 k.size c) (.ptr cb 0) y' (.int .i64 (w + 1 : Nat)) ∧ Fr y.blk g r.2.2 ∧ GI r.2.2.get y' (l ++ (startO k f w).toList) ∧ ∀ b ∈ y'.blk, b ∈ y.blk ∨ g.next ≤ b := by
  have hv : k.v = .agg [.int .i64 k.s, .int .i64 k.a, .int .i64 k.c, .int .i64 k.hd, .int .i64 k.g, .int .i64 k.st] := rfl
  have hbd := (Cfg.bounds hr).2.2.1
  have wi := gr_i (i := w) (by omega)
  have hwo : (Wd.start w).ok k := hw
  have hu := Z.u64 _ hwo
  have hA := refAt13 hr hwo ok (c := c) Z
  have hA' : Ev (C 322 [.agg [.int .i64 k.s, .int .i64 k.a, .int .i64 k.c, .int .i64 k.hd, .int .i64 k.g, .int .i64 k.st], .sl b 0 k.size c, .str ⟨⟨[115, 116, 97, 114, 116]⟩⟩, .int .i64 (w : Int), .int .i64 0] g) fun r => r.1 = .int .u64 (f (.start w)) ∧ Fr [] g r.2 := hA
  have hN := fun h => rf_named hr hu h
  rw [hv] at hN
  clear hbd
  simp only [S.withyref13_Roots_c4_e2, Option.bind_some, ldN_get', ldNB_cells, Nat.zero_add, Nat.reduceAdd, Nat.reduceLeDiff, V.cells, List.length_cons, List.length_nil, Bool.and_true, decide_true, splice, List.take_succ_cons, List.take_zero, List.drop_zero, List.cons_append, List.nil_append, fill, repl, opd, boxc, W_call, hc]
  refine Ev.bind hA' ?_
  rintro ⟨_, g'⟩ ⟨rfl, F⟩
  dsimp only at F ⊢
  have hc' := F.get ok hc (by simp)
  rcases Option.eq_none_or_eq_some (startO k f w) with hs | ⟨s, hs⟩
  · have hn := nmS_none (k := k) (w := f (.start w)) hs
    rw [hs]
    simp only [Option.bind_some, ldNB_cells, Nat.zero_add, Nat.reduceAdd, Nat.reduceLeDiff, Int.reduceLE, Int.reduceNeg, V.beq, V.beqs, ckB_some, asI_int, List.length_cons, List.length_nil, Bool.and_self, decide_true, decide_false, List.take_succ_cons, List.take_zero, List.drop_zero, hc', hN, hn, wi]
    exact Ev.some ⟨rfl, y, rfl, F.mono (by simp), by rw [Option.toList_none, List.append_nil]; exact G.fr ok F (by simp), fun b hb => .inl hb⟩
  · have hn := nmS_some (k := k) (w := f (.start w)) hs
    obtain ⟨y', g2, e, F2, G2, hn2⟩ := GI.push F.ok (G.fr ok F (by simp)) (by omega) s
    have ds : decide ((0 : Int) ≤ (s : Int)) = true := decide_eq_true (Int.natCast_nonneg s)
    rw [hs]
    simp only [Option.bind_some, ldNB_cells, Nat.zero_add, Nat.reduceAdd, Nat.reduceLeDiff, V.beq, V.beqs, ckB_some, asI_int, List.length_cons, List.length_nil, Nat.beq_refl, Bool.and_self, decide_true, List.take_succ_cons, List.take_zero, List.drop_succ_cons, List.drop_zero, List.cons_append, List.nil_append, hc', hN, hn, ds, e, wi]
    exact Ev.some ⟨rfl, y', rfl, (F.mono (by simp)).trans' F2, G2, fun b hb => .inr (Nat.le_trans F.le (hn2 b hb))⟩

theorem rf_roots {h : H} (ok : h.ok) (Z : WordsAt k h b f) :
    Ev (C 323 [k.v, .sl b 0 k.size c] h) fun r => Fr [] h r.2 ∧ GI r.2.get r.1 (rootsL k f k.C) ∧ ∀ b ∈ r.1.blk, h.next ≤ b := by
  refine call_ev (af := F.withyref13_Roots) (by kernel_rfl) rfl ?_
  have hv : k.v = .agg [.int .i64 k.s, .int .i64 k.a, .int .i64 k.c, .int .i64 k.hd, .int .i64 k.g, .int .i64 k.st] := rfl
  have hbd := Cfg.bounds hr
  have hH : k.hd = (k.H : Int) := by have := Cfg.R_iff.mp hr; unfold Cfg.H; omega
  have hC : k.c = (k.C : Int) := by have := Cfg.R_iff.mp hr; unfold Cfg.C; omega
  rw [hv, S.withyref13_Roots_eq]
  have F0 : Fr [] h (h.new (.cells [.int .i64 k.s, .int .i64 k.a, .int .i64 k.c, .int .i64 k.hd, .int .i64 k.g, .int .i64 k.st] .rw)) := (Fr.refl ok).new _
  have hc0 := get_new_self h (.cells [.int .i64 k.s, .int .i64 k.a, .int .i64 k.c, .int .i64 k.hd, .int .i64 k.g, .int .i64 k.st] .rw)
  have hcl : h.next < (h.new (.cells [.int .i64 k.s, .int .i64 k.a, .int .i64 k.c, .int .i64 k.hd, .int .i64 k.g, .int .i64 k.st] .rw)).next := Nat.lt_succ_self _
  simp only [S.withyref13_Roots]
  generalize h.new (.cells [.int .i64 k.s, .int .i64 k.a, .int .i64 k.c, .int .i64 k.hd, .int .i64 k.g, .int .i64 k.st] .rw) = g0 at F0 hc0 hcl
  refine loop_ev (α := Nat × V) (fun y => S.withyref13_Roots_c1_E (.sl b 0 k.size c) (.ptr h.next 0) y.2 (.int .i64 (y.1 : Nat)))
    (fun y g => y.1 ≤ k.C ∧ Fr [] g0 g ∧ GI g.get y.2 (rootsL k f y.1) ∧ (∀ b ∈ y.2.blk, g0.next ≤ b)) (fun y _ => k.C - y.1)
    (fun r => ∃ x, r.1 = .exit 0 ∧ r.2.1 = S.withyref13_Roots_c1_O x ∧ Fr [] g0 r.2.2 ∧ GI r.2.2.get x (rootsL k f k.C) ∧ ∀ b ∈ x.blk, g0.next ≤ b)
    (0, .nilsl) rfl ⟨Nat.zero_le _, .refl F0.ok, Grown.nil _ _, by simp [V.blk]⟩ ?_ ?_
  rotate_left
  · rintro ⟨_, _, g⟩ ⟨x, rfl, rfl, F, G, hx⟩
    show Ev (S.withyref13_Roots_K2 W (.exit 0) _ g) _
    rw [S.withyref13_Roots_c1_e0_eq]
    exact Ev.some ⟨F0.trans' F, G, fun b hb => Nat.le_trans F0.le (hx b hb)⟩
  rintro ⟨w, y⟩ g ⟨hi, F, G, hy⟩
  dsimp only at hi G hy ⊢
  rw [S.withyref13_Roots_c1_eq]
  have hc := F.get F0.ok hc0 (by simp)
  have ok1 := F.ok
  by_cases hw : w < k.C
  rotate_left
  · have he : w = k.C := by omega
    subst he
    have d0 : decide ((k.C : Int) < k.c) = false := decide_eq_false (by omega)
    simp only [S.withyref13_Roots_c1_S, ptrAt_ptr, Option.bind_some, ld1_get', ldB_cells, List.getElem?_cons_zero, List.getElem?_cons_succ, Nat.zero_add, V.one, asI_int, hc, d0]
    exact Ev.some (.inr ⟨by simp, y, rfl, rfl, F, G, hy⟩)
  have d0 : decide ((w : Int) < k.c) = true := decide_eq_true (by omega)
  have hln := rootsL_len hr (f := f) w
  simp only [S.withyref13_Roots_c1_S, ptrAt_ptr, Option.bind_some, ld1_get', ldB_cells, List.getElem?_cons_zero, List.getElem?_cons_succ, Nat.zero_add, V.one, asI_int, hc, d0]
  refine loop_ev (α := Nat × V) (fun z => S.withyref13_Roots_c4_E (.sl b 0 k.size c) (.ptr h.next 0) z.2 (.int .i64 (w : Nat)) (.int .i64 (z.1 : Nat)))
    (fun z g' => z.1 ≤ k.H ∧ Fr y.blk g g' ∧ GI g'.get z.2 (rootsL k f w ++ entriesL k f w z.1) ∧ (∀ b ∈ z.2.blk, b ∈ y.blk ∨ g.next ≤ b)) (fun z _ => k.H - z.1)
    (fun r => ∃ x, r.1 = .exit 2 ∧ r.2.1 = S.withyref13_Roots_c4_O (.sl b 0 k.size c) (.ptr h.next 0) x (.int .i64 (w : Nat)) ∧ Fr y.blk g r.2.2 ∧ GI r.2.2.get x (rootsL k f w ++ entriesL k f w k.H) ∧ ∀ b ∈ x.blk, b ∈ y.blk ∨ g.next ≤ b)
    (0, y) rfl ⟨Nat.zero_le _, .refl ok1, by rw [show entriesL k f w 0 = [] from rfl, List.append_nil]; exact G, fun b hb => .inl hb⟩ ?_ ?_
  rotate_left
  · rintro ⟨_, _, g'⟩ ⟨x, rfl, rfl, F', G', hx⟩
    dsimp only at F' G' hx
    show Ev (S.withyref13_Roots_K7 W (.exit 2) _ g') _
    rw [S.withyref13_Roots_c4_e2_eq]
    have hF1 : Fr [] g0 g' := F.trans F' fun b hb => .inr (hy b hb)
    have he := entriesL_len k f w k.H
    refine (rt_start hr F'.ok (Z.fr ok (F0.trans' hF1) (by simp)) (hF1.get F0.ok hc0 (by simp)) hw G' (by rw [List.length_append]; omega)).mono ?_
    rintro ⟨_, _, g''⟩ ⟨rfl, y', rfl, F'', G'', hy'⟩
    dsimp only at F'' G''
    have hx' : ∀ b ∈ x.blk, g0.next ≤ b := fun b hb => (hx b hb).elim (hy b) (fun h => Nat.le_trans F.le h)
    refine .inl ⟨(w + 1, y'), rfl, rfl, ⟨hw, hF1.trans F'' (fun b hb => .inr (hx' b hb)), ?_, fun b hb => ?_⟩, Nat.sub_lt_sub_left hw (Nat.lt_succ_self w)⟩
    · rw [rootsL_succ]
      unfold clientL
      rw [← List.append_assoc]
      exact G''
    · rcases hy' b hb with h1 | h1
      · exact hx' b h1
      · exact Nat.le_trans hF1.le h1
  rintro ⟨i, z⟩ g' ⟨hi', F', G', hz⟩
  dsimp only at hi' G' hz ⊢
  rw [S.withyref13_Roots_c4_eq]
  have hF1 : Fr [] g0 g' := F.trans F' fun b hb => .inr (hy b hb)
  have hc' := hF1.get F0.ok hc0 (by simp)
  by_cases hiH : i < k.H
  rotate_left
  · have he : i = k.H := by omega
    subst he
    have d1 : decide ((k.H : Int) < k.hd) = false := decide_eq_false (by omega)
    simp only [S.withyref13_Roots_c4_S, ptrAt_ptr, Option.bind_some, ld1_get', ldN_get', ldB_cells, ldNB_cells, List.getElem?_cons_zero, List.getElem?_cons_succ, Nat.zero_add, Nat.reduceAdd, Nat.reduceLeDiff, V.one, V.cells, asI_int, List.length_cons, List.length_nil, Bool.and_true, decide_true, splice, List.take_succ_cons, List.take_zero, List.drop_zero, List.cons_append, List.nil_append, fill, repl, opd, boxc, W_call, hc', d1]
    exact Ev.some (.inr ⟨by simp, z, rfl, rfl, F', G', hz⟩)
  have he := entriesL_len k f w i
  refine (rt_entry hr F'.ok (Z.fr ok (F0.trans' hF1) (by simp)) hc' hw hiH G' (by rw [List.length_append]; omega)).mono ?_
  rintro ⟨_, _, g''⟩ ⟨rfl, y', rfl, F'', G'', hy'⟩
  dsimp only at F'' G''
  refine .inl ⟨(i + 1, y'), rfl, rfl, ⟨hiH, F'.trans F'' (fun b hb => hz b hb), ?_, fun b hb => ?_⟩, Nat.sub_lt_sub_left hiH (Nat.lt_succ_self i)⟩
  · rw [entriesL_succ, ← List.append_assoc]; exact G''
  · rcases hy' b hb with h1 | h1
    · exact hz b h1
    · exact .inr (Nat.le_trans F'.le h1)
end
end Wm
end

section
/- withy/mark.Found: what it comes to. -/
namespace Wm
attribute [local congr] bind_congr1
attribute [local irreducible] wr

theorem e2_l0 (M : Env) (x3 x4 x7 x8 x9 x10 : V) (h : H) : S.mark_Found_c5_e2 M x3 x4 x7 x8 x9 x10 h = S.mark_Found_c0_l0 M x3 x4 x7 x8 x9 x10 h := rfl

/-- How it ends. -/
def MkOut (k : Cfg) (h : H) (B : MFb) (f : Wd → Int) (e : Int) (r : AX × List V × H) : Prop :=
  ∃ X, r.1 = .ret ∧ r.2.1 = S.mark_Found_c0_O (.sl B.qf 0 k.S (.ex k.S)) ∧ Fr [] h r.2.2 ∧ TruAt r.2.2 B.qf X k.S ∧ FLeast k f e X
section
variable {k : Cfg} (hr : k.R = true) {h : H} {B : MFb} (N : MFn h B) {f : Wd → Int} {e : Int} (hE : U64 e)
include hr N hE
theorem mk_l0 {g : H} {s : Fnd} (M : MFs k h g B f e s) (I : Inv k f e s []) :
    Ev (S.mark_Found_c0_l0 W (.ptr B.cb 0) (.ptr B.b4 0) (.ptr B.b7 0) (.ptr B.b8 0) (.ptr B.b9 0) B.fn g) fun r =>
      (∃ s', r.1 = .goto 0 ∧ r.2.1 = S.mark_Found_c0_E (.ptr B.cb 0) (.ptr B.b4 0) (.ptr B.b7 0) (.ptr B.b8 0) (.ptr B.b9 0) B.fn ∧ (MFs k h r.2.2 B f e s' ∧ Inv k f e s' []) ∧ s'.todo.length + nfN s'.X k.S < s.todo.length + nfN s.X k.S) ∨ ((∀ j, r.1 ≠ .goto j) ∧ MkOut k h B f e r) := by
  refine (mf_pop hr N hE M (fun t ht => (I.c t ht).1)).mono ?_
  obtain ⟨X, todo⟩ := s
  rintro ⟨_, _, g'⟩ (⟨rfl, h0, rfl, rfl⟩ | ⟨t, rest, h0, rfl, rfl, M'⟩)
  · dsimp only at h0
    subst h0
    obtain ⟨F, ⟨x, Z, _⟩, _⟩ := M
    exact .inr ⟨by simp, X, rfl, rfl, F, Z.tr, I.done⟩
  · dsimp only at h0
    subst h0
    refine .inl ⟨_, rfl, rfl, ⟨M', I.pop.finds⟩, ?_⟩
    rw [Fnd.finds_m (k := k) (fun q hq => namesL_lt hq)]
    simp only [List.length_cons]; omega

theorem mk_clients {g : H} {s0 : Fnd} (M0 : MFs k h g B f e s0) {R : Type} {kk : AX × List V × H → Option R} {Q : R → Prop}
    (out : ∀ g', MFs k h g' B f e (s0.finds f e (rootsL k f k.C)) → Ev (kk (.exit 2, S.mark_Found_c5_O (.ptr B.cb 0) (.ptr B.b4 0) (.ptr B.b7 0) (.ptr B.b8 0) (.ptr B.b9 0) B.fn, g')) Q) :
    Ev ((W.loop (S.mark_Found_c5_B W) (S.mark_Found_c5_E (.ptr B.cb 0) (.ptr B.b4 0) (.ptr B.b7 0) (.ptr B.b8 0) (.ptr B.b9 0) B.fn (.int .i64 k.c) (.int .i64 0)) g).bind kk) Q := by
  have hbd := Cfg.bounds hr
  have hH : k.hd = (k.H : Int) := by have := Cfg.R_iff.mp hr; unfold Cfg.H; omega
  have hC : k.c = (k.C : Int) := by have := Cfg.R_iff.mp hr; unfold Cfg.C; omega
  refine loop_ev (α := Nat) (fun w => S.mark_Found_c5_E (.ptr B.cb 0) (.ptr B.b4 0) (.ptr B.b7 0) (.ptr B.b8 0) (.ptr B.b9 0) B.fn (.int .i64 k.c) (.int .i64 (w : Nat)))
    (fun w g' => w ≤ k.C ∧ MFs k h g' B f e (s0.finds f e (rootsL k f w))) (fun w _ => k.C - w)
    (fun r => r.1 = .exit 2 ∧ r.2.1 = S.mark_Found_c5_O (.ptr B.cb 0) (.ptr B.b4 0) (.ptr B.b7 0) (.ptr B.b8 0) (.ptr B.b9 0) B.fn ∧ MFs k h r.2.2 B f e (s0.finds f e (rootsL k f k.C))) 0 rfl ⟨Nat.zero_le _, M0⟩ ?_ ?_
  rotate_left
  · rintro ⟨_, _, g'⟩ ⟨rfl, rfl, M'⟩
    exact out g' M'
  rintro w g1 ⟨hw, M1⟩
  rw [S.mark_Found_c5_eq]
  by_cases hwC : w < k.C
  rotate_left
  · have he : w = k.C := by omega
    subst he
    have d0 : decide ((k.C : Int) < k.c) = false := decide_eq_false (by omega)
    simp only [S.mark_Found_c5_S, d0]
    exact Ev.some (.inr ⟨by simp, rfl, rfl, M1⟩)
  have d0 : decide ((w : Int) < k.c) = true := decide_eq_true (by omega)
  obtain ⟨x1, Z1, _⟩ := M1.at'
  have hc1 := Z1.cfg
  simp only [S.mark_Found_c5_S, ptrAt_ptr, Option.bind_some, ld1_get', ldB_cells, List.getElem?_cons_zero, List.getElem?_cons_succ, Nat.zero_add, V.one, d0, hc1]
  refine loop_ev (α := Nat) (fun i => S.mark_Found_c8_E (.ptr B.cb 0) (.ptr B.b4 0) (.ptr B.b7 0) (.ptr B.b8 0) (.ptr B.b9 0) B.fn (.int .i64 (w : Nat)) (.int .i64 k.c) (.int .i64 (w : Nat)) (.int .i64 k.hd) (.int .i64 (i : Nat)))
    (fun i g' => i ≤ k.H ∧ MFs k h g' B f e (s0.finds f e (rootsL k f w ++ entriesL k f w i))) (fun i _ => k.H - i)
    (fun r => r.1 = .exit 4 ∧ r.2.1 = S.mark_Found_c8_O (.ptr B.cb 0) (.ptr B.b4 0) (.ptr B.b7 0) (.ptr B.b8 0) (.ptr B.b9 0) B.fn (.int .i64 (w : Nat)) (.int .i64 k.c) (.int .i64 (w : Nat)) ∧ MFs k h r.2.2 B f e (s0.finds f e (rootsL k f w ++ entriesL k f w k.H))) 0 rfl ⟨Nat.zero_le _, by rw [show entriesL k f w 0 = [] from rfl, List.append_nil]; exact M1⟩ ?_ ?_
  · rintro i g2 ⟨hi, M2⟩
    rw [S.mark_Found_c8_eq]
    by_cases hiH : i < k.H
    · refine (mf_entry hr N hE M2 hwC hiH _ _).mono ?_
      rintro ⟨_, _, g3⟩ ⟨rfl, rfl, M3⟩
      refine .inl ⟨i + 1, rfl, rfl, ⟨hiH, ?_⟩, Nat.sub_lt_sub_left hiH (Nat.lt_succ_self i)⟩
      rw [entriesL_succ, ← List.append_assoc, Fnd.finds_app]; exact M3
    · have he : i = k.H := by omega
      subst he
      have d1 : decide ((k.H : Int) < k.hd) = false := decide_eq_false (by omega)
      simp only [S.mark_Found_c8_S, d1]
      exact Ev.some (.inr ⟨by simp, rfl, rfl, M2⟩)
  · rintro ⟨_, _, g2⟩ ⟨rfl, rfl, M2⟩
    dsimp only at M2
    show Ev (S.mark_Found_K10 W (.exit 4) _ g2) _
    rw [S.mark_Found_c8_e4_eq]
    refine (mf_start hr N hE M2 hwC k.c).mono ?_
    rintro ⟨_, _, g3⟩ ⟨rfl, rfl, M3⟩
    refine .inl ⟨w + 1, rfl, rfl, ⟨hwC, ?_⟩, Nat.sub_lt_sub_left hwC (Nat.lt_succ_self w)⟩
    rw [rootsL_succ]
    unfold clientL
    rw [← List.append_assoc, Fnd.finds_app]
    exact M3

theorem mk_loops {g : H} (M0 : MFs k h g B f e (fnd0 k f e 0)) :
    Ev ((W.loop (S.mark_Found_c3_B W) (S.mark_Found_c3_E (.ptr B.cb 0) (.ptr B.b4 0) (.ptr B.b5 0) (.ptr B.b7 0) (.ptr B.b8 0) (.ptr B.b9 0) B.fn (.int .i64 k.s) (.int .i64 0)) g).bind fun p => S.mark_Found_K3 W p.1 p.2.1 p.2.2) fun r =>
      (∃ s', r.1 = .goto 0 ∧ r.2.1 = S.mark_Found_c0_E (.ptr B.cb 0) (.ptr B.b4 0) (.ptr B.b7 0) (.ptr B.b8 0) (.ptr B.b9 0) B.fn ∧ (MFs k h r.2.2 B f e s' ∧ Inv k f e s' [])) ∨ ((∀ j, r.1 ≠ .goto j) ∧ MkOut k h B f e r) := by
  have hbd := Cfg.bounds hr
  have hks : k.s = (k.S : Int) := by have := Cfg.R_iff.mp hr; unfold Cfg.S; omega
  refine loop_ev (α := Nat) (fun i => S.mark_Found_c3_E (.ptr B.cb 0) (.ptr B.b4 0) (.ptr B.b5 0) (.ptr B.b7 0) (.ptr B.b8 0) (.ptr B.b9 0) B.fn (.int .i64 k.s) (.int .i64 (i : Nat)))
    (fun i g' => i ≤ k.S ∧ MFs k h g' B f e (fnd0 k f e i)) (fun i _ => k.S - i)
    (fun r => r.1 = .exit 0 ∧ r.2.1 = S.mark_Found_c3_O (.ptr B.cb 0) (.ptr B.b4 0) (.ptr B.b7 0) (.ptr B.b8 0) (.ptr B.b9 0) B.fn ∧ MFs k h r.2.2 B f e (fnd0 k f e k.S)) 0 rfl ⟨Nat.zero_le _, M0⟩ ?_ ?_
  · rintro i g1 ⟨hi, M1⟩
    rw [S.mark_Found_c3_eq]
    by_cases hik : i < k.S
    · refine (mf_first hr N hE hik M1).mono ?_
      rintro ⟨_, _, g2⟩ ⟨rfl, rfl, M2⟩
      exact .inl ⟨i + 1, rfl, rfl, ⟨hik, M2⟩, Nat.sub_lt_sub_left hik (Nat.lt_succ_self i)⟩
    · have he : i = k.S := by omega
      subst he
      have d0 : decide ((k.S : Int) < k.s) = false := decide_eq_false (by omega)
      simp only [S.mark_Found_c3_S, d0]
      exact Ev.some (.inr ⟨by simp, rfl, rfl, M1⟩)
  · rintro ⟨_, _, g1⟩ ⟨rfl, rfl, M1⟩
    dsimp only at M1
    show Ev (S.mark_Found_K3 W (.exit 0) _ g1) _
    rw [S.mark_Found_c3_e0_eq]
    obtain ⟨x1, Z1, _⟩ := M1.at'
    have hc1 := Z1.cfg
    simp only [S.mark_Found_c3_e0, ptrAt_ptr, Option.bind_some, ld1_get', ldB_cells, List.getElem?_cons_zero, List.getElem?_cons_succ, Nat.zero_add, V.one, hc1]
    refine mk_clients hr N hE M1 ?_
    intro g2 M2
    show Ev (S.mark_Found_K5 W (.exit 2) _ g2) _
    rw [S.mark_Found_c5_e2_eq, e2_l0]
    refine (mk_l0 hr N hE M2 (fnd0_inv k f e).finds).mono ?_
    rintro r (⟨s', h1, h2, h3, _⟩ | h1)
    · exact .inl ⟨s', h1, h2, h3⟩
    · exact .inr h1
end

theorem mk_found {k : Cfg} (hr : k.R = true) {e : Int} (hE : U64 e) {h : H} (ok : h.ok) {b : Nat} {c : Cap} {f : Wd → Int} (Z : WordsAt k h b f) :
    Ev (C 155 [k.v, .sl b 0 k.size c, .int .u64 e] h) fun r => ∃ q X, r.1 = .sl q 0 k.S (.ex k.S) ∧ Fr [] h r.2 ∧ h.next ≤ q ∧ TruAt r.2 q X k.S ∧ FLeast k f e X := by
  refine call_ev (af := F.mark_Found) (by kernel_rfl) rfl ?_
  have hv : k.v = .agg [.int .i64 k.s, .int .i64 k.a, .int .i64 k.c, .int .i64 k.hd, .int .i64 k.g, .int .i64 k.st] := rfl
  have hbd := Cfg.bounds hr
  have hks : k.s = (k.S : Int) := by have := Cfg.R_iff.mp hr; unfold Cfg.S; omega
  have hR : ∀ h, C 263 [.agg [.int .i64 k.s, .int .i64 k.a, .int .i64 k.c, .int .i64 k.hd, .int .i64 k.g, .int .i64 k.st]] h = some (.bool true, h) := fun h => by
    have := planRight_spec k.s k.a k.c k.hd k.g k.st h
    rw [show cfgR k.s k.a k.c k.hd k.g k.st = true from hr] at this; exact this
  have hSz : ∀ h, C 264 [.agg [.int .i64 k.s, .int .i64 k.a, .int .i64 k.c, .int .i64 k.hd, .int .i64 k.g, .int .i64 k.st]] h = some (.int .i64 (k.size : Int), h) := fun h => by
    have := size_spec (s := k.s) (a := k.a) (c := k.c) (hd := k.hd) (g := k.g) (st := k.st) hr h
    rw [totT_eq hr] at this; exact this
  have dsz : decide ((k.size : Int) = (k.size : Int)) = true := decide_eq_true rfl
  rw [hv, S.mark_Found_eq]
  simp only [S.mark_Found, Option.bind_some, H.next_new, Nat.reduceAdd, V.cells, boxc, Nat.add_assoc]
  have n1 : h.next ≠ h.next + 1 := by omega
  have n2 : h.next ≠ h.next + 2 := by omega
  have n3 : h.next ≠ h.next + 3 := by omega
  have n4 : h.next ≠ h.next + 4 := by omega
  have n5 : h.next ≠ h.next + 5 := by omega
  have n6 : h.next ≠ h.next + 6 := by omega
  have n7 : h.next ≠ h.next + 7 := by omega
  refine scope_ev (α := Fnd) (l := 0) (fun _ => S.mark_Found_c0_E (.ptr h.next 0) (.ptr (h.next + 1) 0) (.ptr (h.next + 3) 0) (.ptr (h.next + 6) 0) (.ptr (h.next + 7) 0) (MFb.fn ⟨h.next, h.next + 1, h.next + 2, h.next + 3, h.next + 6, h.next + 7, h.next + 4, b, c⟩))
    (fun s g => MFs k h g ⟨h.next, h.next + 1, h.next + 2, h.next + 3, h.next + 6, h.next + 7, h.next + 4, b, c⟩ f e s ∧ Inv k f e s []) (fun s _ => s.todo.length + nfN s.X k.S)
    (MkOut k h ⟨h.next, h.next + 1, h.next + 2, h.next + 3, h.next + 6, h.next + 7, h.next + 4, b, c⟩ f e) ?_ ?_ ?_
  · rw [S.mark_Found_c0_eq]
    have mk1 := fun g : H => mkBools (h := g) (n := k.S) (by omega)
    rw [← hks] at mk1
    simp only [S.mark_Found_c0_S, lenSl_sl, ptrAt_ptr, Option.bind_some, Option.map_some, ld1_get', ldN_get', st_get', get_put', get_new', ldB_cells, ldNB_cells, stB_cells, H.next_new, List.getElem?_cons_zero, Nat.zero_add, Nat.add_zero, Nat.reduceAdd, Nat.reduceLeDiff, Nat.reduceEqDiff, V.one, V.cells, V.beq, ckB_some, asI_int, asB_bool, List.length_cons, List.length_nil, Nat.beq_refl, List.all_cons, List.all_nil, Bool.and_true, Bool.not_true, Bool.or_self, Bool.and_self, decide_true, decide_false, if_true, if_false, splice, List.take_succ_cons, List.take_zero, List.drop_succ_cons, List.drop_zero, List.cons_append, List.nil_append, reduceCtorEq, fill, opd, boxc, W_call, Nat.add_assoc, n1, n2, n3, n4, n5, n6, n7, n1.symm, n2.symm, n3.symm, n4.symm, n5.symm, n6.symm, n7.symm, hR, hSz, mk1]
    generalize hG : H.put (H.put (H.new _ _) _ _) _ _ = G
    have FG : Fr [] h G := by
      rw [← hG]
      exact (((((((((((Fr.refl ok).new _).new _).new _).new _).new _).new _).new _).new _).put (.inr (by omega)) (by simp only [H.next_new]; omega) _).put (.inr (by omega)) (by simp only [H.next_put, H.next_new]; omega) _)
    have hbl := Z.lt ok
    have N : MFn h ⟨h.next, h.next + 1, h.next + 2, h.next + 3, h.next + 6, h.next + 7, h.next + 4, b, c⟩ := ⟨Nat.le_add_right _ _, Nat.le_add_right _ _⟩
    have M0 : MFs k h G ⟨h.next, h.next + 1, h.next + 2, h.next + 3, h.next + 6, h.next + 7, h.next + 4, b, c⟩ f e (fnd0 k f e 0) := by
      refine ⟨FG, ⟨.sl (h.next + 5) 0 0 (.ex 0), ⟨?_, ?_, Z.fr ok FG (by simp), ?_, ?_, ?_, ?_, ?_, .inl ⟨h.next + 5, .rw, rfl, rfl, ?_⟩, ?_, ?_, ?_, ?_⟩, ?_⟩, ?_⟩
      · rw [← hG]; simp only [get_put', get_new', H.next_new, Nat.reduceAdd, if_true, if_false, Nat.add_assoc, n1, n2, n3, n4, n5, n6, n7]
      · rw [← hG]; simp only [get_put', get_new', H.next_new, Nat.reduceAdd, Nat.reduceEqDiff, if_true, if_false, Nat.add_assoc, n1, n2, n3, n4, n5, n6, n1.symm]
      · rw [← hG]; simp only [get_put', get_new', H.next_new, Nat.reduceAdd, Nat.reduceEqDiff, if_true, if_false, Nat.add_assoc, n1, n2, n3, n4, n5, n2.symm]
      · refine ⟨_, _, by rw [← hG]; simp only [get_put', get_new', H.next_new, Nat.reduceAdd, Nat.reduceEqDiff, if_true, if_false, Nat.add_assoc, n1, n2, n3, n4, n3.symm]; rfl, rfl⟩
      · rw [← hG]; simp only [get_put', get_new', H.next_new, Nat.reduceAdd, Nat.reduceEqDiff, if_true, if_false, Nat.add_assoc, n1, n6.symm]
      · have : TruAt G (h.next + 4) (fun _ => false) k.S := by
          unfold TruAt
          rw [← bF_false, ← hG]
          simp only [get_put', get_new', H.next_new, Nat.reduceAdd, Nat.reduceEqDiff, if_true, if_false, Nat.add_assoc, n1, n2, n3, n4.symm]
        exact this.congr fun q _ => (fnd0_zero k f e).2 q ▸ rfl
      · rw [← hG]; simp only [get_put', get_new', H.next_new, Nat.reduceAdd, Nat.reduceEqDiff, if_true, if_false, Nat.add_assoc, n7.symm]
      · rw [← hG]; simp only [get_put', get_new', H.next_new, Nat.reduceAdd, Nat.reduceEqDiff, if_true, if_false, Nat.add_assoc, n1, n2, n5.symm]
      · simp only [MFb.fix, List.mem_cons, List.not_mem_nil, or_false]; omega
      · simp only [MFb.fix, List.mem_cons, List.not_mem_nil, or_false]; omega
      · show h.next + 4 ≠ h.next + 7; omega
      · intro x hx
        simp only [V.blk, List.mem_singleton] at hx
        subst hx
        simp only [MFb.all, MFb.fix, List.mem_cons, List.not_mem_nil, or_false]; omega
      · intro x hx
        simp only [V.blk, List.mem_singleton] at hx
        omega
      · have h2 := nfN_le (fnd0 k f e 0).X k.S
        have h3 : (fnd0 k f e 0).todo.length = 0 := rfl
        omega
    exact mk_loops hr N hE M0
  · rintro s g ⟨M, I⟩
    have N : MFn h ⟨h.next, h.next + 1, h.next + 2, h.next + 3, h.next + 6, h.next + 7, h.next + 4, b, c⟩ := ⟨Nat.le_add_right _ _, Nat.le_add_right _ _⟩
    show Ev (S.mark_Found_c0_B W (0 + 1) _ g) _
    rw [Nat.zero_add, S.mark_Found_c0_l0_eq]
    exact mk_l0 hr N hE M I
  · rintro ⟨_, _, g⟩ ⟨X, rfl, rfl, F, T, L⟩
    show Ev (S.mark_Found_K0 W .ret _ g) _
    rw [S.mark_Found_c0_r_eq]
    exact Ev.some ⟨h.next + 4, X, rfl, F, Nat.le_add_right _ _, T, L⟩
end Wm
end

section
/- What the document finds: withyref13.Found. -/
namespace Wm
attribute [local congr] bind_congr1
attribute [local irreducible] wr

theorem TruAt.put {g : H} {b : Nat} {X : Nat → Bool} {n : Nat} : TruAt (g.put b (some (.cells (bools (bF X n)) .rw))) b X n := get_put_self _ _ _
/-- What stands at the loops. -/
structure F13At (k : Cfg) (g : H) (cb b qf qt : Nat) (f : Wd → Int) (X T : Nat → Bool) : Prop where
  cfg : g.get cb = some (.cells [.int .i64 k.s, .int .i64 k.a, .int .i64 k.c, .int .i64 k.hd, .int .i64 k.g, .int .i64 k.st] .rw)
  w : WordsAt k g b f
  x : TruAt g qf X k.S
  t : TruAt g qt T k.S
  ne : qf ≠ qt
  n1 : cb ≠ qf ∧ cb ≠ qt
  n2 : b ≠ qf ∧ b ≠ qt
theorem F13At.fr {k : Cfg} {g g' : H} {cb b qf qt : Nat} {f : Wd → Int} {X T : Nat → Bool} {L : List Nat} (Z : F13At k g cb b qf qt f X T) (ok : g.ok) (F : Fr L g g') (h : ∀ c ∈ L, c ≠ cb ∧ c ≠ b ∧ c ≠ qf ∧ c ≠ qt) : F13At k g' cb b qf qt f X T :=
  ⟨F.get ok Z.cfg (fun q => (h _ q).1 rfl), Z.w.fr ok F (fun q => (h _ q).2.1 rfl), Z.x.fr ok F (fun q => (h _ q).2.2.1 rfl), Z.t.fr ok F (fun q => (h _ q).2.2.2 rfl), Z.ne, Z.n1, Z.n2⟩
theorem F13At.setX {k : Cfg} {g : H} {cb b qf qt : Nat} {f : Wd → Int} {X T : Nat → Bool} (Z : F13At k g cb b qf qt f X T) (ok : g.ok) (X' : Nat → Bool) : F13At k (g.put qf (some (.cells (bools (bF X' k.S)) .rw))) cb b qf qt f X' T :=
  have F : Fr [qf] g (g.put qf (some (.cells (bools (bF X' k.S)) .rw))) := (Fr.refl ok).put (.inl (by simp)) (ok.lt Z.x) _
  ⟨F.get ok Z.cfg (by simp [Z.n1.1]), Z.w.fr ok F (by simp [Z.n2.1]), TruAt.put, Z.t.fr ok F (by simp [Z.ne.symm]), Z.ne, Z.n1, Z.n2⟩
theorem F13At.setT {k : Cfg} {g : H} {cb b qf qt : Nat} {f : Wd → Int} {X T : Nat → Bool} (Z : F13At k g cb b qf qt f X T) (ok : g.ok) (T' : Nat → Bool) : F13At k (g.put qt (some (.cells (bools (bF T' k.S)) .rw))) cb b qf qt f X T' :=
  have F : Fr [qt] g (g.put qt (some (.cells (bools (bF T' k.S)) .rw))) := (Fr.refl ok).put (.inl (by simp)) (ok.lt Z.t) _
  ⟨F.get ok Z.cfg (by simp [Z.n1.2]), Z.w.fr ok F (by simp [Z.n2.2]), Z.x.fr ok F (by simp [Z.ne]), TruAt.put, Z.ne, Z.n1, Z.n2⟩

def below (X : Nat → Bool) (i : Nat) : Nat → Bool := fun q => decide (q < i) && X q
theorem below_succ (X : Nat → Bool) (i : Nat) : bset (below X i) i (X i) = below X (i + 1) := by
  funext q
  unfold bset below
  by_cases h : q = i
  · subst h; simp
  · rw [if_neg h]; congr 1; exact decide_eq_decide.mpr (by omega)
theorem below_zero (X : Nat → Bool) : below X 0 = fun _ => false := by funext q; simp [below]
theorem below_all (X : Nat → Bool) {n q : Nat} (h : q < n) : below X n q = X q := by simp [below, h]

section
variable {k : Cfg} (hr : k.R = true) {b cb qf qt : Nat} {c : Cap} {f : Wd → Int} {e : Int} (hE : U64 e)
include hr hE
/-- A slot, at the beginning. -/
theorem f13_first {g : H} (ok : g.ok) {X T : Nat → Bool} (Z : F13At k g cb b qf qt f X T) {i : Nat} (hi : i < k.S) :
    Ev (S.withyref13_Found_c1_S W (.sl b 0 k.size c) e (.ptr cb 0) (.sl qf 0 k.S (.ex k.S)) (.sl qt 0 k.S (.ex k.S)) (i : Nat) g) fun r => r.1 = .normal ∧ r.2.1 = S.withyref13_Found_c1_E (.sl b 0 k.size c) (.int .u64 e) (.ptr cb 0) (.sl qf 0 k.S (.ex k.S)) (.sl qt 0 k.S (.ex k.S)) (.int .i64 (i + 1 : Nat)) ∧ Fr [qf, qt] g r.2.2 ∧ F13At k r.2.2 cb b qf qt f (bset X i (mkd f e i)) (bset T i (gry f i)) := by
  have hv : k.v = .agg [.int .i64 k.s, .int .i64 k.a, .int .i64 k.c, .int .i64 k.hd, .int .i64 k.g, .int .i64 k.st] := rfl
  have hbd := (Cfg.bounds hr).1
  have hks : k.s = (k.S : Int) := by have := Cfg.R_iff.mp hr; unfold Cfg.S; omega
  have d0 : decide ((i : Int) < k.s) = true := decide_eq_true (by omega)
  have wi := gr_i (i := i) (by omega)
  clear hbd hks
  have hc := Z.cfg
  have hu := Z.w.u64 (.header i) hi
  have hA := refAt13 hr (l := .header i) hi ok (c := c) Z.w
  have hA' : Ev (C 322 [.agg [.int .i64 k.s, .int .i64 k.a, .int .i64 k.c, .int .i64 k.hd, .int .i64 k.g, .int .i64 k.st], .sl b 0 k.size c, .str ⟨⟨[104, 101, 97, 100, 101, 114]⟩⟩, .int .i64 (i : Int), .int .i64 0] g) fun r => r.1 = .int .u64 (f (.header i)) ∧ Fr [] g r.2 := hA
  have hUn := fun h => refUnp_spec hu h
  have hMk := fun h => refMarked_spec hu hE h
  have hcs : (unp (f (.header i))).cs = [.int .i64 (unp (f (.header i))).kind, .int .i64 (unp (f (.header i))).mark, .bool (unp (f (.header i))).gray, .int .i64 (unp (f (.header i))).arity, .int .i64 (unp (f (.header i))).gen, .int .i64 (unp (f (.header i))).stamp] := rfl
  rw [hcs] at hUn
  simp only [S.withyref13_Found_c1_S, ptrAt_ptr, Option.bind_some, ld1_get', ldN_get', st_get', get_new', ldB_cells, ldNB_cells, stB_cells, List.getElem?_cons_zero, Nat.zero_add, Nat.add_zero, Nat.reduceAdd, Nat.reduceLeDiff, V.one, V.cells, asI_int, List.length_cons, List.length_nil, Bool.false_or, decide_true, decide_false, if_true, splice, List.take_succ_cons, List.take_zero, List.drop_zero, List.nil_append, reduceCtorEq, W_call, hc, d0]
  refine Ev.bind hA' ?_
  rintro ⟨_, g1⟩ ⟨rfl, F1⟩
  dsimp only at F1 ⊢
  have ok1 := F1.ok
  have Z1 := Z.fr ok F1 (by simp)
  have F2 : Fr [] g1 ((g1.new (.cells [.int .i64 0, .int .i64 0, .bool false, .int .i64 0, .int .i64 0, .int .i64 0] .rw)).put g1.next (some (.cells [.int .i64 (unp (f (.header i))).kind, .int .i64 (unp (f (.header i))).mark, .bool (unp (f (.header i))).gray, .int .i64 (unp (f (.header i))).arity, .int .i64 (unp (f (.header i))).gen, .int .i64 (unp (f (.header i))).stamp] .rw))) := ((Fr.refl ok1).new _).put (.inr (Nat.le_refl _)) (Nat.lt_succ_self _) _
  have hh2 := get_put_self (g1.new (.cells [.int .i64 0, .int .i64 0, .bool false, .int .i64 0, .int .i64 0, .int .i64 0] .rw)) g1.next (some (.cells [.int .i64 (unp (f (.header i))).kind, .int .i64 (unp (f (.header i))).mark, .bool (unp (f (.header i))).gray, .int .i64 (unp (f (.header i))).arity, .int .i64 (unp (f (.header i))).gen, .int .i64 (unp (f (.header i))).stamp] .rw))
  have ncb : cb ≠ g1.next := ok1.ne0 Z1.cfg
  have nqf : qf ≠ g1.next := ok1.ne0 Z1.x
  have hc1 := Z1.cfg
  simp only [Option.bind_some, Option.map_some, get_put', get_new', ldNB_cells, List.getElem?_cons_zero, List.getElem?_cons_succ, Nat.zero_add, Nat.reduceAdd, Nat.reduceLeDiff, V.one, asB_bool, List.length_cons, List.length_nil, Nat.beq_refl, List.all_cons, List.all_nil, Bool.not_true, Bool.or_self, Bool.and_self, decide_true, if_false, List.take_succ_cons, List.take_zero, List.drop_succ_cons, List.drop_zero, List.cons_append, List.nil_append, hUn, ncb, hc1]
  generalize ((g1.new (.cells [.int .i64 0, .int .i64 0, .bool false, .int .i64 0, .int .i64 0, .int .i64 0] .rw)).put g1.next _) = g2 at F2 hh2 ⊢
  have ok2 := F2.ok
  have Z2 := Z1.fr ok1 F2 (by simp)
  have hA2 := refAt13 hr (l := .header i) hi ok2 (c := c) Z2.w
  have hA2' : Ev (C 322 [.agg [.int .i64 k.s, .int .i64 k.a, .int .i64 k.c, .int .i64 k.hd, .int .i64 k.g, .int .i64 k.st], .sl b 0 k.size c, .str ⟨⟨[104, 101, 97, 100, 101, 114]⟩⟩, .int .i64 (i : Int), .int .i64 0] g2) fun r => r.1 = .int .u64 (f (.header i)) ∧ Fr [] g2 r.2 := hA2
  refine Ev.bind hA2' ?_
  rintro ⟨_, g3⟩ ⟨rfl, F3⟩
  dsimp only at F3 ⊢
  have ok3 := F3.ok
  have Z3 := Z2.fr ok2 F3 (by simp)
  have hh3 := F3.get ok2 hh2 (by simp)
  have hst := Z3.x.stB hi (markedW (f (.header i)) e)
  have Z4 := Z3.setX ok3 (bset X i (markedW (f (.header i)) e))
  have F4 : Fr [qf, qt] g3 (g3.put qf (some (.cells (bools (bF (bset X i (markedW (f (.header i)) e)) k.S)) .rw))) := (Fr.refl ok3).put (.inl (by simp)) (ok3.lt Z3.x) _
  have hx1 : indexAV 1 (.sl qf 0 k.S (.ex k.S)) (.int .i64 (i : Int)) = some (.ptr qf i) := sl_idx1 hi
  have hx2 : indexAV 1 (.sl qt 0 k.S (.ex k.S)) (.int .i64 (i : Int)) = some (.ptr qt i) := sl_idx1 hi
  have hst2 := Z4.t.stB hi (unp (f (.header i))).gray
  have Z5 := Z4.setT F4.ok (bset T i (unp (f (.header i))).gray)
  have F5 : Fr [qf, qt] g3 ((g3.put qf (some (.cells (bools (bF (bset X i (markedW (f (.header i)) e)) k.S)) .rw))).put qt (some (.cells (bools (bF (bset T i (unp (f (.header i))).gray) k.S)) .rw))) := F4.put (.inl (by simp)) (F4.ok.lt Z4.t) _
  have F15 : Fr [qf, qt] g _ := ((F1.mono (by simp)).trans' ((F2.mono (by simp)).trans' ((F3.mono (by simp)).trans' F5)))
  have hgt : (g3.put qf (some (.cells (bools (bF (bset X i (markedW (f (.header i)) e)) k.S)) .rw))).get qt = g3.get qt := get_put_ne Z.ne.symm
  rw [hgt] at hst2
  have ht3 := Z3.t
  have nn : ¬ g1.next = qf := fun q => nqf q.symm
  have nt := Z.ne.symm
  cases ho : okT (f (.header i)) with
  | true =>
    simp only [Option.bind_some, Option.map_some, st_get', get_put', ldB_cells, List.getElem?_cons_zero, List.getElem?_cons_succ, Nat.zero_add, V.one, V.cells, List.length_cons, List.length_nil, Nat.beq_refl, if_false, hMk, hx1, hst, hh3, nn, hx2, nt, hst2, wi]
    exact Ev.some ⟨rfl, rfl, F15, Z5⟩
  | false =>
    have hg : (unp (f (.header i))).gray = false := by unfold unp; rw [ho]; rfl
    rw [hg] at hst2
    rw [hg] at Z5 F15
    simp only [Option.bind_some, Option.map_some, st_get', get_put', Nat.zero_add, V.cells, List.length_cons, List.length_nil, Nat.beq_refl, if_false, hMk, hx1, hst, hx2, nt, hst2, wi]
    exact Ev.some ⟨rfl, rfl, F15, by unfold gry; rw [hg]; exact Z5⟩

/-- One of the list is looked at. -/
theorem f13_next {g : H} (ok : g.ok) {X T : Nat → Bool} (Z : F13At k g cb b qf qt f X T) {y : V} {l P : List Nat} (G : GI g.get y l) (hy : ∀ c ∈ y.blk, c ≠ cb ∧ c ≠ b ∧ c ≠ qf ∧ c ≠ qt) {i s : Nat} (hi : l[i]? = some s) (hd : l.drop (i + 1) = P) (I : InvB k f e X T (s :: P)) (hl : l.length + 8 * nfN X k.S ≤ 2000) :
    Ev (S.withyref13_Found_c5_S W (.sl b 0 k.size c) (.ptr cb 0) (.sl qf 0 k.S (.ex k.S)) (.sl qt 0 k.S (.ex k.S)) y (i : Nat) g) fun r => r.1 = .normal ∧ ∃ y' l' X' T', r.2.1 = S.withyref13_Found_c5_E (.sl b 0 k.size c) (.ptr cb 0) (.sl qf 0 k.S (.ex k.S)) (.sl qt 0 k.S (.ex k.S)) y' (.int .i64 (i + 1 : Nat)) ∧ Fr ([qf, qt] ++ y.blk) g r.2.2 ∧ F13At k r.2.2 cb b qf qt f X' T' ∧ GI r.2.2.get y' l' ∧ (∀ b ∈ y'.blk, b ∈ y.blk ∨ g.next ≤ b) ∧ InvB k f e X' T' (l'.drop (i + 1)) ∧ l'.length + 8 * nfN X' k.S ≤ 2000 ∧ i + 1 ≤ l'.length ∧ l'.length - (i + 1) + 9 * nfN X' k.S < l.length - i + 9 * nfN X k.S := by
  have hv : k.v = .agg [.int .i64 k.s, .int .i64 k.a, .int .i64 k.c, .int .i64 k.hd, .int .i64 k.g, .int .i64 k.st] := rfl
  have hlt := lt_of_get hi
  have hs := (I.p s (List.mem_cons_self ..)).1
  have d0 : decide ((i : Int) < (l.length : Int)) = true := natlt hlt
  have wi : wr .i64 ((i : Int) + 1) = ((i + 1 : Nat) : Int) := by rw [wr64 (by omega) (by omega)]; rfl
  obtain ⟨yb, ix, il⟩ := G.at hi
  have hln := G.len
  have hc := Z.cfg
  have hu := Z.w.u64 (.header s) hs
  have hx1 : indexAV 1 (.sl qf 0 k.S (.ex k.S)) (.int .i64 (s : Int)) = some (.ptr qf s) := sl_idx1 hs
  have hx2 : indexAV 1 (.sl qt 0 k.S (.ex k.S)) (.int .i64 (s : Int)) = some (.ptr qt s) := sl_idx1 hs
  have hX := Z.x.ld hs
  have hLv := fun h => refLives_spec hu h
  have hA := refAt13 hr (l := .header s) hs ok (c := c) Z.w
  have hA' : Ev (C 322 [.agg [.int .i64 k.s, .int .i64 k.a, .int .i64 k.c, .int .i64 k.hd, .int .i64 k.g, .int .i64 k.st], .sl b 0 k.size c, .str ⟨⟨[104, 101, 97, 100, 101, 114]⟩⟩, .int .i64 (s : Int), .int .i64 0] g) fun r => r.1 = .int .u64 (f (.header s)) ∧ Fr [] g r.2 := hA
  cases hXs : X s with
  | true =>
    rw [hXs] at hX
    simp only [S.withyref13_Found_c5_S, Option.bind_some, ld1_get', List.cons_append, List.nil_append, hln, d0, ix, il, hx1, hX, wi]
    exact Ev.some ⟨rfl, y, l, X, T, rfl, .refl ok, Z, G, fun b hb => .inl hb, by rw [hd]; exact I.skip (.inl hXs), hl, hlt, by omega⟩
  | false =>
    rw [hXs] at hX
    simp only [S.withyref13_Found_c5_S, Option.bind_some, ld1_get', ldN_get', st_get', ldNB_cells, Nat.zero_add, Nat.reduceAdd, Nat.reduceLeDiff, V.cells, List.length_cons, List.length_nil, Nat.beq_refl, decide_true, List.take_succ_cons, List.take_zero, List.drop_zero, List.cons_append, List.nil_append, W_call, hln, d0, ix, il, hx1, hX, hc]
    refine Ev.bind hA' ?_
    rintro ⟨_, g1⟩ ⟨rfl, F1⟩
    dsimp only at F1 ⊢
    have ok1 := F1.ok
    have Z1 := Z.fr ok F1 (by simp)
    have G1 := G.fr ok F1 (by simp)
    cases hlv : lives (f (.header s)) with
    | false =>
      rw [hlv] at hLv
      simp only [Option.bind_some, asB_bool, Bool.not_false, hLv, wi]
      have hw : wht f e s = false := by unfold wht white; rw [hlv]; rfl
      exact Ev.some ⟨rfl, y, l, X, T, rfl, F1.mono (by simp), Z1, G1, fun b hb => .inl hb, by rw [hd]; exact I.skip (.inr hw), hl, hlt, by omega⟩
    | true =>
      rw [hlv] at hLv
      have hm : mkd f e s = false := by
        cases hm : mkd f e s with
        | false => rfl
        | true => have := I.a s hs hm; rw [hXs] at this; cases this
      have hw : wht f e s = true := lives_wht hlv hm
      have It := I.take hXs hw
      have hst := Z1.x.stB hs true
      rw [bset_true] at hst
      have Z2 := Z1.setX ok1 (bupd X s)
      have F2 : Fr [qf, qt] g1 (g1.put qf (some (.cells (bools (bF (bupd X s) k.S)) .rw))) := (Fr.refl ok1).put (.inl (by simp)) (ok1.lt Z1.x) _
      have nt := Z.ne.symm
      have hT := Z1.t.ld hs
      have hnf := nfN_bupd hXs k.S
      rw [if_pos hs] at hnf
      have hyq : ∀ b ∈ y.blk, b ∉ [qf, qt] := fun b hb => by have := hy b hb; simp [this.2.2.1, this.2.2.2]
      cases hTs : T s with
      | true =>
        rw [hTs] at hT It
        simp only [if_true, List.append_nil] at It
        simp only [Option.bind_some, Option.map_some, ld1_get', st_get', get_put', Nat.zero_add, V.cells, asB_bool, List.length_cons, List.length_nil, Nat.beq_refl, Bool.not_true, if_false, hLv, hst, hx2, nt, hT, wi]
        exact Ev.some ⟨rfl, y, l, bupd X s, T, rfl, (F1.mono (by simp)).trans' (F2.mono (fun b hb => .inl (List.mem_append_left _ hb))), Z2, G1.fr ok1 F2 hyq, fun b hb => .inl hb, by rw [hd]; exact It, by omega, hlt, by omega⟩
      | false =>
        rw [hTs] at hT It
        simp only [Bool.false_eq_true, if_false] at It
        have hst2 := Z2.t.stB hs true
        rw [bset_true] at hst2
        have hgt : (g1.put qf (some (.cells (bools (bF (bupd X s) k.S)) .rw))).get qt = g1.get qt := get_put_ne nt
        rw [hgt] at hst2
        have Z3 := Z2.setT F2.ok (bupd T s)
        have F3 : Fr [qf, qt] g1 ((g1.put qf (some (.cells (bools (bF (bupd X s) k.S)) .rw))).put qt (some (.cells (bools (bF (bupd T s) k.S)) .rw))) := F2.put (.inl (by simp)) (F2.ok.lt Z2.t) _
        have hc1 := Z1.cfg
        have nc1 := Z.n1.1
        have nc2 := Z.n1.2
        simp only [Option.bind_some, Option.map_some, ld1_get', st_get', get_put', ldNB_cells, Nat.zero_add, Nat.reduceAdd, Nat.reduceLeDiff, V.cells, asB_bool, List.length_cons, List.length_nil, Nat.beq_refl, Bool.not_true, Bool.not_false, decide_true, if_false, List.take_succ_cons, List.take_zero, List.drop_zero, hLv, hst, hx2, nt, hT, hst2, nc1, nc2, hc1]
        have G3 := G1.fr ok1 F3 hyq
        generalize (g1.put qf (some (.cells (bools (bF (bupd X s) k.S)) .rw))).put qt (some (.cells (bools (bF (bupd T s) k.S)) .rw)) = g3 at Z3 F3 G3 ⊢
        have ok3 := F3.ok
        have hNm := rf_names hr ok3 (c := c) Z3.w hs
        rw [hv] at hNm
        refine Ev.bind hNm ?_
        rintro ⟨m, g4⟩ ⟨F4, G4, hm4⟩
        dsimp only at F4 G4 hm4 ⊢
        have ok4 := F4.ok
        have h8 := namesL_len hr (f := f) (q := s)
        obtain ⟨y', g5, e5, F5, G5, hn5⟩ := GI.join ok4 (G3.fr ok3 F4 (by simp)) G4 (by omega) (by omega)
        simp only [Option.bind_some, e5, wi]
        have F45 : Fr ([qf, qt] ++ y.blk) g g5 := (F1.mono (by simp)).trans' ((F3.mono (fun b hb => .inl (List.mem_append_left _ hb))).trans' ((F4.mono (by simp)).trans' (F5.mono (fun b hb => .inl (List.mem_append_right _ hb)))))
        refine Ev.some ⟨rfl, y', l ++ namesL k f s, bupd X s, bupd T s, rfl, F45, (Z3.fr ok3 F4 (by simp)).fr ok4 F5 hy, G5, fun b hb => .inr ?_, ?_, ?_, ?_, ?_⟩
        · exact Nat.le_trans (Nat.le_trans F1.le (Nat.le_trans F3.le F4.le)) (hn5 b hb)
        · rw [List.drop_append_of_le_length (by omega), hd]; exact It
        · rw [List.length_append]; omega
        · rw [List.length_append]; omega
        · rw [List.length_append]; omega

theorem f13_grays {g : H} (ok : g.ok) {X T : Nat → Bool} (Z : F13At k g cb b qf qt f X T) (hT : ∀ q, q < k.S → T q = gry f q) {y : V} {l : List Nat} (G : GI g.get y l) (hy : ∀ c ∈ y.blk, c ≠ cb ∧ c ≠ b ∧ c ≠ qf ∧ c ≠ qt) {i : Nat} (hi : i < k.S) (hl : l.length ≤ 1000) :
    Ev (S.withyref13_Found_c3_S W (.sl b 0 k.size c) (.ptr cb 0) (.sl qf 0 k.S (.ex k.S)) (.sl qt 0 k.S (.ex k.S)) y (i : Nat) g) fun r => r.1 = .normal ∧ ∃ y', r.2.1 = S.withyref13_Found_c3_E (.sl b 0 k.size c) (.ptr cb 0) (.sl qf 0 k.S (.ex k.S)) (.sl qt 0 k.S (.ex k.S)) y' (.int .i64 (i + 1 : Nat)) ∧ Fr y.blk g r.2.2 ∧ GI r.2.2.get y' (l ++ if gry f i then namesL k f i else []) ∧ ∀ b ∈ y'.blk, b ∈ y.blk ∨ g.next ≤ b := by
  have hv : k.v = .agg [.int .i64 k.s, .int .i64 k.a, .int .i64 k.c, .int .i64 k.hd, .int .i64 k.g, .int .i64 k.st] := rfl
  have hbd := (Cfg.bounds hr).1
  have hks : k.s = (k.S : Int) := by have := Cfg.R_iff.mp hr; unfold Cfg.S; omega
  have d0 : decide ((i : Int) < k.s) = true := decide_eq_true (by omega)
  have wi := gr_i (i := i) (by omega)
  clear hbd hks
  have hc := Z.cfg
  have hx2 : indexAV 1 (.sl qt 0 k.S (.ex k.S)) (.int .i64 (i : Int)) = some (.ptr qt i) := sl_idx1 hi
  have hTl := Z.t.ld hi
  rw [hT i hi] at hTl
  cases hg : gry f i with
  | false =>
    rw [hg] at hTl
    simp only [S.withyref13_Found_c3_S, ptrAt_ptr, Option.bind_some, ld1_get', ldN_get', ldB_cells, ldNB_cells, List.getElem?_cons_zero, Nat.zero_add, Nat.add_zero, Nat.reduceAdd, Nat.reduceLeDiff, V.one, asI_int, asB_bool, List.length_cons, List.length_nil, decide_true, if_false, List.take_succ_cons, List.take_zero, List.drop_zero, reduceCtorEq, W_call, hc, d0, hx2, hTl, wi]
    exact Ev.some ⟨rfl, y, rfl, .refl ok, by simpa using G, fun b hb => .inl hb⟩
  | true =>
    rw [hg] at hTl
    have hNm := rf_names hr ok (c := c) Z.w hi
    rw [hv] at hNm
    simp only [S.withyref13_Found_c3_S, ptrAt_ptr, Option.bind_some, ld1_get', ldN_get', ldB_cells, ldNB_cells, List.getElem?_cons_zero, Nat.zero_add, Nat.add_zero, Nat.reduceAdd, Nat.reduceLeDiff, V.one, asI_int, asB_bool, List.length_cons, List.length_nil, decide_true, if_true, List.take_succ_cons, List.take_zero, List.drop_zero, W_call, hc, d0, hx2, hTl]
    refine Ev.bind hNm ?_
    rintro ⟨m, g4⟩ ⟨F4, G4, hm4⟩
    dsimp only at F4 G4 hm4 ⊢
    have h8 := namesL_len hr (f := f) (q := i)
    obtain ⟨y', g5, e5, F5, G5, hn5⟩ := GI.join F4.ok (G.fr ok F4 (by simp)) G4 (by omega) (by omega)
    simp only [Option.bind_some, e5, wi]
    exact Ev.some ⟨rfl, y', rfl, (F4.mono (by simp)).trans' F5, G5, fun b hb => .inr (Nat.le_trans F4.le (hn5 b hb))⟩
end

theorem rf_found {k : Cfg} (hr : k.R = true) {e : Int} (hE : U64 e) {h : H} (ok : h.ok) {b : Nat} {c : Cap} {f : Wd → Int} (Z : WordsAt k h b f) :
    Ev (C 156 [k.v, .sl b 0 k.size c, .int .u64 e] h) fun r => ∃ q X, r.1 = .sl q 0 k.S (.ex k.S) ∧ Fr [] h r.2 ∧ h.next ≤ q ∧ TruAt r.2 q X k.S ∧ FLeast k f e X := by
  refine call_ev (af := F.withyref13_Found) (by kernel_rfl) rfl ?_
  have hv : k.v = .agg [.int .i64 k.s, .int .i64 k.a, .int .i64 k.c, .int .i64 k.hd, .int .i64 k.g, .int .i64 k.st] := rfl
  have hbd := Cfg.bounds hr
  have hks : k.s = (k.S : Int) := by have := Cfg.R_iff.mp hr; unfold Cfg.S; omega
  have hR := ref06Right_spec k.s k.a k.c k.hd k.g k.st
  rw [show cfgR k.s k.a k.c k.hd k.g k.st = true from hr, show cfgV k.s k.a k.c k.hd k.g k.st = k.v from rfl, hv] at hR
  have F0 : Fr [] h (h.new (.cells [.int .i64 k.s, .int .i64 k.a, .int .i64 k.c, .int .i64 k.hd, .int .i64 k.g, .int .i64 k.st] .rw)) := (Fr.refl ok).new _
  have hc0 := get_new_self h (.cells [.int .i64 k.s, .int .i64 k.a, .int .i64 k.c, .int .i64 k.hd, .int .i64 k.g, .int .i64 k.st] .rw)
  obtain ⟨g1, wb, wc, wk, e1, F1, hwb, _⟩ := Words_spec hr F0.ok
  rw [hv] at e1
  have hc1 := F1.get F0.ok hc0 (by simp)
  have dsz : decide ((k.size : Int) = (k.size : Int)) = true := decide_eq_true rfl
  have ok1 := F1.ok
  have mk1 := mkBools (h := g1) (n := k.S) (by omega)
  have F2 : Fr [] g1 (g1.new (.cells (bools (List.replicate k.S false)) .rw)) := (Fr.refl ok1).new _
  have mk2 := mkBools (h := g1.new (.cells (bools (List.replicate k.S false)) .rw)) (n := k.S) (by omega)
  rw [← hks] at mk1 mk2
  have nc1 : h.next ≠ g1.next := ok1.ne0 hc1
  rw [hv, S.withyref13_Found_eq]
  simp only [S.withyref13_Found, lenSl_sl, Option.bind_some, ld1_get', ldN_get', get_new', ldB_cells, ldNB_cells, H.next_new, List.getElem?_cons_zero, Nat.zero_add, Nat.reduceAdd, Nat.reduceLeDiff, V.one, asI_int, asB_bool, List.length_cons, List.length_nil, Bool.not_true, decide_true, if_true, if_false, List.take_succ_cons, List.take_zero, List.drop_zero, W_call, hR, e1, hc1, mk1, nc1, mk2]
  have F3 : Fr [] g1 ((g1.new (.cells (bools (List.replicate k.S false)) .rw)).new (.cells (bools (List.replicate k.S false)) .rw)) := F2.new _
  have hlt1 : h.next < g1.next := ok1.lt hc1
  have hbl := Z.lt ok
  have Z3 : F13At k ((g1.new (.cells (bools (List.replicate k.S false)) .rw)).new (.cells (bools (List.replicate k.S false)) .rw)) h.next b g1.next (g1.next + 1) f (below (mkd f e) 0) (below (gry f) 0) := by
    refine ⟨F3.get ok1 hc1 (by simp), Z.fr ok (F0.trans' (F1.trans' F3)) (by simp), ?_, ?_, by omega, ⟨by omega, by omega⟩, ⟨by omega, by omega⟩⟩
    · rw [below_zero]; unfold TruAt; rw [← bF_false, get_new_ne (by rw [H.next_new]; omega), get_new_self]
    · rw [below_zero]; unfold TruAt; rw [← bF_false]; exact get_new_self _ _
  have F03 := F0.trans' (F1.trans' F3)
  have hq0 : h.next ≤ g1.next := Nat.le_of_lt hlt1
  generalize (g1.new (.cells (bools (List.replicate k.S false)) .rw)).new (.cells (bools (List.replicate k.S false)) .rw) = g3 at F3 Z3 F03 ⊢
  have ok3 := F3.ok
  have hqf3 : g1.next < g3.next := ok3.lt Z3.x
  have hqt3 : g1.next + 1 < g3.next := ok3.lt Z3.t
  have hcb3 : h.next < g3.next := ok3.lt Z3.cfg
  have hb3 : b < g3.next := Z3.w.lt ok3
  refine loop_ev (α := Nat) (fun i => S.withyref13_Found_c1_E (.sl b 0 k.size c) (.int .u64 e) (.ptr h.next 0) (.sl g1.next 0 k.S (.ex k.S)) (.sl (g1.next + 1) 0 k.S (.ex k.S)) (.int .i64 (i : Nat)))
    (fun i g => i ≤ k.S ∧ Fr [g1.next, g1.next + 1] g3 g ∧ F13At k g h.next b g1.next (g1.next + 1) f (below (mkd f e) i) (below (gry f) i)) (fun i _ => k.S - i)
    (fun r => r.1 = .exit 0 ∧ r.2.1 = S.withyref13_Found_c1_O (.sl b 0 k.size c) (.ptr h.next 0) (.sl g1.next 0 k.S (.ex k.S)) (.sl (g1.next + 1) 0 k.S (.ex k.S)) ∧ Fr [g1.next, g1.next + 1] g3 r.2.2 ∧ F13At k r.2.2 h.next b g1.next (g1.next + 1) f (below (mkd f e) k.S) (below (gry f) k.S))
    0 rfl ⟨Nat.zero_le _, .refl ok3, Z3⟩ ?_ ?_
  · rintro i g ⟨hi, F, Zg⟩
    rw [S.withyref13_Found_c1_eq]
    by_cases hik : i < k.S
    rotate_left
    · have he : i = k.S := by omega
      subst he
      have d0 : decide ((k.S : Int) < k.s) = false := decide_eq_false (by omega)
      have hcg := Zg.cfg
      simp only [S.withyref13_Found_c1_S, ptrAt_ptr, Option.bind_some, ld1_get', ldN_get', st_get', get_new', ldB_cells, ldNB_cells, stB_cells, List.getElem?_cons_zero, Nat.zero_add, Nat.add_zero, Nat.reduceAdd, Nat.reduceLeDiff, V.one, V.cells, asI_int, List.length_cons, List.length_nil, Bool.false_or, decide_true, decide_false, if_true, splice, List.take_succ_cons, List.take_zero, List.drop_zero, List.nil_append, reduceCtorEq, W_call, hcg, d0]
      exact Ev.some (.inr ⟨by simp, rfl, rfl, F, Zg⟩)
    refine (f13_first hr hE F.ok Zg hik).mono ?_
    rintro ⟨_, _, g'⟩ ⟨rfl, rfl, F', Z'⟩
    exact .inl ⟨i + 1, rfl, rfl, ⟨hik, F.trans' F', by rw [← below_succ, ← below_succ]; exact Z'⟩, Nat.sub_lt_sub_left hik (Nat.lt_succ_self i)⟩
  rintro ⟨_, _, g4⟩ ⟨rfl, rfl, F4, Z4⟩
  dsimp only at F4 Z4
  show Ev (S.withyref13_Found_K2 W (.exit 0) _ g4) _
  rw [S.withyref13_Found_c1_e0_eq]
  have ok4 := F4.ok
  have Z4' : F13At k g4 h.next b g1.next (g1.next + 1) f (mkd f e) (gry f) := ⟨Z4.cfg, Z4.w, Z4.x.congr fun q hq => below_all _ hq, Z4.t.congr fun q hq => below_all _ hq, Z4.ne, Z4.n1, Z4.n2⟩
  have hc4 := Z4'.cfg
  have hRt := rf_roots hr ok4 (c := c) Z4'.w
  rw [hv] at hRt
  simp only [S.withyref13_Found_c1_e0, Option.bind_some, ldN_get', ldNB_cells, Nat.zero_add, Nat.reduceAdd, Nat.reduceLeDiff, List.length_cons, List.length_nil, decide_true, List.take_succ_cons, List.take_zero, List.drop_zero, W_call, hc4]
  refine Ev.bind hRt ?_
  rintro ⟨y0, g5⟩ ⟨F5, G5, hy0⟩
  dsimp only at F5 G5 hy0 ⊢
  have ok5 := F5.ok
  have Z5 := Z4'.fr ok4 F5 (by simp)
  have hl5 : g3.next ≤ g4.next := F4.le
  have hrl := rootsL_len hr (f := f) k.C
  have old : ∀ {y : V}, (∀ b ∈ y.blk, g4.next ≤ b) → ∀ c ∈ y.blk, c ≠ h.next ∧ c ≠ b ∧ c ≠ g1.next ∧ c ≠ g1.next + 1 := fun hy c hc => by have := hy c hc; omega
  refine loop_ev (α := Nat × V) (fun z => S.withyref13_Found_c3_E (.sl b 0 k.size c) (.ptr h.next 0) (.sl g1.next 0 k.S (.ex k.S)) (.sl (g1.next + 1) 0 k.S (.ex k.S)) z.2 (.int .i64 (z.1 : Nat)))
    (fun z g => z.1 ≤ k.S ∧ Fr [] g4 g ∧ F13At k g h.next b g1.next (g1.next + 1) f (mkd f e) (gry f) ∧ GI g.get z.2 (rootsL k f k.C ++ graysL k f z.1) ∧ ∀ b ∈ z.2.blk, g4.next ≤ b) (fun z _ => k.S - z.1)
    (fun r => ∃ y, r.1 = .exit 2 ∧ r.2.1 = S.withyref13_Found_c3_O (.sl b 0 k.size c) (.ptr h.next 0) (.sl g1.next 0 k.S (.ex k.S)) (.sl (g1.next + 1) 0 k.S (.ex k.S)) y ∧ Fr [] g4 r.2.2 ∧ F13At k r.2.2 h.next b g1.next (g1.next + 1) f (mkd f e) (gry f) ∧ GI r.2.2.get y (rootsL k f k.C ++ graysL k f k.S) ∧ ∀ b ∈ y.blk, g4.next ≤ b)
    (0, y0) rfl ⟨Nat.zero_le _, F5, Z5, by rw [show graysL k f 0 = [] from rfl, List.append_nil]; exact G5, hy0⟩ ?_ ?_
  · rintro ⟨i, y⟩ g ⟨hi, F, Zg, G, hy⟩
    dsimp only at hi F Zg G hy ⊢
    rw [S.withyref13_Found_c3_eq]
    by_cases hik : i < k.S
    rotate_left
    · have he : i = k.S := by omega
      subst he
      have d0 : decide ((k.S : Int) < k.s) = false := decide_eq_false (by omega)
      have hcg := Zg.cfg
      simp only [S.withyref13_Found_c3_S, ptrAt_ptr, Option.bind_some, ld1_get', ldN_get', ldB_cells, ldNB_cells, List.getElem?_cons_zero, Nat.zero_add, Nat.add_zero, Nat.reduceAdd, Nat.reduceLeDiff, V.one, asI_int, List.length_cons, List.length_nil, decide_true, List.take_succ_cons, List.take_zero, List.drop_zero, W_call, hcg, d0]
      exact Ev.some (.inr ⟨by simp, y, rfl, rfl, F, Zg, G, hy⟩)
    have hgl := graysL_len hr (f := f) i
    refine (f13_grays hr hE F.ok Zg (fun _ _ => rfl) G (old hy) hik (by rw [List.length_append]; omega)).mono ?_
    rintro ⟨_, _, g'⟩ ⟨rfl, y', rfl, F', G', hy'⟩
    dsimp only at F' G'
    refine .inl ⟨(i + 1, y'), rfl, rfl, ⟨hik, F.trans F' (fun b hb => .inr (hy b hb)), Zg.fr F.ok F' (old hy), ?_, fun b hb => (hy' b hb).elim (hy b) (fun h => Nat.le_trans F.le h)⟩, Nat.sub_lt_sub_left hik (Nat.lt_succ_self i)⟩
    rw [graysL_succ, ← List.append_assoc]; exact G'
  rintro ⟨_, _, g6⟩ ⟨y6, rfl, rfl, F6, Z6, G6, hy6⟩
  dsimp only at F6 Z6 G6
  show Ev (S.withyref13_Found_K4 W (.exit 2) _ g6) _
  rw [S.withyref13_Found_c3_e2_eq]
  simp only [S.withyref13_Found_c3_e2]
  have hgl := graysL_len hr (f := f) k.S
  have hnf0 := nfN_le (mkd f e) k.S
  have F36 := F4.trans (F6.mono (L' := []) (by simp)) (by simp)
  refine loop_ev (α := Nat × V × List Nat × (Nat → Bool) × (Nat → Bool)) (fun z => S.withyref13_Found_c5_E (.sl b 0 k.size c) (.ptr h.next 0) (.sl g1.next 0 k.S (.ex k.S)) (.sl (g1.next + 1) 0 k.S (.ex k.S)) z.2.1 (.int .i64 (z.1 : Nat)))
    (fun z g => z.1 ≤ z.2.2.1.length ∧ Fr [g1.next, g1.next + 1] g3 g ∧ g4.next ≤ g.next ∧ F13At k g h.next b g1.next (g1.next + 1) f z.2.2.2.1 z.2.2.2.2 ∧ GI g.get z.2.1 z.2.2.1 ∧ (∀ b ∈ z.2.1.blk, g4.next ≤ b) ∧ InvB k f e z.2.2.2.1 z.2.2.2.2 (z.2.2.1.drop z.1) ∧ z.2.2.1.length + 8 * nfN z.2.2.2.1 k.S ≤ 2000) (fun z _ => z.2.2.1.length - z.1 + 9 * nfN z.2.2.2.1 k.S)
    (fun r => ∃ X, r.1 = .exit 4 ∧ r.2.1 = S.withyref13_Found_c5_O (.sl g1.next 0 k.S (.ex k.S)) ∧ Fr [g1.next, g1.next + 1] g3 r.2.2 ∧ TruAt r.2.2 g1.next X k.S ∧ FLeast k f e X)
    (0, y6, rootsL k f k.C ++ graysL k f k.S, mkd f e, gry f) rfl ⟨Nat.zero_le _, F36, F6.le, Z6, G6, hy6, by rw [List.drop_zero]; exact invB0 k f e, by show (rootsL k f k.C ++ graysL k f k.S).length + 8 * nfN (mkd f e) k.S ≤ 2000; rw [List.length_append]; omega⟩ ?_ ?_
  · rintro ⟨i, y, l, X, T⟩ g ⟨hi, F, hg4, Zg, G, hy, I, hl⟩
    dsimp only at hi F hg4 Zg G hy I hl ⊢
    rw [S.withyref13_Found_c5_eq]
    by_cases hil : i < l.length
    rotate_left
    · have he : i = l.length := by omega
      have d0 : decide ((i : Int) < (l.length : Int)) = false := decide_eq_false (by omega)
      have hln := G.len
      simp only [S.withyref13_Found_c5_S, Option.bind_some, hln, d0]
      rw [he, List.drop_length] at I
      exact Ev.some (.inr ⟨by simp, X, rfl, rfl, F, Zg.x, I.done⟩)
    obtain ⟨s, hs⟩ : ∃ s, l[i]? = some s := ⟨_, List.getElem?_eq_getElem hil⟩
    have hdr : l.drop i = s :: l.drop (i + 1) := by
      rw [List.drop_eq_getElem_cons hil]
      rw [List.getElem?_eq_getElem hil] at hs
      cases hs; rfl
    rw [hdr] at I
    refine (f13_next hr hE F.ok Zg G (old hy) hs rfl I hl).mono ?_
    rintro ⟨_, _, g'⟩ ⟨rfl, y', l', X', T', rfl, F', Z', G', hy', I', hl', hi', hm⟩
    dsimp only at F' Z' G'
    refine .inl ⟨(i + 1, y', l', X', T'), rfl, rfl, ⟨hi', F.trans F' (fun b hb => ?_), Nat.le_trans hg4 F'.le, Z', G', fun b hb => (hy' b hb).elim (hy b) (fun h => Nat.le_trans hg4 h), I', hl'⟩, hm⟩
    rcases List.mem_append.mp hb with hb | hb
    · exact .inl hb
    · exact .inr (Nat.le_trans hl5 (hy b hb))
  rintro ⟨_, _, g7⟩ ⟨X, rfl, rfl, F7, Z7, hX⟩
  dsimp only at F7 Z7
  show Ev (S.withyref13_Found_K6 W (.exit 4) _ g7) _
  rw [S.withyref13_Found_c5_e4_eq]
  refine Ev.some ⟨g1.next, X, rfl, F03.trans F7 (fun b hb => .inr ?_), hq0, Z7, hX⟩
  simp only [List.mem_cons, List.not_mem_nil, or_false] at hb
  omega
end Wm
end

section
/- withyref13.Sane; two lists of truths: withyref13.Same. -/
namespace Wm
attribute [local congr] bind_congr1
attribute [local irreducible] wr

theorem same13 {h : H} (ok : h.ok) {a b n : Nat} {X Y : Nat → Bool} (hX : TruAt h a X n) (hY : TruAt h b Y n) (hn : n ≤ 1000) (hs : ∀ q, q < n → X q = Y q) {ca cb : Cap} : Ev (C 124 [.sl a 0 n ca, .sl b 0 n cb] h) fun r => r.1 = .bool true ∧ Fr [] h r.2 := by
  refine call_ev (af := F.withyref13_Same) (by kernel_rfl) rfl ?_
  rw [S.withyref13_Same_eq]
  have d0 : decide ((n : Int) = (n : Int)) = true := decide_eq_true rfl
  simp only [S.withyref13_Same, lenSl_sl, Option.bind_some, Bool.not_true, decide_true]
  refine loop_ev (α := Nat) (fun i => S.withyref13_Same_c1_E (.sl a 0 n ca) (.sl b 0 n cb) (.int .i64 (i : Nat)))
    (fun i g => i ≤ n ∧ g = h) (fun i _ => n - i) (fun r => r.1 = .exit 0 ∧ r.2.1 = S.withyref13_Same_c1_O .dead ∧ r.2.2 = h) 0 rfl ⟨Nat.zero_le _, rfl⟩ ?_ ?_
  rotate_left
  · rintro ⟨_, _, g⟩ ⟨rfl, rfl, rfl⟩
    show Ev (S.withyref13_Same_K2 W (.exit 0) _ _) _
    rw [S.withyref13_Same_c1_e0_eq]
    exact Ev.some ⟨rfl, .refl ok⟩
  rintro i g ⟨hi, rfl⟩
  rw [S.withyref13_Same_c1_eq]
  by_cases hin : i < n
  rotate_left
  · have d : decide ((i : Int) < (n : Int)) = false := decide_eq_false (by omega)
    simp only [S.withyref13_Same_c1_S, lenSl_sl, Option.bind_some, eqV, d]
    exact Ev.some (.inr ⟨by simp, rfl, rfl, rfl⟩)
  have d : decide ((i : Int) < (n : Int)) = true := natlt hin
  have i1 : indexAV 1 (.sl a 0 n ca) (.int .i64 (i : Int)) = some (.ptr a i) := sl_idx1 hin
  have i2 : indexAV 1 (.sl b 0 n cb) (.int .i64 (i : Int)) = some (.ptr b i) := sl_idx1 hin
  have l1 := hX.ld hin
  have l2 := hY.ld hin
  rw [hs i hin] at l1
  have wi := gr_i (i := i) (by omega)
  simp only [S.withyref13_Same_c1_S, lenSl_sl, Option.bind_some, ld1_get', Bool.not_true, eqV, d, i1, i2, l1, l2, BEq.rfl, wi]
  exact Ev.some (.inl ⟨i + 1, rfl, rfl, ⟨hin, rfl⟩, Nat.sub_lt_sub_left hin (Nat.lt_succ_self i)⟩)
theorem same13_nil (h : H) : Ev (C 124 [.nilsl, .nilsl] h) fun r => r.1 = .bool true := by
  refine call_ev (af := F.withyref13_Same) (by kernel_rfl) rfl ?_
  rw [S.withyref13_Same_eq]
  simp only [S.withyref13_Same, lenSl_nil, Option.bind_some, Bool.not_true, decide_true, Int.cast_ofNat_Int]
  refine loop_ev (α := Unit) (fun _ => S.withyref13_Same_c1_E .nilsl .nilsl (.int .i64 0))
    (fun _ _ => True) (fun _ _ => 0) (fun r => r.1 = .exit 0 ∧ r.2.1 = S.withyref13_Same_c1_O .dead) () rfl trivial ?_ ?_
  · rintro _ g _
    rw [S.withyref13_Same_c1_eq]
    have d : decide ((0 : Int) < 0) = false := rfl
    simp only [S.withyref13_Same_c1_S, lenSl_nil, Option.bind_some, Nat.reduceLT, Int.reduceLT, decide_false, eqV, Int.cast_ofNat_Int]
    exact Ev.some (.inr ⟨by simp, rfl, rfl⟩)
  · rintro ⟨_, _, g⟩ ⟨rfl, rfl⟩
    show Ev (S.withyref13_Same_K2 W (.exit 0) _ _) _
    rw [S.withyref13_Same_c1_e0_eq]
    exact Ev.some rfl

def saneS (e : Int) (s : Slt) : Slt := { s with head := { s.head with gray := s.head.gray && decide (s.head.mark = black e) } }
theorem saneS_ok {e : Int} {s : Slt} (h : s.okS) : (saneS e s).okS := ⟨h.head, h.body⟩
theorem RowS.at7 {g : H} {x : V} {l : List Slt} (h : RowS g.get x l) (ok : g.ok) {i : Nat} {y : Slt} (hy : l[i]? = some y) :
    ∃ b, indexAV 7 x (.int .i64 (i : Int)) = some (.ptr b (i * 7)) ∧ ldNB (g.get b) (i * 7) 7 = some (.agg y.cs) ∧ b < g.next := by
  have hi := lt_of_get hy
  obtain ⟨rfl, rfl⟩ | ⟨b, c, k, rfl, hb⟩ := h.row
  · simp at hy
  · have hn : (l.map Slt.cs).flatten.length = l.length * 7 := by rw [flat_length (slt7 l), List.length_map]
    have hp := flat_part (slt7 l) i y.cs (by rw [List.getElem?_map, hy]; rfl)
    exact ⟨b, sl_idx hi, by rw [hb, ldNB_cells, decide_eq_true (by rw [hn]; omega), hp], ok.lt hb⟩

def saneL (e : Int) (l : List Slt) (n : Nat) : List Slt := (l.take n).map (saneS e)
theorem saneL_succ {e : Int} {l : List Slt} {n : Nat} {y : Slt} (h : l[n]? = some y) : saneL e l (n + 1) = saneL e l n ++ [saneS e y] := by
  unfold saneL
  rw [List.take_succ, h, List.map_append]; rfl
theorem saneL_len {e : Int} {l : List Slt} {n : Nat} (h : n ≤ l.length) : (saneL e l n).length = n := by
  unfold saneL
  rw [List.length_map, List.length_take]; omega

theorem sane_step {h : H} {x : V} {l : List Slt} {e : Int} (hE : U64 e) {g : H} (okg : g.ok) (hx : RowS g.get x l) {i : Nat} {y : Slt} (hy : l[i]? = some y) (hl : l.length ≤ 20) {z : V} {cs : List V} (G : Grown g.get z 7 cs) (hcs : cs.length ≤ 1000) :
    Ev (S.withyref13_Sane_c1_S W x e z (i : Nat) g) fun r => r.1 = .normal ∧ ∃ z', r.2.1 = S.withyref13_Sane_c1_E x (.int .u64 e) z' (.int .i64 (i + 1 : Nat)) ∧ Fr z.blk g r.2.2 ∧ Grown r.2.2.get z' 7 (cs ++ (saneS e y).cs) ∧ ∀ b ∈ z'.blk, g.next ≤ b := by
  have hi := lt_of_get hy
  have hln := hx.len
  have d0 : decide ((i : Int) < (l.length : Int)) = true := natlt hi
  have d1 : decide ((i : Int) ≤ 20) = true := decide_eq_true (by omega)
  have wi := gr_i (i := i) (by omega)
  obtain ⟨b, ix, il, hb⟩ := hx.at7 okg hy
  have hv := hx.body y (List.mem_of_getElem? hy)
  have nb : b ≠ g.next := Nat.ne_of_lt hb
  have hBl := fun h => refBlack_spec hE h
  obtain ⟨⟨kd, m, gr, ar, gn, st⟩, v, bd⟩ := y
  have hone : v.one = true := hv.one
  have hcy : (⟨⟨kd, m, gr, ar, gn, st⟩, v, bd⟩ : Slt).cs = [.int .i64 kd, .int .i64 m, .bool gr, .int .i64 ar, .int .i64 gn, .int .i64 st, v] := rfl
  rw [hcy] at il
  -- what is appended
  have key : ∀ gr', ∃ z' g', ((((g.new (.cells [.int .i64 0, .int .i64 0, .bool false, .int .i64 0, .int .i64 0, .int .i64 0, .nilsl] .rw)).put g.next (some (.cells [.int .i64 kd, .int .i64 m, .bool gr', .int .i64 ar, .int .i64 gn, .int .i64 st, v] .rw))).new (.cells [.int .i64 kd, .int .i64 m, .bool gr', .int .i64 ar, .int .i64 gn, .int .i64 st, v] .rw)).append 7 72 z (.sl (g.next + 1) 0 1 (.ex 1))) = some (z', g') ∧ Fr z.blk g g' ∧ Grown g'.get z' 7 (cs ++ [.int .i64 kd, .int .i64 m, .bool gr', .int .i64 ar, .int .i64 gn, .int .i64 st, v]) ∧ ∀ b ∈ z'.blk, g.next ≤ b := by
    intro gr'
    have F1 : Fr [] g ((g.new (.cells [.int .i64 0, .int .i64 0, .bool false, .int .i64 0, .int .i64 0, .int .i64 0, .nilsl] .rw)).put g.next (some (.cells [.int .i64 kd, .int .i64 m, .bool gr', .int .i64 ar, .int .i64 gn, .int .i64 st, v] .rw))) := ((Fr.refl okg).new _).put (.inr (Nat.le_refl _)) (Nat.lt_succ_self _) _
    have hnx : ((g.new (.cells [.int .i64 0, .int .i64 0, .bool false, .int .i64 0, .int .i64 0, .int .i64 0, .nilsl] .rw)).put g.next (some (.cells [.int .i64 kd, .int .i64 m, .bool gr', .int .i64 ar, .int .i64 gn, .int .i64 st, v] .rw))).next = g.next + 1 := rfl
    generalize ((g.new (.cells [.int .i64 0, .int .i64 0, .bool false, .int .i64 0, .int .i64 0, .int .i64 0, .nilsl] .rw)).put g.next (some (.cells [.int .i64 kd, .int .i64 m, .bool gr', .int .i64 ar, .int .i64 gn, .int .i64 st, v] .rw))) = g1 at F1 hnx
    have F2 : Fr [] g1 (g1.new (.cells [.int .i64 kd, .int .i64 m, .bool gr', .int .i64 ar, .int .i64 gn, .int .i64 st, v] .rw)) := (Fr.refl F1.ok).new _
    have hall : [V.int .i64 kd, .int .i64 m, .bool gr', .int .i64 ar, .int .i64 gn, .int .i64 st, v].all V.one = true := by
      simp only [List.all_cons, List.all_nil, hone, Bool.and_true]; rfl
    obtain ⟨z', g', e1, F3, G3, hn, _⟩ := Grown.push F2.ok (bytes := 72) ((G.fr okg F1 (by simp)).fr F1.ok F2 (by simp)) (get_new_self g1 _) rfl hall (by decide) ⟨by decide, by decide⟩ (by omega)
    rw [hnx] at e1
    exact ⟨z', g', e1, ((F1.mono (by simp)).trans' (F2.mono (by simp))).trans' F3, G3, fun b hb => Nat.le_trans F1.le (Nat.le_trans F2.le (hn b hb))⟩
  have hsc : ∀ gr', (gr && decide (m = black e)) = gr' → (saneS e ⟨⟨kd, m, gr, ar, gn, st⟩, v, bd⟩).cs = [.int .i64 kd, .int .i64 m, .bool gr', .int .i64 ar, .int .i64 gn, .int .i64 st, v] := fun gr' h => by rw [← h]; rfl
  have hshape : v = .nilsl ∨ ∃ b o n c, v = .sl b o n c := by
    obtain ⟨h1, _⟩ | ⟨b, c, k, h1, _⟩ := hv
    · exact .inl h1
    · exact .inr ⟨_, _, _, _, h1⟩
  clear hv hx
  cases gr with
  | true =>
    obtain ⟨z', g', e1, F1, G1, hn⟩ := key (decide (m = black e))
    rw [hsc (decide (m = black e)) (Bool.true_and _)]
    rcases hshape with rfl | ⟨vb, vo, vn, vc, rfl⟩
    · simp only [S.withyref13_Sane_c1_S, Option.bind_some, Option.map_some, ld1_get', ldN_get', st_get', get_put', get_new', put_put', ldB_cells, ldNB_cells, stB_cells, H.next_new, H.next_put, List.getElem?_cons_zero, List.getElem?_cons_succ, Nat.zero_add, Nat.reduceAdd, Nat.reduceLeDiff, V.one, V.cells, V.beq, ckB_some, asI_int, List.length_cons, List.length_nil, Nat.beq_refl, List.all_cons, List.all_nil, Bool.and_true, Bool.not_true, Bool.false_or, Bool.or_self, Bool.and_self, decide_true, decide_false, if_true, splice, List.take_succ_cons, List.take_zero, List.drop_succ_cons, List.drop_zero, List.cons_append, List.nil_append, reduceCtorEq, fill, repl, opd, boxc, W_call, hln, d0, d1, ix, il, hBl, e1, wi]
      exact Ev.some ⟨rfl, z', rfl, F1, G1, hn⟩
    · simp only [S.withyref13_Sane_c1_S, Option.bind_some, Option.map_some, ld1_get', ldN_get', st_get', get_put', get_new', put_put', ldB_cells, ldNB_cells, stB_cells, H.next_new, H.next_put, List.getElem?_cons_zero, List.getElem?_cons_succ, Nat.zero_add, Nat.reduceAdd, Nat.reduceLeDiff, V.one, V.cells, V.beq, ckB_some, asI_int, List.length_cons, List.length_nil, Nat.beq_refl, List.all_cons, List.all_nil, Bool.and_true, Bool.not_true, Bool.false_or, Bool.or_self, Bool.and_self, decide_true, decide_false, if_true, splice, List.take_succ_cons, List.take_zero, List.drop_succ_cons, List.drop_zero, List.cons_append, List.nil_append, reduceCtorEq, fill, repl, opd, boxc, W_call, hln, d0, d1, ix, il, hBl, e1, wi]
      exact Ev.some ⟨rfl, z', rfl, F1, G1, hn⟩
  | false =>
    obtain ⟨z', g', e1, F1, G1, hn⟩ := key false
    rw [hsc false (Bool.false_and _)]
    rcases hshape with rfl | ⟨vb, vo, vn, vc, rfl⟩
    · simp only [S.withyref13_Sane_c1_S, Option.bind_some, Option.map_some, ld1_get', ldN_get', st_get', get_put', get_new', put_put', ldB_cells, ldNB_cells, stB_cells, H.next_new, H.next_put, List.getElem?_cons_zero, List.getElem?_cons_succ, Nat.zero_add, Nat.reduceAdd, Nat.reduceLeDiff, V.one, V.cells, asI_int, List.length_cons, List.length_nil, Nat.beq_refl, List.all_cons, List.all_nil, Bool.and_true, Bool.not_true, Bool.false_or, Bool.or_self, Bool.and_self, decide_true, decide_false, if_true, splice, List.take_succ_cons, List.take_zero, List.drop_succ_cons, List.drop_zero, List.cons_append, List.nil_append, reduceCtorEq, fill, repl, opd, boxc, W_call, hln, d0, d1, ix, il, e1, wi]
      exact Ev.some ⟨rfl, z', rfl, F1, G1, hn⟩
    · simp only [S.withyref13_Sane_c1_S, Option.bind_some, Option.map_some, ld1_get', ldN_get', st_get', get_put', get_new', put_put', ldB_cells, ldNB_cells, stB_cells, H.next_new, H.next_put, List.getElem?_cons_zero, List.getElem?_cons_succ, Nat.zero_add, Nat.reduceAdd, Nat.reduceLeDiff, V.one, V.cells, asI_int, List.length_cons, List.length_nil, Nat.beq_refl, List.all_cons, List.all_nil, Bool.and_true, Bool.not_true, Bool.false_or, Bool.or_self, Bool.and_self, decide_true, decide_false, if_true, splice, List.take_succ_cons, List.take_zero, List.drop_succ_cons, List.drop_zero, List.cons_append, List.nil_append, reduceCtorEq, fill, repl, opd, boxc, W_call, hln, d0, d1, ix, il, e1, wi]
      exact Ev.some ⟨rfl, z', rfl, F1, G1, hn⟩

theorem sane_spec {h : H} (ok : h.ok) {x : V} {l : List Slt} (hx : RowS h.get x l) (hl : l.length ≤ 20) {e : Int} (hE : U64 e) :
    Ev (C 157 [x, .int .u64 e] h) fun r => Fr [] h r.2 ∧ RowS r.2.get r.1 (l.map (saneS e)) := by
  refine call_ev (af := F.withyref13_Sane) (by kernel_rfl) rfl ?_
  rw [S.withyref13_Sane_eq]
  simp only [S.withyref13_Sane]
  refine loop_ev (α := Nat × V) (fun z => S.withyref13_Sane_c1_E x (.int .u64 e) z.2 (.int .i64 (z.1 : Nat)))
    (fun z g => z.1 ≤ l.length ∧ Fr [] h g ∧ Grown g.get z.2 7 ((saneL e l z.1).map Slt.cs).flatten ∧ ∀ b ∈ z.2.blk, h.next ≤ b) (fun z _ => l.length - z.1)
    (fun r => ∃ z, r.1 = .exit 0 ∧ r.2.1 = S.withyref13_Sane_c1_O z ∧ Fr [] h r.2.2 ∧ Grown r.2.2.get z 7 ((saneL e l l.length).map Slt.cs).flatten) (0, .nilsl) rfl ⟨Nat.zero_le _, .refl ok, Grown.nil _ _, by simp [V.blk]⟩ ?_ ?_
  rotate_left
  · rintro ⟨_, _, g⟩ ⟨z, rfl, rfl, F, G⟩
    show Ev (S.withyref13_Sane_K2 W (.exit 0) _ _) _
    rw [S.withyref13_Sane_c1_e0_eq]
    have he : saneL e l l.length = l.map (saneS e) := by unfold saneL; rw [List.take_length]
    dsimp only at F G
    rw [he] at G
    refine Ev.some ⟨F, ?_, fun s hs => ?_⟩
    · obtain ⟨rfl, h0⟩ | ⟨b, n, rfl, hn, hb⟩ := G
      · refine .inl ⟨rfl, ?_⟩
        have := congrArg List.length h0
        rw [flat_length (slt7 _), List.length_map] at this
        exact List.eq_nil_of_length_eq_zero (by simp only [List.length_nil] at this; omega)
      · rw [flat_length (slt7 _), List.length_map] at hn
        have : n = (l.map (saneS e)).length := by omega
        subst this
        exact .inr ⟨b, _, _, rfl, hb⟩
    · obtain ⟨s', hs', rfl⟩ := List.mem_map.mp hs
      exact (hx.body s' hs').fr ok F (by simp)
  rintro ⟨i, z⟩ g ⟨hi, F, G, hz⟩
  dsimp only at hi G hz ⊢
  rw [S.withyref13_Sane_c1_eq]
  by_cases hil : i < l.length
  rotate_left
  · have he : i = l.length := by omega
    subst he
    have d0 : decide ((l.length : Int) < (l.length : Int)) = false := decide_eq_false (Int.lt_irrefl _)
    have hln := hx.len
    simp only [S.withyref13_Sane_c1_S, Option.bind_some, hln, d0]
    exact Ev.some (.inr ⟨by simp, z, rfl, rfl, F, G⟩)
  obtain ⟨y, hy⟩ : ∃ y, l[i]? = some y := ⟨_, List.getElem?_eq_getElem hil⟩
  refine (sane_step (h := h) hE F.ok (hx.fr ok F) hy hl G (by rw [flat_length (slt7 _), List.length_map, saneL_len hi]; omega)).mono ?_
  rintro ⟨_, _, g'⟩ ⟨rfl, z', rfl, F', G', hn⟩
  refine .inl ⟨(i + 1, z'), rfl, rfl, ⟨hil, F.trans F' (fun b hb => .inr (hz b hb)), ?_, fun b hb => Nat.le_trans F.le (hn b hb)⟩, Nat.sub_lt_sub_left hil (Nat.lt_succ_self i)⟩
  rw [saneL_succ hy, List.map_append, List.flatten_append]
  simpa using G'
end Wm
end

section
/- The document's example of a layer, run by the kernel. -/
namespace Wm
set_option maxRecDepth 100000 in
theorem awake13_run : runF prog meth 2000 200 154 [] .empty = some (.bool true, .empty) := by kernel_rfl
theorem awake13 (h : H) : C 154 [] h = some (.bool true, h) := call_closed_run (af := F.withylaw13_awake) (by kernel_rfl) rfl (by rw [← runF_eq]; exact awake13_run) h
end Wm
end

section
/- The law MarkFound, of my machine. -/
namespace Wm
attribute [local congr] bind_congr1
attribute [local irreducible] wr

/-- Words, told by their places. -/
def fOf (k : Cfg) (l : List Int) (w : Wd) : Int := (l[w.pos k]?).getD 0
theorem row_fOf {k : Cfg} {l : List Int} (h : l.length = k.size) : k.row (fOf k l) = l := by
  apply List.ext_getElem?
  intro i
  by_cases hi : i < k.size
  · obtain ⟨w, hw⟩ : ∃ w, k.locs[i]? = some w := ⟨_, List.getElem?_eq_getElem (by rw [locs_length]; exact hi)⟩
    have hp := locs_at hw
    unfold Cfg.row
    rw [List.getElem?_map, hw]
    show some (fOf k l w) = _
    unfold fOf
    rw [hp, List.getElem?_eq_getElem (by omega)]; rfl
  · rw [List.getElem?_eq_none (by rw [row_length]; omega), List.getElem?_eq_none (by omega)]
theorem fOf_U64 {k : Cfg} {l : List Int} (h : ∀ w ∈ l, U64 w) (w : Wd) : U64 (fOf k l w) := by
  unfold fOf
  cases hw : l[w.pos k]? with
  | none => exact ⟨by decide, by decide⟩
  | some v => exact h v (List.mem_of_getElem? hw)

theorem rf_found_nil {k : Cfg} {e : Int} {h : H} (ok : h.ok) {x : V} {n : Nat} (hx : lenSl x = some n) (hn : k.R = true → n ≠ k.size) :
    Ev (C 156 [k.v, x, .int .u64 e] h) fun r => r.1 = .nilsl ∧ Fr [] h r.2 := by
  refine call_ev (af := F.withyref13_Found) (by kernel_rfl) rfl ?_
  have hv : k.v = .agg [.int .i64 k.s, .int .i64 k.a, .int .i64 k.c, .int .i64 k.hd, .int .i64 k.g, .int .i64 k.st] := rfl
  have hR := ref06Right_spec k.s k.a k.c k.hd k.g k.st
  rw [show cfgR k.s k.a k.c k.hd k.g k.st = k.R from rfl, show cfgV k.s k.a k.c k.hd k.g k.st = k.v from rfl, hv] at hR
  have F0 : Fr [] h (h.new (.cells [.int .i64 k.s, .int .i64 k.a, .int .i64 k.c, .int .i64 k.hd, .int .i64 k.g, .int .i64 k.st] .rw)) := (Fr.refl ok).new _
  rw [hv, S.withyref13_Found_eq]
  cases hr : k.R with
  | false =>
    rw [hr] at hR
    simp only [S.withyref13_Found, Option.bind_some, ld1_get', ldN_get', get_new', ldNB_cells, Nat.zero_add, Nat.reduceAdd, Nat.reduceLeDiff, asB_bool, List.length_cons, List.length_nil, Bool.not_false, decide_true, if_true, List.take_succ_cons, List.take_zero, List.drop_zero, W_call, hR]
    exact Ev.some ⟨rfl, F0⟩
  | true =>
    rw [hr] at hR
    obtain ⟨g1, wb, wc, wk, e1, F1, hwb, _⟩ := Words_spec hr F0.ok
    rw [hv] at e1
    have dsz : decide ((n : Int) = (k.size : Int)) = false := decide_eq_false (by have := hn hr; omega)
    simp only [S.withyref13_Found, lenSl_sl, Option.bind_some, ld1_get', ldN_get', get_new', ldNB_cells, Nat.zero_add, Nat.reduceAdd, Nat.reduceLeDiff, asB_bool, List.length_cons, List.length_nil, Bool.not_true, Bool.not_false, decide_true, if_true, List.take_succ_cons, List.take_zero, List.drop_zero, W_call, hR, hx, e1, dsz]
    exact Ev.some ⟨rfl, F0.trans' F1⟩
theorem mk_found_nil {k : Cfg} {e : Int} {h : H} (ok : h.ok) {x : V} (hxc : x = .nilsl ∨ ∃ b o n c, x = .sl b o n c) {n : Nat} (hx : lenSl x = some n) (hn : k.R = true → n ≠ k.size) :
    Ev (C 155 [k.v, x, .int .u64 e] h) fun r => r.1 = .nilsl ∧ Fr [] h r.2 := by
  refine call_ev (af := F.mark_Found) (by kernel_rfl) rfl ?_
  have hv : k.v = .agg [.int .i64 k.s, .int .i64 k.a, .int .i64 k.c, .int .i64 k.hd, .int .i64 k.g, .int .i64 k.st] := rfl
  have hR : ∀ h, C 263 [.agg [.int .i64 k.s, .int .i64 k.a, .int .i64 k.c, .int .i64 k.hd, .int .i64 k.g, .int .i64 k.st]] h = some (.bool k.R, h) := fun h => planRight_spec k.s k.a k.c k.hd k.g k.st h
  have hSz : k.R = true → ∀ h, C 264 [.agg [.int .i64 k.s, .int .i64 k.a, .int .i64 k.c, .int .i64 k.hd, .int .i64 k.g, .int .i64 k.st]] h = some (.int .i64 (k.size : Int), h) := fun hr h => by
    have := size_spec (s := k.s) (a := k.a) (c := k.c) (hd := k.hd) (g := k.g) (st := k.st) hr h
    rw [totT_eq hr] at this; exact this
  have n1 : h.next ≠ h.next + 1 := by omega
  have n2 : h.next ≠ h.next + 2 := by omega
  have F0 : Fr [] h (((h.new (.cells [.int .i64 k.s, .int .i64 k.a, .int .i64 k.c, .int .i64 k.hd, .int .i64 k.g, .int .i64 k.st] .rw)).new (.cells [x] .rw)).new (.cells [.int .u64 e] .rw)) := (((Fr.refl ok).new _).new _).new _
  rw [hv, S.mark_Found_eq]
  have start : ∀ (x0 x2 : V), Ev (S.mark_Found_c0_S W x0 x e (.ptr h.next 0) (.ptr (h.next + 1) 0) (.ptr (h.next + 2) 0) x2 (((h.new (.cells [.int .i64 k.s, .int .i64 k.a, .int .i64 k.c, .int .i64 k.hd, .int .i64 k.g, .int .i64 k.st] .rw)).new (.cells [x] .rw)).new (.cells [.int .u64 e] .rw))) fun r => r.1 = .ret ∧ r.2.1 = S.mark_Found_c0_O .nilsl ∧ Fr [] h r.2.2 := by
    intro x0 x2
    cases hr : k.R with
    | false =>
      rw [hr] at hR
      simp only [S.mark_Found_c0_S, ptrAt_ptr, Option.bind_some, ld1_get', ldN_get', st_get', get_new', ldB_cells, ldNB_cells, H.next_new, List.getElem?_cons_zero, Nat.zero_add, Nat.add_zero, Nat.reduceAdd, Nat.reduceLeDiff, Nat.reduceEqDiff, V.one, V.cells, asB_bool, List.length_cons, List.length_nil, Nat.beq_refl, Bool.and_true, Bool.not_false, decide_true, if_true, if_false, splice, List.take_succ_cons, List.take_zero, List.drop_zero, List.cons_append, List.nil_append, fill, opd, boxc, W_call, Nat.add_assoc, n1, n2, hR]
      exact Ev.some ⟨rfl, rfl, F0⟩
    | true =>
      rw [hr] at hR
      have hSz := hSz hr
      have dsz : decide ((n : Int) = (k.size : Int)) = false := decide_eq_false (by have := hn hr; omega)
      rcases hxc with rfl | ⟨b, o, n', c, rfl⟩
      · cases hx
        simp only [S.mark_Found_c0_S, lenSl_nil, ptrAt_ptr, Option.bind_some, ld1_get', ldN_get', st_get', get_new', ldB_cells, ldNB_cells, H.next_new, List.getElem?_cons_zero, Nat.zero_add, Nat.add_zero, Nat.reduceAdd, Nat.reduceLeDiff, Nat.reduceEqDiff, V.one, V.cells, V.beq, ckB_some, asI_int, asB_bool, List.length_cons, List.length_nil, Nat.beq_refl, Bool.and_true, Bool.not_true, Bool.not_false, decide_true, if_true, if_false, splice, List.take_succ_cons, List.take_zero, List.drop_succ_cons, List.drop_zero, List.cons_append, List.nil_append, fill, opd, boxc, W_call, Nat.add_assoc, n1, n2, n1.symm, hR, hSz, dsz]
        exact Ev.some ⟨rfl, rfl, F0⟩
      · cases hx
        simp only [S.mark_Found_c0_S, lenSl_sl, ptrAt_ptr, Option.bind_some, ld1_get', ldN_get', st_get', get_new', ldB_cells, ldNB_cells, H.next_new, List.getElem?_cons_zero, Nat.zero_add, Nat.add_zero, Nat.reduceAdd, Nat.reduceLeDiff, Nat.reduceEqDiff, V.one, V.cells, V.beq, ckB_some, asI_int, asB_bool, List.length_cons, List.length_nil, Nat.beq_refl, Bool.and_true, Bool.not_true, Bool.not_false, Bool.and_self, decide_true, if_true, if_false, splice, List.take_succ_cons, List.take_zero, List.drop_succ_cons, List.drop_zero, List.cons_append, List.nil_append, fill, opd, boxc, W_call, Nat.add_assoc, n1, n2, n1.symm, hR, hSz, dsz]
        exact Ev.some ⟨rfl, rfl, F0⟩
  have hb : boxc x = some [x] := by
    rcases hxc with rfl | ⟨_, _, _, _, rfl⟩ <;> rfl
  simp only [S.mark_Found, hb, Option.bind_some, H.next_new, Nat.add_assoc, Nat.reduceAdd]
  refine scope_ev (α := Unit) (l := 0) (fun _ => []) (fun _ _ => False) (fun _ _ => 0) (fun r => r.1 = .ret ∧ r.2.1 = S.mark_Found_c0_O .nilsl ∧ Fr [] h r.2.2) ?_ (fun _ _ h => h.elim) ?_
  · rw [S.mark_Found_c0_eq]
    exact (start _ _).mono fun r hr => .inr ⟨by rw [hr.1]; simp, hr⟩
  · rintro ⟨_, _, g⟩ ⟨rfl, rfl, F⟩
    show Ev (S.mark_Found_K0 W .ret _ g) _
    rw [S.mark_Found_c0_r_eq]
    exact Ev.some ⟨rfl, F⟩

def shMarkFound : List (Bool × List CSh) := [(true, [.int .i64, .int .i64, .int .i64, .int .i64, .int .i64, .int .i64]), (false, [.sl 72 [.int .i64, .int .i64, .bool, .int .i64, .int .i64, .int .i64, .sl 8 [.int .u64]]]), (false, [.sl 8 [.int .u64]]), (false, [.sl 8 [.int .u64]]), (false, [.int .u64]), (false, [.bool])]

/-- Both find the same. -/
theorem mf_both {k : Cfg} (hr : k.R = true) {e : Int} (hE : U64 e) {h : H} (ok : h.ok) {cb b : Nat} {c : Cap} {f : Wd → Int} (hc : h.get cb = some (.cells [.int .i64 k.s, .int .i64 k.a, .int .i64 k.c, .int .i64 k.hd, .int .i64 k.g, .int .i64 k.st] .rw)) (Z : WordsAt k h b f) :
    Ev ((C 155 [k.v, .sl b 0 k.size c, .int .u64 e] h).bind fun p7 => match ckB (ldNB (p7.2.get cb) 0 6) k.v with
      | true => (C 156 [k.v, .sl b 0 k.size c, .int .u64 e] p7.2).bind fun p8 => (C 124 [p7.1, p8.1] p8.2).bind fun p9 => some (p9.1, p9.2)
      | false => none) fun r => r.1 = .bool true := by
  have hv : k.v = .agg [.int .i64 k.s, .int .i64 k.a, .int .i64 k.c, .int .i64 k.hd, .int .i64 k.g, .int .i64 k.st] := rfl
  have hbd := (Cfg.bounds hr).1
  refine Ev.bind (mk_found hr hE ok Z) ?_
  rintro ⟨_, g1⟩ ⟨q, X, rfl, F1, hq, T1, L1⟩
  dsimp only at F1 T1 ⊢
  have ok1 := F1.ok
  have hc1 := F1.get ok hc (by simp)
  have hck : ckB (ldNB (g1.get cb) 0 6) k.v = true := by
    rw [hv]
    simp only [ldNB_cells, Nat.zero_add, Nat.reduceAdd, Nat.reduceLeDiff, V.beq, V.beqs, ckB_some, List.length_cons, List.length_nil, Bool.and_self, decide_true, List.take_succ_cons, List.take_zero, List.drop_zero, hc1]
  rw [hck]
  refine Ev.bind (rf_found hr hE ok1 (c := c) (Z.fr ok F1 (by simp))) ?_
  rintro ⟨_, g2⟩ ⟨q2, Y, rfl, F2, hq2, T2, L2⟩
  dsimp only at F2 T2 ⊢
  have T1' := T1.fr ok1 F2 (by simp)
  refine Ev.bind (same13 F2.ok T1' T2 (by omega) (fun q hq => L1.same L2 hq)) ?_
  rintro ⟨_, g3⟩ ⟨rfl, _⟩
  exact Ev.some rfl

theorem mf_nils {k : Cfg} {e : Int} {h : H} (ok : h.ok) {cb : Nat} (hc : h.get cb = some (.cells [.int .i64 k.s, .int .i64 k.a, .int .i64 k.c, .int .i64 k.hd, .int .i64 k.g, .int .i64 k.st] .rw)) {x : V} (hxc : x = .nilsl ∨ ∃ b o n c, x = .sl b o n c) {n : Nat} (hx : lenSl x = some n) (hn : k.R = true → n ≠ k.size) :
    Ev ((C 155 [k.v, x, .int .u64 e] h).bind fun p7 => match ckB (ldNB (p7.2.get cb) 0 6) k.v with
      | true => (C 156 [k.v, x, .int .u64 e] p7.2).bind fun p8 => (C 124 [p7.1, p8.1] p8.2).bind fun p9 => some (p9.1, p9.2)
      | false => none) fun r => r.1 = .bool true := by
  have hv : k.v = .agg [.int .i64 k.s, .int .i64 k.a, .int .i64 k.c, .int .i64 k.hd, .int .i64 k.g, .int .i64 k.st] := rfl
  refine Ev.bind (mk_found_nil ok hxc hx hn) ?_
  rintro ⟨_, g1⟩ ⟨rfl, F1⟩
  dsimp only at F1 ⊢
  have hc1 := F1.get ok hc (by simp)
  have hck : ckB (ldNB (g1.get cb) 0 6) k.v = true := by
    rw [hv]
    simp only [ldNB_cells, Nat.zero_add, Nat.reduceAdd, Nat.reduceLeDiff, V.beq, V.beqs, ckB_some, List.length_cons, List.length_nil, Bool.and_self, decide_true, List.take_succ_cons, List.take_zero, List.drop_zero, hc1]
  rw [hck]
  refine Ev.bind (rf_found_nil F1.ok hx hn) ?_
  rintro ⟨_, g2⟩ ⟨rfl, F2⟩
  dsimp only at F2 ⊢
  refine Ev.bind (same13_nil g2) ?_
  rintro ⟨_, g3⟩ rfl
  exact Ev.some rfl

theorem lawMarkFound (h : H) (us : List V) (ok : h.ok) (ha : ArgsOk h.get shMarkFound us) : Ev (C 25 us h) fun r => r.1 = .bool true := by
  obtain ⟨_, _, rfl, ⟨_, rfl, _, _, rfl, ⟨s, rfl, _⟩, _, _, rfl, ⟨a, rfl, _⟩, _, _, rfl, ⟨c, rfl, _⟩, _, _, rfl, ⟨hd, rfl, _⟩, _, _, rfl, ⟨g, rfl, _⟩, _, _, rfl, ⟨st, rfl, _⟩, rfl⟩, _, _, rfl, ⟨_, _, hx1, hx1c, rfl⟩, _, _, rfl, ⟨_, _, hx2, hx2c, rfl⟩, _, _, rfl, ⟨_, _, hx3, hx3c, rfl⟩, _, _, rfl, ⟨_, _, he, ⟨e, rfl, be⟩, rfl⟩, _, _, rfl, ⟨_, _, hw, ⟨raw, rfl⟩, rfl⟩, rfl⟩ := ha
  cases hx1; cases hx2; cases hx3; cases he; cases hw
  rename_i x1 x2 x3
  obtain ⟨l, hx, hu, _, _⟩ := rowS_of hx1c
  obtain ⟨roots, h2, u2, _, _⟩ := rowN_of hx2c
  obtain ⟨views, h3, u3, _, _⟩ := rowN_of hx3c
  have hu2 : ∀ w ∈ roots, U64 w := fun w hw => wf_u64 (u2 w hw)
  have hu3 : ∀ w ∈ views, U64 w := fun w hw => wf_u64 (u3 w hw)
  have hE := wf_u64 be
  refine call_ev (af := F.withylaw13_MarkFound) (by kernel_rfl) rfl ?_
  rw [S.withylaw13_MarkFound_eq]
  have hxl := hx.len
  have h2l := h2.len
  by_cases h20 : 20 < l.length
  · have d : decide ((20 : Int) < (l.length : Int)) = true := decide_eq_true (by omega)
    simp only [S.withylaw13_MarkFound, Option.bind_some, W_call, hxl, d, awake13]
    exact Ev.some rfl
  have d : decide ((20 : Int) < (l.length : Int)) = false := decide_eq_false (by omega)
  by_cases h700 : 700 < roots.length
  · have d7 : decide ((700 : Int) < (roots.length : Int)) = true := decide_eq_true (by omega)
    simp only [S.withylaw13_MarkFound, Option.bind_some, W_call, hxl, d, h2l, d7, awake13]
    exact Ev.some rfl
  have d7 : decide ((700 : Int) < (roots.length : Int)) = false := decide_eq_false (by omega)
  cases raw with
  | true =>
    have F0 : Fr [] h (h.new (.cells [.int .i64 s, .int .i64 a, .int .i64 c, .int .i64 hd, .int .i64 g, .int .i64 st] .rw)) := (Fr.refl ok).new _
    have hc0 := get_new_self h (.cells [.int .i64 s, .int .i64 a, .int .i64 c, .int .i64 hd, .int .i64 g, .int .i64 st] .rw)
    simp only [S.withylaw13_MarkFound, Option.bind_some, ldN_get', get_new', ldNB_cells, Nat.zero_add, Nat.reduceAdd, Nat.reduceLeDiff, asB_bool, List.length_cons, List.length_nil, Bool.not_true, decide_true, if_true, List.take_succ_cons, List.take_zero, List.drop_zero, W_call, hxl, d, h2l, d7, awake13]
    have hshape : x2 = .nilsl ∨ ∃ b o n c, x2 = .sl b o n c := by
      obtain ⟨q, _⟩ | ⟨b, c, k, q, _⟩ := h2
      · exact .inl q
      · exact .inr ⟨_, _, _, _, q⟩
    by_cases hok : (⟨s, a, c, hd, g, st⟩ : Cfg).R = true ∧ roots.length = (⟨s, a, c, hd, g, st⟩ : Cfg).size
    · obtain ⟨hr, hsz⟩ := hok
      have hbd := Cfg.bounds hr
      have h4 : 4 ≤ (⟨s, a, c, hd, g, st⟩ : Cfg).size := by unfold Cfg.size Cfg.base; omega
      obtain ⟨_, q⟩ | ⟨b, cp, kk, rfl, hb⟩ := h2
      · rw [q] at hsz; simp only [List.length_nil] at hsz; omega
      · have W0 : WordsAt ⟨s, a, c, hd, g, st⟩ h b (fOf ⟨s, a, c, hd, g, st⟩ roots) := ⟨⟨kk, by rw [row_fOf hsz]; exact hb⟩, fun w _ => fOf_U64 hu2 w⟩
        have := mf_both hr hE F0.ok (c := cp) hc0 (W0.fr ok F0 (by simp))
        rw [hsz]
        exact this
    · exact mf_nils (k := ⟨s, a, c, hd, g, st⟩) (e := e) F0.ok hc0 hshape h2l (fun hr q => hok ⟨hr, q⟩)
  | false =>
    have hfit := Fit_spec ⟨s, a, c, hd, g, st⟩
    have hr := Cfg.fit_R ⟨s, a, c, hd, g, st⟩
    generalize Cfg.fit ⟨s, a, c, hd, g, st⟩ = k at hfit hr
    have hv : ∀ k : Cfg, k.v = .agg [.int .i64 k.s, .int .i64 k.a, .int .i64 k.c, .int .i64 k.hd, .int .i64 k.g, .int .i64 k.st] := fun _ => rfl
    rw [hv, hv] at hfit
    simp only at hfit
    simp only [S.withylaw13_MarkFound, Option.bind_some, Option.map_some, ldN_get', st_get', get_put', get_new', ldNB_cells, stB_cells, Nat.zero_add, Nat.reduceAdd, Nat.reduceLeDiff, V.one, V.cells, asB_bool, List.length_cons, List.length_nil, Nat.beq_refl, List.all_cons, List.all_nil, Bool.not_true, Bool.or_self, Bool.and_self, decide_true, decide_false, if_true, splice, List.take_succ_cons, List.take_zero, List.drop_succ_cons, List.drop_zero, List.cons_append, List.nil_append, reduceCtorEq, W_call, hxl, d, h2l, d7, awake13, hfit]
    generalize hg0 : (h.new _).put h.next _ = g0
    have hc0 : g0.get h.next = some (.cells [.int .i64 k.s, .int .i64 k.a, .int .i64 k.c, .int .i64 k.hd, .int .i64 k.g, .int .i64 k.st] .rw) := by rw [← hg0]; exact get_put_self _ _ _
    have f0 : Fr [] h g0 := by rw [← hg0]; exact ((Fr.refl ok).new _).put (.inr (Nat.le_refl _)) (Nat.lt_succ_self _) _
    have ok0 := f0.ok
    refine Ev.bind (sane_spec ok0 (hx.fr ok f0) (by omega) hE) ?_
    rintro ⟨y1, g1⟩ ⟨F1, hy1⟩
    dsimp only at F1 hy1 ⊢
    have ok1 := F1.ok
    have hc1 := F1.get ok0 hc0 (by simp)
    have F01 := f0.trans' F1
    have huS : ∀ y ∈ l.map (saneS e), y.okS := fun y hy => by
      obtain ⟨z, hz, rfl⟩ := List.mem_map.mp hy
      exact saneS_ok (hu z hz)
    have hLd := laid_spec hr ok1 hy1 huS (h2.fr ok F01 (by simp)) hu2 (h3.fr ok F01 (by simp)) hu3
    have hU : ∀ w, U64 (laidW k (l.map (saneS e)) roots views w) := fun w => laidW_U64 hr huS hu3 w
    rw [hv] at hLd
    simp only [ldNB_cells, Nat.zero_add, Nat.reduceAdd, Nat.reduceLeDiff, V.beq, V.beqs, ckB_some, List.length_cons, List.length_nil, Bool.and_self, decide_true, List.take_succ_cons, List.take_zero, List.drop_zero, hc1]
    refine Ev.bind hLd ?_
    rintro ⟨_, g2⟩ ⟨bw, rfl, F2, hbw, hw2⟩
    dsimp only at F2 hw2 ⊢
    have ok2 := F2.ok
    have hc2 := F2.get ok1 hc1 (by simp)
    have := mf_both hr hE ok2 (c := .ex k.size) hc2 (⟨⟨_, hw2⟩, fun w _ => hU w⟩ : WordsAt k g2 bw _)
    simp only [Option.bind_some, ldNB_cells, Nat.zero_add, Nat.reduceAdd, Nat.reduceLeDiff, List.length_cons, List.length_nil, decide_true, List.take_succ_cons, List.take_zero, List.drop_zero, hc2]
    rw [hv] at this
    exact this
end Wm
end

