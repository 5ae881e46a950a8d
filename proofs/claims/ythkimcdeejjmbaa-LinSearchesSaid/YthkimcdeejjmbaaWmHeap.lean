/- A heap and the blocks that came to it, one by one. -/
import Derived.Test.YthkimcdeejjmbaaWmEv
set_option linter.all false
namespace Wm
theorem T.put'_leaf {α : Type} (o : Option α) (f n : Nat) : T.put' o (f + 1) .leaf n = T.put' o (f + 1) (.node .leaf none .leaf) n := by
  unfold T.put'
  rfl
theorem T.put'_put' {α : Type} (o o' : Option α) : ∀ (f g : Nat) (t : T α) (n : Nat), n < f → n < g → T.put' o f (T.put' o' g t n) n = T.put' o f t n := by
  intro f
  induction f with
  | zero => intro g t n h; omega
  | succ f ih =>
    intro g t n h hg
    cases g with
    | zero => omega
    | succ g =>
      have key : ∀ (l : T α) (v : Option α) (r : T α), T.put' o (f + 1) (T.put' o' (g + 1) (.node l v r) n) n = T.put' o (f + 1) (.node l v r) n := by
        intro l v r
        simp only [T.put']
        cases hn : Nat.beq n 0 with
        | true => rfl
        | false =>
          have hn0 : n ≠ 0 := Nat.ne_of_beq_eq_false hn
          cases h2 : Nat.beq (n % 2) 1 with
          | true => simp only [ih g l (n / 2) (by omega) (by omega)]
          | false =>
            have hev : n % 2 ≠ 1 := Nat.ne_of_beq_eq_false h2
            simp only [ih g r (n / 2 - 1) (by omega) (by omega)]
      cases t with
      | node l v r => exact key l v r
      | leaf => rw [T.put'_leaf o' g, T.put'_leaf o f]; exact key _ _ _
theorem T.put'_comm {α : Type} (o o' : Option α) : ∀ (f g : Nat) (t : T α) (n m : Nat), n < f → m < g → n ≠ m → T.put' o f (T.put' o' g t m) n = T.put' o' g (T.put' o f t n) m := by
  intro f
  induction f with
  | zero => intro g t n m h; omega
  | succ f ih =>
    intro g t n m h hg hnm
    cases g with
    | zero => omega
    | succ g =>
      have key : ∀ (l : T α) (v : Option α) (r : T α), T.put' o (f + 1) (T.put' o' (g + 1) (.node l v r) m) n = T.put' o' (g + 1) (T.put' o (f + 1) (.node l v r) n) m := by
        intro l v r
        simp only [T.put']
        cases hn : Nat.beq n 0 with
        | true =>
          have hn0 : n = 0 := Nat.eq_of_beq_eq_true hn
          cases hm : Nat.beq m 0 with
          | true => exact absurd (Nat.eq_of_beq_eq_true hm) (by omega)
          | false => cases h2 : Nat.beq (m % 2) 1 <;> rfl
        | false =>
          have hn0 : n ≠ 0 := Nat.ne_of_beq_eq_false hn
          cases hm : Nat.beq m 0 with
          | true => cases h2 : Nat.beq (n % 2) 1 <;> rfl
          | false =>
            have hm0 : m ≠ 0 := Nat.ne_of_beq_eq_false hm
            cases h2 : Nat.beq (n % 2) 1 with
            | true =>
              have h2' := Nat.eq_of_beq_eq_true h2
              cases h3 : Nat.beq (m % 2) 1 with
              | true =>
                have h3' := Nat.eq_of_beq_eq_true h3
                simp only [ih g l (n / 2) (m / 2) (by omega) (by omega) (by omega)]
              | false => rfl
            | false =>
              have h2' := Nat.ne_of_beq_eq_false h2
              cases h3 : Nat.beq (m % 2) 1 with
              | true => rfl
              | false =>
                have h3' := Nat.ne_of_beq_eq_false h3
                simp only [ih g r (n / 2 - 1) (m / 2 - 1) (by omega) (by omega) (by omega)]
      cases t with
      | node l v r => exact key l v r
      | leaf =>
        rw [T.put'_leaf o' g, T.put'_leaf o f]; exact key _ _ _
def H.add (h : H) (x : Option Blk) : H := { t := h.t.put h.next x, next := h.next + 1 }
def H.ext (h : H) : List (Option Blk) → H
  | [] => h
  | x :: l => (h.add x).ext l
theorem H.add_next (h : H) (x : Option Blk) : (h.add x).next = h.next + 1 := rfl
theorem H.ext_next (h : H) : ∀ (l : List (Option Blk)), (h.ext l).next = h.next + l.length := by
  intro l
  induction l generalizing h with
  | nil => rfl
  | cons x l ih => simp only [H.ext, ih, H.add_next, List.length_cons]; omega
theorem H.ext_ext (h : H) (l m : List (Option Blk)) : (h.ext l).ext m = h.ext (l ++ m) := by
  induction l generalizing h with
  | nil => rfl
  | cons x l ih => simp only [H.ext, List.cons_append, ih]
theorem H.new_ext (h : H) (x : Blk) : h.new x = h.ext [some x] := rfl
theorem H.get_add (h : H) (x : Option Blk) (b : Nat) : (h.add x).get b = if b = h.next then x else h.get b := T.get_put _ _ _ _
theorem H.ext_old {h : H} : ∀ {l : List (Option Blk)} {b : Nat}, b < h.next → (h.ext l).get b = h.get b := by
  intro l
  induction l generalizing h with
  | nil => intro b _; rfl
  | cons x l ih =>
    intro b hb
    simp only [H.ext]
    rw [ih (by rw [H.add_next]; omega), H.get_add, if_neg (by omega)]
theorem H.ext_get {h : H} : ∀ {l : List (Option Blk)} {i : Nat}, i < l.length → (h.ext l).get (h.next + i) = (l[i]?).join := by
  intro l
  induction l generalizing h with
  | nil => intro i hi; simp at hi
  | cons x l ih =>
    intro i hi
    simp only [H.ext]
    cases i with
    | zero => rw [Nat.add_zero, H.ext_old (by rw [H.add_next]; omega), H.get_add, if_pos rfl]; rfl
    | succ i =>
      have := ih (h := h.add x) (i := i) (by simpa using hi)
      rw [H.add_next] at this
      rw [show h.next + (i + 1) = h.next + 1 + i by omega, this]
      rfl
theorem H.add_put {h : H} {x y : Option Blk} : (h.add x).put h.next y = h.add y := by
  simp only [H.add, H.put, T.put, T.put'_put' _ _ _ _ _ _ (Nat.lt_succ_self _) (Nat.lt_succ_self _)]
theorem H.put_add {h : H} {b : Nat} {x y : Option Blk} (hb : b ≠ h.next) : (h.add x).put b y = (h.put b y).add x := by
  simp only [H.add, H.put, T.put, T.put'_comm y x _ _ _ _ _ (Nat.lt_succ_self _) (Nat.lt_succ_self _) hb]
theorem H.put_next (h : H) (b : Nat) (x : Option Blk) : (h.put b x).next = h.next := rfl
theorem H.put_ext {h : H} {b : Nat} {y : Option Blk} : ∀ {l : List (Option Blk)}, b < h.next → (h.ext l).put b y = (h.put b y).ext l := by
  intro l
  induction l generalizing h with
  | nil => intro _; rfl
  | cons x l ih =>
    intro hb
    simp only [H.ext]
    rw [ih (by rw [H.add_next]; omega), H.put_add (by omega)]
theorem H.ext_put {h : H} {y : Option Blk} : ∀ {l : List (Option Blk)} {i : Nat}, i < l.length → (h.ext l).put (h.next + i) y = h.ext (l.set i y) := by
  intro l
  induction l generalizing h with
  | nil => intro i hi; simp at hi
  | cons x l ih =>
    intro i hi
    cases i with
    | zero =>
      simp only [H.ext, Nat.add_zero, List.set_cons_zero]
      rw [H.put_ext (by rw [H.add_next]; omega), H.add_put]
    | succ i =>
      simp only [H.ext, List.set_cons_succ]
      have := ih (h := h.add x) (i := i) (by simpa using hi)
      rw [H.add_next] at this
      rw [show h.next + (i + 1) = h.next + 1 + i by omega, this]
theorem H.ok.add {h : H} (ok : h.ok) (x : Option Blk) : (h.add x).ok := fun b hb => by
  rw [H.add_next] at hb
  rw [H.get_add, if_neg (by omega)]
  exact ok b (by omega)
theorem H.ok.ext {h : H} (ok : h.ok) : ∀ (l : List (Option Blk)), (h.ext l).ok := by
  intro l
  induction l generalizing h with
  | nil => exact ok
  | cons x l ih => exact ih (ok.add x)
def ldB : Option Blk → Nat → Option V
  | some (.cells cs _), o => match cs[o]? with
    | some v => match V.one v with
      | true => some v
      | false => none
    | none => none
  | _, _ => none
def ldcB : Option Blk → Nat → Nat → Option (List V)
  | some (.cells cs _), o, n => match decide (o + n ≤ cs.length) with
    | true => some ((cs.drop o).take n)
    | false => none
  | _, _, _ => none
def ldNB : Option Blk → Nat → Nat → Option V
  | some (.cells cs _), o, n => match decide (o + n ≤ cs.length) with
    | true => some (.agg ((cs.drop o).take n))
    | false => none
  | _, _, _ => none
def stB : Option Blk → Nat → List V → Option Blk
  | some (.cells cs k), o, vs => match decide (k = .ro) || !(vs.all V.one) || !(decide (o + vs.length ≤ cs.length)) with
    | true => none
    | false => some (.cells (z02 cs o vs) k)
  | _, _, _ => none
section
variable {h : H} {l : List (Option Blk)} {i o n b : Nat}
theorem H.ld1_eq : h.ld1 (.ptr b o) = ldB (h.get b) o := by
  simp only [H.ld1]
  cases h.get b with
  | none => rfl
  | some x => cases x <;> rfl
theorem H.ext_ld1 (hi : i < l.length) : (h.ext l).ld1 (.ptr (h.next + i) o) = ldB (l[i]?).join o := by rw [H.ld1_eq, H.ext_get hi]
theorem H.ext_ld1_0 (hi : 0 < l.length) : (h.ext l).ld1 (.ptr h.next o) = ldB (l[0]?).join o := H.ext_ld1 (i := 0) hi
theorem H.ext_ld1_old (hb : b < h.next) : (h.ext l).ld1 (.ptr b o) = h.ld1 (.ptr b o) := by rw [H.ld1_eq, H.ld1_eq, H.ext_old hb]
theorem H.ldN_eq (hn : n ≠ 0) : h.ldN n (.ptr b o) = ldNB (h.get b) o n := by
  have : Nat.beq n 0 = false := by cases n with
    | zero => exact absurd rfl hn
    | succ n => rfl
  simp only [H.ldN, H.ldc, this]
  cases h.get b with
  | none => rfl
  | some x => cases x with
    | cells cs k =>
      simp only [ldNB]
      cases decide (o + n ≤ cs.length) <;> rfl
    | map es => rfl
theorem H.ext_ldN (hi : i < l.length) : (h.ext l).ldN (n + 1) (.ptr (h.next + i) o) = ldNB (l[i]?).join o (n + 1) := by rw [H.ldN_eq (Nat.succ_ne_zero n), H.ext_get hi]
theorem H.ext_ldN_0 (hi : 0 < l.length) : (h.ext l).ldN (n + 1) (.ptr h.next o) = ldNB (l[0]?).join o (n + 1) := H.ext_ldN (i := 0) hi
theorem H.ext_ldN_old (hn : n ≠ 0) (hb : b < h.next) : (h.ext l).ldN n (.ptr b o) = h.ldN n (.ptr b o) := by rw [H.ldN_eq hn, H.ldN_eq hn, H.ext_old hb]
theorem H.stc_eq {vs : List V} : h.stc b o vs = (stB (h.get b) o vs).map fun x => h.put b (some x) := by
  simp only [H.stc]
  cases h.get b with
  | none => rfl
  | some x => cases x with
    | cells cs k =>
      simp only [stB]
      cases (decide (k = .ro) || !(vs.all V.one) || !(decide (o + vs.length ≤ cs.length))) <;> rfl
    | map es => rfl
theorem H.st_eq {x : V} (hx : x.cells.length = n) : h.st n (.ptr b o) x = (stB (h.get b) o x.cells).map fun x => h.put b (some x) := by
  simp only [H.st, hx, Nat.beq_refl, H.stc_eq]
theorem H.ext_st {x : V} (hx : x.cells.length = n) (hi : i < l.length) : (h.ext l).st n (.ptr (h.next + i) o) x = (stB (l[i]?).join o x.cells).map fun y => h.ext (l.set i (some y)) := by
  rw [H.st_eq hx, H.ext_get hi]
  congr 1
  funext y
  exact H.ext_put hi
theorem H.ext_st_0 {x : V} (hx : x.cells.length = n) (hi : 0 < l.length) : (h.ext l).st n (.ptr h.next o) x = (stB (l[0]?).join o x.cells).map fun y => h.ext (l.set 0 (some y)) := H.ext_st (i := 0) hx hi
end
section
variable {h : H} {l : List (Option Blk)} {i o n : Nat}
theorem H.ext_get' (ok : h.ok) : (h.ext l).get (h.next + i) = (l[i]?).join := by
  by_cases hi : i < l.length
  · exact H.ext_get hi
  · rw [List.getElem?_eq_none (by omega), ok.ext l _ (by rw [H.ext_next]; omega)]; rfl
theorem H.ext_ldk (ok : h.ok) : (h.ext l).ld1 (.ptr (h.next + i) o) = ldB (l[i]?).join o := by rw [H.ld1_eq, H.ext_get' ok]
theorem H.ext_ldk_0 (ok : h.ok) : (h.ext l).ld1 (.ptr h.next o) = ldB (l[0]?).join o := H.ext_ldk (i := 0) ok
theorem H.ext_ldNk (ok : h.ok) : (h.ext l).ldN (n + 1) (.ptr (h.next + i) o) = ldNB (l[i]?).join o (n + 1) := by rw [H.ldN_eq (Nat.succ_ne_zero n), H.ext_get' ok]
theorem H.ext_ldNk_0 (ok : h.ok) : (h.ext l).ldN (n + 1) (.ptr h.next o) = ldNB (l[0]?).join o (n + 1) := H.ext_ldNk (i := 0) ok
theorem H.ext_stk (ok : h.ok) {x : V} (hx : x.cells.length = n) : (h.ext l).st n (.ptr (h.next + i) o) x = (stB (l[i]?).join o x.cells).map fun y => h.ext (l.set i (some y)) := by
  rw [H.st_eq hx, H.ext_get' ok]
  by_cases hi : i < l.length
  · congr 1
    funext y
    exact H.ext_put hi
  · rw [List.getElem?_eq_none (by omega)]; rfl
theorem H.ext_stk_0 (ok : h.ok) {x : V} (hx : x.cells.length = n) : (h.ext l).st n (.ptr h.next o) x = (stB (l[0]?).join o x.cells).map fun y => h.ext (l.set 0 (some y)) := H.ext_stk (i := 0) ok hx
end
theorem z6 {cs : List V} {k : Bk} {o : Nat} : ldB (some (.cells cs k)) o = match cs[o]? with
    | some v => match V.one v with
      | true => some v
      | false => none
    | none => none := rfl
theorem zq {cs : List V} {k : Bk} {o n : Nat} : ldNB (some (.cells cs k)) o n = match decide (o + n ≤ cs.length) with
    | true => some (.agg ((cs.drop o).take n))
    | false => none := rfl
theorem z0e {cs vs : List V} {k : Bk} {o : Nat} : stB (some (.cells cs k)) o vs = match decide (k = .ro) || !(vs.all V.one) || !(decide (o + vs.length ≤ cs.length)) with
    | true => none
    | false => some (.cells (z02 cs o vs) k) := rfl
theorem z17 (v u : V) : ckB (some v) u = V.beq v u := rfl
theorem wr64 {n : Int} (h0 : -9223372036854775808 ≤ n) (h1 : n ≤ 9223372036854775807) : wr .i64 n = n := by simp only [wr]; omega
theorem z067 {n : Int} (h0 : 0 ≤ n) (h1 : n ≤ 18446744073709551615) : wr .u64 n = n := by simp only [wr]; omega
theorem za (k : Go.IntKind) (n : Int) : asI k (.int k n) = some n := by simp [asI]
theorem zw (b : Bool) : asB (.bool b) = some b := rfl
theorem z7 (b o n : Nat) : zb (.ptr b o) n = some (.ptr b (o + n)) := rfl
end Wm
