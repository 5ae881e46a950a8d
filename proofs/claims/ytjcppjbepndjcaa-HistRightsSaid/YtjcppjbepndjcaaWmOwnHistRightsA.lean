/- What the functions come to, and the law: of my machine. -/
import Derived.Test.YtjcppjbepndjcaaWmEv
import Derived.Test.YtjcppjbepndjcaaWmHeap
import Derived.Test.YtjcppjbepndjcaaWmProgHistRights
import Derived.KernelRfl
import Derived.Test.YtjcppjbepndjcaaWmShal
import Derived.Test.YtjcppjbepndjcaaWmCore
import Derived.Test.YtjcppjbepndjcaaWmPOp0
import Derived.Test.YtjcppjbepndjcaaWmOpen
import Derived.Test.YtjcppjbepndjcaaWmFnc
import Derived.Sort.LotA
import Derived.Test.YtjcppjbepndjcaaWmTxtHistRightsA
import Derived.Sort.LotC
import Derived.Test.YtjcppjbepndjcaaWmFast
import Derived.Test.YtjcppjbepndjcaaWmFnsHistRightsA
import Derived.Sort.LotD1
import Derived.Sort.Lot0
import Derived.Sort.LotD4
import Derived.Sort.LotB
import Derived.Sort.LotD3
set_option linter.all false
section
/- Slices that grow, and loops. -/
namespace Wm
theorem mkSl_ok {h : H} {e b : Nat} {z : List V} {l c : Int} (h1 : 0 ≤ l) (h2 : l ≤ c) (h3 : c * b ≤ 140737488355328) (h4 : c ≤ 9223372036854775807) (h5 : z.length = e) (h6 : 0 < e) :
    h.mkSl e b z l c = some (.sl h.next 0 l.toNat (.ex c.toNat), h.new (.cells (repl z c.toNat) .rw)) := by
  subst h5
  simp [H.mkSl, h1, h2, h3, h4, h6]

theorem st1_get {h : H} {b o : Nat} {cs : List V} {k : Bk} {v : V} (hb : h.get b = some (.cells cs k)) (hk : k ≠ .ro) (hv : v.one = true) (hl : o < cs.length) : h.st 1 (.ptr b o) v = some (h.put b (some (.cells (cs.set o v) k))) := by
  have hc : v.cells = [v] := by cases v <;> first | rfl | simp [V.one] at hv
  have hs : splice cs o [v] = cs.set o v := by
    simp only [splice, List.length_singleton]
    rw [List.set_eq_take_append_cons_drop, if_pos hl]
    simp
  have h6 := stc_get hb hk (vs := [v]) (by simp [hv]) (show o + [v].length ≤ cs.length by simp; omega)
  rw [hs] at h6
  simp only [H.st, hc, List.length_singleton, Nat.beq, h6]

theorem loop_ev {α : Type} {call : Nat → List V → H → Option (V × H)} {meth : Nat → Nat → Option Nat} {b : List V → H → Option (AX × List V × H)} {R : Type} {k : AX × List V × H → Option R} {Q : R → Prop} {e : List V} {h : H} (enc : α → List V) (I : α → H → Prop) (μ : α → H → Nat) (P : AX × List V × H → Prop) (a : α) (he : e = enc a) (h0 : I a h)
    (step : ∀ a h, I a h → Ev (b (enc a) h) fun r => (∃ a', r.1 = .normal ∧ r.2.1 = enc a' ∧ I a' r.2.2 ∧ μ a' r.2.2 < μ a h) ∨ (r.1 ≠ .normal ∧ P r)) (out : ∀ r, P r → Ev (k r) Q) : Ev (((envW meth call).loop b e h).bind k) Q := by
  subst he
  exact Ev.bind (loopW_ev enc I μ step a h h0) out

end Wm
end

section
/- Frames: what of a heap stays; known blocks are read and written. -/
namespace Wm

theorem bind_congr1 {α β : Type} {x y : Option α} {f : α → Option β} (h : x = y) : x.bind f = y.bind f := by rw [h]

/-- Blocks of 'h' outside of 'L' are as they were; more may have come. -/
structure Fr (L : List Nat) (h h' : H) : Prop where
  le : h.next ≤ h'.next
  ok : h'.ok
  same : ∀ b, b < h.next → b ∉ L → h'.get b = h.get b

theorem Fr.refl {L : List Nat} {h : H} (ok : h.ok) : Fr L h h := ⟨Nat.le_refl _, ok, fun _ _ _ => rfl⟩
theorem Fr.new {L : List Nat} {h h' : H} (f : Fr L h h') (x : Blk) : Fr L h (h'.new x) :=
  ⟨by have := f.le; simp only [H.next_new]; omega, f.ok.new x, fun b hb hL => by rw [get_new_ne (by have := f.le; omega)]; exact f.same b hb hL⟩
theorem Fr.put {L : List Nat} {h h' : H} (f : Fr L h h') {b : Nat} (hb : b ∈ L ∨ h.next ≤ b) (hl : b < h'.next) (x : Option Blk) : Fr L h (h'.put b x) :=
  ⟨f.le, f.ok.put hl x, fun c hc hL => by
    rw [get_put_ne (by rintro rfl; rcases hb with q | q; exact hL q; omega)]; exact f.same c hc hL⟩
theorem Fr.trans {L L' : List Nat} {h h1 h2 : H} (f : Fr L h h1) (g : Fr L' h1 h2) (hL : ∀ b ∈ L', b ∈ L ∨ h.next ≤ b) : Fr L h h2 :=
  ⟨Nat.le_trans f.le g.le, g.ok, fun b hb hn => by
    rw [g.same b (by have := f.le; omega) (fun q => by rcases hL b q with q | q; exact hn q; omega)]; exact f.same b hb hn⟩
theorem Fr.trans' {L : List Nat} {h h1 h2 : H} (f : Fr L h h1) (g : Fr L h1 h2) : Fr L h h2 := f.trans g fun _ q => .inl q
theorem Fr.get {L : List Nat} {h h' : H} (f : Fr L h h') (ok : h.ok) {b : Nat} {x : Blk} (hb : h.get b = some x) (hL : b ∉ L) : h'.get b = some x := by
  rw [f.same b (ok.lt hb) hL]; exact hb
/-! ### Reads and writes of blocks that are known -/
section
variable {h : H} {n b o : Nat}
theorem ld1_get' : h.ld1 (.ptr b o) = ldB (h.get b) o := H.ld1_eq
theorem ldN_get' : h.ldN (n + 1) (.ptr b o) = ldNB (h.get b) o (n + 1) := H.ldN_eq (Nat.succ_ne_zero n)
theorem st_get' {x : V} : h.st n (.ptr b o) x = match Nat.beq x.cells.length n with
    | true => (stB (h.get b) o x.cells).map fun y => h.put b (some y)
    | false => none := by
  simp only [H.st]
  split
  · rename_i hb; simp only [hb, H.stc_eq]
  · rename_i hb; simp only [hb]
theorem get_new' {x : Blk} {c : Nat} : (h.new x).get c = if c = h.next then some x else h.get c := H.get_new _ _ _
theorem put_put' {x y : Option Blk} : (h.put b x).put b y = h.put b y := by
  simp only [H.put, T.put, T.put'_put' _ _ _ _ _ _ (Nat.lt_succ_self _) (Nat.lt_succ_self _)]
end
theorem lenSl_sl (b o n : Nat) (c : Cap) : lenSl (.sl b o n c) = some n := rfl
theorem nilc_ptr (b o : Nat) : nilc (.ptr b o) = some (.ptr b o) := rfl
/-! ### Configs -/
structure Cfg where
  s : Int
  a : Int
  c : Int
  hd : Int
  g : Int
  st : Int
/-! ### Words of a memory -/
structure Touch where
  kind : Int
  at' : Int
  was : Int
  now : Int
structure Mem where
  ws : List Int
  n : Int
  last : Touch

end Wm
end

section
/- A slice that grows among blocks that came: what it holds. -/
namespace Wm

theorem lt_of_get {α : Type} {l : List α} {j : Nat} {x : α} (h : l[j]? = some x) : j < l.length := by
  rcases Nat.lt_or_ge j l.length with q | q
  · exact q
  · rw [List.getElem?_eq_none q] at h; cases h

end Wm
end

section
/- Words of a memory by what they are: all of a config, in their order, and where each stands. -/
namespace Wm

inductive Wd
  | clock | epoch | grays | top
  | pin (k : Nat)
  | entry (k i : Nat)
  | view (k : Nat)
  | start (k : Nat)
  | header (s : Nat)
  | link (s : Nat)
  | body (s i : Nat)
  deriving DecidableEq

def Cfg.S (k : Cfg) : Nat := k.s.toNat
def Cfg.room (k : Cfg) : Nat := (if k.a < 3 then 3 else k.a).toNat
def Cfg.C (k : Cfg) : Nat := k.c.toNat
def Cfg.H (k : Cfg) : Nat := k.hd.toNat
def Wd.ok (k : Cfg) : Wd → Prop
  | .clock | .epoch | .grays | .top => True
  | .pin q | .view q | .start q => q < k.C
  | .entry q i => q < k.C ∧ i < k.H
  | .header s | .link s => s < k.S
  | .body s i => s < k.S ∧ i < k.room
instance (k : Cfg) (l : Wd) : Decidable (l.ok k) := by cases l <;> (unfold Wd.ok; infer_instance)

end Wm
end

section
/- The program's machines as plain functions: headers, shades. -/
namespace Wm

def black (e : Int) : Int := (e / 4 + 1) % 2
end Wm
end

section
/- Headers and their words: what the functions of head come to. -/
namespace Wm
attribute [local congr] bind_congr1

def born (e : Int) : Int := if e % 4 = 0 then 1 - black e else black e
end Wm
end

section
/- All words of a config, and those of a memory in which nothing was done: withyref06.Words, Memory. -/
namespace Wm
attribute [local congr] bind_congr1
attribute [local irreducible] wr

theorem sl_idx {b n i e : Nat} {c : Cap} (hi : i < n) : indexAV e (.sl b 0 n c) (.int .i64 (i : Int)) = some (.ptr b (i * e)) := by
  simp only [indexAV, indexOf, asIAny, show decide ((0 : Int) ≤ (i : Int)) = true from decide_eq_true (by omega), show decide ((i : Int) < (n : Int)) = true from decide_eq_true (by omega), Bool.and_self, Nat.zero_add, Int.toNat_natCast]
theorem sl_idx1 {b n i : Nat} {c : Cap} (hi : i < n) : indexAV 1 (.sl b 0 n c) (.int .i64 (i : Int)) = some (.ptr b i) := by rw [sl_idx hi, Nat.mul_one]

end Wm
end

section
/- A step of a run that the kernel need not look into: joins. -/
namespace Wm
theorem obind {α β : Type} (a : α) (f : α → Option β) : (some a).bind f = f a := by
  cases h : f a with
  | none => rw [Option.bind_some, h]
  | some b => rw [Option.bind_some, h]
theorem one_int (k : Go.IntKind) (n : Int) : V.one (.int k n) = true := rfl
theorem cells_agg (l : List V) : V.cells (.agg l) = l := rfl
end Wm
end

section
/- Sorts of numbers by a function: what stands in the slice, reads, swaps, comparisons. -/
namespace Wm
attribute [local congr] bind_congr1
attribute [local irreducible] wr
open Go.Sort (swp)

def ints (d : Array Int) : List V := d.toList.map (V.int .i64)
theorem ints_length (d : Array Int) : (ints d).length = d.size := by unfold ints; rw [List.length_map]; rfl
theorem ints_get {d : Array Int} {i : Nat} (h : i < d.size) : (ints d)[i]? = some (.int .i64 d[i]!) := by
  unfold ints
  rw [List.getElem?_map, Array.getElem?_toList, Array.getElem?_eq_getElem h, getElem!_pos d i h]; rfl
theorem ints_set' {d : Array Int} {i : Nat} {v : Int} : (ints d).set i (.int .i64 v) = ints (d.setIfInBounds i v) := by
  unfold ints
  rw [Array.toList_setIfInBounds, List.map_set]

/-- The slice that is sorted: block b; all else of h0 is as it was. -/
structure Sw (h0 : H) (b N : Nat) (h : H) (d : Array Int) : Prop where
  fr : Fr [b] h0 h
  at_ : h.get b = some (.cells (ints d) .rw)
  sz : d.size = N
  inr : ∀ i, i < N → 0 ≤ d[i]! ∧ d[i]! < N

/-- What is asked of the comparison. -/
def Cmp (h0 : H) (b N f : Nat) (cs : List V) (lt : Int → Int → Bool) : Prop :=
  ∀ h, Fr [b] h0 h → ∀ i j : Int, 0 ≤ i → i < N → 0 ≤ j → j < N → ∃ n h', C f ([.int .i64 i, .int .i64 j] ++ cs) h = some (.int .i64 n, h') ∧ decide (n < 0) = lt i j ∧ Fr [] h h'

section
variable {h0 h : H} {b N : Nat} {d : Array Int}
theorem Sw.ok (S : Sw h0 b N h d) : h.ok := S.fr.ok
theorem Sw.ld (S : Sw h0 b N h d) {i : Nat} (hi : i < N) : ldB (h.get b) i = some (.int .i64 d[i]!) := by
  rw [S.at_, ldB_cells, ints_get (by rw [S.sz]; exact hi)]; rfl
theorem Sw.fr0 (S : Sw h0 b N h d) {h' : H} (F : Fr [] h h') : Sw h0 b N h' d :=
  ⟨S.fr.trans F (fun _ q => by simp at q), F.get S.ok S.at_ (by simp), S.sz, S.inr⟩
theorem Sw.fr' (S : Sw h0 b N h d) {h' : H} {q : Nat} (F : Fr [q] h h') (hq : h0.next ≤ q) (hn : q ≠ b) : Sw h0 b N h' d :=
  ⟨S.fr.trans F (fun x hx => by rw [List.mem_singleton] at hx; exact .inr (hx ▸ hq)), F.get S.ok S.at_ (by simpa using fun e => hn e.symm), S.sz, S.inr⟩
theorem Sw.cmp (S : Sw h0 b N h d) {f : Nat} {cs : List V} {lt : Int → Int → Bool} (K : Cmp h0 b N f cs lt) {i j : Nat} (hi : i < N) (hj : j < N) :
    ∃ n h', (∀ {R : Type} (k : V × H → Option R), callFn W (.fn f cs) [.int .i64 d[i]!, .int .i64 d[j]!] h k = k (.int .i64 n, h')) ∧ decide (n < 0) = lt d[i]! d[j]! ∧ Sw h0 b N h' d ∧ Fr [] h h' := by
  obtain ⟨n, h', e, hn, F⟩ := K h S.fr d[i]! d[j]! (S.inr i hi).1 (S.inr i hi).2 (S.inr j hj).1 (S.inr j hj).2
  exact ⟨n, h', fun k => callFn_is (M := W) e k, hn, S.fr0 F, F⟩
theorem Sw.swap (S : Sw h0 b N h d) {i j : Nat} (hi : i < N) (hj : j < N) :
    ∃ h1 h2, h.st 1 (.ptr b i) (.int .i64 d[j]!) = some h1 ∧ h1.st 1 (.ptr b j) (.int .i64 d[i]!) = some h2 ∧ Sw h0 b N h2 (swp d i j) ∧ Fr [b] h h2 := by
  have hl : b < h.next := S.ok.lt S.at_
  have e1 := st1_get S.at_ (by simp) (one_int .i64 d[j]!) (by rw [ints_length, S.sz]; exact hi)
  rw [ints_set'] at e1
  have g1 : (h.put b (some (.cells (ints (d.setIfInBounds i d[j]!)) .rw))).get b = some (.cells (ints (d.setIfInBounds i d[j]!)) .rw) := get_put_self _ _ _
  have e2 := st1_get g1 (by simp) (one_int .i64 d[i]!) (by rw [ints_length, Array.size_setIfInBounds, S.sz]; exact hj)
  rw [ints_set', put_put'] at e2
  have F2 : Fr [b] h (h.put b (some (.cells (ints (swp d i j)) .rw))) := (Fr.refl S.ok).put (.inl (by simp)) hl _
  refine ⟨_, _, e1, e2, ⟨S.fr.trans' F2, get_put_self _ _ _, by rw [Go.Sort.swp_size]; exact S.sz, fun k hk => ?_⟩, F2⟩
  by_cases hkj : k = j
  · subst hkj
    rw [Go.Sort.swp_right _ _ _ (by rw [S.sz]; exact hj)]; exact S.inr i hi
  by_cases hki : k = i
  · subst hki
    rw [Go.Sort.swp_left _ _ _ (by rw [S.sz]; exact hi) hkj]; exact S.inr j hj
  · rw [Go.Sort.swp_other _ _ _ _ hki hkj]; exact S.inr k hk
end
end Wm
end

section
/- The insertion sort. -/
namespace Wm
attribute [local congr] bind_congr1
attribute [local irreducible] wr
open Go.Sort (swp insInner insOuter)

section
variable {h0 h : H} {b N f : Nat} {cs : List V} {lt : Int → Int → Bool} {d : Array Int} {c : Cap}

theorem sort_lt {i j : Nat} (h : i < j) : decide ((i : Int) < (j : Int)) = true := decide_eq_true (by omega)
theorem sort_nlt {i j : Nat} (h : ¬ i < j) : decide ((i : Int) < (j : Int)) = false := decide_eq_false (by omega)
theorem sort_pred {i : Nat} (h : i + 1 ≤ 9000) : wr .i64 (((i + 1 : Nat) : Int) - 1) = (i : Int) := by rw [wr64 (by omega) (by omega)]; omega
theorem sort_succ {i : Nat} (h : i ≤ 9000) : wr .i64 ((i : Int) + 1) = ((i + 1 : Nat) : Int) := by rw [wr64 (by omega) (by omega)]; omega

theorem insInner_stop {a j : Nat} {d : Array Int} (h : ¬ a < j) : insInner lt a j d = d := by
  cases j with
  | zero => rfl
  | succ j => rw [insInner, if_neg (by simp [show ¬ j + 1 > a from h])]

theorem insInner_spec (A : Sw h0 b N h d) (K : Cmp h0 b N f cs lt) (hN : N ≤ 1000) {a e i : Nat} (hi : i < N) :
    Ev ((W.loop (S.slices_insertionSortCmpFunc_int__c2_B W) (S.slices_insertionSortCmpFunc_int__c2_E (.sl b 0 N c) (.int .i64 (a : Int)) (.int .i64 (e : Int)) (.fn f cs) (.int .i64 (i : Int)) (.int .i64 (i : Int))) h).bind fun z => S.slices_insertionSortCmpFunc_int__K5 W z.1 z.2.1 z.2.2)
      fun z => z.1 = .normal ∧ z.2.1 = S.slices_insertionSortCmpFunc_int__c0_E (.sl b 0 N c) (.int .i64 (a : Int)) (.int .i64 (e : Int)) (.fn f cs) (.int .i64 ((i + 1 : Nat) : Int)) ∧ Sw h0 b N z.2.2 (insInner lt a i d) := by
  refine loop_ev (α := Nat × Array Int) (fun q => S.slices_insertionSortCmpFunc_int__c2_E (.sl b 0 N c) (.int .i64 (a : Int)) (.int .i64 (e : Int)) (.fn f cs) (.int .i64 (i : Int)) (.int .i64 (q.1 : Int)))
    (fun q h => q.1 < N ∧ Sw h0 b N h q.2 ∧ insInner lt a q.1 q.2 = insInner lt a i d) (fun q _ => q.1)
    (fun z => z.1 = .exit 2 ∧ z.2.1 = S.slices_insertionSortCmpFunc_int__c2_O (.sl b 0 N c) (.int .i64 (a : Int)) (.int .i64 (e : Int)) (.fn f cs) (.int .i64 (i : Int)) ∧ Sw h0 b N z.2.2 (insInner lt a i d)) (i, d) rfl ⟨hi, A, rfl⟩ ?_ ?_
  rotate_left
  · rintro ⟨_, _, g⟩ ⟨rfl, rfl, A⟩
    show Ev (S.slices_insertionSortCmpFunc_int__K5 W (.exit 2) _ _) _
    rw [S.slices_insertionSortCmpFunc_int__c2_e2_eq]
    simp only [S.slices_insertionSortCmpFunc_int__c2_e2, sort_succ (i := i) (by omega)]
    exact Ev.some ⟨rfl, rfl, A⟩
  rintro ⟨j, d1⟩ g ⟨hj, A, hd⟩
  dsimp only at hj A hd
  rw [S.slices_insertionSortCmpFunc_int__c2_eq]
  by_cases haj : a < j
  · obtain ⟨k, rfl⟩ : ∃ k, j = k + 1 := ⟨j - 1, by omega⟩
    have hk : k < N := Nat.lt_of_succ_lt hj
    have c1 := sort_lt haj
    have wp := sort_pred (i := k) (by omega)
    have i1 := sl_idx1 (b := b) (c := c) hj
    have i2 := sl_idx1 (b := b) (c := c) hk
    have l1 := A.ld hj
    have l2 := A.ld hk
    obtain ⟨n, g1, ec, hn, A1, _⟩ := A.cmp K hj hk
    have l3 := A1.ld hj
    have l4 := A1.ld hk
    obtain ⟨g2, g3, s1, s2, A3, _⟩ := A1.swap hj hk
    rw [insInner] at hd
    cases hl : lt d1[k + 1]! d1[k]! with
    | true =>
      rw [if_pos (by rw [hl]; simpa using haj)] at hd
      simp only [S.slices_insertionSortCmpFunc_int__c2_S, c1, wp, i1, i2, obind, ld1_get', l1, l2, ec, asI_int, hn, hl, l3, l4, s1, s2]
      exact Ev.some (.inl ⟨(k, swp d1 (k + 1) k), rfl, rfl, ⟨hk, A3, hd⟩, Nat.lt_succ_self k⟩)
    | false =>
      rw [if_neg (by rw [hl]; simp)] at hd
      simp only [S.slices_insertionSortCmpFunc_int__c2_S, c1, wp, i1, i2, obind, ld1_get', l1, l2, ec, asI_int, hn, hl]
      exact Ev.some (.inr ⟨by simp, rfl, rfl, hd ▸ A1⟩)
  · rw [insInner_stop haj] at hd
    simp only [S.slices_insertionSortCmpFunc_int__c2_S, sort_nlt haj]
    exact Ev.some (.inr ⟨by simp, rfl, rfl, hd ▸ A⟩)

theorem insertion_spec (A : Sw h0 b N h d) (K : Cmp h0 b N f cs lt) (hN : N ≤ 1000) {a e : Nat} (he : e ≤ N) (ha : a ≤ N) :
    Ev (C 450 [.sl b 0 N c, .int .i64 (a : Int), .int .i64 (e : Int), .fn f cs] h) fun z => z.1 = .tup [] ∧ Sw h0 b N z.2 (Go.Sort.insertionSort lt d a e) := by
  refine call_ev (af := F.slices_insertionSortCmpFunc_int_) (by kernel_rfl) rfl ?_
  rw [S.slices_insertionSortCmpFunc_int__eq]
  simp only [S.slices_insertionSortCmpFunc_int_, sort_succ (i := a) (by omega)]
  unfold Go.Sort.insertionSort
  refine loop_ev (α := Nat × Array Int) (fun q => S.slices_insertionSortCmpFunc_int__c0_E (.sl b 0 N c) (.int .i64 (a : Int)) (.int .i64 (e : Int)) (.fn f cs) (.int .i64 (q.1 : Int)))
    (fun q h => Sw h0 b N h q.2 ∧ insOuter lt a e q.1 q.2 = insOuter lt a e (a + 1) d) (fun q _ => e - q.1)
    (fun z => z.1 = .exit 0 ∧ z.2.1 = S.slices_insertionSortCmpFunc_int__c0_O ∧ Sw h0 b N z.2.2 (insOuter lt a e (a + 1) d)) (a + 1, d) rfl ⟨A, rfl⟩ ?_ ?_
  rotate_left
  · rintro ⟨_, _, g⟩ ⟨rfl, rfl, A⟩
    show Ev (S.slices_insertionSortCmpFunc_int__K1 W (.exit 0) _ _) _
    rw [S.slices_insertionSortCmpFunc_int__c0_e0_eq]
    exact Ev.some ⟨rfl, A⟩
  rintro ⟨i, d1⟩ g ⟨A, hd⟩
  dsimp only at A hd
  rw [S.slices_insertionSortCmpFunc_int__c0_eq]
  rw [insOuter] at hd
  by_cases hi : i < e
  · rw [if_pos hi] at hd
    simp only [S.slices_insertionSortCmpFunc_int__c0_S, sort_lt hi]
    refine (insInner_spec A K hN (a := a) (e := e) (Nat.lt_of_lt_of_le hi he)).mono ?_
    rintro ⟨_, _, g1⟩ ⟨rfl, rfl, A1⟩
    exact .inl ⟨(i + 1, insInner lt a i d1), rfl, rfl, ⟨A1, hd⟩, Nat.sub_lt_sub_left hi (Nat.lt_succ_self i)⟩
  · rw [if_neg hi] at hd
    simp only [S.slices_insertionSortCmpFunc_int__c0_S, sort_nlt hi]
    exact Ev.some (.inr ⟨by simp, rfl, rfl, hd ▸ A⟩)
end
end Wm
end

section
/- The heap sort; a range reversed. -/
namespace Wm
attribute [local congr] bind_congr1
attribute [local irreducible] wr
open Go.Sort (swp siftDown heapBuild heapPop reverseLoop)

section
variable {h0 h : H} {b N f : Nat} {cs : List V} {lt : Int → Int → Bool} {d : Array Int} {c : Cap}

theorem sort_le {i j : Nat} (h : i ≤ j) : decide ((i : Int) ≤ (j : Int)) = true := decide_eq_true (by omega)
theorem sort_nle {i j : Nat} (h : ¬ i ≤ j) : decide ((i : Int) ≤ (j : Int)) = false := decide_eq_false (by omega)
theorem sort_add {i j : Nat} (h : i + j ≤ 9000) : wr .i64 ((i : Int) + (j : Int)) = ((i + j : Nat) : Int) := by rw [wr64 (by omega) (by omega)]; omega
theorem sort_sub {i j : Nat} (h : j ≤ i) (hi : i ≤ 9000) : wr .i64 ((i : Int) - (j : Int)) = ((i - j : Nat) : Int) := by rw [wr64 (by omega) (by omega)]; omega
theorem sort_twice {i : Nat} (h : i ≤ 9000) : wr .i64 (2 * (i : Int)) = ((2 * i : Nat) : Int) := by rw [wr64 (by omega) (by omega)]; omega
theorem sort_succ' {i : Nat} (h : i ≤ 9000) : wr .i64 ((i : Int) + 1) = ((i + 1 : Nat) : Int) := by rw [wr64 (by omega) (by omega)]; omega

theorem sift_nums {N hi fi root : Nat} (hN : N ≤ 1000) (hf : fi + hi ≤ N) (hr : root ≤ N) (h1 : ¬ hi ≤ 2 * root + 1) :
    fi + (2 * root + 1) < N ∧ fi + root < N ∧ 2 * root + 1 ≤ N ∧ hi - (2 * root + 1) < hi - root ∧ fi + (2 * root + 1) ≤ 9000 ∧ fi + root ≤ 9000 ∧ fi + (2 * root + 1 + 1) ≤ 9000 ∧ (2 * root + 1 + 1 < hi → fi + (2 * root + 1 + 1) < N) := by omega

theorem sift_spec (A : Sw h0 b N h d) (K : Cmp h0 b N f cs lt) (hN : N ≤ 1000) {hi fi root : Nat} (hf : fi + hi ≤ N) (hr : root ≤ N) :
    Ev (C 487 [.sl b 0 N c, .int .i64 (root : Int), .int .i64 (hi : Int), .int .i64 (fi : Int), .fn f cs] h) fun z => z.1 = .tup [] ∧ Sw h0 b N z.2 (siftDown lt hi fi root d) := by
  refine call_ev (af := F.slices_siftDownCmpFunc_int_) (by kernel_rfl) rfl ?_
  rw [S.slices_siftDownCmpFunc_int__eq]
  simp only [S.slices_siftDownCmpFunc_int_]
  refine loop_ev (α := Nat × Array Int) (fun q => S.slices_siftDownCmpFunc_int__c0_E (.sl b 0 N c) (.int .i64 (hi : Int)) (.int .i64 (fi : Int)) (.fn f cs) (.int .i64 (q.1 : Int)))
    (fun q h => q.1 ≤ N ∧ Sw h0 b N h q.2 ∧ siftDown lt hi fi q.1 q.2 = siftDown lt hi fi root d) (fun q _ => hi - q.1)
    (fun z => (z.1 = .exit 0 ∨ z.1 = .ret) ∧ z.2.1 = S.slices_siftDownCmpFunc_int__c0_O ∧ Sw h0 b N z.2.2 (siftDown lt hi fi root d)) (root, d) rfl ⟨hr, A, rfl⟩ ?_ ?_
  rotate_left
  · rintro ⟨_, _, g⟩ ⟨rfl | rfl, rfl, A⟩
    · show Ev (S.slices_siftDownCmpFunc_int__K1 W (.exit 0) _ _) _
      rw [S.slices_siftDownCmpFunc_int__c0_e0_eq]
      exact Ev.some ⟨rfl, A⟩
    · show Ev (S.slices_siftDownCmpFunc_int__K1 W .ret _ _) _
      rw [S.slices_siftDownCmpFunc_int__c0_r_eq]
      exact Ev.some ⟨rfl, A⟩
  clear hr A
  generalize siftDown lt hi fi root d = D
  clear root
  rintro ⟨root, d1⟩ g ⟨hr, A, hd⟩
  dsimp only at hr A hd
  rw [S.slices_siftDownCmpFunc_int__c0_eq]
  rw [siftDown, show fi + (2 * root + 1) + 1 = fi + (2 * root + 1 + 1) from rfl, show 2 * root + 2 = 2 * root + 1 + 1 from rfl] at hd
  have rN : 2 * root + 2 ≤ 9000 := by omega
  obtain ⟨hI, hhi⟩ : ∃ x : Int, x = (hi : Int) := ⟨_, rfl⟩
  obtain ⟨fI, hfi⟩ : ∃ x : Int, x = (fi : Int) := ⟨_, rfl⟩
  obtain ⟨rI, hri⟩ : ∃ x : Int, x = (root : Int) := ⟨_, rfl⟩
  rw [← hhi, ← hfi, ← hri]
  have w2 : wr .i64 (2 * rI) = ((2 * root : Nat) : Int) := hri ▸ sort_twice (i := root) (Nat.le_trans hr (Nat.le_trans hN (by decide)))
  have w3 := sort_succ' (i := 2 * root) (Nat.le_trans (by simp) rN)
  by_cases h1 : hi ≤ 2 * root + 1
  · rw [dif_pos h1] at hd
    have k1 : decide (hI ≤ ((2 * root + 1 : Nat) : Int)) = true := hhi ▸ sort_le h1
    simp only [S.slices_siftDownCmpFunc_int__c0_S, w2, w3, k1]
    subst hhi hfi hri
    exact Ev.some (.inr ⟨by simp, .inl rfl, rfl, hd ▸ A⟩)
  obtain ⟨b1, b2, m1, m2, f1, f2, f3, f4⟩ := sift_nums hN hf hr h1
  have w4 := sort_succ' (i := 2 * root + 1) (Nat.le_trans (by simp) rN)
  have w5 : wr .i64 (fI + ((2 * root + 1 : Nat) : Int)) = ((fi + (2 * root + 1) : Nat) : Int) := hfi ▸ sort_add (i := fi) (j := 2 * root + 1) f1
  have w6 : wr .i64 (((fi + (2 * root + 1) : Nat) : Int) + 1) = ((fi + (2 * root + 1 + 1) : Nat) : Int) := sort_succ' (i := fi + (2 * root + 1)) f1
  have w7 : wr .i64 (fI + rI) = ((fi + root : Nat) : Int) := hfi ▸ hri ▸ sort_add (i := fi) (j := root) f2
  have w8 : wr .i64 (fI + ((2 * root + 1 + 1 : Nat) : Int)) = ((fi + (2 * root + 1 + 1) : Nat) : Int) := hfi ▸ sort_add (i := fi) (j := 2 * root + 1 + 1) f3
  have i1 := sl_idx1 (b := b) (c := c) b1
  have i2 := sl_idx1 (b := b) (c := c) b2
  rw [dif_neg h1] at hd
  have k1 : decide (hI ≤ ((2 * root + 1 : Nat) : Int)) = false := hhi ▸ sort_nle h1
  -- the left child
  have left : ∀ (g1 : H), Sw h0 b N g1 d1 → (if (!lt d1[fi + root]! d1[fi + (2 * root + 1)]!) = true then d1 else siftDown lt hi fi (2 * root + 1) (swp d1 (fi + root) (fi + (2 * root + 1)))) = D →
      ∃ n g2, (∀ {R : Type} (k : V × H → Option R), callFn W (.fn f cs) [.int .i64 d1[fi + root]!, .int .i64 d1[fi + (2 * root + 1)]!] g1 k = k (.int .i64 n, g2)) ∧ Sw h0 b N g2 d1 ∧ ((decide (n < 0) = false ∧ d1 = D) ∨ (decide (n < 0) = true ∧ ∃ g3 g4, g2.st 1 (.ptr b (fi + root)) (.int .i64 d1[fi + (2 * root + 1)]!) = some g3 ∧ g3.st 1 (.ptr b (fi + (2 * root + 1))) (.int .i64 d1[fi + root]!) = some g4 ∧ Sw h0 b N g4 (swp d1 (fi + root) (fi + (2 * root + 1))) ∧ siftDown lt hi fi (2 * root + 1) (swp d1 (fi + root) (fi + (2 * root + 1))) = D)) := by
    intro g1 A1 hd
    obtain ⟨n, g2, ec, hn, A2, _⟩ := A1.cmp K b2 b1
    refine ⟨n, g2, ec, A2, ?_⟩
    cases hl : lt d1[fi + root]! d1[fi + (2 * root + 1)]! with
    | false => rw [hl] at hn hd; exact .inl ⟨hn, by simpa using hd⟩
    | true =>
      rw [hl] at hn hd
      obtain ⟨g3, g4, s1, s2, A4, _⟩ := A2.swap b2 b1
      exact .inr ⟨hn, g3, g4, s1, s2, A4, by simpa using hd⟩
  have l1 := A.ld b1
  have l2 := A.ld b2
  by_cases h2 : 2 * root + 1 + 1 < hi
  · have k2 : decide (((2 * root + 1 + 1 : Nat) : Int) < hI) = true := hhi ▸ sort_lt h2
    have b3 : fi + (2 * root + 1 + 1) < N := f4 h2
    have i3 := sl_idx1 (b := b) (c := c) b3
    have l3 := A.ld b3
    obtain ⟨n, g1, ec, hn, A1, _⟩ := A.cmp K b1 b3
    have l4 := A1.ld b1
    have l5 := A1.ld b2
    have l6 := A1.ld b3
    cases hl : lt d1[fi + (2 * root + 1)]! d1[fi + (2 * root + 1 + 1)]! with
    | true =>
      rw [if_pos (by rw [hl]; simpa using h2)] at hd
      obtain ⟨n2, g2, ec2, hn2, A2, _⟩ := A1.cmp K b2 b3
      have l7 := A2.ld b2
      have l8 := A2.ld b3
      cases hl2 : lt d1[fi + root]! d1[fi + (2 * root + 1 + 1)]! with
      | false =>
        rw [if_pos (by rw [hl2]; rfl)] at hd
        simp only [S.slices_siftDownCmpFunc_int__c0_S, w2, w3, w4, w5, w6, w7, w8, k1, k2, i1, i2, i3, obind, ld1_get', l1, l3, ec, asI_int, hn, hl, l5, l6, ec2, hn2, hl2, Bool.not_false]
        subst hhi hfi hri
        exact Ev.some (.inr ⟨by simp, .inr rfl, rfl, hd ▸ A2⟩)
      | true =>
        rw [if_neg (by rw [hl2]; simp), dif_pos h2] at hd
        obtain ⟨g3, g4, s1, s2, A4, _⟩ := A2.swap b2 b3
        simp only [S.slices_siftDownCmpFunc_int__c0_S, w2, w3, w4, w5, w6, w7, w8, k1, k2, i1, i2, i3, obind, ld1_get', l1, l3, ec, asI_int, hn, hl, l5, l6, ec2, hn2, hl2, Bool.not_true, l7, l8, s1, s2]
        subst hhi hfi hri
        exact Ev.some (.inl ⟨(2 * root + 1 + 1, _), rfl, rfl, ⟨Nat.le_trans (Nat.le_of_lt h2) (Nat.le_trans (Nat.le_add_left _ _) hf), A4, hd⟩, Nat.lt_of_le_of_lt (Nat.sub_le_sub_left (Nat.le_succ _) _) m2⟩)
    | false =>
      rw [if_neg (by rw [hl]; simp)] at hd
      obtain ⟨n2, g2, ec2, A2, q⟩ := left g1 A1 hd
      rcases q with ⟨hn2, hD⟩ | ⟨hn2, g3, g4, s1, s2, A4, hD⟩
      · simp only [S.slices_siftDownCmpFunc_int__c0_S, w2, w3, w4, w5, w6, w7, w8, k1, k2, i1, i2, i3, obind, ld1_get', l1, l3, ec, asI_int, hn, hl, l4, l5, ec2, hn2, Bool.not_false]
        subst hhi hfi hri
        exact Ev.some (.inr ⟨by simp, .inr rfl, rfl, hD ▸ A2⟩)
      · have l7 := A2.ld b2
        have l8 := A2.ld b1
        simp only [S.slices_siftDownCmpFunc_int__c0_S, w2, w3, w4, w5, w6, w7, w8, k1, k2, i1, i2, i3, obind, ld1_get', l1, l3, ec, asI_int, hn, hl, l4, l5, ec2, hn2, Bool.not_true, l7, l8, s1, s2]
        subst hhi hfi hri
        exact Ev.some (.inl ⟨(2 * root + 1, _), rfl, rfl, ⟨m1, A4, hD⟩, m2⟩)
  · have k2 : decide (((2 * root + 1 + 1 : Nat) : Int) < hI) = false := hhi ▸ sort_nlt h2
    rw [if_neg (by simp [h2])] at hd
    obtain ⟨n2, g2, ec2, A2, q⟩ := left g A hd
    rcases q with ⟨hn2, hD⟩ | ⟨hn2, g3, g4, s1, s2, A4, hD⟩
    · simp only [S.slices_siftDownCmpFunc_int__c0_S, w2, w3, w4, w5, w7, k1, k2, i1, i2, obind, ld1_get', l1, l2, asI_int, ec2, hn2, Bool.not_false]
      subst hhi hfi hri
      exact Ev.some (.inr ⟨by simp, .inr rfl, rfl, hD ▸ A2⟩)
    · have l7 := A2.ld b2
      have l8 := A2.ld b1
      simp only [S.slices_siftDownCmpFunc_int__c0_S, w2, w3, w4, w5, w7, k1, k2, i1, i2, obind, ld1_get', l1, l2, asI_int, ec2, hn2, Bool.not_true, l7, l8, s1, s2]
      subst hhi hfi hri
      exact Ev.some (.inl ⟨(2 * root + 1, _), rfl, rfl, ⟨m1, A4, hD⟩, m2⟩)

theorem down0 {k : Nat} : decide ((0 : Int) ≤ ((k + 1 : Nat) : Int) - 1) = true ∧ ((k + 1 : Nat) : Int) - 1 = (k : Int) := ⟨decide_eq_true (by omega), by omega⟩
theorem down_wr {k : Nat} (h : k ≤ 9000) : wr .i64 ((k : Int) - 1) = (k : Int) - 1 := wr64 (by omega) (by omega)
theorem heap_half {n : Nat} (h : n ≤ 9000) : wr .i64 (Int.tdiv (wr .i64 ((n : Int) - 1)) 2) = (((n - 1) / 2 + 1 : Nat) : Int) - 1 := by
  have e : wr .i64 ((n : Int) - 1) = (n : Int) - 1 := down_wr h
  rw [e]
  cases n with
  | zero => rw [wr64 (by decide) (by decide)]; decide
  | succ n =>
    have e1 : ((n + 1 : Nat) : Int) - 1 = (n : Int) := by omega
    have e2 : Int.tdiv (n : Int) 2 = ((n / 2 : Nat) : Int) := rfl
    rw [e1, e2, wr64 (by omega) (by omega), Nat.add_sub_cancel]
    omega

theorem heapPop_spec (A : Sw h0 b N h d) (K : Cmp h0 b N f cs lt) (hN : N ≤ 1000) {fi n : Nat} (hn : fi + n ≤ N) :
    Ev ((W.loop (S.slices_heapSortCmpFunc_int__c2_B W) (S.slices_heapSortCmpFunc_int__c2_E (.sl b 0 N c) (.fn f cs) (.int .i64 (fi : Int)) (.int .i64 0) (.int .i64 ((n : Int) - 1))) h).bind fun z => S.slices_heapSortCmpFunc_int__K3 W z.1 z.2.1 z.2.2)
      fun z => z.1 = .tup [] ∧ Sw h0 b N z.2 (heapPop lt fi n d) := by
  refine loop_ev (α := Nat × Array Int) (fun q => S.slices_heapSortCmpFunc_int__c2_E (.sl b 0 N c) (.fn f cs) (.int .i64 (fi : Int)) (.int .i64 0) (.int .i64 ((q.1 : Int) - 1)))
    (fun q h => fi + q.1 ≤ N ∧ Sw h0 b N h q.2 ∧ heapPop lt fi q.1 q.2 = heapPop lt fi n d) (fun q _ => q.1)
    (fun z => z.1 = .exit 2 ∧ z.2.1 = S.slices_heapSortCmpFunc_int__c2_O ∧ Sw h0 b N z.2.2 (heapPop lt fi n d)) (n, d) rfl ⟨hn, A, rfl⟩ ?_ ?_
  rotate_left
  · rintro ⟨_, _, g⟩ ⟨rfl, rfl, A⟩
    show Ev (S.slices_heapSortCmpFunc_int__K3 W (.exit 2) _ _) _
    rw [S.slices_heapSortCmpFunc_int__c2_e2_eq]
    exact Ev.some ⟨rfl, A⟩
  rintro ⟨k, d1⟩ g ⟨hk, A, hd⟩
  dsimp only at hk A hd
  rw [S.slices_heapSortCmpFunc_int__c2_eq]
  cases k with
  | zero =>
    have k1 : decide ((0 : Int) ≤ ((0 : Nat) : Int) - 1) = false := by decide
    simp only [S.slices_heapSortCmpFunc_int__c2_S, k1]
    exact Ev.some (.inr ⟨by simp, rfl, rfl, hd ▸ A⟩)
  | succ k =>
    have b1 : fi + k < N := hk
    have b2 : fi < N := Nat.lt_of_le_of_lt (Nat.le_add_right _ _) b1
    have l9 : fi + k ≤ 9000 := Nat.le_trans (Nat.le_of_lt b1) (Nat.le_trans hN (by decide))
    have i1 := sl_idx1 (b := b) (c := c) b1
    have i2 := sl_idx1 (b := b) (c := c) b2
    have l1 := A.ld b1
    have l2 := A.ld b2
    obtain ⟨g1, g2, s1, s2, A2, _⟩ := A.swap b2 b1
    obtain ⟨⟨v3, g3⟩, e3, rfl, A3⟩ := sift_spec (c := c) A2 K hN (hi := k) (fi := fi) (root := 0) (Nat.le_of_lt b1) (Nat.zero_le _)
    dsimp only at A3
    have e3' : C 487 [.sl b 0 N c, .int .i64 0, .int .i64 (k : Int), .int .i64 (fi : Int), .fn f cs] g2 = some (.tup [], g3) := e3
    rw [down0.2]
    have k1 : decide ((0 : Int) ≤ (k : Int)) = true := decide_eq_true (Int.natCast_nonneg k)
    have w1 := sort_add (i := fi) (j := k) l9
    have w2 := down_wr (k := k) (Nat.le_trans (Nat.le_add_left _ _) l9)
    obtain ⟨kI, hki⟩ : ∃ x : Int, x = (k : Int) := ⟨_, rfl⟩
    obtain ⟨fI, hfi⟩ : ∃ x : Int, x = (fi : Int) := ⟨_, rfl⟩
    rw [← hki] at k1 w1 w2 e3' ⊢
    rw [← hfi] at w1 i2 e3' ⊢
    simp only [S.slices_heapSortCmpFunc_int__c2_S, k1, w1, w2, i1, i2, obind, ld1_get', l1, l2, s1, s2, W_call, e3']
    subst hki hfi
    exact Ev.some (.inl ⟨(k, _), rfl, rfl, ⟨Nat.le_of_lt b1, A3, hd⟩, Nat.lt_succ_self k⟩)

theorem heap_spec (A : Sw h0 b N h d) (K : Cmp h0 b N f cs lt) (hN : N ≤ 1000) {a e : Nat} (hae : a ≤ e) (he : e ≤ N) :
    Ev (C 451 [.sl b 0 N c, .int .i64 (a : Int), .int .i64 (e : Int), .fn f cs] h) fun z => z.1 = .tup [] ∧ Sw h0 b N z.2 (Go.Sort.heapSort lt d a e) := by
  refine call_ev (af := F.slices_heapSortCmpFunc_int_) (by kernel_rfl) rfl ?_
  rw [S.slices_heapSortCmpFunc_int__eq]
  have he9 : e ≤ 9000 := Nat.le_trans he (Nat.le_trans hN (by decide))
  have hn9 : e - a ≤ 9000 := Nat.le_trans (Nat.sub_le _ _) he9
  have w1 := sort_sub hae he9
  have w2 := heap_half hn9
  unfold Go.Sort.heapSort
  have hn : a + (e - a) ≤ N := by rw [Nat.add_sub_cancel' hae]; exact he
  generalize e - a = n at w1 w2 hn9 hn ⊢
  simp only [S.slices_heapSortCmpFunc_int_, w1, w2]
  clear w1 w2
  have hm : (n - 1) / 2 + 1 ≤ N + 1 := by omega
  generalize (n - 1) / 2 + 1 = m at hm ⊢
  refine loop_ev (α := Nat × Array Int) (fun q => S.slices_heapSortCmpFunc_int__c1_E (.sl b 0 N c) (.fn f cs) (.int .i64 (a : Int)) (.int .i64 0) (.int .i64 (n : Int)) (.int .i64 ((q.1 : Int) - 1)))
    (fun q h => q.1 ≤ N + 1 ∧ Sw h0 b N h q.2 ∧ heapBuild lt n a q.1 q.2 = heapBuild lt n a m d) (fun q _ => q.1)
    (fun z => z.1 = .exit 0 ∧ z.2.1 = S.slices_heapSortCmpFunc_int__c1_O (.sl b 0 N c) (.fn f cs) (.int .i64 (a : Int)) (.int .i64 0) (.int .i64 (n : Int)) ∧ Sw h0 b N z.2.2 (heapBuild lt n a m d)) (m, d) rfl ⟨hm, A, rfl⟩ ?_ ?_
  rotate_left
  · rintro ⟨_, _, g⟩ ⟨rfl, rfl, A⟩
    show Ev (S.slices_heapSortCmpFunc_int__K2 W (.exit 0) _ _) _
    rw [S.slices_heapSortCmpFunc_int__c1_e0_eq]
    have w3 := down_wr hn9
    simp only [S.slices_heapSortCmpFunc_int__c1_e0, w3]
    exact heapPop_spec A K hN hn
  rintro ⟨k, d1⟩ g ⟨hk, A, hd⟩
  dsimp only at hk A hd
  rw [S.slices_heapSortCmpFunc_int__c1_eq]
  cases k with
  | zero =>
    have k1 : decide ((0 : Int) ≤ ((0 : Nat) : Int) - 1) = false := by decide
    simp only [S.slices_heapSortCmpFunc_int__c1_S, k1]
    exact Ev.some (.inr ⟨by simp, rfl, rfl, hd ▸ A⟩)
  | succ k =>
    have hkN : k ≤ N := Nat.le_of_succ_le_succ hk
    obtain ⟨⟨v3, g3⟩, e3, rfl, A3⟩ := sift_spec (c := c) A K hN (hi := n) (fi := a) (root := k) hn hkN
    dsimp only at A3
    rw [down0.2]
    have k1 : decide ((0 : Int) ≤ (k : Int)) = true := decide_eq_true (Int.natCast_nonneg k)
    have w2 := down_wr (k := k) (Nat.le_trans hkN (Nat.le_trans hN (by decide)))
    simp only [S.slices_heapSortCmpFunc_int__c1_S, k1, w2, obind, W_call, e3]
    exact Ev.some (.inl ⟨(k, _), rfl, rfl, ⟨Nat.le_succ_of_le hkN, A3, hd⟩, Nat.lt_succ_self k⟩)
end
end Wm
end

section
/- partitionEqual. -/
namespace Wm
attribute [local congr] bind_congr1
attribute [local irreducible] wr
open Go.Sort (swp scanUp scanDown partEqLoop)

section
variable {h0 h : H} {b N f : Nat} {cs : List V} {lt : Int → Int → Bool} {d : Array Int} {c : Cap}

theorem scanUp_if (p : Int → Bool) (d : Array Int) (j i : Nat) : scanUp p d j i = if i ≤ j ∧ p d[i]! = true then scanUp p d j (i + 1) else i := by
  rw [scanUp]
  by_cases h : i ≤ j ∧ p d[i]! = true
  · rw [if_pos h, if_pos (by simp [h.1, h.2])]
  · rw [if_neg h, if_neg (by simpa using h)]
theorem scanDown_if (p : Int → Bool) (d : Array Int) {i : Nat} (h1 : 1 ≤ i) : ∀ j, scanDown p d i j = if i ≤ j ∧ p d[j]! = true then scanDown p d i (j - 1) else j
  | 0 => by rw [if_neg (fun q => absurd (Nat.le_trans h1 q.1) (by decide))]; rfl
  | j + 1 => by
    rw [scanDown, Nat.add_sub_cancel]
    by_cases h : i ≤ j + 1 ∧ p d[j + 1]! = true
    · rw [if_pos h, if_pos (by simp [h.1, h.2])]
    · rw [if_neg h, if_neg (by simpa using h)]

/-- What a round of the outer loop comes to. -/
def PePost (h0 : H) (b N : Nat) (c : Cap) (f : Nat) (cs : List V) (a i2 j2 : Nat) (d : Array Int) (z : AX × List V × H) : Prop :=
  if i2 > j2 then z.1 = .exit 0 ∧ z.2.1 = S.slices_partitionEqualCmpFunc_int__c1_O (.int .i64 (i2 : Int)) ∧ Sw h0 b N z.2.2 d
  else z.1 = .normal ∧ z.2.1 = S.slices_partitionEqualCmpFunc_int__c1_E (.sl b 0 N c) (.int .i64 (a : Int)) (.fn f cs) (.int .i64 ((i2 + 1 : Nat) : Int)) (.int .i64 ((j2 - 1 : Nat) : Int)) ∧ Sw h0 b N z.2.2 (swp d i2 j2)

theorem peDown_spec (A : Sw h0 b N h d) (K : Cmp h0 b N f cs lt) (hN : N ≤ 1000) {a i j : Nat} (ha : a < N) (hi1 : 1 ≤ i) (hi : i ≤ N) (hj : j < N) :
    Ev ((W.loop (S.slices_partitionEqualCmpFunc_int__c5_B W) (S.slices_partitionEqualCmpFunc_int__c5_E (.sl b 0 N c) (.int .i64 (a : Int)) (.fn f cs) (.int .i64 (i : Int)) (.int .i64 (j : Int))) h).bind fun z => S.slices_partitionEqualCmpFunc_int__K8 W z.1 z.2.1 z.2.2)
      (PePost h0 b N c f cs a i (scanDown (fun x => lt d[a]! x) d i j) d) := by
  refine loop_ev (α := Nat) (fun q => S.slices_partitionEqualCmpFunc_int__c5_E (.sl b 0 N c) (.int .i64 (a : Int)) (.fn f cs) (.int .i64 (i : Int)) (.int .i64 (q : Int)))
    (fun q h => q < N ∧ Sw h0 b N h d ∧ scanDown (fun x => lt d[a]! x) d i q = scanDown (fun x => lt d[a]! x) d i j) (fun q _ => q)
    (fun z => ∃ q, q < N ∧ z.1 = .exit 4 ∧ z.2.1 = S.slices_partitionEqualCmpFunc_int__c5_O (.sl b 0 N c) (.int .i64 (a : Int)) (.fn f cs) (.int .i64 (i : Int)) (.int .i64 (q : Int)) ∧ Sw h0 b N z.2.2 d ∧ q = scanDown (fun x => lt d[a]! x) d i j) j rfl ⟨hj, A, rfl⟩ ?_ ?_
  rotate_left
  · rintro ⟨_, _, g⟩ ⟨q, hq, rfl, rfl, A, hqe⟩
    rw [← hqe]
    clear hqe
    dsimp only at A ⊢
    show Ev (S.slices_partitionEqualCmpFunc_int__K8 W (.exit 4) _ _) _
    rw [S.slices_partitionEqualCmpFunc_int__c5_e4_eq]
    unfold PePost
    by_cases hqi : q < i
    · simp only [S.slices_partitionEqualCmpFunc_int__c5_e4, sort_lt hqi, if_pos (show i > q from hqi)]
      exact Ev.some ⟨rfl, rfl, A⟩
    · simp only [if_neg (show ¬ i > q from hqi)]
      have hiN : i < N := Nat.lt_of_le_of_lt (Nat.not_lt.mp hqi) hq
      have n9 : N ≤ 9000 := Nat.le_trans hN (by decide)
      obtain ⟨m, rfl⟩ : ∃ m, q = m + 1 := ⟨q - 1, by omega⟩
      have k1 := sort_nlt hqi
      have w1 := sort_succ (i := i) (Nat.le_trans hi n9)
      have w2 := sort_pred (i := m) (Nat.le_trans (Nat.le_of_lt hq) n9)
      have i1 := sl_idx1 (b := b) (c := c) hiN
      have i2 := sl_idx1 (b := b) (c := c) hq
      have l1 := A.ld hiN
      have l2 := A.ld hq
      obtain ⟨g1, g2, s1, s2, A2, _⟩ := A.swap hiN hq
      simp only [S.slices_partitionEqualCmpFunc_int__c5_e4, k1, w1, w2, i1, i2, obind, ld1_get', l1, l2, s1, s2]
      exact Ev.some ⟨rfl, rfl, A2⟩
  rintro q g ⟨hq, A, hd⟩
  rw [S.slices_partitionEqualCmpFunc_int__c5_eq]
  rw [scanDown_if _ _ hi1] at hd
  by_cases hiq : i ≤ q
  · have i1 := sl_idx1 (b := b) (c := c) ha
    have i2 := sl_idx1 (b := b) (c := c) hq
    have l1 := A.ld ha
    have l2 := A.ld hq
    have k1 := sort_le hiq
    obtain ⟨n, g1, ec, hn, A1, _⟩ := A.cmp K ha hq
    obtain ⟨m, rfl⟩ : ∃ m, q = m + 1 := ⟨q - 1, by omega⟩
    have w2 := sort_pred (i := m) (Nat.le_trans (Nat.le_of_lt hq) (Nat.le_trans hN (by decide)))
    cases hl : lt d[a]! d[m + 1]! with
    | true =>
      rw [if_pos ⟨hiq, hl⟩, Nat.add_sub_cancel] at hd
      simp only [S.slices_partitionEqualCmpFunc_int__c5_S, k1, i1, i2, obind, ld1_get', l1, l2, ec, asI_int, hn, hl, w2]
      exact Ev.some (.inl ⟨m, rfl, rfl, ⟨Nat.lt_of_succ_lt hq, A1, hd⟩, Nat.lt_succ_self m⟩)
    | false =>
      rw [if_neg (fun z => by rw [hl] at z; cases z.2)] at hd
      simp only [S.slices_partitionEqualCmpFunc_int__c5_S, k1, i1, i2, obind, ld1_get', l1, l2, ec, asI_int, hn, hl]
      exact Ev.some (.inr ⟨by simp, m + 1, hq, rfl, rfl, A1, hd⟩)
  · rw [if_neg (fun z => hiq z.1)] at hd
    simp only [S.slices_partitionEqualCmpFunc_int__c5_S, sort_nle hiq]
    exact Ev.some (.inr ⟨by simp, q, hq, rfl, rfl, A, hd⟩)

theorem peUp_spec (A : Sw h0 b N h d) (K : Cmp h0 b N f cs lt) (hN : N ≤ 1000) {a i j : Nat} (ha : a < N) (hi1 : 1 ≤ i) (hi : i ≤ N) (hj : j < N) :
    Ev ((W.loop (S.slices_partitionEqualCmpFunc_int__c3_B W) (S.slices_partitionEqualCmpFunc_int__c3_E (.sl b 0 N c) (.int .i64 (a : Int)) (.fn f cs) (.int .i64 (i : Int)) (.int .i64 (j : Int))) h).bind fun z => S.slices_partitionEqualCmpFunc_int__K6 W z.1 z.2.1 z.2.2)
      (PePost h0 b N c f cs a (scanUp (fun x => !lt d[a]! x) d j i) (scanDown (fun x => lt d[a]! x) d (scanUp (fun x => !lt d[a]! x) d j i) j) d) := by
  refine loop_ev (α := Nat) (fun q => S.slices_partitionEqualCmpFunc_int__c3_E (.sl b 0 N c) (.int .i64 (a : Int)) (.fn f cs) (.int .i64 (q : Int)) (.int .i64 (j : Int)))
    (fun q h => (1 ≤ q ∧ q ≤ N) ∧ Sw h0 b N h d ∧ scanUp (fun x => !lt d[a]! x) d j q = scanUp (fun x => !lt d[a]! x) d j i) (fun q _ => N - q)
    (fun z => ∃ q, (1 ≤ q ∧ q ≤ N) ∧ z.1 = .exit 2 ∧ z.2.1 = S.slices_partitionEqualCmpFunc_int__c3_O (.sl b 0 N c) (.int .i64 (a : Int)) (.fn f cs) (.int .i64 (q : Int)) (.int .i64 (j : Int)) ∧ Sw h0 b N z.2.2 d ∧ q = scanUp (fun x => !lt d[a]! x) d j i) i rfl ⟨⟨hi1, hi⟩, A, rfl⟩ ?_ ?_
  rotate_left
  · rintro ⟨_, _, g⟩ ⟨q, ⟨hq1, hq⟩, rfl, rfl, A, hqe⟩
    rw [← hqe]
    clear hqe
    dsimp only at A ⊢
    show Ev (S.slices_partitionEqualCmpFunc_int__K6 W (.exit 2) _ _) _
    rw [S.slices_partitionEqualCmpFunc_int__c3_e2_eq]
    simp only [S.slices_partitionEqualCmpFunc_int__c3_e2]
    exact peDown_spec A K hN ha hq1 hq hj
  rintro q g ⟨⟨hq1, hq⟩, A, hd⟩
  rw [S.slices_partitionEqualCmpFunc_int__c3_eq]
  rw [scanUp_if] at hd
  by_cases hqj : q ≤ j
  · have hqN : q < N := Nat.lt_of_le_of_lt hqj hj
    have i1 := sl_idx1 (b := b) (c := c) ha
    have i2 := sl_idx1 (b := b) (c := c) hqN
    have l1 := A.ld ha
    have l2 := A.ld hqN
    have k1 := sort_le hqj
    obtain ⟨n, g1, ec, hn, A1, _⟩ := A.cmp K ha hqN
    have w2 := sort_succ (i := q) (Nat.le_trans hq (Nat.le_trans hN (by decide)))
    cases hl : lt d[a]! d[q]! with
    | false =>
      rw [if_pos ⟨hqj, by rw [hl]; rfl⟩] at hd
      simp only [S.slices_partitionEqualCmpFunc_int__c3_S, k1, i1, i2, obind, ld1_get', l1, l2, ec, asI_int, hn, hl, w2, Bool.not_false]
      exact Ev.some (.inl ⟨q + 1, rfl, rfl, ⟨⟨Nat.le_succ_of_le hq1, hqN⟩, A1, hd⟩, Nat.sub_lt_sub_left hqN (Nat.lt_succ_self q)⟩)
    | true =>
      rw [if_neg (fun z => by rw [hl] at z; cases z.2)] at hd
      simp only [S.slices_partitionEqualCmpFunc_int__c3_S, k1, i1, i2, obind, ld1_get', l1, l2, ec, asI_int, hn, hl, Bool.not_true]
      exact Ev.some (.inr ⟨by simp, q, ⟨hq1, hq⟩, rfl, rfl, A1, hd⟩)
  · rw [if_neg (fun z => hqj z.1)] at hd
    simp only [S.slices_partitionEqualCmpFunc_int__c3_S, sort_nle hqj]
    exact Ev.some (.inr ⟨by simp, q, ⟨hq1, hq⟩, rfl, rfl, A, hd⟩)

theorem partitionEqual_spec (A : Sw h0 b N h d) (K : Cmp h0 b N f cs lt) (hN : N ≤ 1000) {a e pv : Nat} (hae : a < e) (he : e ≤ N) (hp : pv < N) :
    Ev (C 456 [.sl b 0 N c, .int .i64 (a : Int), .int .i64 (e : Int), .int .i64 (pv : Int), .fn f cs] h) fun z => z.1 = .int .i64 ((Go.Sort.partitionEqual lt d a e pv).1 : Int) ∧ Sw h0 b N z.2 (Go.Sort.partitionEqual lt d a e pv).2 := by
  refine call_ev (af := F.slices_partitionEqualCmpFunc_int_) (by kernel_rfl) rfl ?_
  rw [S.slices_partitionEqualCmpFunc_int__eq]
  obtain ⟨m, rfl⟩ : ∃ m, e = m + 1 := ⟨e - 1, by omega⟩
  have n9 : N ≤ 9000 := Nat.le_trans hN (by decide)
  have ha : a < N := Nat.lt_of_lt_of_le hae he
  have w1 := sort_succ (i := a) (Nat.le_trans (Nat.le_of_lt ha) n9)
  have w2 := sort_pred (i := m) (Nat.le_trans he n9)
  have i1 := sl_idx1 (b := b) (c := c) ha
  have i2 := sl_idx1 (b := b) (c := c) hp
  have l1 := A.ld ha
  have l2 := A.ld hp
  obtain ⟨g1, g2, s1, s2, A2, _⟩ := A.swap ha hp
  simp only [S.slices_partitionEqualCmpFunc_int_, w1, w2, i1, i2, obind, ld1_get', l1, l2, s1, s2]
  unfold Go.Sort.partitionEqual
  rw [Nat.add_sub_cancel]
  generalize swp d a pv = d2 at A2 ⊢
  refine loop_ev (α := Nat × Nat × Array Int) (fun q => S.slices_partitionEqualCmpFunc_int__c1_E (.sl b 0 N c) (.int .i64 (a : Int)) (.fn f cs) (.int .i64 (q.1 : Int)) (.int .i64 (q.2.1 : Int)))
    (fun q h => (1 ≤ q.1 ∧ q.1 ≤ N) ∧ q.2.1 < N ∧ Sw h0 b N h q.2.2 ∧ partEqLoop lt a q.1 q.2.1 q.2.2 = partEqLoop lt a (a + 1) m d2) (fun q _ => q.2.1 + 1 - q.1)
    (fun z => z.1 = .exit 0 ∧ z.2.1 = S.slices_partitionEqualCmpFunc_int__c1_O (.int .i64 ((partEqLoop lt a (a + 1) m d2).1 : Int)) ∧ Sw h0 b N z.2.2 (partEqLoop lt a (a + 1) m d2).2) (a + 1, m, d2) rfl ⟨⟨Nat.succ_le_succ (Nat.zero_le _), ha⟩, he, A2, rfl⟩ ?_ ?_
  rotate_left
  · rintro ⟨_, _, g⟩ ⟨rfl, rfl, A⟩
    show Ev (S.slices_partitionEqualCmpFunc_int__K2 W (.exit 0) _ _) _
    rw [S.slices_partitionEqualCmpFunc_int__c1_e0_eq]
    exact Ev.some ⟨rfl, A⟩
  generalize partEqLoop lt a (a + 1) m d2 = D
  rintro ⟨i, j, d1⟩ g ⟨⟨hi1, hi⟩, hj, A, hd⟩
  dsimp only at hi1 hi hj A hd
  rw [S.slices_partitionEqualCmpFunc_int__c1_eq]
  simp only [S.slices_partitionEqualCmpFunc_int__c1_S]
  refine (peUp_spec A K hN ha hi1 hi hj).mono ?_
  rw [Go.Sort.partEqLoop_eq] at hd
  have u1 := Go.Sort.scanUp_ge (fun x => !lt d1[a]! x) d1 j i
  generalize scanUp (fun x => !lt d1[a]! x) d1 j i = i2 at hd u1 ⊢
  have u2 := Go.Sort.scanDown_le (fun x => lt d1[a]! x) d1 i2 j
  generalize scanDown (fun x => lt d1[a]! x) d1 i2 j = j2 at hd u2 ⊢
  rintro ⟨x1, e1, g1⟩ hz
  unfold PePost at hz
  by_cases hc : i2 > j2
  · rw [if_pos hc] at hd hz
    obtain ⟨rfl, rfl, A1⟩ := hz
    subst hd
    exact .inr ⟨by simp, rfl, rfl, A1⟩
  · rw [if_neg hc] at hd hz
    obtain ⟨rfl, rfl, A1⟩ := hz
    exact .inl ⟨(i2 + 1, j2 - 1, _), rfl, rfl, ⟨⟨Nat.succ_le_succ (Nat.zero_le _), Nat.lt_of_le_of_lt (Nat.le_trans (Nat.not_lt.mp hc) u2) hj⟩, Nat.lt_of_le_of_lt (Nat.sub_le _ _) (Nat.lt_of_le_of_lt u2 hj), A1, hd⟩, Go.Sort.guard_of u1 u2 hc⟩
end
end Wm
end

section
/- partition. -/
namespace Wm
attribute [local congr] bind_congr1
attribute [local irreducible] wr
open Go.Sort (swp scanUp scanDown partLoop)

section
variable {h0 h : H} {b N f : Nat} {cs : List V} {lt : Int → Int → Bool} {d : Array Int} {c : Cap}

theorem paUp1 {R : Type} {kk : AX × List V × H → Option R} {Q : R → Prop} (A : Sw h0 b N h d) (K : Cmp h0 b N f cs lt) (hN : N ≤ 1000) {a i j : Nat} (ha : a < N) (hi1 : 1 ≤ i) (hi : i ≤ N) (hj : j < N)
    (out : ∀ q, 1 ≤ q → q ≤ N → q = scanUp (fun x => lt x d[a]!) d j i → ∀ g, Sw h0 b N g d → Ev (kk (.exit 0, S.slices_partitionCmpFunc_int__c1_O (.sl b 0 N c) (.int .i64 (a : Int)) (.fn f cs) (.int .i64 (q : Int)) (.int .i64 (j : Int)), g)) Q) :
    Ev ((W.loop (S.slices_partitionCmpFunc_int__c1_B W) (S.slices_partitionCmpFunc_int__c1_E (.sl b 0 N c) (.int .i64 (a : Int)) (.fn f cs) (.int .i64 (i : Int)) (.int .i64 (j : Int))) h).bind kk) Q := by
  refine loop_ev (α := Nat) (fun q => S.slices_partitionCmpFunc_int__c1_E (.sl b 0 N c) (.int .i64 (a : Int)) (.fn f cs) (.int .i64 (q : Int)) (.int .i64 (j : Int)))
    (fun q h => (1 ≤ q ∧ q ≤ N) ∧ Sw h0 b N h d ∧ scanUp (fun x => lt x d[a]!) d j q = scanUp (fun x => lt x d[a]!) d j i) (fun q _ => N - q)
    (fun z => ∃ q, (1 ≤ q ∧ q ≤ N) ∧ z.1 = .exit 0 ∧ z.2.1 = S.slices_partitionCmpFunc_int__c1_O (.sl b 0 N c) (.int .i64 (a : Int)) (.fn f cs) (.int .i64 (q : Int)) (.int .i64 (j : Int)) ∧ Sw h0 b N z.2.2 d ∧ q = scanUp (fun x => lt x d[a]!) d j i) i rfl ⟨⟨hi1, hi⟩, A, rfl⟩ ?_ ?_
  rotate_left
  · rintro ⟨_, _, g⟩ ⟨q, ⟨hq1, hq⟩, rfl, rfl, A, hqe⟩
    exact out q hq1 hq hqe g A
  rintro q g ⟨⟨hq1, hq⟩, A, hd⟩
  rw [S.slices_partitionCmpFunc_int__c1_eq]
  rw [scanUp_if] at hd
  by_cases hqj : q ≤ j
  · have hqN : q < N := Nat.lt_of_le_of_lt hqj hj
    have i1 := sl_idx1 (b := b) (c := c) ha
    have i2 := sl_idx1 (b := b) (c := c) hqN
    have l1 := A.ld ha
    have l2 := A.ld hqN
    have k1 := sort_le hqj
    obtain ⟨n, g1, ec, hn, A1, _⟩ := A.cmp K hqN ha
    have w2 := sort_succ (i := q) (Nat.le_trans hq (Nat.le_trans hN (by decide)))
    cases hl : lt d[q]! d[a]! with
    | true =>
      rw [if_pos ⟨hqj, hl⟩] at hd
      simp only [S.slices_partitionCmpFunc_int__c1_S, k1, i1, i2, obind, ld1_get', l1, l2, ec, asI_int, hn, hl, w2]
      exact Ev.some (.inl ⟨q + 1, rfl, rfl, ⟨⟨Nat.le_succ_of_le hq1, hqN⟩, A1, hd⟩, Nat.sub_lt_sub_left hqN (Nat.lt_succ_self q)⟩)
    | false =>
      rw [if_neg (fun z => by rw [hl] at z; cases z.2)] at hd
      simp only [S.slices_partitionCmpFunc_int__c1_S, k1, i1, i2, obind, ld1_get', l1, l2, ec, asI_int, hn, hl]
      exact Ev.some (.inr ⟨by simp, q, ⟨hq1, hq⟩, rfl, rfl, A1, hd⟩)
  · rw [if_neg (fun z => hqj z.1)] at hd
    simp only [S.slices_partitionCmpFunc_int__c1_S, sort_nle hqj]
    exact Ev.some (.inr ⟨by simp, q, ⟨hq1, hq⟩, rfl, rfl, A, hd⟩)

theorem paDown1 {R : Type} {kk : AX × List V × H → Option R} {Q : R → Prop} (A : Sw h0 b N h d) (K : Cmp h0 b N f cs lt) (hN : N ≤ 1000) {a i j : Nat} (ha : a < N) (hi1 : 1 ≤ i) (hj : j < N)
    (out : ∀ q, q < N → q = scanDown (fun x => !lt x d[a]!) d i j → ∀ g, Sw h0 b N g d → Ev (kk (.exit 2, S.slices_partitionCmpFunc_int__c3_O (.sl b 0 N c) (.int .i64 (a : Int)) (.fn f cs) (.int .i64 (i : Int)) (.int .i64 (q : Int)), g)) Q) :
    Ev ((W.loop (S.slices_partitionCmpFunc_int__c3_B W) (S.slices_partitionCmpFunc_int__c3_E (.sl b 0 N c) (.int .i64 (a : Int)) (.fn f cs) (.int .i64 (i : Int)) (.int .i64 (j : Int))) h).bind kk) Q := by
  refine loop_ev (α := Nat) (fun q => S.slices_partitionCmpFunc_int__c3_E (.sl b 0 N c) (.int .i64 (a : Int)) (.fn f cs) (.int .i64 (i : Int)) (.int .i64 (q : Int)))
    (fun q h => q < N ∧ Sw h0 b N h d ∧ scanDown (fun x => !lt x d[a]!) d i q = scanDown (fun x => !lt x d[a]!) d i j) (fun q _ => q)
    (fun z => ∃ q, q < N ∧ z.1 = .exit 2 ∧ z.2.1 = S.slices_partitionCmpFunc_int__c3_O (.sl b 0 N c) (.int .i64 (a : Int)) (.fn f cs) (.int .i64 (i : Int)) (.int .i64 (q : Int)) ∧ Sw h0 b N z.2.2 d ∧ q = scanDown (fun x => !lt x d[a]!) d i j) j rfl ⟨hj, A, rfl⟩ ?_ ?_
  rotate_left
  · rintro ⟨_, _, g⟩ ⟨q, hq, rfl, rfl, A, hqe⟩
    exact out q hq hqe g A
  rintro q g ⟨hq, A, hd⟩
  rw [S.slices_partitionCmpFunc_int__c3_eq]
  rw [scanDown_if _ _ hi1] at hd
  by_cases hiq : i ≤ q
  · have i1 := sl_idx1 (b := b) (c := c) ha
    have i2 := sl_idx1 (b := b) (c := c) hq
    have l1 := A.ld ha
    have l2 := A.ld hq
    have k1 := sort_le hiq
    obtain ⟨n, g1, ec, hn, A1, _⟩ := A.cmp K hq ha
    obtain ⟨m, rfl⟩ : ∃ m, q = m + 1 := ⟨q - 1, by omega⟩
    have w2 := sort_pred (i := m) (Nat.le_trans (Nat.le_of_lt hq) (Nat.le_trans hN (by decide)))
    cases hl : lt d[m + 1]! d[a]! with
    | false =>
      rw [if_pos ⟨hiq, by rw [hl]; rfl⟩, Nat.add_sub_cancel] at hd
      simp only [S.slices_partitionCmpFunc_int__c3_S, k1, i1, i2, obind, ld1_get', l1, l2, ec, asI_int, hn, hl, w2, Bool.not_false]
      exact Ev.some (.inl ⟨m, rfl, rfl, ⟨Nat.lt_of_succ_lt hq, A1, hd⟩, Nat.lt_succ_self m⟩)
    | true =>
      rw [if_neg (fun z => by rw [hl] at z; cases z.2)] at hd
      simp only [S.slices_partitionCmpFunc_int__c3_S, k1, i1, i2, obind, ld1_get', l1, l2, ec, asI_int, hn, hl, Bool.not_true]
      exact Ev.some (.inr ⟨by simp, m + 1, hq, rfl, rfl, A1, hd⟩)
  · rw [if_neg (fun z => hiq z.1)] at hd
    simp only [S.slices_partitionCmpFunc_int__c3_S, sort_nle hiq]
    exact Ev.some (.inr ⟨by simp, q, hq, rfl, rfl, A, hd⟩)

theorem paUp2 {R : Type} {kk : AX × List V × H → Option R} {Q : R → Prop} (A : Sw h0 b N h d) (K : Cmp h0 b N f cs lt) (hN : N ≤ 1000) {a i j : Nat} (ha : a < N) (hi1 : 1 ≤ i) (hi : i ≤ N) (hj : j < N)
    (out : ∀ q, 1 ≤ q → q ≤ N → q = scanUp (fun x => lt x d[a]!) d j i → ∀ g, Sw h0 b N g d → Ev (kk (.exit 6, S.slices_partitionCmpFunc_int__c7_O (.sl b 0 N c) (.int .i64 (a : Int)) (.fn f cs) (.int .i64 (q : Int)) (.int .i64 (j : Int)), g)) Q) :
    Ev ((W.loop (S.slices_partitionCmpFunc_int__c7_B W) (S.slices_partitionCmpFunc_int__c7_E (.sl b 0 N c) (.int .i64 (a : Int)) (.fn f cs) (.int .i64 (i : Int)) (.int .i64 (j : Int))) h).bind kk) Q := by
  refine loop_ev (α := Nat) (fun q => S.slices_partitionCmpFunc_int__c7_E (.sl b 0 N c) (.int .i64 (a : Int)) (.fn f cs) (.int .i64 (q : Int)) (.int .i64 (j : Int)))
    (fun q h => (1 ≤ q ∧ q ≤ N) ∧ Sw h0 b N h d ∧ scanUp (fun x => lt x d[a]!) d j q = scanUp (fun x => lt x d[a]!) d j i) (fun q _ => N - q)
    (fun z => ∃ q, (1 ≤ q ∧ q ≤ N) ∧ z.1 = .exit 6 ∧ z.2.1 = S.slices_partitionCmpFunc_int__c7_O (.sl b 0 N c) (.int .i64 (a : Int)) (.fn f cs) (.int .i64 (q : Int)) (.int .i64 (j : Int)) ∧ Sw h0 b N z.2.2 d ∧ q = scanUp (fun x => lt x d[a]!) d j i) i rfl ⟨⟨hi1, hi⟩, A, rfl⟩ ?_ ?_
  rotate_left
  · rintro ⟨_, _, g⟩ ⟨q, ⟨hq1, hq⟩, rfl, rfl, A, hqe⟩
    exact out q hq1 hq hqe g A
  rintro q g ⟨⟨hq1, hq⟩, A, hd⟩
  rw [S.slices_partitionCmpFunc_int__c7_eq]
  rw [scanUp_if] at hd
  by_cases hqj : q ≤ j
  · have hqN : q < N := Nat.lt_of_le_of_lt hqj hj
    have i1 := sl_idx1 (b := b) (c := c) ha
    have i2 := sl_idx1 (b := b) (c := c) hqN
    have l1 := A.ld ha
    have l2 := A.ld hqN
    have k1 := sort_le hqj
    obtain ⟨n, g1, ec, hn, A1, _⟩ := A.cmp K hqN ha
    have w2 := sort_succ (i := q) (Nat.le_trans hq (Nat.le_trans hN (by decide)))
    cases hl : lt d[q]! d[a]! with
    | true =>
      rw [if_pos ⟨hqj, hl⟩] at hd
      simp only [S.slices_partitionCmpFunc_int__c7_S, k1, i1, i2, obind, ld1_get', l1, l2, ec, asI_int, hn, hl, w2]
      exact Ev.some (.inl ⟨q + 1, rfl, rfl, ⟨⟨Nat.le_succ_of_le hq1, hqN⟩, A1, hd⟩, Nat.sub_lt_sub_left hqN (Nat.lt_succ_self q)⟩)
    | false =>
      rw [if_neg (fun z => by rw [hl] at z; cases z.2)] at hd
      simp only [S.slices_partitionCmpFunc_int__c7_S, k1, i1, i2, obind, ld1_get', l1, l2, ec, asI_int, hn, hl]
      exact Ev.some (.inr ⟨by simp, q, ⟨hq1, hq⟩, rfl, rfl, A1, hd⟩)
  · rw [if_neg (fun z => hqj z.1)] at hd
    simp only [S.slices_partitionCmpFunc_int__c7_S, sort_nle hqj]
    exact Ev.some (.inr ⟨by simp, q, ⟨hq1, hq⟩, rfl, rfl, A, hd⟩)

theorem paDown2 {R : Type} {kk : AX × List V × H → Option R} {Q : R → Prop} (A : Sw h0 b N h d) (K : Cmp h0 b N f cs lt) (hN : N ≤ 1000) {a i j : Nat} (ha : a < N) (hi1 : 1 ≤ i) (hj : j < N)
    (out : ∀ q, q < N → q = scanDown (fun x => !lt x d[a]!) d i j → ∀ g, Sw h0 b N g d → Ev (kk (.exit 8, S.slices_partitionCmpFunc_int__c9_O (.sl b 0 N c) (.int .i64 (a : Int)) (.fn f cs) (.int .i64 (i : Int)) (.int .i64 (q : Int)), g)) Q) :
    Ev ((W.loop (S.slices_partitionCmpFunc_int__c9_B W) (S.slices_partitionCmpFunc_int__c9_E (.sl b 0 N c) (.int .i64 (a : Int)) (.fn f cs) (.int .i64 (i : Int)) (.int .i64 (j : Int))) h).bind kk) Q := by
  refine loop_ev (α := Nat) (fun q => S.slices_partitionCmpFunc_int__c9_E (.sl b 0 N c) (.int .i64 (a : Int)) (.fn f cs) (.int .i64 (i : Int)) (.int .i64 (q : Int)))
    (fun q h => q < N ∧ Sw h0 b N h d ∧ scanDown (fun x => !lt x d[a]!) d i q = scanDown (fun x => !lt x d[a]!) d i j) (fun q _ => q)
    (fun z => ∃ q, q < N ∧ z.1 = .exit 8 ∧ z.2.1 = S.slices_partitionCmpFunc_int__c9_O (.sl b 0 N c) (.int .i64 (a : Int)) (.fn f cs) (.int .i64 (i : Int)) (.int .i64 (q : Int)) ∧ Sw h0 b N z.2.2 d ∧ q = scanDown (fun x => !lt x d[a]!) d i j) j rfl ⟨hj, A, rfl⟩ ?_ ?_
  rotate_left
  · rintro ⟨_, _, g⟩ ⟨q, hq, rfl, rfl, A, hqe⟩
    exact out q hq hqe g A
  rintro q g ⟨hq, A, hd⟩
  rw [S.slices_partitionCmpFunc_int__c9_eq]
  rw [scanDown_if _ _ hi1] at hd
  by_cases hiq : i ≤ q
  · have i1 := sl_idx1 (b := b) (c := c) ha
    have i2 := sl_idx1 (b := b) (c := c) hq
    have l1 := A.ld ha
    have l2 := A.ld hq
    have k1 := sort_le hiq
    obtain ⟨n, g1, ec, hn, A1, _⟩ := A.cmp K hq ha
    obtain ⟨m, rfl⟩ : ∃ m, q = m + 1 := ⟨q - 1, by omega⟩
    have w2 := sort_pred (i := m) (Nat.le_trans (Nat.le_of_lt hq) (Nat.le_trans hN (by decide)))
    cases hl : lt d[m + 1]! d[a]! with
    | false =>
      rw [if_pos ⟨hiq, by rw [hl]; rfl⟩, Nat.add_sub_cancel] at hd
      simp only [S.slices_partitionCmpFunc_int__c9_S, k1, i1, i2, obind, ld1_get', l1, l2, ec, asI_int, hn, hl, w2, Bool.not_false]
      exact Ev.some (.inl ⟨m, rfl, rfl, ⟨Nat.lt_of_succ_lt hq, A1, hd⟩, Nat.lt_succ_self m⟩)
    | true =>
      rw [if_neg (fun z => by rw [hl] at z; cases z.2)] at hd
      simp only [S.slices_partitionCmpFunc_int__c9_S, k1, i1, i2, obind, ld1_get', l1, l2, ec, asI_int, hn, hl, Bool.not_true]
      exact Ev.some (.inr ⟨by simp, m + 1, hq, rfl, rfl, A1, hd⟩)
  · rw [if_neg (fun z => hiq z.1)] at hd
    simp only [S.slices_partitionCmpFunc_int__c9_S, sort_nle hiq]
    exact Ev.some (.inr ⟨by simp, q, hq, rfl, rfl, A, hd⟩)

theorem paRound_spec (A : Sw h0 b N h d) (K : Cmp h0 b N f cs lt) (hN : N ≤ 1000) {a i j : Nat} (ha : a < N) (hi1 : 1 ≤ i) (hi : i ≤ N) (hj : j < N) :
    Ev (S.slices_partitionCmpFunc_int__c5_S W (.sl b 0 N c) (a : Int) (.fn f cs) (i : Int) (j : Int) h) fun z => ∃ i2 j2, i2 = scanUp (fun x => lt x d[a]!) d j i ∧ j2 = scanDown (fun x => !lt x d[a]!) d i2 j ∧ j2 < N ∧ i2 ≤ N ∧
      ((j2 < i2 ∧ z.1 = .exit 4 ∧ z.2.1 = S.slices_partitionCmpFunc_int__c5_O (.sl b 0 N c) (.int .i64 (a : Int)) (.int .i64 (j2 : Int)) ∧ Sw h0 b N z.2.2 d) ∨
       (¬ j2 < i2 ∧ z.1 = .normal ∧ z.2.1 = S.slices_partitionCmpFunc_int__c5_E (.sl b 0 N c) (.int .i64 (a : Int)) (.fn f cs) (.int .i64 ((i2 + 1 : Nat) : Int)) (.int .i64 ((j2 - 1 : Nat) : Int)) ∧ Sw h0 b N z.2.2 (swp d i2 j2))) := by
  simp only [S.slices_partitionCmpFunc_int__c5_S]
  refine paUp2 A K hN ha hi1 hi hj ?_
  intro i2 hq1 hq hqe g A
  show Ev (S.slices_partitionCmpFunc_int__K10 W (.exit 6) _ _) _
  rw [S.slices_partitionCmpFunc_int__c7_e6_eq]
  simp only [S.slices_partitionCmpFunc_int__c7_e6]
  refine paDown2 A K hN ha hq1 hj ?_
  intro j2 hj2 hje g A
  show Ev (S.slices_partitionCmpFunc_int__K12 W (.exit 8) _ _) _
  rw [S.slices_partitionCmpFunc_int__c9_e8_eq]
  by_cases hqi : j2 < i2
  · simp only [S.slices_partitionCmpFunc_int__c9_e8, sort_lt hqi]
    exact Ev.some ⟨i2, j2, hqe, hje, hj2, hq, .inl ⟨hqi, rfl, rfl, A⟩⟩
  · have hiN : i2 < N := Nat.lt_of_le_of_lt (Nat.not_lt.mp hqi) hj2
    have n9 : N ≤ 9000 := Nat.le_trans hN (by decide)
    have k1 := sort_nlt hqi
    obtain ⟨m, hm⟩ : ∃ m, j2 = m + 1 := ⟨j2 - 1, by omega⟩
    have w1 := sort_succ (i := i2) (Nat.le_trans hq n9)
    have w2 : wr .i64 ((j2 : Int) - 1) = ((j2 - 1 : Nat) : Int) := by rw [hm]; exact sort_pred (i := m) (Nat.le_trans (hm ▸ Nat.le_of_lt hj2) n9)
    have i1 := sl_idx1 (b := b) (c := c) hiN
    have i2' := sl_idx1 (b := b) (c := c) hj2
    have l1 := A.ld hiN
    have l2 := A.ld hj2
    obtain ⟨g1, g2, s1, s2, A2, _⟩ := A.swap hiN hj2
    simp only [S.slices_partitionCmpFunc_int__c9_e8, k1, w1, w2, i1, i2', obind, ld1_get', l1, l2, s1, s2]
    exact Ev.some ⟨i2, j2, hqe, hje, hj2, hq, .inr ⟨hqi, rfl, rfl, A2⟩⟩

theorem paLoop_spec (A : Sw h0 b N h d) (K : Cmp h0 b N f cs lt) (hN : N ≤ 1000) {a i j : Nat} (ha : a < N) (hi1 : 1 ≤ i) (hi : i ≤ N) (hj : j < N) :
    Ev ((W.loop (S.slices_partitionCmpFunc_int__c5_B W) (S.slices_partitionCmpFunc_int__c5_E (.sl b 0 N c) (.int .i64 (a : Int)) (.fn f cs) (.int .i64 (i : Int)) (.int .i64 (j : Int))) h).bind fun z => S.slices_partitionCmpFunc_int__K6 W z.1 z.2.1 z.2.2)
      fun z => z.1 = .tup [.int .i64 ((partLoop lt a i j d).1 : Int), .bool false] ∧ Sw h0 b N z.2 (swp (partLoop lt a i j d).2 (partLoop lt a i j d).1 a) := by
  refine loop_ev (α := Nat × Nat × Array Int) (fun q => S.slices_partitionCmpFunc_int__c5_E (.sl b 0 N c) (.int .i64 (a : Int)) (.fn f cs) (.int .i64 (q.1 : Int)) (.int .i64 (q.2.1 : Int)))
    (fun q h => (1 ≤ q.1 ∧ q.1 ≤ N) ∧ q.2.1 < N ∧ Sw h0 b N h q.2.2 ∧ partLoop lt a q.1 q.2.1 q.2.2 = partLoop lt a i j d) (fun q _ => q.2.1 + 1 - q.1)
    (fun z => z.1 = .exit 4 ∧ z.2.1 = S.slices_partitionCmpFunc_int__c5_O (.sl b 0 N c) (.int .i64 (a : Int)) (.int .i64 ((partLoop lt a i j d).1 : Int)) ∧ (partLoop lt a i j d).1 < N ∧ Sw h0 b N z.2.2 (partLoop lt a i j d).2) (i, j, d) rfl ⟨⟨hi1, hi⟩, hj, A, rfl⟩ ?_ ?_
  rotate_left
  · rintro ⟨_, _, g⟩ ⟨rfl, rfl, hD, A⟩
    show Ev (S.slices_partitionCmpFunc_int__K6 W (.exit 4) _ _) _
    rw [S.slices_partitionCmpFunc_int__c5_e4_eq]
    generalize partLoop lt a i j d = D at hD A ⊢
    dsimp only at A
    have i1 := sl_idx1 (b := b) (c := c) hD
    have i2 := sl_idx1 (b := b) (c := c) ha
    have l1 := A.ld hD
    have l2 := A.ld ha
    obtain ⟨g1, g2, s1, s2, A2, _⟩ := A.swap hD ha
    simp only [S.slices_partitionCmpFunc_int__c5_e4, i1, i2, obind, ld1_get', l1, l2, s1, s2]
    exact Ev.some ⟨rfl, A2⟩
  generalize partLoop lt a i j d = D
  clear hi1 hi hj A
  rintro ⟨i, j, d1⟩ g ⟨⟨hi1, hi⟩, hj, A, hd⟩
  dsimp only at hi1 hi hj A hd
  rw [S.slices_partitionCmpFunc_int__c5_eq]
  refine (paRound_spec A K hN ha hi1 hi hj).mono ?_
  rw [Go.Sort.partLoop_eq] at hd
  have u1 := Go.Sort.scanUp_ge (fun x => lt x d1[a]!) d1 j i
  rintro ⟨x1, e1, g1⟩ ⟨i2, j2, hi2, hj2, hjN, hiN, hz⟩
  have u2 := Go.Sort.scanDown_le (fun x => !lt x d1[a]!) d1 i2 j
  rw [← hi2] at u1 hd
  rw [← hj2] at u2 hd
  rcases hz with ⟨hc, rfl, rfl, A1⟩ | ⟨hc, rfl, rfl, A1⟩
  · rw [if_pos (show i2 > j2 from hc)] at hd
    subst hd
    exact .inr ⟨by simp, rfl, rfl, hjN, A1⟩
  · rw [if_neg (show ¬ i2 > j2 from hc)] at hd
    exact .inl ⟨(i2 + 1, j2 - 1, _), rfl, rfl, ⟨⟨Nat.succ_le_succ (Nat.zero_le _), Nat.lt_of_le_of_lt (Nat.not_lt.mp hc) hjN⟩, Nat.lt_of_le_of_lt (Nat.sub_le _ _) hjN, A1, hd⟩, Go.Sort.guard_of u1 u2 hc⟩

theorem partition_spec (A : Sw h0 b N h d) (K : Cmp h0 b N f cs lt) (hN : N ≤ 1000) {a e pv : Nat} (hae : a < e) (he : e ≤ N) (hp : pv < N) :
    Ev (C 457 [.sl b 0 N c, .int .i64 (a : Int), .int .i64 (e : Int), .int .i64 (pv : Int), .fn f cs] h) fun z => z.1 = .tup [.int .i64 ((Go.Sort.partition lt d a e pv).1 : Int), .bool (Go.Sort.partition lt d a e pv).2.1] ∧ Sw h0 b N z.2 (Go.Sort.partition lt d a e pv).2.2 := by
  refine call_ev (af := F.slices_partitionCmpFunc_int_) (by kernel_rfl) rfl ?_
  rw [S.slices_partitionCmpFunc_int__eq]
  obtain ⟨m, rfl⟩ : ∃ m, e = m + 1 := ⟨e - 1, by omega⟩
  have n9 : N ≤ 9000 := Nat.le_trans hN (by decide)
  have ha : a < N := Nat.lt_of_lt_of_le hae he
  have w1 := sort_succ (i := a) (Nat.le_trans (Nat.le_of_lt ha) n9)
  have w2 := sort_pred (i := m) (Nat.le_trans he n9)
  have i1 := sl_idx1 (b := b) (c := c) ha
  have i2 := sl_idx1 (b := b) (c := c) hp
  have l1 := A.ld ha
  have l2 := A.ld hp
  obtain ⟨g1, g2, s1, s2, A2, _⟩ := A.swap ha hp
  simp only [S.slices_partitionCmpFunc_int_, w1, w2, i1, i2, obind, ld1_get', l1, l2, s1, s2]
  unfold Go.Sort.partition
  dsimp only
  rw [Nat.add_sub_cancel]
  clear A s1 s2 l1 l2 w1 w2
  generalize swp d a pv = d2 at A2 ⊢
  refine paUp1 A2 K hN ha (Nat.succ_le_succ (Nat.zero_le _)) ha he ?_
  intro i3 hq1 hq hqe g A
  rw [← hqe]
  clear hqe
  show Ev (S.slices_partitionCmpFunc_int__K2 W (.exit 0) _ _) _
  rw [S.slices_partitionCmpFunc_int__c1_e0_eq]
  simp only [S.slices_partitionCmpFunc_int__c1_e0]
  refine paDown1 A K hN ha hq1 he ?_
  intro j2 hj2 hje g A
  rw [← hje]
  clear hje
  show Ev (S.slices_partitionCmpFunc_int__K4 W (.exit 2) _ _) _
  rw [S.slices_partitionCmpFunc_int__c3_e2_eq]
  by_cases hqi : j2 < i3
  · have i4 := sl_idx1 (b := b) (c := c) hj2
    have l1 := A.ld ha
    have l2 := A.ld hj2
    obtain ⟨g1, g2, s1, s2, A2, _⟩ := A.swap hj2 ha
    simp only [S.slices_partitionCmpFunc_int__c3_e2, sort_lt hqi, i1, i4, obind, ld1_get', l1, l2, s1, s2, if_pos (show i3 > j2 from hqi)]
    exact Ev.some ⟨rfl, A2⟩
  · have hiN : i3 < N := Nat.lt_of_le_of_lt (Nat.not_lt.mp hqi) hj2
    have k1 := sort_nlt hqi
    obtain ⟨m2, hm⟩ : ∃ m, j2 = m + 1 := ⟨j2 - 1, by omega⟩
    have w1 := sort_succ (i := i3) (Nat.le_trans hq n9)
    have w2 : wr .i64 ((j2 : Int) - 1) = ((j2 - 1 : Nat) : Int) := by rw [hm]; exact sort_pred (i := m2) (Nat.le_trans (hm ▸ Nat.le_of_lt hj2) n9)
    have i3' := sl_idx1 (b := b) (c := c) hiN
    have i4 := sl_idx1 (b := b) (c := c) hj2
    have l1 := A.ld hiN
    have l2 := A.ld hj2
    obtain ⟨g1, g2, s1, s2, A2, _⟩ := A.swap hiN hj2
    simp only [S.slices_partitionCmpFunc_int__c3_e2, k1, w1, w2, i3', i4, obind, ld1_get', l1, l2, s1, s2, if_neg (show ¬ i3 > j2 from hqi)]
    exact paLoop_spec A2 K hN ha (Nat.succ_le_succ (Nat.zero_le _)) hiN (Nat.lt_of_le_of_lt (Nat.sub_le _ _) hj2)
end
end Wm
end

section
/- partialInsertionSort. -/
namespace Wm
attribute [local congr] bind_congr1
attribute [local irreducible] wr
open Go.Sort (swp scanSorted shiftDown shiftUp partialIns)

section
variable {h0 h : H} {b N f : Nat} {cs : List V} {lt : Int → Int → Bool} {d : Array Int} {c : Cap}

theorem piScan {R : Type} {kk : AX × List V × H → Option R} {Q : R → Prop} (A : Sw h0 b N h d) (K : Cmp h0 b N f cs lt) (hN : N ≤ 1000) {a e i : Nat} {x : Int} (hi1 : 1 ≤ i) (hi : i ≤ e) (he : e ≤ N)
    (out : ∀ p, i ≤ p → p ≤ e → p = scanSorted lt d e i → ∀ g, Sw h0 b N g d → Ev (kk (.exit 2, S.slices_partialInsertionSortCmpFunc_int__c4_O (.sl b 0 N c) (.int .i64 (a : Int)) (.int .i64 (e : Int)) (.fn f cs) (.int .i64 (p : Int)) (.int .i64 x), g)) Q) :
    Ev ((W.loop (S.slices_partialInsertionSortCmpFunc_int__c4_B W) (S.slices_partialInsertionSortCmpFunc_int__c4_E (.sl b 0 N c) (.int .i64 (a : Int)) (.int .i64 (e : Int)) (.fn f cs) (.int .i64 (i : Int)) (.int .i64 x)) h).bind kk) Q := by
  refine loop_ev (α := Nat) (fun q => S.slices_partialInsertionSortCmpFunc_int__c4_E (.sl b 0 N c) (.int .i64 (a : Int)) (.int .i64 (e : Int)) (.fn f cs) (.int .i64 (q : Int)) (.int .i64 x))
    (fun q h => (i ≤ q ∧ q ≤ e) ∧ Sw h0 b N h d ∧ scanSorted lt d e q = scanSorted lt d e i) (fun q _ => e - q)
    (fun z => ∃ q, (i ≤ q ∧ q ≤ e) ∧ z.1 = .exit 2 ∧ z.2.1 = S.slices_partialInsertionSortCmpFunc_int__c4_O (.sl b 0 N c) (.int .i64 (a : Int)) (.int .i64 (e : Int)) (.fn f cs) (.int .i64 (q : Int)) (.int .i64 x) ∧ Sw h0 b N z.2.2 d ∧ q = scanSorted lt d e i) i rfl ⟨⟨Nat.le_refl _, hi⟩, A, rfl⟩ ?_ ?_
  rotate_left
  · rintro ⟨_, _, g⟩ ⟨q, ⟨hq1, hq⟩, rfl, rfl, A, hqe⟩
    exact out q hq1 hq hqe g A
  rintro q g ⟨⟨hq1, hq⟩, A, hd⟩
  rw [S.slices_partialInsertionSortCmpFunc_int__c4_eq]
  rw [scanSorted] at hd
  by_cases hqe : q < e
  · have hqN : q < N := Nat.lt_of_lt_of_le hqe he
    obtain ⟨m, rfl⟩ : ∃ m, q = m + 1 := ⟨q - 1, by omega⟩
    have hmN : m < N := Nat.lt_of_succ_lt hqN
    have i1 := sl_idx1 (b := b) (c := c) hqN
    have i2 := sl_idx1 (b := b) (c := c) hmN
    have l1 := A.ld hqN
    have l2 := A.ld hmN
    have k1 := sort_lt hqe
    obtain ⟨n, g1, ec, hn, A1, _⟩ := A.cmp K hqN hmN
    have n9 : m + 1 ≤ 9000 := Nat.le_trans (Nat.le_of_lt hqN) (Nat.le_trans hN (by decide))
    have w1 := sort_pred n9
    have w2 := sort_succ n9
    rw [Nat.add_sub_cancel] at hd
    cases hl : lt d[m + 1]! d[m]! with
    | false =>
      rw [if_pos (by rw [hl]; simpa using hqe)] at hd
      simp only [S.slices_partialInsertionSortCmpFunc_int__c4_S, k1, w1, i1, i2, obind, ld1_get', l1, l2, ec, asI_int, hn, hl, w2, Bool.not_false]
      exact Ev.some (.inl ⟨m + 1 + 1, rfl, rfl, ⟨⟨Nat.le_succ_of_le hq1, hqe⟩, A1, hd⟩, Nat.sub_lt_sub_left hqe (Nat.lt_succ_self _)⟩)
    | true =>
      rw [if_neg (by rw [hl]; simp)] at hd
      simp only [S.slices_partialInsertionSortCmpFunc_int__c4_S, k1, w1, i1, i2, obind, ld1_get', l1, l2, ec, asI_int, hn, hl, Bool.not_true]
      exact Ev.some (.inr ⟨by simp, m + 1, ⟨hq1, hq⟩, rfl, rfl, A1, hd⟩)
  · rw [if_neg (by simpa using fun z => absurd z hqe)] at hd
    simp only [S.slices_partialInsertionSortCmpFunc_int__c4_S, sort_nlt hqe]
    exact Ev.some (.inr ⟨by simp, q, ⟨hq1, hq⟩, rfl, rfl, A, hd⟩)

theorem piDown {R : Type} {kk : AX × List V × H → Option R} {Q : R → Prop} (A : Sw h0 b N h d) (K : Cmp h0 b N f cs lt) (hN : N ≤ 1000) {a e i j : Nat} {x : Int} (hj : j < N)
    (out : ∀ g, Sw h0 b N g (shiftDown lt j d) → Ev (kk (.exit 4, S.slices_partialInsertionSortCmpFunc_int__c6_O (.sl b 0 N c) (.int .i64 (a : Int)) (.int .i64 (e : Int)) (.fn f cs) (.int .i64 (i : Int)) (.int .i64 x), g)) Q) :
    Ev ((W.loop (S.slices_partialInsertionSortCmpFunc_int__c6_B W) (S.slices_partialInsertionSortCmpFunc_int__c6_E (.sl b 0 N c) (.int .i64 (a : Int)) (.int .i64 (e : Int)) (.fn f cs) (.int .i64 (i : Int)) (.int .i64 x) (.int .i64 (j : Int))) h).bind kk) Q := by
  refine loop_ev (α := Nat × Array Int) (fun q => S.slices_partialInsertionSortCmpFunc_int__c6_E (.sl b 0 N c) (.int .i64 (a : Int)) (.int .i64 (e : Int)) (.fn f cs) (.int .i64 (i : Int)) (.int .i64 x) (.int .i64 (q.1 : Int)))
    (fun q h => q.1 < N ∧ Sw h0 b N h q.2 ∧ shiftDown lt q.1 q.2 = shiftDown lt j d) (fun q _ => q.1)
    (fun z => z.1 = .exit 4 ∧ z.2.1 = S.slices_partialInsertionSortCmpFunc_int__c6_O (.sl b 0 N c) (.int .i64 (a : Int)) (.int .i64 (e : Int)) (.fn f cs) (.int .i64 (i : Int)) (.int .i64 x) ∧ Sw h0 b N z.2.2 (shiftDown lt j d)) (j, d) rfl ⟨hj, A, rfl⟩ ?_ ?_
  rotate_left
  · rintro ⟨_, _, g⟩ ⟨rfl, rfl, A⟩
    exact out g A
  generalize shiftDown lt j d = D
  clear out hj A
  rintro ⟨q, d1⟩ g ⟨hq, A, hd⟩
  dsimp only at hq A hd
  rw [S.slices_partialInsertionSortCmpFunc_int__c6_eq]
  cases q with
  | zero =>
    rw [shiftDown] at hd
    have k1 : decide (1 ≤ ((0 : Nat) : Int)) = false := rfl
    simp only [S.slices_partialInsertionSortCmpFunc_int__c6_S, k1]
    exact Ev.some (.inr ⟨by simp, rfl, rfl, hd ▸ A⟩)
  | succ m =>
    have hm : m < N := Nat.lt_of_succ_lt hq
    have k1 : decide (1 ≤ ((m + 1 : Nat) : Int)) = true := decide_eq_true (by omega)
    have w1 := sort_pred (i := m) (Nat.le_trans (Nat.le_of_lt hq) (Nat.le_trans hN (by decide)))
    have i1 := sl_idx1 (b := b) (c := c) hq
    have i2 := sl_idx1 (b := b) (c := c) hm
    have l1 := A.ld hq
    have l2 := A.ld hm
    obtain ⟨n, g1, ec, hn, A1, _⟩ := A.cmp K hq hm
    have l3 := A1.ld hq
    have l4 := A1.ld hm
    obtain ⟨g2, g3, s1, s2, A3, _⟩ := A1.swap hq hm
    rw [shiftDown] at hd
    cases hl : lt d1[m + 1]! d1[m]! with
    | true =>
      rw [if_neg (by rw [hl]; simp)] at hd
      simp only [S.slices_partialInsertionSortCmpFunc_int__c6_S, k1, w1, i1, i2, obind, ld1_get', l1, l2, ec, asI_int, hn, hl, Bool.not_true, l3, l4, s1, s2]
      exact Ev.some (.inl ⟨(m, _), rfl, rfl, ⟨hm, A3, hd⟩, Nat.lt_succ_self m⟩)
    | false =>
      rw [if_pos (by rw [hl]; rfl)] at hd
      simp only [S.slices_partialInsertionSortCmpFunc_int__c6_S, k1, w1, i1, i2, obind, ld1_get', l1, l2, ec, asI_int, hn, hl, Bool.not_false]
      exact Ev.some (.inr ⟨by simp, rfl, rfl, hd ▸ A1⟩)

theorem piUp {R : Type} {kk : AX × List V × H → Option R} {Q : R → Prop} (A : Sw h0 b N h d) (K : Cmp h0 b N f cs lt) (hN : N ≤ 1000) {a e i j : Nat} {x : Int} (hj1 : 1 ≤ j) (he : e ≤ N)
    (out : ∀ g, Sw h0 b N g (shiftUp lt e j d) → Ev (kk (.exit 6, S.slices_partialInsertionSortCmpFunc_int__c7_O (.sl b 0 N c) (.int .i64 (a : Int)) (.int .i64 (e : Int)) (.fn f cs) (.int .i64 (i : Int)) (.int .i64 x), g)) Q) :
    Ev ((W.loop (S.slices_partialInsertionSortCmpFunc_int__c7_B W) (S.slices_partialInsertionSortCmpFunc_int__c7_E (.sl b 0 N c) (.int .i64 (a : Int)) (.int .i64 (e : Int)) (.fn f cs) (.int .i64 (i : Int)) (.int .i64 x) (.int .i64 (j : Int))) h).bind kk) Q := by
  refine loop_ev (α := Nat × Array Int) (fun q => S.slices_partialInsertionSortCmpFunc_int__c7_E (.sl b 0 N c) (.int .i64 (a : Int)) (.int .i64 (e : Int)) (.fn f cs) (.int .i64 (i : Int)) (.int .i64 x) (.int .i64 (q.1 : Int)))
    (fun q h => 1 ≤ q.1 ∧ Sw h0 b N h q.2 ∧ shiftUp lt e q.1 q.2 = shiftUp lt e j d) (fun q _ => e - q.1)
    (fun z => z.1 = .exit 6 ∧ z.2.1 = S.slices_partialInsertionSortCmpFunc_int__c7_O (.sl b 0 N c) (.int .i64 (a : Int)) (.int .i64 (e : Int)) (.fn f cs) (.int .i64 (i : Int)) (.int .i64 x) ∧ Sw h0 b N z.2.2 (shiftUp lt e j d)) (j, d) rfl ⟨hj1, A, rfl⟩ ?_ ?_
  rotate_left
  · rintro ⟨_, _, g⟩ ⟨rfl, rfl, A⟩
    exact out g A
  generalize shiftUp lt e j d = D
  clear out hj1 A
  rintro ⟨q, d1⟩ g ⟨hq1, A, hd⟩
  dsimp only at hq1 A hd
  rw [S.slices_partialInsertionSortCmpFunc_int__c7_eq]
  rw [shiftUp] at hd
  by_cases hqe : q < e
  · have hq : q < N := Nat.lt_of_lt_of_le hqe he
    obtain ⟨m, rfl⟩ : ∃ m, q = m + 1 := ⟨q - 1, by omega⟩
    have hm : m < N := Nat.lt_of_succ_lt hq
    have k1 := sort_lt hqe
    have n9 : m + 1 ≤ 9000 := Nat.le_trans (Nat.le_of_lt hq) (Nat.le_trans hN (by decide))
    have w1 := sort_pred n9
    have w2 := sort_succ n9
    have i1 := sl_idx1 (b := b) (c := c) hq
    have i2 := sl_idx1 (b := b) (c := c) hm
    have l1 := A.ld hq
    have l2 := A.ld hm
    obtain ⟨n, g1, ec, hn, A1, _⟩ := A.cmp K hq hm
    have l3 := A1.ld hq
    have l4 := A1.ld hm
    obtain ⟨g2, g3, s1, s2, A3, _⟩ := A1.swap hq hm
    rw [if_pos hqe, Nat.add_sub_cancel] at hd
    cases hl : lt d1[m + 1]! d1[m]! with
    | true =>
      rw [if_neg (by rw [hl]; simp)] at hd
      simp only [S.slices_partialInsertionSortCmpFunc_int__c7_S, k1, w1, w2, i1, i2, obind, ld1_get', l1, l2, ec, asI_int, hn, hl, Bool.not_true, l3, l4, s1, s2]
      exact Ev.some (.inl ⟨(m + 1 + 1, _), rfl, rfl, ⟨Nat.le_succ_of_le hq1, A3, hd⟩, Nat.sub_lt_sub_left hqe (Nat.lt_succ_self _)⟩)
    | false =>
      rw [if_pos (by rw [hl]; rfl)] at hd
      simp only [S.slices_partialInsertionSortCmpFunc_int__c7_S, k1, w1, w2, i1, i2, obind, ld1_get', l1, l2, ec, asI_int, hn, hl, Bool.not_false]
      exact Ev.some (.inr ⟨by simp, rfl, rfl, hd ▸ A1⟩)
  · rw [if_neg hqe] at hd
    simp only [S.slices_partialInsertionSortCmpFunc_int__c7_S, sort_nlt hqe]
    exact Ev.some (.inr ⟨by simp, rfl, rfl, hd ▸ A⟩)

theorem piNext {k : Nat} (hk : k ≤ 9000) : wr .i64 ((k : Int) + 1) = ((k + 1 : Nat) : Int) := sort_succ hk
theorem piSteps {k : Nat} : decide ((k : Int) < 5) = decide (k < 5) := by rw [decide_eq_decide]; omega
theorem piTwo {i a : Nat} : decide (2 ≤ ((i - a : Nat) : Int)) = decide (i - a ≥ 2) := by rw [decide_eq_decide]; omega
theorem piFifty {i a : Nat} : decide (((i - a : Nat) : Int) < 50) = decide (i - a < 50) := by rw [decide_eq_decide]; omega
theorem piEq {i a : Nat} : decide ((i : Int) = (a : Int)) = decide (i = a) := by rw [decide_eq_decide]; omega

/-- What a round comes to. -/
def PiPost (h0 : H) (b N : Nat) (c : Cap) (f : Nat) (cs : List V) (lt : Int → Int → Bool) (a e s i k : Nat) (d : Array Int) (z : AX × List V × H) : Prop :=
  (z.1 = .ret ∧ z.2.1 = S.slices_partialInsertionSortCmpFunc_int__c1_O (.bool (partialIns lt a e (s + 1) i d).2) ∧ Sw h0 b N z.2.2 (partialIns lt a e (s + 1) i d).1) ∨
  (∃ i' d', (i ≤ i' ∧ i' ≤ e) ∧ z.1 = .normal ∧ z.2.1 = S.slices_partialInsertionSortCmpFunc_int__c1_E (.sl b 0 N c) (.int .i64 (a : Int)) (.int .i64 (e : Int)) (.fn f cs) (.int .i64 (i' : Int)) (.int .i64 ((k + 1 : Nat) : Int)) ∧ Sw h0 b N z.2.2 d' ∧ partialIns lt a e (s + 1) i d = partialIns lt a e s i' d')

theorem piUp_spec (A : Sw h0 b N h d) (K : Cmp h0 b N f cs lt) (hN : N ≤ 1000) {a e i k : Nat} (hk : k ≤ 100) (hie : i < e) (he : e ≤ N) {Q : AX × List V × H → Prop}
    (out : ∀ g, Sw h0 b N g (if e - i ≥ 2 then shiftUp lt e (i + 1) d else d) → Q (.normal, S.slices_partialInsertionSortCmpFunc_int__c1_E (.sl b 0 N c) (.int .i64 (a : Int)) (.int .i64 (e : Int)) (.fn f cs) (.int .i64 (i : Int)) (.int .i64 ((k + 1 : Nat) : Int)), g)) :
    Ev (S.slices_partialInsertionSortCmpFunc_int__c6_e4 W (.sl b 0 N c) (a : Int) (e : Int) (.fn f cs) (i : Int) (k : Int) h) Q := by
  have n9 : N ≤ 9000 := Nat.le_trans hN (by decide)
  have w1 := piNext (k := k) (Nat.le_trans hk (by decide))
  have w2 := sort_sub (i := e) (j := i) (Nat.le_of_lt hie) (Nat.le_trans he n9)
  have w3 := sort_succ (i := i) (Nat.le_trans (Nat.le_of_lt (Nat.lt_of_lt_of_le hie he)) n9)
  by_cases h2 : e - i ≥ 2
  · rw [if_pos h2] at out
    simp only [S.slices_partialInsertionSortCmpFunc_int__c6_e4, w2, w3, piTwo, decide_eq_true h2]
    refine piUp A K hN (Nat.succ_le_succ (Nat.zero_le _)) he ?_
    intro g A
    show Ev (S.slices_partialInsertionSortCmpFunc_int__K10 W (.exit 6) _ _) _
    rw [S.slices_partialInsertionSortCmpFunc_int__c7_e6_eq]
    simp only [S.slices_partialInsertionSortCmpFunc_int__c7_e6, w1]
    exact Ev.some (out g A)
  · rw [if_neg h2] at out
    simp only [S.slices_partialInsertionSortCmpFunc_int__c6_e4, w2, w1, piTwo, decide_eq_false h2]
    exact Ev.some (out h A)

theorem piRound_spec (A : Sw h0 b N h d) (K : Cmp h0 b N f cs lt) (hN : N ≤ 1000) {a e i k s : Nat} (hk : k < 5) (hai : a < i) (hie : i ≤ e) (he : e ≤ N) :
    Ev (S.slices_partialInsertionSortCmpFunc_int__c1_S W (.sl b 0 N c) (a : Int) (e : Int) (.fn f cs) (i : Int) (k : Int) h) (PiPost h0 b N c f cs lt a e s i k d) := by
  have n9 : N ≤ 9000 := Nat.le_trans hN (by decide)
  have hk1 : k ≤ 100 := Nat.le_trans (Nat.le_of_lt hk) (by decide)
  simp only [S.slices_partialInsertionSortCmpFunc_int__c1_S, piSteps, decide_eq_true hk]
  refine piScan A K hN (Nat.lt_of_le_of_lt (Nat.zero_le _) hai) hie he ?_
  intro p hp1 hp hpe g A
  show Ev (S.slices_partialInsertionSortCmpFunc_int__K7 W (.exit 2) _ _) _
  rw [S.slices_partialInsertionSortCmpFunc_int__c4_e2_eq]
  unfold PiPost
  rw [partialIns]
  dsimp only
  rw [← hpe]
  clear hpe
  by_cases hpe : p = e
  · rw [if_pos hpe]
    simp only [S.slices_partialInsertionSortCmpFunc_int__c4_e2, piEq, decide_eq_true hpe]
    exact Ev.some (.inl ⟨rfl, rfl, A⟩)
  rw [if_neg hpe]
  have hlt : p < e := Nat.lt_of_le_of_ne hp hpe
  have hap : a < p := Nat.lt_of_lt_of_le hai hp1
  have hpN : p < N := Nat.lt_of_lt_of_le hlt he
  have w0 := sort_sub (i := e) (j := a) (Nat.le_trans (Nat.le_of_lt hap) hp) (Nat.le_trans he n9)
  by_cases hf : e - a < 50
  · rw [if_pos hf]
    simp only [S.slices_partialInsertionSortCmpFunc_int__c4_e2, piEq, decide_eq_false hpe, w0, piFifty, decide_eq_true hf]
    exact Ev.some (.inl ⟨rfl, rfl, A⟩)
  rw [if_neg hf]
  obtain ⟨m, rfl⟩ : ∃ m, p = m + 1 := ⟨p - 1, by omega⟩
  have hmN : m < N := Nat.lt_of_succ_lt hpN
  have w1 := sort_pred (i := m) (Nat.le_trans (Nat.le_of_lt hpN) n9)
  have w2 := sort_sub (i := m + 1) (j := a) (Nat.le_of_lt hap) (Nat.le_trans (Nat.le_of_lt hpN) n9)
  have i1 := sl_idx1 (b := b) (c := c) hpN
  have i2 := sl_idx1 (b := b) (c := c) hmN
  have l1 := A.ld hpN
  have l2 := A.ld hmN
  obtain ⟨g1, g2, s1, s2, A2, _⟩ := A.swap hpN hmN
  rw [Nat.add_sub_cancel]
  clear A
  by_cases h2 : m + 1 - a ≥ 2
  · rw [if_pos h2]
    simp only [S.slices_partialInsertionSortCmpFunc_int__c4_e2, piEq, decide_eq_false hpe, w0, piFifty, decide_eq_false hf, w1, w2, i1, i2, obind, ld1_get', l1, l2, s1, s2, piTwo, decide_eq_true h2]
    refine piDown A2 K hN hmN ?_
    intro g A
    show Ev (S.slices_partialInsertionSortCmpFunc_int__K9 W (.exit 4) _ _) _
    rw [S.slices_partialInsertionSortCmpFunc_int__c6_e4_eq]
    exact piUp_spec A K hN hk1 hlt he fun g A => .inr ⟨m + 1, _, ⟨hp1, hp⟩, rfl, rfl, A, rfl⟩
  · rw [if_neg h2]
    simp only [S.slices_partialInsertionSortCmpFunc_int__c4_e2, piEq, decide_eq_false hpe, w0, piFifty, decide_eq_false hf, w1, w2, i1, i2, obind, ld1_get', l1, l2, s1, s2, piTwo, decide_eq_false h2]
    exact piUp_spec A2 K hN hk1 hlt he fun g A => .inr ⟨m + 1, _, ⟨hp1, hp⟩, rfl, rfl, A, rfl⟩

theorem partialInsertion_spec (A : Sw h0 b N h d) (K : Cmp h0 b N f cs lt) (hN : N ≤ 1000) {a e : Nat} (hae : a < e) (he : e ≤ N) :
    Ev (C 455 [.sl b 0 N c, .int .i64 (a : Int), .int .i64 (e : Int), .fn f cs] h) fun z => z.1 = .bool (Go.Sort.partialInsertionSort lt d a e).2 ∧ Sw h0 b N z.2 (Go.Sort.partialInsertionSort lt d a e).1 := by
  refine call_ev (af := F.slices_partialInsertionSortCmpFunc_int_) (by kernel_rfl) rfl ?_
  rw [S.slices_partialInsertionSortCmpFunc_int__eq]
  have n9 : N ≤ 9000 := Nat.le_trans hN (by decide)
  have w1 := sort_succ (i := a) (Nat.le_trans (Nat.le_of_lt (Nat.lt_of_lt_of_le hae he)) n9)
  simp only [S.slices_partialInsertionSortCmpFunc_int_, w1]
  unfold Go.Sort.partialInsertionSort
  refine loop_ev (α := Nat × Nat × Array Int) (fun q => S.slices_partialInsertionSortCmpFunc_int__c1_E (.sl b 0 N c) (.int .i64 (a : Int)) (.int .i64 (e : Int)) (.fn f cs) (.int .i64 (q.2.1 : Int)) (.int .i64 ((5 - q.1 : Nat) : Int)))
    (fun q h => q.1 ≤ 5 ∧ (a < q.2.1 ∧ q.2.1 ≤ e) ∧ Sw h0 b N h q.2.2 ∧ partialIns lt a e q.1 q.2.1 q.2.2 = partialIns lt a e 5 (a + 1) d) (fun q _ => q.1)
    (fun z => ((∃ v, z.1 = .exit 0 ∧ z.2.1 = S.slices_partialInsertionSortCmpFunc_int__c1_O v ∧ (partialIns lt a e 5 (a + 1) d).2 = false) ∨ z.1 = .ret ∧ z.2.1 = S.slices_partialInsertionSortCmpFunc_int__c1_O (.bool (partialIns lt a e 5 (a + 1) d).2)) ∧ Sw h0 b N z.2.2 (partialIns lt a e 5 (a + 1) d).1) (5, a + 1, d) rfl ⟨Nat.le_refl _, ⟨Nat.lt_succ_self a, hae⟩, A, rfl⟩ ?_ ?_
  rotate_left
  · generalize partialIns lt a e 5 (a + 1) d = D
    rintro ⟨_, _, g⟩ ⟨⟨v, rfl, rfl, hD⟩ | ⟨rfl, rfl⟩, A⟩
    · show Ev (S.slices_partialInsertionSortCmpFunc_int__K2 W (.exit 0) _ _) _
      rw [S.slices_partialInsertionSortCmpFunc_int__c1_e0_eq, hD]
      exact Ev.some ⟨rfl, A⟩
    · show Ev (S.slices_partialInsertionSortCmpFunc_int__K2 W .ret _ _) _
      rw [S.slices_partialInsertionSortCmpFunc_int__c1_r_eq]
      exact Ev.some ⟨rfl, A⟩
  generalize partialIns lt a e 5 (a + 1) d = D
  clear A
  rintro ⟨s, i, d1⟩ g ⟨hs, ⟨hi1, hi⟩, A, hd⟩
  dsimp only at hs hi1 hi A hd
  rw [S.slices_partialInsertionSortCmpFunc_int__c1_eq]
  cases s with
  | zero =>
    rw [partialIns] at hd
    subst hd
    simp only [S.slices_partialInsertionSortCmpFunc_int__c1_S, piSteps, Nat.sub_zero, Nat.lt_irrefl, decide_false]
    exact Ev.some (.inr ⟨by simp, .inl ⟨_, rfl, rfl, trivial⟩, A⟩)
  | succ s =>
    have hk : 5 - (s + 1) < 5 := by omega
    refine (piRound_spec (s := s) A K hN hk hi1 hi he).mono ?_
    rintro ⟨x1, e1, g1⟩ (⟨rfl, rfl, A1⟩ | ⟨i', d', ⟨hi1', hi'⟩, rfl, rfl, A1, hp⟩)
    · rw [hd] at A1 ⊢
      exact .inr ⟨by simp, .inr ⟨rfl, rfl⟩, A1⟩
    · rw [hp] at hd
      refine .inl ⟨(s, i', d'), rfl, ?_, ⟨Nat.le_of_succ_le hs, ⟨Nat.lt_of_lt_of_le hi1 hi1', hi'⟩, A1, hd⟩, Nat.lt_succ_self s⟩
      show S.slices_partialInsertionSortCmpFunc_int__c1_E _ _ _ _ _ _ = S.slices_partialInsertionSortCmpFunc_int__c1_E _ _ _ _ _ _
      rw [show 5 - (s + 1) + 1 = 5 - s from by omega]
end
end Wm
end

section
/- breakPatterns: some elements change places. -/
namespace Wm
attribute [local congr] bind_congr1
attribute [local irreducible] wr
open Go.Sort (swp bitsLen PermIn)

theorem call_closed_runB {prog : Nat → Option AFunc} {meth : Nat → Nat → Option Nat} {r n f : Nat} {af : AFunc} (hf : prog f = some af) (hc : af.closed = true) {args : List V} {v : V} (ha : V.flats args = true) (hr : run prog meth r n f args .empty = some (v, .empty)) (h : H) : callW prog meth f args h = some (v, h) := by
  cases n with
  | zero => simp [run] at hr
  | succ n =>
    refine callW_run (r := r) (n := n + 1) ?_
    simp only [run, hf] at hr ⊢
    unfold callF at hr ⊢
    simp only [hc, ha] at hr ⊢
    simp only [Option.bind_eq_some_iff] at hr ⊢
    obtain ⟨p, hp, hr⟩ := hr
    refine ⟨p, hp, ?_⟩
    split at hr
    · cases hr; rfl
    · cases hr

set_option maxRecDepth 100000 in
theorem pows_run : (List.range 65).map (fun n : Nat => runF prog meth 20 6 488 [.int .i64 (n : Int)] .empty) = (List.range 65).map fun n : Nat => some (.int .u64 ((2 ^ bitsLen n : Nat) : Int), .empty) := by kernel_rfl

theorem pow2_spec {n : Nat} (hn : n < 65) (h : H) : C 488 [.int .i64 (n : Int)] h = some (.int .u64 ((2 ^ bitsLen n : Nat) : Int), h) := by
  refine call_closed_runB (r := 20) (n := 6) (af := F.slices_nextPowerOfTwo) (by kernel_rfl) rfl (by rfl) ?_ h
  rw [← runF_eq]
  exact (List.map_inj_left.mp pows_run) n (List.mem_range.mpr hn)

set_option maxRecDepth 100000 in
theorem lens_run : (List.range 65).map (fun n : Nat => runF prog meth 20 5 406 [.int .u64 (n : Int)] .empty) = (List.range 65).map fun n : Nat => some (.int .i64 (bitsLen n : Int), .empty) := by kernel_rfl

theorem len_eq {n : Nat} (hn : n < 65) (h : H) : C 406 [.int .u64 (n : Int)] h = some (.int .i64 (bitsLen n : Int), h) := by
  refine call_closed_runB (r := 20) (n := 5) (af := F.math_bits_Len) (by kernel_rfl) rfl (by rfl) ?_ h
  rw [← runF_eq]
  exact (List.map_inj_left.mp lens_run) n (List.mem_range.mpr hn)

theorem and64_le (x : Int) {m : Nat} (hm : m < 2 ^ 64) : ∃ o : Nat, and64 x (m : Int) = (o : Int) ∧ o ≤ m := by
  refine ⟨_, rfl, ?_⟩
  rw [BitVec.toNat_and]
  refine Nat.le_trans Nat.and_le_right ?_
  rw [BitVec.toNat_ofInt]
  omega

section
variable {h0 h : H} {b N f : Nat} {cs : List V} {lt : Int → Int → Bool} {d : Array Int} {c : Cap}

theorem xor_spec {q : Nat} {r : Int} (ok : h.ok) (hq : h.get q = some (.cells [.int .u64 r] .rw)) :
    Ev (C 489 [.ptr q 0] h) fun z => ∃ r', z.1 = .int .u64 r' ∧ z.2 = h.put q (some (.cells [.int .u64 r'] .rw)) := by
  refine call_ev (af := F.slices_xorshift_Next) (by kernel_rfl) rfl ?_
  rw [S.slices_xorshift_Next_eq]
  have ld : ∀ {g : H} {x : Int}, g.get q = some (.cells [.int .u64 x] .rw) → ldB (g.get q) 0 = some (.int .u64 x) := fun e => by rw [e]; rfl
  have l1 := ld hq
  have st : ∀ {g : H} {x : Int} (y : Int), g.get q = some (.cells [.int .u64 x] .rw) → g.st 1 (.ptr q 0) (.int .u64 y) = some (g.put q (some (.cells [.int .u64 y] .rw))) := fun y e => st1_get (o := 0) e (by simp) (one_int _ _) (by simp)
  simp only [S.slices_xorshift_Next, nilc_ptr, obind, ld1_get', l1, asI_int]
  generalize wr .u64 _ = x1
  generalize xor64 _ x1 = y1
  have s1 := st y1 hq
  have g1 : (h.put q (some (.cells [.int .u64 y1] .rw))).get q = some (.cells [.int .u64 y1] .rw) := get_put_self _ _ _
  have l2 := ld g1
  simp only [s1, obind, l2, asI_int]
  generalize y1 / _ = x2
  generalize xor64 _ x2 = y2
  have s2 := st y2 g1
  rw [put_put'] at s2
  have g2 : (h.put q (some (.cells [.int .u64 y2] .rw))).get q = some (.cells [.int .u64 y2] .rw) := get_put_self _ _ _
  have l3 := ld g2
  simp only [s2, obind, l3, asI_int]
  generalize wr .u64 _ = x3
  generalize xor64 _ x3 = y3
  have s3 := st y3 g2
  rw [put_put'] at s3
  have g3 : (h.put q (some (.cells [.int .u64 y3] .rw))).get q = some (.cells [.int .u64 y3] .rw) := get_put_self _ _ _
  have l4 := ld g3
  simp only [s3, obind, l4]
  exact Ev.some ⟨y3, rfl, rfl⟩

theorem brk_nums {a e N : Nat} (he : e ≤ N) (hN : N ≤ 64) (h8 : 8 ≤ e - a) : a + (e - a) / 4 * 2 - 1 + 3 ≤ e ∧ a ≤ a + (e - a) / 4 * 2 - 1 ∧ a + (e - a) / 4 * 2 - 1 + 2 = a + (e - a) / 4 * 2 + 1 ∧ a ≤ e ∧ e - a < 65 ∧ e - a ≤ 64 ∧ (e - a) / 4 ≤ 64 ∧ a + (e - a) / 4 * 2 ≤ 200 ∧ 1 ≤ a + (e - a) / 4 * 2 ∧ a + (e - a) / 4 * 2 ≤ 9000 ∧ 0 < e - a ∧ a + (e - a) / 4 * 2 - 1 ≤ e := by omega
theorem brk_nums2 {a e N P o i : Nat} (he : e ≤ N) (hN : N ≤ 64) (h8 : 8 ≤ e - a) (b1 : 1 ≤ P) (b2 : P ≤ 2 * (e - a)) (ho : o ≤ P - 1) : o < 2 * (e - a) ∧ o ≤ 200 ∧ o ≤ 9000 ∧ (e - a ≤ o → o - (e - a) < e - a) ∧ (¬ e - a ≤ o → o < e - a) := by omega
theorem brk_nums3 {a e N o : Nat} (he : e ≤ N) (hN : N ≤ 64) (ho : o < e - a) : a + o < N ∧ a + o ≤ 9000 ∧ a + o < e := by omega
theorem brk_nums4 {a e i : Nat} (h8 : 8 ≤ e - a) (hl : i ≤ a + (e - a) / 4 * 2 + 1) : i < e := by omega
theorem brk_pow {e a P : Nat} (h : e - a ≤ 64) (b2 : P ≤ 2 * (e - a)) : P ≤ 200 ∧ P - 1 < 2 ^ 64 := by omega
theorem brk_eight {n : Nat} : decide (8 ≤ (n : Int)) = decide (8 ≤ n) := by rw [decide_eq_decide]; omega
theorem brk_tdiv {n : Nat} (hn : n ≤ 64) : wr .i64 (Int.tdiv (n : Int) 4) = ((n / 4 : Nat) : Int) := by
  have : Int.tdiv (n : Int) 4 = ((n / 4 : Nat) : Int) := rfl
  rw [this, wr64 (by omega) (by omega)]
theorem brk_mul {n : Nat} (hn : n ≤ 64) : wr .i64 ((n : Int) * 2) = ((n * 2 : Nat) : Int) := by
  rw [wr64 (by omega) (by omega)]; omega
theorem brk_u64 {n : Nat} (hn : n ≤ 64) : wr .u64 (n : Int) = (n : Int) := wru64 (by omega) (by omega)
theorem brk_pred {n : Nat} (h1 : 1 ≤ n) (hn : n ≤ 200) : wr .u64 ((n : Int) - 1) = ((n - 1 : Nat) : Int) := by rw [wru64 (by omega) (by omega)]; omega
theorem brk_i64 {n : Nat} (hn : n ≤ 200) : wr .i64 (n : Int) = (n : Int) := wr64 (by omega) (by omega)
theorem brk_pred' {n : Nat} (h1 : 1 ≤ n) (hn : n ≤ 200) : wr .i64 ((n : Int) - 1) = ((n - 1 : Nat) : Int) := by rw [wr64 (by omega) (by omega)]; omega

theorem break_spec (A : Sw h0 b N h d) (hN : N ≤ 64) {a e : Nat} (hae : a ≤ e) (he : e ≤ N) (x3 : V) :
    Ev (C 452 [.sl b 0 N c, .int .i64 (a : Int), .int .i64 (e : Int), x3] h) fun z => ∃ d', z.1 = .tup [] ∧ PermIn a e d d' ∧ Sw h0 b N z.2 d' := by
  refine call_ev (af := F.slices_breakPatternsCmpFunc_int_) (by kernel_rfl) rfl ?_
  rw [S.slices_breakPatternsCmpFunc_int__eq]
  have n9 : e ≤ 9000 := Nat.le_trans he (Nat.le_trans hN (by decide))
  by_cases h8 : 8 ≤ e - a
  rotate_left
  · have w0 := sort_sub (i := e) (j := a) hae n9
    have k0 : decide (8 ≤ ((e - a : Nat) : Int)) = false := brk_eight.trans (decide_eq_false h8)
    obtain ⟨nI, hnI⟩ : ∃ x : Int, x = ((e - a : Nat) : Int) := ⟨_, rfl⟩
    obtain ⟨aI, haI⟩ : ∃ x : Int, x = (a : Int) := ⟨_, rfl⟩
    obtain ⟨eI, heI⟩ : ∃ x : Int, x = (e : Int) := ⟨_, rfl⟩
    rw [← haI, ← heI]
    rw [← haI, ← heI, ← hnI] at w0
    rw [← hnI] at k0
    simp only [S.slices_breakPatternsCmpFunc_int_, w0, k0]
    exact Ev.some ⟨d, rfl, Go.Sort.permIn_refl _ _ _, A⟩
  obtain ⟨m1, m2, m3, m4, hn, hn', m5, m6, m7, m8, m9, m10⟩ := brk_nums he hN h8
  have w0 := sort_sub (i := e) (j := a) hae n9
  have k0 : decide (8 ≤ ((e - a : Nat) : Int)) = true := brk_eight.trans (decide_eq_true h8)
  have wu := brk_u64 hn'
  have wd := brk_tdiv hn'
  have wm := brk_mul (n := (e - a) / 4) m5
  have wa := sort_add (i := a) (j := (e - a) / 4 * 2) m8
  have wp := brk_pred' (n := a + (e - a) / 4 * 2) m7 m6
  have ws := sort_succ (i := a + (e - a) / 4 * 2) m8
  obtain ⟨q, hq⟩ : ∃ q, q = h.next := ⟨_, rfl⟩
  have hq0 : h0.next ≤ q := hq ▸ A.fr.le
  have hqb : q ≠ b := by rw [hq]; exact fun z => absurd (A.ok.lt A.at_) (by rw [z]; exact Nat.lt_irrefl _)
  have g0 : (h.new (.cells [.int .u64 0] .rw)).get q = some (.cells [.int .u64 0] .rw) := hq ▸ get_new_self _ _
  have A0 : Sw h0 b N (h.new (.cells [.int .u64 0] .rw)) d := A.fr0 ((Fr.refl A.ok).new _)
  have s0 : (h.new (.cells [.int .u64 0] .rw)).st 1 (.ptr q 0) (.int .u64 ((e - a : Nat) : Int)) = some ((h.new (.cells [.int .u64 0] .rw)).put q (some (.cells [.int .u64 ((e - a : Nat) : Int)] .rw))) := st1_get (o := 0) g0 (by simp) (one_int _ _) (by simp)
  have A1 : Sw h0 b N ((h.new (.cells [.int .u64 0] .rw)).put q (some (.cells [.int .u64 ((e - a : Nat) : Int)] .rw))) d := A0.fr' ((Fr.refl A0.ok).put (.inl (by simp)) (A0.ok.lt g0) _) hq0 hqb
  have g1 := get_put_self (h.new (.cells [.int .u64 0] .rw)) q (some (.cells [.int .u64 ((e - a : Nat) : Int)] .rw))
  have p2 := pow2_spec hn ((h.new (.cells [.int .u64 0] .rw)).put q (some (.cells [.int .u64 ((e - a : Nat) : Int)] .rw)))
  have b1 : 1 ≤ 2 ^ bitsLen (e - a) := Nat.one_le_two_pow
  have b2 : 2 ^ bitsLen (e - a) ≤ 2 * (e - a) := Go.Sort.two_pow_bitsLen_le m9
  obtain ⟨nI, hnI⟩ : ∃ x : Int, x = ((e - a : Nat) : Int) := ⟨_, rfl⟩
  obtain ⟨aI, haI⟩ : ∃ x : Int, x = (a : Int) := ⟨_, rfl⟩
  obtain ⟨eI, heI⟩ : ∃ x : Int, x = (e : Int) := ⟨_, rfl⟩
  obtain ⟨q4, hq4⟩ : ∃ x : Int, x = (((e - a) / 4 : Nat) : Int) := ⟨_, rfl⟩
  obtain ⟨q5, hq5⟩ : ∃ x : Int, x = (((e - a) / 4 * 2 : Nat) : Int) := ⟨_, rfl⟩
  obtain ⟨q6, hq6⟩ : ∃ x : Int, x = ((a + (e - a) / 4 * 2 : Nat) : Int) := ⟨_, rfl⟩
  rw [← haI, ← heI]
  rw [← haI, ← heI, ← hnI] at w0
  rw [← hnI] at k0 wu wd s0 p2 A1 g1
  rw [← hq4] at wd wm
  rw [← hq5] at wm
  rw [← haI, ← hq5, ← hq6] at wa
  rw [← hq6] at wp ws
  simp only [S.slices_breakPatternsCmpFunc_int_, w0, k0, ← hq, wu, s0, obind, W_call, p2, wd, wm, wa, wp]
  subst haI heI hnI hq4 hq5 hq6
  generalize 2 ^ bitsLen (e - a) = P at b1 b2
  generalize (h.new (.cells [.int .u64 0] .rw)).put q (some (.cells [.int .u64 ((e - a : Nat) : Int)] .rw)) = g at A1 g1
  clear p2 s0 g0 A0
  refine loop_ev (α := Nat × Array Int) (fun z => S.slices_breakPatternsCmpFunc_int__c0_E (.sl b 0 N c) (.int .i64 (a : Int)) (.int .i64 ((e - a : Nat) : Int)) (.ptr q 0) (.int .u64 (P : Int)) (.int .i64 (z.1 : Int)))
    (fun z g => (a ≤ z.1 ∧ z.1 ≤ e) ∧ (∃ r, g.get q = some (.cells [.int .u64 r] .rw)) ∧ Sw h0 b N g z.2 ∧ PermIn a e d z.2) (fun z _ => e - z.1)
    (fun z => z.1 = .exit 0 ∧ z.2.1 = S.slices_breakPatternsCmpFunc_int__c0_O ∧ ∃ d', PermIn a e d d' ∧ Sw h0 b N z.2.2 d') (a + (e - a) / 4 * 2 - 1, d) rfl ⟨⟨m2, m10⟩, ⟨_, g1⟩, A1, Go.Sort.permIn_refl _ _ _⟩ ?_ ?_
  rotate_left
  · rintro ⟨_, _, g⟩ ⟨rfl, rfl, d', hp, A⟩
    show Ev (S.slices_breakPatternsCmpFunc_int__K1 W (.exit 0) _ _) _
    rw [S.slices_breakPatternsCmpFunc_int__c0_e0_eq]
    exact Ev.some ⟨d', rfl, hp, A⟩
  clear A A1 g1 g
  rintro ⟨i, d1⟩ g ⟨⟨hi1, hi⟩, ⟨r, gq⟩, A, hp⟩
  dsimp only at hi1 hi A hp
  rw [S.slices_breakPatternsCmpFunc_int__c0_eq]
  simp only [S.slices_breakPatternsCmpFunc_int__c0_S]
  rw [S.slices_breakPatternsCmpFunc_int__c3_eq]
  by_cases hlast : i ≤ a + (e - a) / 4 * 2 + 1
  rotate_left
  · simp only [S.slices_breakPatternsCmpFunc_int__c3_S, wd, wm, wa, ws, sort_nle hlast, obind]
    show Ev (S.slices_breakPatternsCmpFunc_int__K4 W .normal _ _) _
    rw [S.slices_breakPatternsCmpFunc_int__c3_n_eq]
    simp only [S.slices_breakPatternsCmpFunc_int__c3_n]
    exact Ev.some (.inr ⟨by simp, rfl, rfl, d1, hp, A⟩)
  have hie : i < e := brk_nums4 h8 hlast
  obtain ⟨P1, P2⟩ := brk_pow hn' b2
  obtain ⟨⟨v1, g1⟩, e1, r', rfl, rfl⟩ := xor_spec A.ok gq
  obtain ⟨o, eo, ho⟩ := and64_le r' (m := P - 1) P2
  obtain ⟨o1, o2, o3, o4, o5⟩ := brk_nums2 (i := i) he hN h8 b1 b2 ho
  have wP := brk_pred b1 P1
  have wo := brk_i64 (n := o) o2
  simp only [S.slices_breakPatternsCmpFunc_int__c3_S, wd, wm, wa, ws, sort_le hlast, obind]
  show Ev (S.slices_breakPatternsCmpFunc_int__K4 W .normal _ _) _
  rw [S.slices_breakPatternsCmpFunc_int__c3_n_eq]
  simp only [S.slices_breakPatternsCmpFunc_int__c3_n]
  rw [S.slices_breakPatternsCmpFunc_int__c6_eq]
  simp only [S.slices_breakPatternsCmpFunc_int__c6_S, W_call, e1, obind, asI_int, wP, eo, wo]
  show Ev (S.slices_breakPatternsCmpFunc_int__K7 W .normal _ _) _
  rw [S.slices_breakPatternsCmpFunc_int__c6_n_eq]
  simp only [S.slices_breakPatternsCmpFunc_int__c6_n]
  have A1 : Sw h0 b N (g.put q (some (.cells [.int .u64 r'] .rw))) d1 := A.fr' ((Fr.refl A.ok).put (.inl (by simp)) (A.ok.lt gq) _) hq0 hqb
  have g1 := get_put_self g q (some (.cells [.int .u64 r'] .rw))
  generalize g.put q (some (.cells [.int .u64 r'] .rw)) = g2 at A1 g1
  have key : ∀ o2 : Nat, o2 < e - a → Ev (S.slices_breakPatternsCmpFunc_int__c8_n W (.sl b 0 N c) (a : Int) ((e - a : Nat) : Int) (.ptr q 0) (P : Int) (i : Int) (o2 : Int) g2) fun r => (∃ a' : Nat × Array Int, r.1 = .normal ∧ r.2.1 = S.slices_breakPatternsCmpFunc_int__c0_E (.sl b 0 N c) (.int .i64 (a : Int)) (.int .i64 ((e - a : Nat) : Int)) (.ptr q 0) (.int .u64 (P : Int)) (.int .i64 (a'.1 : Int)) ∧ ((a ≤ a'.1 ∧ a'.1 ≤ e) ∧ (∃ r', r.2.2.get q = some (.cells [.int .u64 r'] .rw)) ∧ Sw h0 b N r.2.2 a'.2 ∧ PermIn a e d a'.2) ∧ e - a'.1 < e - i) ∨ (r.1 ≠ .normal ∧ (r.1 = .exit 0 ∧ r.2.1 = S.slices_breakPatternsCmpFunc_int__c0_O ∧ ∃ d', PermIn a e d d' ∧ Sw h0 b N r.2.2 d')) := by
    intro o2 ho2
    obtain ⟨hx, hx9, hxe⟩ := brk_nums3 he hN ho2
    have hiN : i < N := Nat.lt_of_lt_of_le hie he
    have w3 := sort_add (i := a) (j := o2) hx9
    have w4 := sort_succ (i := i) (Nat.le_trans hi n9)
    have i1 := sl_idx1 (b := b) (c := c) hx
    have i2 := sl_idx1 (b := b) (c := c) hiN
    have l1 := A1.ld hx
    have l2 := A1.ld hiN
    obtain ⟨h5, h6, s1, s2, A2, F2⟩ := A1.swap hiN hx
    have g3 := F2.get A1.ok g1 (by simpa using hqb)
    simp only [S.slices_breakPatternsCmpFunc_int__c8_n, w3, w4, i1, i2, obind, ld1_get', l1, l2, s1, s2]
    exact Ev.some (.inl ⟨(i + 1, _), rfl, rfl, ⟨⟨Nat.le_succ_of_le hi1, hie⟩, ⟨_, g3⟩, A2, Go.Sort.permIn_trans _ _ _ a e hp (Go.Sort.swp_permIn _ a e _ _ hi1 hie (Nat.le_add_right _ _) hxe (by rw [A1.sz]; exact he))⟩, Nat.sub_lt_sub_left hie (Nat.lt_succ_self i)⟩)
  rw [S.slices_breakPatternsCmpFunc_int__c8_eq]
  by_cases hb : e - a ≤ o
  · have w5 := sort_sub (i := o) (j := e - a) hb o3
    simp only [S.slices_breakPatternsCmpFunc_int__c8_S, sort_le hb, w5, obind]
    show Ev (S.slices_breakPatternsCmpFunc_int__K8 W .normal _ _) _
    rw [S.slices_breakPatternsCmpFunc_int__c8_n_eq]
    exact key _ (o4 hb)
  · simp only [S.slices_breakPatternsCmpFunc_int__c8_S, sort_nle hb, obind]
    show Ev (S.slices_breakPatternsCmpFunc_int__K8 W .normal _ _) _
    rw [S.slices_breakPatternsCmpFunc_int__c8_n_eq]
    exact key _ (o5 hb)
end
end Wm
end

section
/- A range reversed; the pivot. -/
namespace Wm
attribute [local congr] bind_congr1
attribute [local irreducible] wr
open Go.Sort (swp reverseLoop order2 median medianAdjacent)

section
variable {h0 h : H} {b N f : Nat} {cs : List V} {lt : Int → Int → Bool} {d : Array Int} {c : Cap}

theorem reverse_spec (A : Sw h0 b N h d) (hN : N ≤ 1000) {a e : Nat} (hae : a < e) (he : e ≤ N) (x3 : V) :
    Ev (C 454 [.sl b 0 N c, .int .i64 (a : Int), .int .i64 (e : Int), x3] h) fun z => z.1 = .tup [] ∧ Sw h0 b N z.2 (Go.Sort.reverseRange d a e) := by
  refine call_ev (af := F.slices_reverseRangeCmpFunc_int_) (by kernel_rfl) rfl ?_
  rw [S.slices_reverseRangeCmpFunc_int__eq]
  obtain ⟨m, rfl⟩ : ∃ m, e = m + 1 := ⟨e - 1, by omega⟩
  simp only [S.slices_reverseRangeCmpFunc_int_, sort_pred (i := m) (Nat.le_trans he (Nat.le_trans hN (by decide)))]
  unfold Go.Sort.reverseRange
  rw [Nat.add_sub_cancel]
  refine loop_ev (α := Nat × Nat × Array Int) (fun q => S.slices_reverseRangeCmpFunc_int__c0_E (.sl b 0 N c) (.int .i64 (q.1 : Int)) (.int .i64 (q.2.1 : Int)))
    (fun q h => q.2.1 < N ∧ Sw h0 b N h q.2.2 ∧ reverseLoop q.1 q.2.1 q.2.2 = reverseLoop a m d) (fun q _ => q.2.1)
    (fun z => z.1 = .exit 0 ∧ z.2.1 = S.slices_reverseRangeCmpFunc_int__c0_O ∧ Sw h0 b N z.2.2 (reverseLoop a m d)) (a, m, d) rfl ⟨he, A, rfl⟩ ?_ ?_
  rotate_left
  · rintro ⟨_, _, g⟩ ⟨rfl, rfl, A⟩
    show Ev (S.slices_reverseRangeCmpFunc_int__K1 W (.exit 0) _ _) _
    rw [S.slices_reverseRangeCmpFunc_int__c0_e0_eq]
    exact Ev.some ⟨rfl, A⟩
  rintro ⟨i, j, d1⟩ g ⟨hj, A, hd⟩
  dsimp only at hj A hd
  rw [S.slices_reverseRangeCmpFunc_int__c0_eq]
  rw [reverseLoop] at hd
  by_cases hij : i < j
  · rw [if_pos hij] at hd
    obtain ⟨k, rfl⟩ : ∃ k, j = k + 1 := ⟨j - 1, by omega⟩
    rw [Nat.add_sub_cancel] at hd
    have hi : i < N := Nat.lt_trans hij hj
    have k9 : k + 1 ≤ 9000 := Nat.le_trans (Nat.le_of_lt hj) (Nat.le_trans hN (by decide))
    have k1 := sort_lt hij
    have w1 := sort_succ (i := i) (Nat.le_trans (Nat.le_of_lt hij) k9)
    have w2 := sort_pred k9
    have i1 := sl_idx1 (b := b) (c := c) hi
    have i2 := sl_idx1 (b := b) (c := c) hj
    have l1 := A.ld hi
    have l2 := A.ld hj
    obtain ⟨g1, g2, s1, s2, A2, _⟩ := A.swap hi hj
    simp only [S.slices_reverseRangeCmpFunc_int__c0_S, k1, w1, w2, i1, i2, obind, ld1_get', l1, l2, s1, s2]
    exact Ev.some (.inl ⟨(i + 1, k, _), rfl, rfl, ⟨Nat.lt_of_succ_lt hj, A2, hd⟩, Nat.lt_succ_self k⟩)
  · rw [if_neg hij] at hd
    simp only [S.slices_reverseRangeCmpFunc_int__c0_S, sort_nlt hij]
    exact Ev.some (.inr ⟨by simp, rfl, rfl, hd ▸ A⟩)

/-- A counter in a block of its own. -/
structure Ct (h0 : H) (b q s : Nat) (h : H) : Prop where
  at_ : h.get q = some (.cells [.int .i64 (s : Int)] .rw)
  new : h0.next ≤ q
  ne : q ≠ b

theorem order2_spec (A : Sw h0 b N h d) (K : Cmp h0 b N f cs lt) {q s : Nat} (T : Ct h0 b q s h) (hs : s ≤ 100) {i j : Nat} (hi : i < N) (hj : j < N) :
    Ev (C 512 [.sl b 0 N c, .int .i64 (i : Int), .int .i64 (j : Int), .ptr q 0, .fn f cs] h) fun z => z.1 = .tup [.int .i64 ((order2 lt d i j s).1 : Int), .int .i64 ((order2 lt d i j s).2.1 : Int)] ∧ Sw h0 b N z.2 d ∧ Ct h0 b q (order2 lt d i j s).2.2 z.2 := by
  refine call_ev (af := F.slices_order2CmpFunc_int_) (by kernel_rfl) rfl ?_
  rw [S.slices_order2CmpFunc_int__eq]
  have i1 := sl_idx1 (b := b) (c := c) hi
  have i2 := sl_idx1 (b := b) (c := c) hj
  have l1 := A.ld hi
  have l2 := A.ld hj
  obtain ⟨n, g1, ec, hn, A1, F1⟩ := A.cmp K hj hi
  have hq1 := F1.get A.ok T.at_ (by simp)
  unfold order2
  cases hl : lt d[j]! d[i]! with
  | false =>
    simp only [S.slices_order2CmpFunc_int_, i1, i2, obind, ld1_get', l1, l2, ec, asI_int, hn, hl]
    exact Ev.some ⟨rfl, A1, hq1, T.new, T.ne⟩
  | true =>
    have lq : ldB (g1.get q) 0 = some (.int .i64 (s : Int)) := by rw [hq1]; rfl
    have w1 := sort_succ (i := s) (Nat.le_trans hs (by decide))
    have sq := st1_get (o := 0) (v := .int .i64 ((s + 1 : Nat) : Int)) hq1 (by simp) (one_int _ _) (by simp)
    have F2 : Fr [q] g1 (g1.put q (some (.cells [.int .i64 ((s + 1 : Nat) : Int)] .rw))) := (Fr.refl A1.ok).put (.inl (by simp)) (A1.ok.lt hq1) _
    have sq' : g1.st 1 (.ptr q 0) (.int .i64 ((s + 1 : Nat) : Int)) = some (g1.put q (some (.cells [.int .i64 ((s + 1 : Nat) : Int)] .rw))) := sq
    simp only [S.slices_order2CmpFunc_int_, i1, i2, obind, ld1_get', l1, l2, ec, asI_int, hn, hl, nilc_ptr, lq, w1, sq']
    exact Ev.some ⟨rfl, A1.fr' F2 T.new T.ne, get_put_self _ _ _, T.new, T.ne⟩

theorem order2_in (lt : Int → Int → Bool) (d : Array Int) {i j s N : Nat} (hi : i < N) (hj : j < N) : (order2 lt d i j s).1 < N ∧ (order2 lt d i j s).2.1 < N ∧ (order2 lt d i j s).2.2 ≤ s + 1 := by
  unfold order2
  split
  · exact ⟨hj, hi, Nat.le_refl _⟩
  · exact ⟨hi, hj, Nat.le_succ _⟩

theorem median_spec (A : Sw h0 b N h d) (K : Cmp h0 b N f cs lt) {q s : Nat} (T : Ct h0 b q s h) (hs : s ≤ 90) {i j k : Nat} (hi : i < N) (hj : j < N) (hk : k < N) :
    Ev (C 491 [.sl b 0 N c, .int .i64 (i : Int), .int .i64 (j : Int), .int .i64 (k : Int), .ptr q 0, .fn f cs] h) fun z => z.1 = .int .i64 ((median lt d i j k s).1 : Int) ∧ Sw h0 b N z.2 d ∧ Ct h0 b q (median lt d i j k s).2 z.2 := by
  refine call_ev (af := F.slices_medianCmpFunc_int_) (by kernel_rfl) rfl ?_
  rw [S.slices_medianCmpFunc_int__eq]
  unfold median
  dsimp only
  obtain ⟨⟨v1, g1⟩, e1, rfl, A1, T1⟩ := order2_spec (c := c) A K T (Nat.le_trans hs (by decide)) hi hj
  dsimp only at A1 T1
  obtain ⟨p1, p2, p3⟩ := order2_in lt d (s := s) hi hj
  generalize order2 lt d i j s = r1 at e1 T1 p1 p2 p3 ⊢
  have s1 : r1.2.2 ≤ 91 := Nat.le_trans p3 (Nat.succ_le_succ hs)
  obtain ⟨⟨v2, g2⟩, e2, rfl, A2, T2⟩ := order2_spec (c := c) A1 K T1 (Nat.le_trans s1 (by decide)) p2 hk
  dsimp only at A2 T2
  obtain ⟨q1, q2, q3⟩ := order2_in lt d (s := r1.2.2) p2 hk
  generalize order2 lt d r1.2.1 k r1.2.2 = r2 at e2 T2 q1 q2 q3 ⊢
  have s2 : r2.2.2 ≤ 92 := Nat.le_trans q3 (Nat.succ_le_succ s1)
  obtain ⟨⟨v3, g3⟩, e3, rfl, A3, T3⟩ := order2_spec (c := c) A2 K T2 (Nat.le_trans s2 (by decide)) p1 q1
  dsimp only at A3 T3
  simp only [S.slices_medianCmpFunc_int_, obind, W_call, e1, List.getElem?_cons_zero, List.getElem?_cons_succ, e2, e3]
  exact Ev.some ⟨rfl, A3, T3⟩

theorem medianAdjacent_spec (A : Sw h0 b N h d) (K : Cmp h0 b N f cs lt) (hN : N ≤ 1000) {q s : Nat} (T : Ct h0 b q s h) (hs : s ≤ 90) {i : Nat} (hi : 1 ≤ i) (hi' : i + 1 < N) :
    Ev (C 490 [.sl b 0 N c, .int .i64 (i : Int), .ptr q 0, .fn f cs] h) fun z => z.1 = .int .i64 ((medianAdjacent lt d i s).1 : Int) ∧ Sw h0 b N z.2 d ∧ Ct h0 b q (medianAdjacent lt d i s).2 z.2 := by
  refine call_ev (af := F.slices_medianAdjacentCmpFunc_int_) (by kernel_rfl) rfl ?_
  rw [S.slices_medianAdjacentCmpFunc_int__eq]
  obtain ⟨m, rfl⟩ : ∃ m, i = m + 1 := ⟨i - 1, by omega⟩
  have w1 := sort_pred (i := m) (Nat.le_trans (Nat.le_of_lt (Nat.lt_of_succ_lt hi')) (Nat.le_trans hN (by decide)))
  have w2 := sort_succ (i := m + 1) (Nat.le_trans (Nat.le_of_lt (Nat.lt_of_succ_lt hi')) (Nat.le_trans hN (by decide)))
  unfold medianAdjacent
  rw [Nat.add_sub_cancel]
  obtain ⟨⟨v1, g1⟩, e1, rfl, A1, T1⟩ := median_spec (c := c) A K T hs (i := m) (j := m + 1) (k := m + 1 + 1) (Nat.lt_of_succ_lt (Nat.lt_of_succ_lt hi')) (Nat.lt_of_succ_lt hi') hi'
  dsimp only at A1 T1
  simp only [S.slices_medianAdjacentCmpFunc_int_, w1, w2, obind, W_call, e1]
  exact Ev.some ⟨rfl, A1, T1⟩
end
end Wm
end

section
/- Which pivot. -/
namespace Wm
attribute [local congr] bind_congr1
attribute [local irreducible] wr
open Go.Sort (swp choosePivot median medianAdjacent Hint)

section
variable {h0 h : H} {b N f : Nat} {cs : List V} {lt : Int → Int → Bool} {d : Array Int} {c : Cap}

def hintI : Hint → Int
  | .unknown => 0
  | .increasing => 1
  | .decreasing => 2
def hintN (n : Nat) : Hint := if n = 0 then .increasing else if n = 12 then .decreasing else .unknown

theorem hint_cases (n : Nat) : (decide ((n : Int) = 0) = true ∧ hintN n = .increasing) ∨ (decide ((n : Int) = 0) = false ∧ decide ((n : Int) = 12) = true ∧ hintN n = .decreasing) ∨ (decide ((n : Int) = 0) = false ∧ decide ((n : Int) = 12) = false ∧ hintN n = .unknown) := by
  unfold hintN
  by_cases h1 : n = 0
  · exact .inl ⟨decide_eq_true (by omega), by rw [if_pos h1]⟩
  · by_cases h2 : n = 12
    · exact .inr (.inl ⟨decide_eq_false (by omega), decide_eq_true (by omega), by rw [if_neg h1, if_pos h2]⟩)
    · exact .inr (.inr ⟨decide_eq_false (by omega), decide_eq_false (by omega), by rw [if_neg h1, if_neg h2]⟩)

theorem cho_nums {a e N : Nat} (hae : a < e) (he : e ≤ N) (hN : N ≤ 1000) : wr .i64 ((e : Int) - (a : Int)) = ((e - a : Nat) : Int) ∧ wr .i64 (Int.tdiv ((e - a : Nat) : Int) 4) = (((e - a) / 4 : Nat) : Int) ∧
    (∀ k : Nat, k ≤ 3 → wr .i64 ((((e - a) / 4 : Nat) : Int) * (k : Int)) = (((e - a) / 4 * k : Nat) : Int) ∧ wr .i64 ((a : Int) + (((e - a) / 4 * k : Nat) : Int)) = ((a + (e - a) / 4 * k : Nat) : Int) ∧ a + (e - a) / 4 * k < e ∧ (50 ≤ e - a → 1 ≤ k → 1 ≤ a + (e - a) / 4 * k ∧ a + (e - a) / 4 * k + 1 < N)) := by
  refine ⟨sort_sub (Nat.le_of_lt hae) (by omega), ?_, fun k hk => ?_⟩
  · have e2 : Int.tdiv ((e - a : Nat) : Int) 4 = (((e - a) / 4 : Nat) : Int) := rfl
    rw [e2, wr64 (by omega) (by omega)]
  · generalize hl : e - a = l
    have h1 : l / 4 * k ≤ l / 4 * 3 := Nat.mul_le_mul_left _ hk
    have h2 : l / 4 * 3 < l := by omega
    have h4 : l / 4 * 1 ≤ l / 4 * k ∨ k = 0 := by
      cases k with
      | zero => exact .inr rfl
      | succ k => exact .inl (Nat.mul_le_mul_left _ (Nat.succ_le_succ (Nat.zero_le _)))
    generalize hm : l / 4 * k = m at *
    refine ⟨?_, sort_add (by omega), by omega, fun h50 hk1 => ?_⟩
    · rw [← Int.natCast_mul, hm, wr64 (by omega) (by omega)]
    · rcases h4 with h4 | h4
      · omega
      · omega

theorem medA_in (lt : Int → Int → Bool) (d : Array Int) {i s N : Nat} (h1 : 1 ≤ i) (h2 : i + 1 < N) : (medianAdjacent lt d i s).1 < N := by
  have h3 : i < N := Nat.lt_of_succ_lt h2
  rcases Go.Sort.medianAdjacent_mem lt d i s with q | q | q <;> rw [q]
  · exact Nat.lt_of_le_of_lt (Nat.sub_le _ _) h3
  · exact h3
  · exact h2

theorem choose_spec (A : Sw h0 b N h d) (K : Cmp h0 b N f cs lt) (hN : N ≤ 1000) {a e : Nat} (hae : a < e) (he : e ≤ N) :
    Ev (C 453 [.sl b 0 N c, .int .i64 (a : Int), .int .i64 (e : Int), .fn f cs] h) fun z => z.1 = .tup [.int .i64 ((choosePivot lt d a e).1 : Int), .int .i64 (hintI (choosePivot lt d a e).2)] ∧ Sw h0 b N z.2 d := by
  refine call_ev (af := F.slices_choosePivotCmpFunc_int_) (by kernel_rfl) rfl ?_
  rw [S.slices_choosePivotCmpFunc_int__eq]
  obtain ⟨w1, w2, ws⟩ := cho_nums hae he hN
  obtain ⟨u1, v1, o1, p1⟩ := ws 1 (by decide)
  obtain ⟨u2, v2, o2, p2⟩ := ws 2 (by decide)
  obtain ⟨u3, v3, o3, p3⟩ := ws 3 (by decide)
  clear ws
  have hb : b < h.next := A.ok.lt A.at_
  have F0 : Fr [] h (h.new (.cells [.int .i64 0] .rw)) := (Fr.refl A.ok).new _
  have A0 := A.fr0 F0
  have T0 : Ct h0 b h.next 0 (h.new (.cells [.int .i64 0] .rw)) := ⟨get_new_self _ _, A.fr.le, fun q => Nat.lt_irrefl _ (q ▸ hb)⟩
  have n1 := Nat.lt_of_lt_of_le o1 he
  have n2 := Nat.lt_of_lt_of_le o2 he
  have n3 := Nat.lt_of_lt_of_le o3 he
  have hc : choosePivot lt d a e = ((if e - a ≥ 8 then if e - a ≥ 50 then
        median lt d (medianAdjacent lt d (a + (e - a) / 4 * 1) 0).1 (medianAdjacent lt d (a + (e - a) / 4 * 2) (medianAdjacent lt d (a + (e - a) / 4 * 1) 0).2).1 (medianAdjacent lt d (a + (e - a) / 4 * 3) (medianAdjacent lt d (a + (e - a) / 4 * 2) (medianAdjacent lt d (a + (e - a) / 4 * 1) 0).2).2).1 (medianAdjacent lt d (a + (e - a) / 4 * 3) (medianAdjacent lt d (a + (e - a) / 4 * 2) (medianAdjacent lt d (a + (e - a) / 4 * 1) 0).2).2).2
      else median lt d (a + (e - a) / 4 * 1) (a + (e - a) / 4 * 2) (a + (e - a) / 4 * 3) 0 else (a + (e - a) / 4 * 2, 0) : Nat × Nat).1, hintN (if e - a ≥ 8 then if e - a ≥ 50 then
        median lt d (medianAdjacent lt d (a + (e - a) / 4 * 1) 0).1 (medianAdjacent lt d (a + (e - a) / 4 * 2) (medianAdjacent lt d (a + (e - a) / 4 * 1) 0).2).1 (medianAdjacent lt d (a + (e - a) / 4 * 3) (medianAdjacent lt d (a + (e - a) / 4 * 2) (medianAdjacent lt d (a + (e - a) / 4 * 1) 0).2).2).1 (medianAdjacent lt d (a + (e - a) / 4 * 3) (medianAdjacent lt d (a + (e - a) / 4 * 2) (medianAdjacent lt d (a + (e - a) / 4 * 1) 0).2).2).2
      else median lt d (a + (e - a) / 4 * 1) (a + (e - a) / 4 * 2) (a + (e - a) / 4 * 3) 0 else (a + (e - a) / 4 * 2, 0) : Nat × Nat).2) := rfl
  rw [hc]
  clear hc
  obtain ⟨aI, hai⟩ : ∃ x : Int, x = (a : Int) := ⟨_, rfl⟩
  obtain ⟨eI, hei⟩ : ∃ x : Int, x = (e : Int) := ⟨_, rfl⟩
  obtain ⟨lI, hli⟩ : ∃ x : Int, x = ((e - a : Nat) : Int) := ⟨_, rfl⟩
  obtain ⟨qI, hqi⟩ : ∃ x : Int, x = (((e - a) / 4 : Nat) : Int) := ⟨_, rfl⟩
  rw [← hai, ← hei]
  rw [← hai, ← hei, ← hli] at w1
  rw [← hli, ← hqi] at w2
  rw [← hqi] at u1 u2 u3
  rw [← hai] at v1 v2 v3
  have u1' : wr .i64 (qI * 1) = _ := u1
  have u2' : wr .i64 (qI * 2) = _ := u2
  have u3' : wr .i64 (qI * 3) = _ := u3
  by_cases h8 : 8 ≤ e - a
  · have k8 : decide ((8 : Int) ≤ lI) = true := by rw [hli]; exact decide_eq_true (by exact_mod_cast h8)
    by_cases h50 : 50 ≤ e - a
    · have k50 : decide ((50 : Int) ≤ lI) = true := by rw [hli]; exact decide_eq_true (by exact_mod_cast h50)
      simp only [if_pos h8, if_pos h50, ge_iff_le]
      obtain ⟨p1a, p1b⟩ := p1 h50 (by decide)
      obtain ⟨p2a, p2b⟩ := p2 h50 (by decide)
      obtain ⟨p3a, p3b⟩ := p3 h50 (by decide)
      obtain ⟨⟨x1, g1⟩, e1, rfl, A1, T1⟩ := medianAdjacent_spec (c := c) A0 K hN T0 (by decide) p1a p1b
      dsimp only at A1 T1
      have m1 := medA_in lt d (s := 0) p1a p1b
      have z1 : (medianAdjacent lt d (a + (e - a) / 4 * 1) 0).2 ≤ 3 := Go.Sort.medianAdjacent_count lt d _ 0
      generalize medianAdjacent lt d (a + (e - a) / 4 * 1) 0 = r1 at e1 T1 m1 z1 ⊢
      obtain ⟨⟨x2, g2⟩, e2, rfl, A2, T2⟩ := medianAdjacent_spec (c := c) A1 K hN T1 (Nat.le_trans z1 (by decide)) p2a p2b
      dsimp only at A2 T2
      have m2 := medA_in lt d (s := r1.2) p2a p2b
      have z2 : (medianAdjacent lt d (a + (e - a) / 4 * 2) r1.2).2 ≤ 6 := Nat.le_trans (Go.Sort.medianAdjacent_count lt d _ _) (Nat.add_le_add_right z1 3)
      generalize medianAdjacent lt d (a + (e - a) / 4 * 2) r1.2 = r2 at e2 T2 m2 z2 ⊢
      obtain ⟨⟨x3, g3⟩, e3, rfl, A3, T3⟩ := medianAdjacent_spec (c := c) A2 K hN T2 (Nat.le_trans z2 (by decide)) p3a p3b
      dsimp only at A3 T3
      have m3 := medA_in lt d (s := r2.2) p3a p3b
      have z3 : (medianAdjacent lt d (a + (e - a) / 4 * 3) r2.2).2 ≤ 9 := Nat.le_trans (Go.Sort.medianAdjacent_count lt d _ _) (Nat.add_le_add_right z2 3)
      generalize medianAdjacent lt d (a + (e - a) / 4 * 3) r2.2 = r3 at e3 T3 m3 z3 ⊢
      obtain ⟨⟨x4, g4⟩, e4, rfl, A4, T4⟩ := median_spec (c := c) A3 K T3 (Nat.le_trans z3 (by decide)) m1 m2 m3
      dsimp only at A4 T4
      have lq : ldB (g4.get h.next) 0 = some (.int .i64 ((median lt d r1.1 r2.1 r3.1 r3.2).2 : Int)) := by rw [T4.at_]; rfl
      generalize median lt d r1.1 r2.1 r3.1 r3.2 = m at e4 lq ⊢
      rcases hint_cases m.2 with ⟨c1, hh⟩ | ⟨c1, c2, hh⟩ | ⟨c1, c2, hh⟩
      · simp only [S.slices_choosePivotCmpFunc_int_, w1, w2, u1', u2', u3', v1, v2, v3, k8, k50, obind, W_call, e1, e2, e3, e4, ld1_get', lq, asI_int, c1, hh]
        exact Ev.some ⟨rfl, A4⟩
      · simp only [S.slices_choosePivotCmpFunc_int_, w1, w2, u1', u2', u3', v1, v2, v3, k8, k50, obind, W_call, e1, e2, e3, e4, ld1_get', lq, asI_int, c1, c2, hh]
        exact Ev.some ⟨rfl, A4⟩
      · simp only [S.slices_choosePivotCmpFunc_int_, w1, w2, u1', u2', u3', v1, v2, v3, k8, k50, obind, W_call, e1, e2, e3, e4, ld1_get', lq, asI_int, c1, c2, hh]
        exact Ev.some ⟨rfl, A4⟩
    · have k50 : decide ((50 : Int) ≤ lI) = false := by rw [hli]; exact decide_eq_false (by exact_mod_cast h50)
      simp only [if_pos h8, if_neg h50, ge_iff_le]
      obtain ⟨⟨x1, g1⟩, e1, rfl, A1, T1⟩ := median_spec (c := c) A0 K T0 (by decide) n1 n2 n3
      dsimp only at A1 T1
      have lq : ldB (g1.get h.next) 0 = some (.int .i64 ((median lt d (a + (e - a) / 4 * 1) (a + (e - a) / 4 * 2) (a + (e - a) / 4 * 3) 0).2 : Int)) := by rw [T1.at_]; rfl
      generalize median lt d (a + (e - a) / 4 * 1) (a + (e - a) / 4 * 2) (a + (e - a) / 4 * 3) 0 = m at e1 lq ⊢
      rcases hint_cases m.2 with ⟨c1, hh⟩ | ⟨c1, c2, hh⟩ | ⟨c1, c2, hh⟩
      · simp only [S.slices_choosePivotCmpFunc_int_, w1, w2, u1', u2', u3', v1, v2, v3, k8, k50, obind, W_call, e1, ld1_get', lq, asI_int, c1, hh]
        exact Ev.some ⟨rfl, A1⟩
      · simp only [S.slices_choosePivotCmpFunc_int_, w1, w2, u1', u2', u3', v1, v2, v3, k8, k50, obind, W_call, e1, ld1_get', lq, asI_int, c1, c2, hh]
        exact Ev.some ⟨rfl, A1⟩
      · simp only [S.slices_choosePivotCmpFunc_int_, w1, w2, u1', u2', u3', v1, v2, v3, k8, k50, obind, W_call, e1, ld1_get', lq, asI_int, c1, c2, hh]
        exact Ev.some ⟨rfl, A1⟩
  · have k8 : decide ((8 : Int) ≤ lI) = false := by rw [hli]; exact decide_eq_false (by exact_mod_cast h8)
    simp only [if_neg h8, ge_iff_le]
    have lq : ldB ((h.new (.cells [.int .i64 0] .rw)).get h.next) 0 = some (.int .i64 0) := by rw [T0.at_]; rfl
    have c1 : decide ((0 : Int) = 0) = true := rfl
    simp only [S.slices_choosePivotCmpFunc_int_, w1, w2, u2', v2, k8, obind, ld1_get', lq, asI_int]
    exact Ev.some ⟨rfl, A0⟩
end
end Wm
end

section
/- pdqsort: what stands in the slice is sorted. -/
namespace Wm
attribute [local congr] bind_congr1
attribute [local irreducible] wr
open Go.Sort (swp PermIn SortedIn Below SWO permIn_trans permIn_refl)

section
variable {h0 h : H} {b N f : Nat} {cs : List V} {lt : Int → Int → Bool} {d : Array Int} {c : Cap}

/-- What a round comes to: all is sorted, or what is left to sort is less. -/
def PdqPost (h0 : H) (b N : Nat) (c : Cap) (f : Nat) (cs : List V) (lt : Int → Int → Bool) (a e : Nat) (d : Array Int) (z : AX × List V × H) : Prop :=
  (z.1 = .ret ∧ z.2.1 = S.slices_pdqsortCmpFunc_int__c0_O ∧ ∃ R, PermIn a e d R ∧ SortedIn lt a e R ∧ Sw h0 b N z.2.2 R) ∨
  (∃ (a' e' : Nat) (L : Int) (wb wp : Bool) (d' : Array Int), z.1 = .normal ∧ z.2.1 = S.slices_pdqsortCmpFunc_int__c0_E (.sl b 0 N c) (.int .i64 (a' : Int)) (.int .i64 (e' : Int)) (.int .i64 L) (.fn f cs) (.bool wb) (.bool wp) ∧
    (a ≤ a' ∧ a' ≤ e' ∧ e' ≤ e) ∧ e' - a' < e - a ∧ Sw h0 b N z.2.2 d' ∧ Below lt a' e' d' ∧ ∀ R, PermIn a' e' d' R → SortedIn lt a' e' R → PermIn a e d R ∧ SortedIn lt a e R)

theorem PdqPost.perm {a e : Nat} {d d1 : Array Int} (hp : PermIn a e d d1) {z : AX × List V × H} (q : PdqPost h0 b N c f cs lt a e d1 z) : PdqPost h0 b N c f cs lt a e d z := by
  rcases q with ⟨q1, q2, R, q3, q4, q5⟩ | ⟨a', e', L, wb, wp, d', q1, q2, q3, q4, q5, q6, q7⟩
  · exact .inl ⟨q1, q2, R, permIn_trans _ _ _ _ _ hp q3, q4, q5⟩
  · exact .inr ⟨a', e', L, wb, wp, d', q1, q2, q3, q4, q5, q6, fun R r1 r2 => ⟨permIn_trans _ _ _ _ _ hp (q7 R r1 r2).1, (q7 R r1 r2).2⟩⟩

/-- What a call of itself comes to, on less than 'n'. -/
def PdqIH (h0 : H) (b N : Nat) (c : Cap) (f : Nat) (cs : List V) (lt : Int → Int → Bool) (n : Nat) : Prop :=
  ∀ (a e : Nat) (L : Int) (d : Array Int) (h : H), e - a < n → a ≤ e → e ≤ N → Sw h0 b N h d → Below lt a e d →
    Ev (C 405 [.sl b 0 N c, .int .i64 (a : Int), .int .i64 (e : Int), .int .i64 L, .fn f cs] h) fun z => ∃ R, z.1 = .tup [] ∧ PermIn a e d R ∧ SortedIn lt a e R ∧ Sw h0 b N z.2 R

theorem pdq_part (A : Sw h0 b N h d) (K : Cmp h0 b N f cs lt) (hlt : SWO lt) (hN : N ≤ 64) {a e pv n : Nat} {L x12 : Int} {y10 y11 : V} (hn : e - a ≤ n) (ih : PdqIH h0 b N c f cs lt n) (hp1 : a ≤ pv) (hp2 : pv < e) (he : e ≤ N) (hB : Below lt a e d) :
    Ev (S.slices_pdqsortCmpFunc_int__c10_n W (.sl b 0 N c) (a : Int) (e : Int) L (.fn f cs) y10 y11 x12 (pv : Int) h) (PdqPost h0 b N c f cs lt a e d) := by
  have n9 : N ≤ 9000 := Nat.le_trans hN (by decide)
  have hae : a < e := Nat.lt_of_le_of_lt hp1 hp2
  obtain ⟨⟨v, g⟩, e1, rfl, A1⟩ := partition_spec (c := c) A K (Nat.le_trans hN (by decide)) hae he (Nat.lt_of_lt_of_le hp2 he)
  dsimp only at A1
  obtain ⟨q1, q2, q3, q4, q5, q6, q7⟩ := Go.Sort.round_part (mid := (Go.Sort.partition lt d a e pv).1) (ap := (Go.Sort.partition lt d a e pv).2.1) (d4 := (Go.Sort.partition lt d a e pv).2.2) hlt (Go.Sort.partition_holds lt) hp1 hp2 (by rw [A.sz]; exact he) hB rfl
  generalize Go.Sort.partition lt d a e pv = P at *
  obtain ⟨mid, ap, d4⟩ := P
  dsimp only at *
  have hme : mid ≤ 9000 := Nat.le_trans (Nat.le_of_lt q2) (Nat.le_trans he n9)
  have w1 := sort_sub (i := mid) (j := a) q1 hme
  have w2 := sort_sub (i := e) (j := mid) (Nat.le_of_lt q2) (Nat.le_trans he n9)
  have w3 := sort_succ (i := mid) hme
  have z1 : mid - a < e - a := by clear w1 w2 w3; omega
  have z2 : e - (mid + 1) < e - a := by clear w1 w2 w3; omega
  by_cases hc : mid - a < e - mid
  · obtain ⟨⟨v2, g2⟩, e2, R1, rfl, r1, r2, A2⟩ := ih a mid L d4 g (Nat.lt_of_lt_of_le z1 hn) q1 (Nat.le_trans (Nat.le_of_lt q2) he) A1 q4
    dsimp only at A2
    obtain ⟨u1, u2⟩ := q6 R1 r1 r2
    obtain ⟨mI, hmI⟩ : ∃ x : Int, x = (mid : Int) := ⟨_, rfl⟩
    obtain ⟨aI, haI⟩ : ∃ x : Int, x = (a : Int) := ⟨_, rfl⟩
    obtain ⟨eI, heI⟩ : ∃ x : Int, x = (e : Int) := ⟨_, rfl⟩
    rw [← hmI] at e1 e2 w1 w2 w3; rw [← haI] at e1 e2 w1 ⊢; rw [← heI] at e1 w2 ⊢
    simp only [S.slices_pdqsortCmpFunc_int__c10_n, W_call, e1, obind, List.getElem?_cons_zero, List.getElem?_cons_succ, asI_int, w1, w2, sort_lt hc, e2, w3]
    subst hmI haI heI
    exact Ev.some (.inr ⟨mid + 1, e, L, _, ap, R1, rfl, rfl, ⟨Nat.le_succ_of_le q1, q2, Nat.le_refl _⟩, z2, A2, u1, u2⟩)
  · obtain ⟨⟨v2, g2⟩, e2, R1, rfl, r1, r2, A2⟩ := ih (mid + 1) e L d4 g (Nat.lt_of_lt_of_le z2 hn) q2 he A1 q5
    dsimp only at A2
    obtain ⟨u1, u2⟩ := q7 R1 r1 r2
    obtain ⟨mI, hmI⟩ : ∃ x : Int, x = (mid : Int) := ⟨_, rfl⟩
    obtain ⟨aI, haI⟩ : ∃ x : Int, x = (a : Int) := ⟨_, rfl⟩
    obtain ⟨eI, heI⟩ : ∃ x : Int, x = (e : Int) := ⟨_, rfl⟩
    rw [← hmI] at e1 w1 w2 w3; rw [← haI] at e1 w1 ⊢; rw [← heI] at e1 e2 w2 ⊢
    simp only [S.slices_pdqsortCmpFunc_int__c10_n, W_call, e1, obind, List.getElem?_cons_zero, List.getElem?_cons_succ, asI_int, w1, w2, sort_nlt hc, w3, e2]
    subst hmI haI heI
    exact Ev.some (.inr ⟨a, mid, L, _, ap, R1, rfl, rfl, ⟨Nat.le_refl _, q1, Nat.le_of_lt q2⟩, z1, A2, u1, u2⟩)

theorem pdq_parts (A : Sw h0 b N h d) (K : Cmp h0 b N f cs lt) (hlt : SWO lt) (hN : N ≤ 64) {a e pv n : Nat} {L x12 : Int} {wb wp : Bool} (hn : e - a ≤ n) (ih : PdqIH h0 b N c f cs lt n) (hp1 : a ≤ pv) (hp2 : pv < e) (he : e ≤ N) (hB : Below lt a e d) :
    Ev (S.slices_pdqsortCmpFunc_int__c6_n W (.sl b 0 N c) (a : Int) (e : Int) L (.fn f cs) wb wp x12 (pv : Int) h) (PdqPost h0 b N c f cs lt a e d) := by
  have n9 : N ≤ 9000 := Nat.le_trans hN (by decide)
  have hae : a < e := Nat.lt_of_le_of_lt hp1 hp2
  have hpN := Nat.lt_of_lt_of_le hp2 he
  simp only [S.slices_pdqsortCmpFunc_int__c6_n]
  rw [S.slices_pdqsortCmpFunc_int__c10_eq]
  cases a with
  | zero =>
    have k0 : decide ((0 : Int) < ((0 : Nat) : Int)) = false := rfl
    simp only [S.slices_pdqsortCmpFunc_int__c10_S, k0, obind]
    show Ev (S.slices_pdqsortCmpFunc_int__K9 W .normal _ _) _
    rw [S.slices_pdqsortCmpFunc_int__c10_n_eq]
    exact pdq_part A K hlt hN hn ih hp1 hp2 he hB
  | succ m =>
    have hm : m < N := Nat.lt_of_succ_lt (Nat.lt_of_lt_of_le hae he)
    have k0 : decide ((0 : Int) < ((m + 1 : Nat) : Int)) = true := decide_eq_true (by omega)
    have w1 := sort_pred (i := m) (Nat.le_trans (Nat.le_trans (Nat.le_of_lt hae) he) n9)
    have i1 := sl_idx1 (b := b) (c := c) hm
    have i2 := sl_idx1 (b := b) (c := c) hpN
    have l1 := A.ld hm
    have l2 := A.ld hpN
    obtain ⟨x, g1, ec, hx, A1, _⟩ := A.cmp K hm hpN
    cases hl : lt d[m]! d[pv]! with
    | true =>
      simp only [S.slices_pdqsortCmpFunc_int__c10_S, k0, w1, i1, i2, obind, ld1_get', l1, l2, ec, asI_int, hx, hl, Bool.not_true]
      show Ev (S.slices_pdqsortCmpFunc_int__K9 W .normal _ _) _
      rw [S.slices_pdqsortCmpFunc_int__c10_n_eq]
      exact pdq_part A1 K hlt hN hn ih hp1 hp2 he hB
    | false =>
      obtain ⟨⟨v, g⟩, e1, rfl, A2⟩ := partitionEqual_spec (c := c) A1 K (Nat.le_trans hN (by decide)) hae he hpN
      dsimp only at A2
      obtain ⟨q1, q2, q3, q4, q5⟩ := Go.Sort.round_eq (mid := (Go.Sort.partitionEqual lt d (m + 1) e pv).1) (d4 := (Go.Sort.partitionEqual lt d (m + 1) e pv).2) hlt (Go.Sort.partitionEqual_holds lt) (Nat.succ_pos m) hp1 hp2 (by rw [A.sz]; exact he) hB hl rfl
      generalize Go.Sort.partitionEqual lt d (m + 1) e pv = P at *
      obtain ⟨mid, d4⟩ := P
      dsimp only at *
      simp only [S.slices_pdqsortCmpFunc_int__c10_S, k0, w1, i1, i2, obind, ld1_get', l1, l2, ec, asI_int, hx, hl, Bool.not_false, W_call, e1]
      show Ev (S.slices_pdqsortCmpFunc_int__K9 W (.exit 1) _ _) _
      rw [S.slices_pdqsortCmpFunc_int__c10_e1_eq]
      simp only [S.slices_pdqsortCmpFunc_int__c10_e1]
      exact Ev.some (.inr ⟨mid, e, L, wb, wp, d4, rfl, rfl, ⟨Nat.le_of_lt q1, q2, Nat.le_refl _⟩, Nat.sub_lt_sub_left hae q1, A2, q4, q5⟩)

theorem pdq_tries (A : Sw h0 b N h d) (K : Cmp h0 b N f cs lt) (hlt : SWO lt) (hN : N ≤ 64) {a e pv n : Nat} {L x12 x14 : Int} {wb wp : Bool} (hn : e - a ≤ n) (ih : PdqIH h0 b N c f cs lt n) (hp1 : a ≤ pv) (hp2 : pv < e) (he : e ≤ N) (hB : Below lt a e d) :
    Ev (S.slices_pdqsortCmpFunc_int__c4_n W (.sl b 0 N c) (a : Int) (e : Int) L (.fn f cs) wb wp x12 (pv : Int) x14 h) (PdqPost h0 b N c f cs lt a e d) := by
  have hae : a < e := Nat.lt_of_le_of_lt hp1 hp2
  have hb : e ≤ d.size := by rw [A.sz]; exact he
  simp only [S.slices_pdqsortCmpFunc_int__c4_n]
  rw [S.slices_pdqsortCmpFunc_int__c6_eq]
  simp only [S.slices_pdqsortCmpFunc_int__c6_S]
  rw [S.slices_pdqsortCmpFunc_int__c8_eq]
  have key : ∀ t : Bool, Ev ((S.slices_pdqsortCmpFunc_int__K8 W .normal (S.slices_pdqsortCmpFunc_int__c8_O (.sl b 0 N c) (.int .i64 (a : Int)) (.int .i64 (e : Int)) (.int .i64 L) (.fn f cs) (.bool wb) (.bool wp) (.int .i64 x12) (.int .i64 (pv : Int)) (.bool t)) h).bind fun p0 => S.slices_pdqsortCmpFunc_int__K6 W p0.1 p0.2.1 p0.2.2) (PdqPost h0 b N c f cs lt a e d) := by
    intro t
    rw [S.slices_pdqsortCmpFunc_int__c8_n_eq]
    cases t with
    | false =>
      simp only [S.slices_pdqsortCmpFunc_int__c8_n, obind]
      show Ev (S.slices_pdqsortCmpFunc_int__K6 W .normal _ _) _
      rw [S.slices_pdqsortCmpFunc_int__c6_n_eq]
      exact pdq_parts A K hlt hN hn ih hp1 hp2 he hB
    | true =>
      obtain ⟨⟨v, g⟩, e1, rfl, A1⟩ := partialInsertion_spec (c := c) A K (Nat.le_trans hN (by decide)) hae he
      dsimp only at A1
      obtain ⟨q1, q2⟩ := Go.Sort.partialInsertionSort_holds hlt d a e hae hb hB
      generalize Go.Sort.partialInsertionSort lt d a e = P at *
      obtain ⟨d1, t1⟩ := P
      dsimp only at *
      cases t1 with
      | false =>
        simp only [S.slices_pdqsortCmpFunc_int__c8_n, W_call, e1, obind, asB_bool]
        show Ev (S.slices_pdqsortCmpFunc_int__K6 W .normal _ _) _
        rw [S.slices_pdqsortCmpFunc_int__c6_n_eq]
        exact (pdq_parts A1 K hlt hN hn ih hp1 hp2 he (hB.perm hb q1)).mono fun _ z => z.perm q1
      | true =>
        simp only [S.slices_pdqsortCmpFunc_int__c8_n, W_call, e1, obind, asB_bool]
        show Ev (S.slices_pdqsortCmpFunc_int__K6 W .ret _ _) _
        rw [S.slices_pdqsortCmpFunc_int__c6_r_eq]
        simp only [S.slices_pdqsortCmpFunc_int__c6_r]
        exact Ev.some (.inl ⟨rfl, rfl, d1, q1, q2 rfl, A1⟩)
  cases wb with
  | false =>
    simp only [S.slices_pdqsortCmpFunc_int__c8_S, obind]
    exact key _
  | true =>
    cases wp with
    | false =>
      simp only [S.slices_pdqsortCmpFunc_int__c8_S, obind]
      exact key _
    | true =>
      simp only [S.slices_pdqsortCmpFunc_int__c8_S, obind]
      exact key _

theorem pdq_round (A : Sw h0 b N h d) (K : Cmp h0 b N f cs lt) (hlt : SWO lt) (hN : N ≤ 64) {a e n : Nat} {L : Int} {wb wp : Bool} (hn : e - a ≤ n) (ih : PdqIH h0 b N c f cs lt n) (hae : a ≤ e) (he : e ≤ N) (hB : Below lt a e d) :
    Ev (S.slices_pdqsortCmpFunc_int__c0_S W (.sl b 0 N c) (a : Int) (e : Int) L (.fn f cs) wb wp h) (PdqPost h0 b N c f cs lt a e d) := by
  have n9 : N ≤ 9000 := Nat.le_trans hN (by decide)
  have hN' : N ≤ 1000 := Nat.le_trans hN (by decide)
  have hb : e ≤ d.size := by rw [A.sz]; exact he
  have w1 := sort_sub (i := e) (j := a) hae (Nat.le_trans he n9)
  by_cases h12 : e - a ≤ 12
  · obtain ⟨⟨v, g⟩, e1, rfl, A1⟩ := insertion_spec (c := c) A K hN' he (Nat.le_trans hae he)
    dsimp only at A1
    obtain ⟨q1, q2⟩ := Go.Sort.insertionSort_holds hlt d a e hae hb
    have k0 : decide (((e - a : Nat) : Int) ≤ 12) = true := decide_eq_true (by clear w1 e1; omega)
    obtain ⟨aI, haI⟩ : ∃ x : Int, x = (a : Int) := ⟨_, rfl⟩
    obtain ⟨eI, heI⟩ : ∃ x : Int, x = (e : Int) := ⟨_, rfl⟩
    rw [← haI] at e1 w1 ⊢; rw [← heI] at e1 w1 ⊢
    simp only [S.slices_pdqsortCmpFunc_int__c0_S, w1, k0, W_call, e1, obind]
    exact Ev.some (.inl ⟨rfl, rfl, _, q1, q2, A1⟩)
  have k0 : decide (((e - a : Nat) : Int) ≤ 12) = false := decide_eq_false (by clear w1; omega)
  have hlt' : a < e := by clear w1 k0; omega
  by_cases hL : L = 0
  · obtain ⟨⟨v, g⟩, e1, rfl, A1⟩ := heap_spec (c := c) A K hN' hae he
    dsimp only at A1
    obtain ⟨q1, q2⟩ := Go.Sort.heapSort_holds hlt d a e hae hb
    have kL : decide (L = 0) = true := decide_eq_true hL
    obtain ⟨aI, haI⟩ : ∃ x : Int, x = (a : Int) := ⟨_, rfl⟩
    obtain ⟨eI, heI⟩ : ∃ x : Int, x = (e : Int) := ⟨_, rfl⟩
    rw [← haI] at e1 w1 ⊢; rw [← heI] at e1 w1 ⊢
    simp only [S.slices_pdqsortCmpFunc_int__c0_S, w1, k0, kL, W_call, e1, obind]
    exact Ev.some (.inl ⟨rfl, rfl, _, q1, q2, A1⟩)
  have kL : decide (L = 0) = false := decide_eq_false hL
  have rev : ∀ (d1 : Array Int) (L x12 : Int) (h1 : H) (pv : Nat) (x14 : Int), PermIn a e d d1 → Sw h0 b N h1 d1 → a ≤ pv → pv < e →
      Ev ((S.slices_pdqsortCmpFunc_int__c4_B W (S.slices_pdqsortCmpFunc_int__c4_E (.sl b 0 N c) (.int .i64 (a : Int)) (.int .i64 (e : Int)) (.int .i64 L) (.fn f cs) (.bool wb) (.bool wp) (.int .i64 x12) (.int .i64 (pv : Int)) (.int .i64 x14)) h1).bind fun p5 => S.slices_pdqsortCmpFunc_int__K5 W p5.1 p5.2.1 p5.2.2) (PdqPost h0 b N c f cs lt a e d) := by
    intro d1 L x12 h1 pv x14 hp A hp1 hp2
    have B1 := hB.perm hb hp
    have hb1 : e ≤ d1.size := by rw [A.sz]; exact he
    rw [S.slices_pdqsortCmpFunc_int__c4_eq]
    by_cases h2 : x14 = 2
    · obtain ⟨⟨v, g⟩, e1, rfl, A1⟩ := reverse_spec (c := c) A hN' hlt' he (.fn f cs)
      dsimp only at A1
      have q1 := Go.Sort.reverseRange_holds d1 a e hae hb1
      have k2 : decide (x14 = 2) = true := decide_eq_true h2
      obtain ⟨m, hm⟩ : ∃ m, e = m + 1 := ⟨e - 1, by clear w1 k0; omega⟩
      have w2 : wr .i64 ((e : Int) - 1) = ((e - 1 : Nat) : Int) := by rw [hm]; exact sort_pred (i := m) (hm ▸ Nat.le_trans he n9)
      have w3 := sort_sub (i := pv) (j := a) hp1 (Nat.le_trans (Nat.le_of_lt hp2) (Nat.le_trans he n9))
      have z1 : pv - a ≤ e - 1 := by clear w1 k0 w2 w3; omega
      have w4 := sort_sub (i := e - 1) (j := pv - a) z1 (by clear w1 k0 w2 w3; omega)
      simp only [S.slices_pdqsortCmpFunc_int__c4_S, k2, W_call, e1, obind, w2, w3, w4]
      show Ev (S.slices_pdqsortCmpFunc_int__K5 W .normal _ _) _
      rw [S.slices_pdqsortCmpFunc_int__c4_n_eq]
      exact (pdq_tries A1 K hlt hN hn ih (by clear w1 k0 w2 w3 w4; omega) (by clear w1 k0 w2 w3 w4; omega) he (B1.perm hb1 q1)).mono fun _ z => (z.perm q1).perm hp
    · have k2 : decide (x14 = 2) = false := decide_eq_false h2
      simp only [S.slices_pdqsortCmpFunc_int__c4_S, k2, obind]
      show Ev (S.slices_pdqsortCmpFunc_int__K5 W .normal _ _) _
      rw [S.slices_pdqsortCmpFunc_int__c4_n_eq]
      exact (pdq_tries A K hlt hN hn ih hp1 hp2 he B1).mono fun _ z => z.perm hp
  have cho : ∀ (d1 : Array Int) (L x12 : Int) (h1 : H), PermIn a e d d1 → Sw h0 b N h1 d1 →
      Ev (S.slices_pdqsortCmpFunc_int__c2_n W (.sl b 0 N c) (a : Int) (e : Int) L (.fn f cs) wb wp x12 h1) (PdqPost h0 b N c f cs lt a e d) := by
    intro d1 L x12 h1 hp A
    obtain ⟨⟨v, g⟩, e1, rfl, A1⟩ := choose_spec (c := c) A K hN' hlt' he
    dsimp only at A1
    obtain ⟨q1, q2⟩ := Go.Sort.choosePivot_holds lt d1 a e hlt'
    simp only [S.slices_pdqsortCmpFunc_int__c2_n, W_call, e1, obind, List.getElem?_cons_zero, List.getElem?_cons_succ]
    exact rev _ _ _ _ _ _ hp A1 q1 q2
  have fst : Ev ((S.slices_pdqsortCmpFunc_int__c2_B W (S.slices_pdqsortCmpFunc_int__c2_E (.sl b 0 N c) (.int .i64 (a : Int)) (.int .i64 (e : Int)) (.int .i64 L) (.fn f cs) (.bool wb) (.bool wp) (.int .i64 ((e - a : Nat) : Int))) h).bind fun p0 => S.slices_pdqsortCmpFunc_int__K4 W p0.1 p0.2.1 p0.2.2) (PdqPost h0 b N c f cs lt a e d) := by
    rw [S.slices_pdqsortCmpFunc_int__c2_eq]
    cases wb with
    | true =>
      simp only [S.slices_pdqsortCmpFunc_int__c2_S, Bool.not_true, obind]
      show Ev (S.slices_pdqsortCmpFunc_int__K4 W .normal _ _) _
      rw [S.slices_pdqsortCmpFunc_int__c2_n_eq]
      exact cho _ _ _ _ (permIn_refl _ _ _) A
    | false =>
      obtain ⟨⟨v, g⟩, e1, d1, rfl, q1, A1⟩ := break_spec (c := c) A hN hae he (.fn f cs)
      dsimp only at A1
      simp only [S.slices_pdqsortCmpFunc_int__c2_S, Bool.not_false, W_call, e1, obind]
      show Ev (S.slices_pdqsortCmpFunc_int__K4 W .normal _ _) _
      rw [S.slices_pdqsortCmpFunc_int__c2_n_eq]
      exact cho _ _ _ _ q1 A1
  clear rev cho
  obtain ⟨aI, haI⟩ : ∃ x : Int, x = (a : Int) := ⟨_, rfl⟩
  obtain ⟨eI, heI⟩ : ∃ x : Int, x = (e : Int) := ⟨_, rfl⟩
  rw [← haI] at fst w1 ⊢; rw [← heI] at fst w1 ⊢
  simp only [S.slices_pdqsortCmpFunc_int__c0_S, w1, k0, kL]
  exact fst

theorem pdq_all (K : Cmp h0 b N f cs lt) (hlt : SWO lt) (hN : N ≤ 64) : ∀ n, PdqIH h0 b N c f cs lt n
  | 0 => fun a e L d h hn => absurd hn (Nat.not_lt_zero _)
  | n + 1 => by
    intro a e L d h hn hae he A hB
    have ih := pdq_all K hlt hN n
    refine call_ev (af := F.slices_pdqsortCmpFunc_int_) (by kernel_rfl) rfl ?_
    rw [S.slices_pdqsortCmpFunc_int__eq]
    simp only [S.slices_pdqsortCmpFunc_int_]
    refine loop_ev (α := Nat × Nat × Int × Bool × Bool × Array Int) (fun q => S.slices_pdqsortCmpFunc_int__c0_E (.sl b 0 N c) (.int .i64 (q.1 : Int)) (.int .i64 (q.2.1 : Int)) (.int .i64 q.2.2.1) (.fn f cs) (.bool q.2.2.2.1) (.bool q.2.2.2.2.1))
      (fun q h => q.2.1 - q.1 ≤ n ∧ (q.1 ≤ q.2.1 ∧ q.2.1 ≤ e) ∧ Sw h0 b N h q.2.2.2.2.2 ∧ Below lt q.1 q.2.1 q.2.2.2.2.2 ∧ ∀ R, PermIn q.1 q.2.1 q.2.2.2.2.2 R → SortedIn lt q.1 q.2.1 R → PermIn a e d R ∧ SortedIn lt a e R) (fun q _ => q.2.1 - q.1)
      (fun z => z.1 = .ret ∧ z.2.1 = S.slices_pdqsortCmpFunc_int__c0_O ∧ ∃ R, PermIn a e d R ∧ SortedIn lt a e R ∧ Sw h0 b N z.2.2 R) (a, e, L, true, true, d) rfl ⟨Nat.le_of_lt_succ hn, ⟨hae, Nat.le_refl _⟩, A, hB, fun R r1 r2 => ⟨r1, r2⟩⟩ ?_ ?_
    rotate_left
    · rintro ⟨_, _, g⟩ ⟨rfl, rfl, R, r1, r2, A⟩
      show Ev (S.slices_pdqsortCmpFunc_int__K1 W .ret _ _) _
      rw [S.slices_pdqsortCmpFunc_int__c0_r_eq]
      exact Ev.some ⟨R, rfl, r1, r2, A⟩
    clear A hB hn
    rintro ⟨i, j, L, wb, wp, d1⟩ g ⟨hn, ⟨hij, hj⟩, A, hB, hf⟩
    dsimp only at hn hij hj A hB hf
    rw [S.slices_pdqsortCmpFunc_int__c0_eq]
    refine (pdq_round A K hlt hN hn ih hij (Nat.le_trans hj he) hB).mono ?_
    rintro ⟨x, y, g1⟩ (⟨rfl, rfl, R, r1, r2, A1⟩ | ⟨a', e', L', wb', wp', d', rfl, rfl, ⟨m1, m2, m3⟩, m4, A1, B1, hf1⟩)
    · exact .inr ⟨by simp, rfl, rfl, R, (hf R r1 r2).1, (hf R r1 r2).2, A1⟩
    · exact .inl ⟨(a', e', L', wb', wp', d'), rfl, rfl, ⟨Nat.le_trans (Nat.le_of_lt m4) hn, ⟨m2, Nat.le_trans m3 hj⟩, A1, B1, fun R r1 r2 => hf R (hf1 R r1 r2).1 (hf1 R r1 r2).2⟩, m4⟩
end
end Wm
end

section
/- Slices that grow: what is appended, one element at a time. -/
namespace Wm
attribute [local congr] bind_congr1
attribute [local irreducible] wr

/-- The block of a slice. -/
def V.blk : V → List Nat
  | .sl b _ _ _ => [b]
  | _ => []

end Wm
end

section
/- What arguments are, as lists of typed things. -/
namespace Wm

theorem chunks {α : Type} {P : List V → Prop} {enc : α → List V} {Q : α → Prop} {z : Nat} (hP : ∀ c, P c → ∃ y, c = enc y ∧ Q y) :
    ∀ (n : Nat) (cs : List V), cs.length = n * z → (∀ i, i < n → P ((cs.drop (i * z)).take z)) → ∃ ys : List α, cs = (ys.map enc).flatten ∧ ys.length = n ∧ ∀ y ∈ ys, Q y
  | 0, cs, hl, _ => ⟨[], by simpa using hl, rfl, by simp⟩
  | n + 1, cs, hl, h => by
    obtain ⟨y, hy, qy⟩ := hP _ (h 0 (by omega))
    have hl2 : (cs.drop z).length = n * z := by rw [List.length_drop, hl, Nat.add_mul]; omega
    obtain ⟨ys, h1, h2, h3⟩ := chunks hP n (cs.drop z) hl2 (fun i hi => by
      have := h (i + 1) (by omega)
      rw [Nat.add_mul, Nat.one_mul, Nat.add_comm (i * z) z, ← List.drop_drop] at this
      exact this)
    refine ⟨y :: ys, ?_, by simp [h2], fun x hx => ?_⟩
    · rw [List.map_cons, List.flatten_cons, ← h1, ← hy, Nat.zero_mul, List.drop_zero, List.take_append_drop]
    · rcases List.mem_cons.mp hx with rfl | hx
      · exact qy
      · exact h3 x hx

theorem wf_i64 {n : Int} (h : (Go.Lit.int .i64 n).wf = true) : -9223372036854775808 ≤ n ∧ n ≤ 9223372036854775807 := by
  simpa [Go.Lit.wf, Go.IntKind.min, Go.IntKind.max, Go.IntKind.signed, Go.IntKind.bits] using h
end Wm
end

section
/- Events: rows of them, rows of truths. -/
namespace Wm
attribute [local congr] bind_congr1
attribute [local irreducible] wr

structure Evt where
  client : Int
  op : Int
  begun : Int
  point : Int
  ended : Int
  behind : Bool
  kind : Int
  n : Int
  h : Int
  x : Int
  y : Int
  err : Int
  ah : Int
  yes : Bool
def Evt.cs (e : Evt) : List V := [.int .i64 e.client, .int .i64 e.op, .int .i64 e.begun, .int .i64 e.point, .int .i64 e.ended, .bool e.behind, .int .i64 e.kind, .int .i64 e.n, .int .u64 e.h, .int .u64 e.x, .int .u64 e.y, .int .i64 e.err, .int .u64 e.ah, .bool e.yes]
def I64 (n : Int) : Prop := -9223372036854775808 ≤ n ∧ n ≤ 9223372036854775807
structure Evt.i64 (e : Evt) : Prop where
  client : I64 e.client
  op : I64 e.op
  begun : I64 e.begun
  point : I64 e.point
  ended : I64 e.ended
def evtSh : List CSh := [.int .i64, .int .i64, .int .i64, .int .i64, .int .i64, .bool, .int .i64, .int .i64, .int .u64, .int .u64, .int .u64, .int .i64, .int .u64, .bool]

/-- A row of events. -/
def RowE (g : Nat → Option Blk) (x : V) (l : List Evt) : Prop := (x = .nilsl ∧ l = []) ∨ ∃ b c k, x = .sl b 0 l.length c ∧ g b = some (.cells (l.map Evt.cs).flatten k)
theorem evt14 (l : List Evt) : ∀ x ∈ l.map Evt.cs, x.length = 14 := fun x hx => by
  obtain ⟨_, _, rfl⟩ := List.mem_map.mp hx; rfl
theorem RowE.len {g : Nat → Option Blk} {x : V} {l : List Evt} (h : RowE g x l) : lenSl x = some l.length := by
  obtain ⟨rfl, rfl⟩ | ⟨b, c, k, rfl, _⟩ := h <;> rfl
theorem RowE.fr {g g' : H} {L : List Nat} {x : V} {l : List Evt} (h : RowE g.get x l) (ok : g.ok) (F : Fr L g g') (hL : ∀ b ∈ x.blk, b ∉ L) : RowE g'.get x l := by
  obtain h1 | ⟨b, c, k, rfl, hb⟩ := h
  · exact .inl h1
  · exact .inr ⟨b, c, k, rfl, F.get ok hb (hL b (by simp [V.blk]))⟩
theorem RowE.lt {g : H} {x : V} {l : List Evt} (h : RowE g.get x l) (ok : g.ok) : ∀ b ∈ x.blk, b < g.next := by
  obtain ⟨rfl, rfl⟩ | ⟨b, c, k, rfl, hb⟩ := h
  · simp [V.blk]
  · intro c' hc; simp only [V.blk, List.mem_singleton] at hc; subst hc; exact ok.lt hb
theorem RowE.at {g : H} {x : V} {l : List Evt} (h : RowE g.get x l) {i : Nat} {y : Evt} (hy : l[i]? = some y) :
    ∃ b, indexAV 14 x (.int .i64 (i : Int)) = some (.ptr b (i * 14)) ∧ ldNB (g.get b) (i * 14) 14 = some (.agg y.cs) ∧ ldB (g.get b) (i * 14 + 2) = some (.int .i64 y.begun) ∧ ldB (g.get b) (i * 14 + 4) = some (.int .i64 y.ended) ∧ ldB (g.get b) (i * 14 + 1) = some (.int .i64 y.op) ∧ b ∈ x.blk := by
  have hi := lt_of_get hy
  obtain ⟨rfl, rfl⟩ | ⟨b, c, k, rfl, hb⟩ := h
  · simp at hy
  · have hn : (l.map Evt.cs).flatten.length = l.length * 14 := by rw [flat_length (evt14 l), List.length_map]
    have hp := flat_part (evt14 l) i y.cs (by rw [List.getElem?_map, hy]; rfl)
    have at' : ∀ j, j < 14 → (l.map Evt.cs).flatten[i * 14 + j]? = y.cs[j]? := fun j hj => by
      rw [← hp, List.getElem?_take, if_pos hj, List.getElem?_drop]
    refine ⟨b, sl_idx hi, ?_, ?_, ?_, ?_, by simp [V.blk]⟩
    · rw [hb, ldNB_cells, decide_eq_true (by rw [hn]; omega), hp]
    · rw [hb, ldB_cells, at' 2 (by decide)]; rfl
    · rw [hb, ldB_cells, at' 4 (by decide)]; rfl
    · rw [hb, ldB_cells, at' 1 (by decide)]; rfl
theorem rowE_of {g : Nat → Option Blk} {by' : Nat} {v : V} (h : CellOk g (.sl by' evtSh) v) :
    ∃ l, RowE g v l ∧ (∀ y ∈ l, y.i64) ∧ l.length * by' ≤ 140737488351232 ∧ l.length ≤ Go.maxLen := by
  unfold CellOk at h
  rcases h with rfl | ⟨b, n, cs, rfl, ⟨h1, h2⟩, h3, h4, h5⟩
  · exact ⟨[], .inl ⟨rfl, rfl⟩, by simp, by simp, by simp⟩
  · obtain ⟨ws, e1, e2, e3⟩ := chunks (α := Evt) (enc := Evt.cs) (Q := Evt.i64) (P := CellsOk g evtSh) (fun c hc => by
      obtain ⟨_, _, rfl, ⟨y0, rfl, b0⟩, _, _, rfl, ⟨y1, rfl, b1⟩, _, _, rfl, ⟨y2, rfl, b2⟩, _, _, rfl, ⟨y3, rfl, b3⟩, _, _, rfl, ⟨y4, rfl, b4⟩, _, _, rfl, ⟨y5, rfl⟩, _, _, rfl, ⟨y6, rfl, b6⟩, _, _, rfl, ⟨y7, rfl, b7⟩, _, _, rfl, ⟨y8, rfl, b8⟩, _, _, rfl, ⟨y9, rfl, b9⟩, _, _, rfl, ⟨y10, rfl, b10⟩, _, _, rfl, ⟨y11, rfl, b11⟩, _, _, rfl, ⟨y12, rfl, b12⟩, _, _, rfl, ⟨y13, rfl⟩, rfl⟩ := hc
      exact ⟨⟨y0, y1, y2, y3, y4, y5, y6, y7, y8, y9, y10, y11, y12, y13⟩, rfl, ⟨wf_i64 b0, wf_i64 b1, wf_i64 b2, wf_i64 b3, wf_i64 b4⟩⟩) n cs h4 h5
    subst e2
    exact ⟨ws, .inr ⟨b, _, .ro, rfl, by rw [h3, e1]⟩, e3, h2, h1⟩

/-! ### Ahead -/
theorem ahead_spec (a b : Evt) (h : H) : C 183 [.agg a.cs, .agg b.cs] h = some (.bool (decide (a.ended < b.begun)), h) := by
  refine call_closed (af := F.hist_Ahead) (by kernel_rfl) rfl (by rfl) (by rfl) h ?_
  unfold Evt.cs
  rw [S.hist_Ahead_eq]
  have h0 : H.empty.next = 0 := rfl
  simp only [S.hist_Ahead, Option.bind_some, ld1_get', get_new', ldB_cells, H.next_new, List.getElem?_cons_zero, List.getElem?_cons_succ, Nat.zero_add, V.one, asI_int, if_true, if_false, reduceCtorEq, h0]
  exact Ev.some rfl
theorem refAhead_spec (a b : Evt) (h : H) : C 184 [.agg a.cs, .agg b.cs] h = some (.bool (decide (a.ended < b.begun)), h) := by
  refine call_closed (af := F.withyref18_Ahead) (by kernel_rfl) rfl (by rfl) (by rfl) h ?_
  unfold Evt.cs
  rw [S.withyref18_Ahead_eq]
  have h0 : H.empty.next = 0 := rfl
  simp only [S.withyref18_Ahead, Option.bind_some, ld1_get', get_new', ldB_cells, H.next_new, List.getElem?_cons_zero, List.getElem?_cons_succ, Nat.zero_add, V.one, asI_int, if_true, if_false, reduceCtorEq, h0]
  exact Ev.some rfl

end Wm
end

section
/- Orders that respect a history: by the code, and by the document. -/
namespace Wm
attribute [local congr] bind_congr1
attribute [local irreducible] wr

/-! ### What it is -/
def AtO (l : List Evt) (o : List Int) (a : Nat) (y : Evt) : Prop := ∃ i : Nat, o[a]? = some (i : Int) ∧ l[i]? = some y
end Wm
end

section
/- Maps with numbers as keys. -/
namespace Wm

def KV (kd : Go.IntKind) (l : List (Int × V)) : List (V × V) := l.map fun p => (.int kd p.1, p.2)
def kfind : List (Int × V) → Int → Option V
  | [], _ => none
  | (a, v) :: l, k => if k = a then some v else kfind l k
def kset : List (Int × V) → Int → V → List (Int × V)
  | [], k, x => [(k, x)]
  | (a, v) :: l, k, x => if k = a then (k, x) :: l else (a, v) :: kset l k x

theorem findKey_KV (kd : Go.IntKind) (k : Int) : ∀ l : List (Int × V), findKey .int (.int kd k) (KV kd l) = some (kfind l k)
  | [] => rfl
  | (a, v) :: l => by
    simp only [KV, List.map_cons, findKey, eqCell, decide_true, kfind]
    by_cases h : k = a
    · simp only [h, decide_true, if_true]
    · simp only [h, decide_false, if_false]
      exact findKey_KV kd k l
theorem setKey_KV (kd : Go.IntKind) (k : Int) (x : V) : ∀ l : List (Int × V), setKey .int (.int kd k) x (KV kd l) = some (KV kd (kset l k x))
  | [] => rfl
  | (a, v) :: l => by
    have ih := setKey_KV kd k x l
    unfold KV at ih
    simp only [KV, List.map_cons, setKey, eqCell, decide_true, kset]
    by_cases h : k = a
    · simp only [h, decide_true, if_true, List.map_cons]
    · simp only [h, decide_false, if_false, ih, List.map_cons]
theorem kfind_kset (k : Int) (x : V) (j : Int) : ∀ l : List (Int × V), kfind (kset l k x) j = if j = k then some x else kfind l j
  | [] => by simp only [kset, kfind]
  | (a, v) :: l => by
    have ih := kfind_kset k x j l
    by_cases h : k = a
    · subst h
      simp only [kset, if_true, kfind]
      by_cases hj : j = k
      · simp only [hj, if_true]
      · simp only [hj, if_false]
    · simp only [kset, h, if_false, kfind]
      by_cases hj : j = a
      · subst hj
        have hk : ¬ j = k := fun e => h e.symm
        simp only [if_true, hk, if_false]
      · simp only [hj, if_false, ih]

theorem look_KV {h : H} {mb : Nat} {kd : Go.IntKind} {l : List (Int × V)} (hm : h.get mb = some (.map (KV kd l))) (z : V) (k : Int) :
    h.look .int z true (.map mb) (.int kd k) = some (match kfind l k with | some v => .tup [v, .bool true] | none => .tup [z, .bool false]) := by
  simp only [H.look, isKey, H.entries, hm, findKey_KV]
  cases kfind l k <;> rfl
theorem mapSet_KV {h : H} {mb : Nat} {kd : Go.IntKind} {l : List (Int × V)} (hm : h.get mb = some (.map (KV kd l))) (k : Int) (x : V) :
    h.mapSet .int (.map mb) (.int kd k) x = some (h.put mb (some (.map (KV kd (kset l k x))))) := by
  simp only [H.mapSet, isKey, hm, setKey_KV]
end Wm
end

section
/- hist.Right: whether a history is right. -/
namespace Wm
attribute [local congr] bind_congr1
attribute [local irreducible] wr
open Go.Sort (swp PermIn SortedIn Below SWO)

/-! ### cmp.Compare -/
def cmp3 (a b : Int) : Int := if a < b then -1 else if b < a then 1 else 0
theorem nan_spec (a : Int) (h : H) : C 407 [.int .i64 a] h = some (.bool false, h) := by
  refine call_closed (af := F.cmp_isNaN_int_) (by kernel_rfl) rfl (by rfl) (by rfl) h ?_
  rw [S.cmp_isNaN_int__eq]
  simp only [S.cmp_isNaN_int_, decide_true, Bool.not_true]
  exact Ev.some rfl
theorem cmp_spec (a b : Int) (h : H) : C 334 [.int .i64 a, .int .i64 b] h = some (.int .i64 (cmp3 a b), h) := by
  refine call_closed (af := F.cmp_Compare_int_) (by kernel_rfl) rfl (by rfl) (by rfl) h ?_
  rw [S.cmp_Compare_int__eq]
  unfold cmp3
  simp only [S.cmp_Compare_int_, W_call, nan_spec, obind, asB_bool]
  by_cases h1 : a < b
  · simp only [h1, decide_true, if_true]
    exact Ev.some rfl
  · by_cases h2 : b < a
    · simp only [h1, h2, decide_true, decide_false, if_true, if_false]
      exact Ev.some rfl
    · simp only [h1, h2, decide_false, if_false]
      exact Ev.some rfl
theorem cmp3_neg (a b : Int) : decide (cmp3 a b < 0) = decide (a < b) := by
  unfold cmp3
  by_cases h1 : a < b
  · simp [h1]
  · by_cases h2 : b < a
    · simp [h1, h2]
    · simp [h1, h2]

section
variable {h0 h : H} {b N f : Nat} {cs : List V} {lt : Int → Int → Bool} {d : Array Int} {c : Cap}

/-! ### SortFunc -/
theorem sortFunc_spec (A : Sw h0 b N h d) (K : Cmp h0 b N f cs lt) (hlt : SWO lt) (hN : N ≤ 64) :
    Ev (C 332 [.sl b 0 N c, .fn f cs] h) fun z => ∃ R, z.1 = .tup [] ∧ PermIn 0 N d R ∧ SortedIn lt 0 N R ∧ Sw h0 b N z.2 R := by
  refine call_ev (af := F.slices_SortFunc___int_int_) (by kernel_rfl) rfl ?_
  rw [S.slices_SortFunc___int_int__eq]
  have w1 : wr .u64 ((N : Nat) : Int) = (N : Int) := brk_u64 hN
  have e1 := len_eq (n := N) (by omega) h
  obtain ⟨⟨v, g⟩, e2, R, rfl, r1, r2, A2⟩ := pdq_all (c := c) K hlt hN (N + 1) 0 N (Go.Sort.bitsLen N : Int) d h (by omega) (Nat.zero_le _) (Nat.le_refl _) A (.inl rfl)
  have e2 : C 405 [.sl b 0 N c, .int .i64 0, .int .i64 (N : Int), .int .i64 (Go.Sort.bitsLen N : Int), .fn f cs] h = some (.tup [], g) := e2
  simp only [S.slices_SortFunc___int_int_, lenSl_sl, obind, w1, W_call, e1, e2]
  exact Ev.some ⟨R, rfl, r1, r2, A2⟩
end

/-! ### The numbers of events, in order -/
def idA (n : Nat) : Array Int := ((List.range n).map (fun i : Nat => (i : Int))).toArray
theorem idA_size (n : Nat) : (idA n).size = n := by simp [idA]
theorem idA_get {n i : Nat} (hi : i < n) : (idA n)[i]! = (i : Int) := by
  rw [getElem!_pos (idA n) i (by rw [idA_size]; exact hi)]
  simp [idA]

/-- A list of all numbers below n, in some order. -/
structure AllNums (n : Nat) (o : List Int) : Prop where
  len : o.length = n
  perm : o.Perm ((List.range n).map (fun i : Nat => (i : Int)))
theorem AllNums.at {n : Nat} {o : List Int} (P : AllNums n o) {k : Nat} (hk : k < n) : ∃ i : Nat, i < n ∧ o[k]? = some (i : Int) := by
  have hm : o[k]'(by rw [P.len]; exact hk) ∈ o := List.getElem_mem _
  have := P.perm.mem_iff.mp hm
  rw [List.mem_map] at this
  obtain ⟨i, hi, he⟩ := this
  exact ⟨i, List.mem_range.mp hi, by rw [List.getElem?_eq_getElem (by rw [P.len]; exact hk), he]⟩
theorem AllNums.has {n : Nat} {o : List Int} (P : AllNums n o) {i : Nat} (hi : i < n) : ∃ k, k < n ∧ o[k]? = some (i : Int) := by
  have hm : (i : Int) ∈ o := P.perm.mem_iff.mpr (List.mem_map.mpr ⟨i, List.mem_range.mpr hi, rfl⟩)
  obtain ⟨k, hk, he⟩ := List.getElem_of_mem hm
  exact ⟨k, P.len ▸ hk, by rw [List.getElem?_eq_getElem hk, he]⟩
theorem AllNums.inj {n : Nat} {o : List Int} (P : AllNums n o) {a b : Nat} {v : Int} (ha : o[a]? = some v) (hb : o[b]? = some v) : a = b := by
  have nd : o.Nodup := by
    rw [P.perm.nodup_iff]
    exact List.pairwise_map.mpr (List.nodup_range.imp fun h e => h (Int.ofNat.inj e))
  have h1 := lt_of_get ha
  have h2 := lt_of_get hb
  rw [List.getElem?_eq_getElem h1] at ha
  rw [List.getElem?_eq_getElem h2] at hb
  have nd := List.pairwise_iff_getElem.mp nd
  have he := (Option.some.inj ha).trans (Option.some.inj hb).symm
  rcases Nat.lt_trichotomy a b with q | q | q
  · exact absurd he (nd a b h1 h2 q)
  · exact q
  · exact absurd he.symm (nd b a h2 h1 q)
theorem AllNums.of {n : Nat} {d : Array Int} (hd : d.size = n) (hp : PermIn 0 n (idA n) d) : AllNums n d.toList := by
  refine ⟨by rw [Array.length_toList]; exact hd, ?_⟩
  have h := hp.2.2
  have e1 : (d.extract 0 n) = d := by rw [← hd]; exact Array.extract_size
  have e2 : (idA n).extract 0 n = idA n := by
    have := idA_size n
    conv => lhs; rw [← this]
    rw [this]
    exact (congrArg (fun k => (idA n).extract 0 k) this.symm).trans Array.extract_size
  rw [e1, e2] at h
  simpa [idA] using h
theorem get_toList {d : Array Int} {k : Nat} (hk : k < d.size) : d.toList[k]? = some d[k]! := by
  rw [Array.getElem?_toList, Array.getElem?_eq_getElem hk, getElem!_pos d k hk]

/-! ### What a right history is -/
structure Evt.bd (x : Evt) (clients : Int) : Prop where
  c0 : 0 ≤ x.client
  c1 : x.client < clients
  p0 : x.begun ≤ x.point
  p1 : x.point ≤ x.ended
def RightH (l : List Evt) (clients : Int) : Prop :=
  (∀ (i : Nat) (x : Evt), l[i]? = some x → x.bd clients) ∧
  ∀ (i k : Nat) (x y : Evt), l[i]? = some x → l[k]? = some y → k ≠ i → x.client = y.client → ¬ (x.op = y.op ∨ x.op < y.op ∧ ¬ x.ended < y.begun)

/-- So far all is right. -/
def RightTo (l : List Evt) (clients : Int) (o : List Int) (k : Nat) : Prop :=
  (∀ a y, a < k → AtO l o a y → y.bd clients) ∧
  ∀ a b x y, a < b → b < k → AtO l o a x → AtO l o b y → x.client = y.client → x.op < y.op ∧ x.ended < y.begun
def SortedO (l : List Evt) (o : List Int) : Prop := ∀ a b x y, a < b → AtO l o a x → AtO l o b y → ¬ y.op < x.op

theorem AtO.same {l : List Evt} {o : List Int} {a : Nat} {x y : Evt} (h1 : AtO l o a x) (h2 : AtO l o a y) : x = y := by
  obtain ⟨i, p1, p2⟩ := h1
  obtain ⟨j, q1, q2⟩ := h2
  rw [p1] at q1
  have := Int.ofNat.inj (Option.some.inj q1)
  subst this
  rw [p2] at q2; exact Option.some.inj q2
theorem rightTo_iff {l : List Evt} {clients : Int} {o : List Int} (P : AllNums l.length o) (hs : SortedO l o) : RightTo l clients o l.length ↔ RightH l clients := by
  constructor
  · rintro ⟨h1, h2⟩
    refine ⟨fun i x hx => ?_, fun i k x y hx hy hki hc hbad => ?_⟩
    · obtain ⟨a, ha, he⟩ := P.has (lt_of_get hx)
      exact h1 a x ha ⟨i, he, hx⟩
    · obtain ⟨a, ha, hea⟩ := P.has (lt_of_get hx)
      obtain ⟨b, hb, heb⟩ := P.has (lt_of_get hy)
      rcases Nat.lt_trichotomy a b with q | q | q
      · obtain ⟨z1, z2⟩ := h2 a b x y q hb ⟨i, hea, hx⟩ ⟨k, heb, hy⟩ hc
        rcases hbad with z | ⟨_, z⟩
        · omega
        · exact z z2
      · subst q
        rw [hea] at heb
        exact hki (Int.ofNat.inj (Option.some.inj heb)).symm
      · obtain ⟨z1, z2⟩ := h2 b a y x q ha ⟨k, heb, hy⟩ ⟨i, hea, hx⟩ hc.symm
        rcases hbad with z | ⟨z, _⟩ <;> omega
  · rintro ⟨h1, h2⟩
    refine ⟨fun a y ha ⟨i, _, hi⟩ => h1 i y hi, fun a b x y hab hb hx hy hc => ?_⟩
    have hss := hs a b x y hab hx hy
    obtain ⟨i, p1, p2⟩ := hx
    obtain ⟨k, q1, q2⟩ := hy
    have hne : k ≠ i := fun e => by
      subst e
      exact absurd (P.inj p1 q1) (by omega)
    have := h2 i k x y p2 q2 hne hc
    have hop : ¬ x.op = y.op := fun z => this (.inl z)
    have hlt : x.op < y.op := by omega
    refine ⟨hlt, ?_⟩
    by_cases q : x.ended < y.begun
    · exact q
    · exact absurd (.inr ⟨hlt, q⟩) this

/-- The last event of each client. -/
def LastM (l : List Evt) (o : List Int) (k : Nat) (m : List (Int × V)) : Prop :=
  ∀ c : Int, match kfind m c with
    | none => ∀ a y, a < k → AtO l o a y → y.client ≠ c
    | some v => ∃ a y, a < k ∧ AtO l o a y ∧ y.client = c ∧ v = .agg y.cs ∧ ∀ a' y', a' < k → AtO l o a' y' → y'.client = c → a' ≤ a
theorem LastM.zero (l : List Evt) (o : List Int) : LastM l o 0 [] := fun _ _ _ ha => absurd ha (Nat.not_lt_zero _)
theorem LastM.step {l : List Evt} {o : List Int} {k : Nat} {m : List (Int × V)} (M : LastM l o k m) {x : Evt} (hx : AtO l o k x) : LastM l o (k + 1) (kset m x.client (.agg x.cs)) := by
  intro c
  rw [kfind_kset]
  by_cases hc : c = x.client
  · rw [if_pos hc]
    exact ⟨k, x, Nat.lt_succ_self k, hx, hc.symm, rfl, fun a' _ ha' _ _ => Nat.le_of_lt_succ ha'⟩
  · rw [if_neg hc]
    have := M c
    cases hf : kfind m c with
    | none =>
      rw [hf] at this
      intro a y ha hy
      rcases Nat.lt_succ_iff_lt_or_eq.mp ha with q | q
      · exact this a y q hy
      · subst q; rw [AtO.same hy hx]; exact fun e => hc e.symm
    | some v =>
      rw [hf] at this
      obtain ⟨a, y, h1, h2, h3, h4, h5⟩ := this
      refine ⟨a, y, Nat.lt_succ_of_lt h1, h2, h3, h4, fun a' y' ha' hy' hc' => ?_⟩
      rcases Nat.lt_succ_iff_lt_or_eq.mp ha' with q | q
      · exact h5 a' y' q hy' hc'
      · subst q; rw [AtO.same hy' hx] at hc'; exact absurd hc'.symm hc
theorem RightTo.step {l : List Evt} {clients : Int} {o : List Int} {k : Nat} (G : RightTo l clients o k) {x : Evt} (hx : AtO l o k x) (hb : x.bd clients) (hl : ∀ a y, a < k → AtO l o a y → y.client = x.client → (∀ a' y', a' < k → AtO l o a' y' → y'.client = x.client → a' ≤ a) → y.op < x.op ∧ y.ended < x.begun) (hlast : (∃ a y, a < k ∧ AtO l o a y ∧ y.client = x.client) → ∃ a y, a < k ∧ AtO l o a y ∧ y.client = x.client ∧ ∀ a' y', a' < k → AtO l o a' y' → y'.client = x.client → a' ≤ a) : RightTo l clients o (k + 1) := by
  refine ⟨fun a y ha hy => ?_, fun a b u v hab hbk hu hv hc => ?_⟩
  · rcases Nat.lt_succ_iff_lt_or_eq.mp ha with q | q
    · exact G.1 a y q hy
    · subst q; rw [AtO.same hy hx]; exact hb
  · rcases Nat.lt_succ_iff_lt_or_eq.mp hbk with q | q
    · exact G.2 a b u v hab q hu hv hc
    · subst q
      have := AtO.same hv hx
      subst this
      obtain ⟨a2, y2, z1, z2, z3, z4⟩ := hlast ⟨a, u, hab, hu, hc⟩
      have z5 := hl a2 y2 z1 z2 z3 z4
      have z6 := z4 a u hab hu hc
      rcases Nat.lt_or_eq_of_le z6 with q | q
      · have w1 := G.2 a a2 u y2 q z1 hu z2 (hc.trans z3.symm)
        have w2 := G.1 a2 y2 z1 z2
        have w3 := w2.p0
        have w4 := w2.p1
        exact ⟨by omega, by omega⟩
      · subst q
        rw [AtO.same hu z2]; exact z5
end Wm
end

section
/- hist.Right, walked. -/
namespace Wm
attribute [local congr] bind_congr1
attribute [local irreducible] wr
open Go.Sort (swp PermIn SortedIn Below SWO)

theorem st_agg {g : H} {q n : Nat} {z vs : List V} (hq : g.get q = some (.cells z .rw)) (hz : z.length = n) (hv : vs.length = n) (h1 : vs.all V.one = true) : g.st n (.ptr q 0) (.agg vs) = some (g.put q (some (.cells vs .rw))) := by
  have e1 : Nat.beq (V.cells (.agg vs)).length n = true := by rw [cells_agg, hv]; exact Nat.beq_refl n
  rw [st_get', e1]
  simp only [cells_agg, hq, stB_cells, h1, hv, hz, Nat.zero_add, Nat.le_refl, decide_true, Bool.not_true, Bool.or_false, reduceCtorEq, decide_false, Option.map_some, splice, List.take_zero, List.nil_append]
  rw [List.drop_of_length_le (by rw [hz]; exact Nat.le_refl _), List.append_nil]
theorem ld_agg {g : H} {q n : Nat} {vs : List V} {k : Bk} (hq : g.get q = some (.cells vs k)) (hv : vs.length = n) : g.ldN n (.ptr q 0) = some (.agg vs) := by
  rw [ldN_get hq (by rw [hv]; omega), List.drop_zero, ← hv, List.take_length]

def opOf (l : List Evt) (i : Int) : Int := (l[i.toNat]?.map Evt.op).getD 0
def ltE (l : List Evt) (i j : Int) : Bool := decide (opOf l i < opOf l j)
theorem ltE_swo (l : List Evt) : SWO (ltE l) where
  irrefl x := decide_eq_false (Int.lt_irrefl _)
  trans x y z h1 h2 := decide_eq_true (Int.lt_trans (of_decide_eq_true h1) (of_decide_eq_true h2))
  ntrans x y z h1 h2 := decide_eq_false (by have := of_decide_eq_false h1; have := of_decide_eq_false h2; omega)

theorem right1_spec {g : H} {bx : Nat} {x0 : V} {l : List Evt} {k : Bk} (hb : g.get bx = some (.cells [x0] k)) (h1 : x0.one = true) (hx : RowE g.get x0 l) {i j : Nat} {x y : Evt} (hi : l[i]? = some x) (hj : l[j]? = some y) :
    C 333 [.int .i64 (i : Int), .int .i64 (j : Int), .ptr bx 0] g = some (.int .i64 (cmp3 x.op y.op), g) := by
  have e : Ev (C 333 [.int .i64 (i : Int), .int .i64 (j : Int), .ptr bx 0] g) fun r => r = (.int .i64 (cmp3 x.op y.op), g) := by
    refine call_ev (af := F.hist_Right_1) (by kernel_rfl) rfl ?_
    rw [S.hist_Right_1_eq]
    have l0 : g.ld1 (.ptr bx 0) = some x0 := ld1_get hb rfl h1
    obtain ⟨eb, i1, _, _, _, i2, _⟩ := hx.at hi
    obtain ⟨fb, j1, _, _, _, j2, _⟩ := hx.at hj
    simp only [S.hist_Right_1, l0, obind, i1, j1, ptrAt_ptr, ld1_get', i2, j2, W_call, cmp_spec]
    exact Ev.some rfl
  obtain ⟨r, e, rfl⟩ := e
  exact e
theorem right_cmp {h0 : H} {b bx : Nat} {x0 : V} {l : List Evt} {k : Bk} (ok : h0.ok) (hb : h0.get bx = some (.cells [x0] k)) (h1 : x0.one = true) (hx : RowE h0.get x0 l) (n1 : bx ≠ b) (n2 : ∀ q ∈ x0.blk, q ≠ b) : Cmp h0 b l.length 333 [.ptr bx 0] (ltE l) := by
  intro h F i j i0 i1 j0 j1
  obtain ⟨i', rfl⟩ : ∃ n : Nat, i = (n : Int) := ⟨i.toNat, by omega⟩
  obtain ⟨j', rfl⟩ : ∃ n : Nat, j = (n : Int) := ⟨j.toNat, by omega⟩
  obtain ⟨x, hxi⟩ : ∃ x, l[i']? = some x := ⟨_, List.getElem?_eq_getElem (by omega)⟩
  obtain ⟨y, hyj⟩ : ∃ x, l[j']? = some x := ⟨_, List.getElem?_eq_getElem (by omega)⟩
  refine ⟨_, h, right1_spec (F.get ok hb (by simpa using n1)) h1 (hx.fr ok F (fun q hq => by simpa using n2 q hq)) hxi hyj, ?_, Fr.refl F.ok⟩
  rw [cmp3_neg]
  unfold ltE opOf
  rw [Int.toNat_natCast, Int.toNat_natCast, hxi, hyj]; rfl

/-! ### The loop that fills -/
def fillL (n k : Nat) : List V := (List.range n).map fun i => .int .i64 (if i < k then (i : Int) else 0)
theorem fillL_len (n k : Nat) : (fillL n k).length = n := by unfold fillL; rw [List.length_map, List.length_range]
theorem fillL_get {n k i : Nat} (hi : i < n) : (fillL n k)[i]? = some (.int .i64 (if i < k then (i : Int) else 0)) := by
  unfold fillL; rw [List.getElem?_map, List.getElem?_range hi]; rfl
theorem fillL_set {n k : Nat} (hk : k < n) : (fillL n k).set k (.int .i64 (k : Int)) = fillL n (k + 1) := by
  apply List.ext_getElem?
  intro i
  by_cases hi : i < n
  · rw [fillL_get hi]
    by_cases hik : k = i
    · subst hik
      rw [List.getElem?_set_self (by rw [fillL_len]; exact hk), if_pos (Nat.lt_succ_self k)]
    · rw [List.getElem?_set_ne hik, fillL_get hi]
      by_cases h1 : i < k
      · rw [if_pos h1, if_pos (Nat.lt_succ_of_lt h1)]
      · rw [if_neg h1, if_neg (by omega)]
  · rw [List.getElem?_eq_none (by rw [List.length_set, fillL_len]; omega), List.getElem?_eq_none (by rw [fillL_len]; omega)]
theorem fillL_all (n : Nat) : fillL n n = ints (idA n) := by
  unfold fillL ints idA
  rw [List.map_map]
  apply List.map_congr_left
  intro i hi
  rw [if_pos (List.mem_range.mp hi)]; rfl
theorem repl_zero (n : Nat) : repl [V.int .i64 0] n = fillL n 0 := by
  apply List.ext_getElem?
  intro i
  have hl : ∀ n, (repl [V.int .i64 0] n) = List.replicate n (V.int .i64 0) := fun n => by
    induction n with
    | zero => rfl
    | succ n ih => simp only [repl, ih, List.replicate_succ, List.cons_append, List.nil_append]
  rw [hl]
  by_cases hi : i < n
  · rw [fillL_get hi, List.getElem?_replicate, if_pos hi]; rfl
  · rw [List.getElem?_eq_none (by rw [List.length_replicate]; omega), List.getElem?_eq_none (by rw [fillL_len]; omega)]
theorem mkInts {h : H} {n : Nat} (hn : n ≤ 1000000) : h.mkSl 1 8 [(.int .i64 0)] (n : Int) (n : Int) = some (.sl h.next 0 n (.ex n), h.new (.cells (fillL n 0) .rw)) := by
  have h0 : (0 : Int) ≤ (n : Int) := Int.natCast_nonneg n
  have h1 : (n : Int) * ((8 : Nat) : Int) ≤ 140737488355328 := by omega
  have h2 : (n : Int) ≤ 9223372036854775807 := by omega
  rw [mkSl_ok (e := 1) (z := [.int .i64 0]) h0 (Int.le_refl _) h1 h2 rfl (by decide), Int.toNat_natCast, repl_zero]

theorem hr_k {k : Nat} (h : k ≤ 9000) : wr .i64 ((k : Int) + 1) = ((k + 1 : Nat) : Int) := by rw [wr64 (by omega) (by omega)]; rfl

/-- What stands where, behind the sort. -/
structure RtSt (h g : H) (x0 : V) (l : List Evt) (bx b mb : Nat) (d : Array Int) (m : List (Int × V)) : Prop where
  fr : Fr [] h g
  box : g.get bx = some (.cells [x0] .rw)
  arr : g.get b = some (.cells (ints d) .rw)
  map : g.get mb = some (.map (KV .i64 m))
  nmb : h.next ≤ mb
  n1 : mb ≠ bx
  n2 : mb ≠ b
theorem RtSt.fr' {h g g' : H} {x0 : V} {l : List Evt} {bx b mb : Nat} {d : Array Int} {m : List (Int × V)} (Z : RtSt h g x0 l bx b mb d m) (F : Fr [] g g') : RtSt h g' x0 l bx b mb d m :=
  ⟨Z.fr.trans F (by simp), F.get Z.fr.ok Z.box (by simp), F.get Z.fr.ok Z.arr (by simp), F.get Z.fr.ok Z.map (by simp), Z.nmb, Z.n1, Z.n2⟩
theorem RtSt.set {h g : H} {x0 : V} {l : List Evt} {bx b mb : Nat} {d : Array Int} {m : List (Int × V)} (Z : RtSt h g x0 l bx b mb d m) (m' : List (Int × V)) : RtSt h (g.put mb (some (.map (KV .i64 m')))) x0 l bx b mb d m' :=
  ⟨Z.fr.put (.inr Z.nmb) (Z.fr.ok.lt Z.map) _, by rw [get_put_ne (Ne.symm Z.n1)]; exact Z.box, by rw [get_put_ne (Ne.symm Z.n2)]; exact Z.arr, get_put_self _ _ _, Z.nmb, Z.n1, Z.n2⟩

def zE : List V := [(.int .i64 0), (.int .i64 0), (.int .i64 0), (.int .i64 0), (.int .i64 0), (.bool false), (.int .i64 0), (.int .i64 0), (.int .u64 0), (.int .u64 0), (.int .u64 0), (.int .i64 0), (.int .u64 0), (.bool false)]

/-- A new block that gets its cells at once. -/
theorem new_st {g : H} (ok : g.ok) {vs : List V} (hv : vs.length = 14) (h1 : vs.all V.one = true) : ∃ g', (g.new (.cells zE .rw)).st 14 (.ptr g.next 0) (.agg vs) = some g' ∧ Fr [] g g' ∧ g'.get g.next = some (.cells vs .rw) ∧ g'.next = g.next + 1 :=
  ⟨_, st_agg (z := zE) (get_new_self _ _) rfl hv h1, ((Fr.refl ok).new _).put (.inr (Nat.le_refl _)) (by rw [H.next_new]; exact Nat.lt_succ_self _) _, get_put_self _ _ _, by rw [H.next_put, H.next_new]⟩

theorem evt_one (x : Evt) : x.cs.all V.one = true := rfl

/-- A round. -/
theorem right_step {h : H} (ok : h.ok) {x0 : V} {l : List Evt} (hx : RowE h.get x0 l) (h1 : x0.one = true) (hl : l.length ≤ 60) {bx b mb : Nat} {d : Array Int} {m : List (Int × V)} {g : H} (Z : RtSt h g x0 l bx b mb d m) (hd : d.size = l.length) (P : AllNums l.length d.toList) (hs : SortedO l d.toList)
    {clients : Int} {k : Nat} (hk : k < l.length) (G : RightTo l clients d.toList k) (M : LastM l d.toList k m) {c : Cap} :
    Ev (S.hist_Right_c3_S W clients (.ptr bx 0) (.map mb) (.sl b 0 l.length c) (l.length : Nat) (k : Nat) g) fun r =>
      (r.1 = .ret ∧ r.2.1 = S.hist_Right_c3_O (.bool false) ∧ Fr [] h r.2.2 ∧ ¬ RightTo l clients d.toList (k + 1)) ∨
      ∃ m', r.1 = .normal ∧ r.2.1 = S.hist_Right_c3_E (.int .i64 clients) (.ptr bx 0) (.map mb) (.sl b 0 l.length c) (.int .i64 (l.length : Nat)) (.int .i64 (k + 1 : Nat)) ∧ RtSt h r.2.2 x0 l bx b mb d m' ∧ RightTo l clients d.toList (k + 1) ∧ LastM l d.toList (k + 1) m' := by
  have hdk : decide ((k : Int) < (l.length : Int)) = true := decide_eq_true (by omega)
  have wk := hr_k (k := k) (by omega)
  obtain ⟨i, hi, hoi⟩ := P.at hk
  obtain ⟨x, hxi⟩ : ∃ x, l[i]? = some x := ⟨_, List.getElem?_eq_getElem hi⟩
  have hat : AtO l d.toList k x := ⟨i, hoi, hxi⟩
  have hdi : d[k]! = (i : Int) := by
    rw [get_toList (by rw [hd]; exact hk)] at hoi; exact Option.some.inj hoi
  have i0 := sl_idx1 (b := b) (c := c) hk
  have l0 : ldB (g.get b) k = some (.int .i64 (i : Int)) := by
    rw [Z.arr, ldB_cells, ints_get (by rw [hd]; exact hk), hdi]; rfl
  have l1 : g.ld1 (.ptr bx 0) = some x0 := ld1_get Z.box rfl h1
  obtain ⟨eb, i1, l2, _⟩ := (hx.fr ok Z.fr (by simp)).at hxi
  obtain ⟨g6, s6, F6, c6, n6⟩ := new_st Z.fr.ok (vs := x.cs) rfl (evt_one x)
  have Z6 := Z.fr' F6
  have bad : ∀ {g' : H}, Fr [] h g' → ¬ RightTo l clients d.toList (k + 1) → Ev (some (AX.ret, S.hist_Right_c3_O (.bool false), g')) fun r =>
      (r.1 = .ret ∧ r.2.1 = S.hist_Right_c3_O (.bool false) ∧ Fr [] h r.2.2 ∧ ¬ RightTo l clients d.toList (k + 1)) ∨
      ∃ m', r.1 = .normal ∧ r.2.1 = S.hist_Right_c3_E (.int .i64 clients) (.ptr bx 0) (.map mb) (.sl b 0 l.length c) (.int .i64 (l.length : Nat)) (.int .i64 (k + 1 : Nat)) ∧ RtSt h r.2.2 x0 l bx b mb d m' ∧ RightTo l clients d.toList (k + 1) ∧ LastM l d.toList (k + 1) m' :=
    fun F hb => Ev.some (.inl ⟨rfl, rfl, F, hb⟩)
  have s6' : (g.new (.cells [(.int .i64 0), (.int .i64 0), (.int .i64 0), (.int .i64 0), (.int .i64 0), (.bool false), (.int .i64 0), (.int .i64 0), (.int .u64 0), (.int .u64 0), (.int .u64 0), (.int .i64 0), (.int .u64 0), (.bool false)] .rw)).st 14 (.ptr g.next 0) (.agg x.cs) = some g6 := s6
  have q0 : g6.ld1 (.ptr g.next 0) = some (.int .i64 x.client) := ld1_get c6 rfl rfl
  have q1 : g6.ld1 (.ptr g.next 1) = some (.int .i64 x.op) := ld1_get c6 rfl rfl
  have q2 : g6.ld1 (.ptr g.next 2) = some (.int .i64 x.begun) := ld1_get c6 rfl rfl
  have q3 : g6.ld1 (.ptr g.next 3) = some (.int .i64 x.point) := ld1_get c6 rfl rfl
  have q4 : g6.ld1 (.ptr g.next 4) = some (.int .i64 x.ended) := ld1_get c6 rfl rfl
  have l0' : g.ld1 (.ptr b k) = some (.int .i64 (i : Int)) := by rw [ld1_get']; exact l0
  have l2' : g.ldN 14 (.ptr eb (i * 14)) = some (.agg x.cs) := by rw [ldN_get']; exact l2
  simp only [S.hist_Right_c3_S, hdk, i0, obind, l0', l1, i1, l2', s6', q0, q2, q3, q4, asI_int]
  by_cases b1 : x.client < 0
  · simp only [decide_eq_true b1]
    exact bad Z6.fr fun G => by have := (G.1 k x (Nat.lt_succ_self k) hat).c0; omega
  simp only [decide_eq_false b1]
  by_cases b2 : clients ≤ x.client
  · simp only [decide_eq_true b2]
    exact bad Z6.fr fun G => by have := (G.1 k x (Nat.lt_succ_self k) hat).c1; omega
  simp only [decide_eq_false b2]
  by_cases b3 : x.point < x.begun
  · simp only [decide_eq_true b3]
    exact bad Z6.fr fun G => by have := (G.1 k x (Nat.lt_succ_self k) hat).p0; omega
  simp only [decide_eq_false b3]
  by_cases b4 : x.ended < x.point
  · simp only [decide_eq_true b4]
    exact bad Z6.fr fun G => by have := (G.1 k x (Nat.lt_succ_self k) hat).p1; omega
  simp only [decide_eq_false b4]
  have bd : x.bd clients := ⟨by omega, by omega, by omega, by omega⟩
  have lk := look_KV Z6.map (.agg [(.int .i64 0), (.int .i64 0), (.int .i64 0), (.int .i64 0), (.int .i64 0), (.bool false), (.int .i64 0), (.int .i64 0), (.int .u64 0), (.int .u64 0), (.int .u64 0), (.int .i64 0), (.int .u64 0), (.bool false)]) x.client
  have hm := M x.client
  cases hf : kfind m x.client with
  | none =>
    rw [hf] at hm lk
    dsimp only at lk
    obtain ⟨g7, s7, F7, c7, n7⟩ := new_st Z6.fr.ok (vs := zE) rfl rfl
    have s7' : (g6.new (.cells [(.int .i64 0), (.int .i64 0), (.int .i64 0), (.int .i64 0), (.int .i64 0), (.bool false), (.int .i64 0), (.int .i64 0), (.int .u64 0), (.int .u64 0), (.int .u64 0), (.int .i64 0), (.int .u64 0), (.bool false)] .rw)).st 14 (.ptr g6.next 0) (.agg [(.int .i64 0), (.int .i64 0), (.int .i64 0), (.int .i64 0), (.int .i64 0), (.bool false), (.int .i64 0), (.int .i64 0), (.int .u64 0), (.int .u64 0), (.int .u64 0), (.int .i64 0), (.int .u64 0), (.bool false)]) = some g7 := s7
    have Z7 := Z6.fr' F7
    have c6' := F7.get Z6.fr.ok c6 (by simp)
    have q5 : g7.ld1 (.ptr g.next 0) = some (.int .i64 x.client) := ld1_get c6' rfl rfl
    have q6 := ld_agg (n := 14) c6' rfl
    have ms := mapSet_KV Z7.map x.client (.agg x.cs)
    simp only [lk, obind, List.getElem?_cons_zero, List.getElem?_cons_succ, s7', q5, q6, ms, wk]
    refine Ev.some (.inr ⟨_, rfl, rfl, Z7.set _, G.step hat bd (fun a y ha hy hc _ => absurd hc (hm a y ha hy)) ?_, M.step hat⟩)
    rintro ⟨a, y, ha, hy, hc⟩
    exact absurd hc (hm a y ha hy)
  | some v =>
    rw [hf] at hm lk
    obtain ⟨a, y, ha, hy, hc, rfl, hlast⟩ := hm
    dsimp only at lk
    obtain ⟨g7, s7, F7, c7, n7⟩ := new_st Z6.fr.ok (vs := y.cs) rfl (evt_one y)
    have s7' : (g6.new (.cells [(.int .i64 0), (.int .i64 0), (.int .i64 0), (.int .i64 0), (.int .i64 0), (.bool false), (.int .i64 0), (.int .i64 0), (.int .u64 0), (.int .u64 0), (.int .u64 0), (.int .i64 0), (.int .u64 0), (.bool false)] .rw)).st 14 (.ptr g6.next 0) (.agg y.cs) = some g7 := s7
    have Z7 := Z6.fr' F7
    have c6' := F7.get Z6.fr.ok c6 (by simp)
    have q5 : g7.ld1 (.ptr g.next 0) = some (.int .i64 x.client) := ld1_get c6' rfl rfl
    have q6 := ld_agg (n := 14) c6' rfl
    have q7 : g7.ld1 (.ptr g6.next 1) = some (.int .i64 y.op) := ld1_get c7 rfl rfl
    have q8 : g7.ld1 (.ptr g.next 1) = some (.int .i64 x.op) := ld1_get c6' rfl rfl
    have q9 := ld_agg (n := 14) c7 rfl
    have ah := ahead_spec y x g7
    have ms := mapSet_KV Z7.map x.client (.agg x.cs)
    have hsort := hs a k y x ha hy hat
    by_cases e1 : y.op = x.op
    · simp only [lk, obind, List.getElem?_cons_zero, List.getElem?_cons_succ, s7', q7, q8, asI_int, decide_eq_true e1]
      exact bad Z7.fr fun G => by have := (G.2 a k y x ha (Nat.lt_succ_self k) hy hat hc).1; omega
    by_cases e2 : y.ended < x.begun
    · rw [decide_eq_true e2] at ah
      simp only [lk, obind, List.getElem?_cons_zero, List.getElem?_cons_succ, s7', q7, q8, asI_int, decide_eq_false e1, q9, q6, W_call, ah, asB_bool, Bool.not_true, q5, ms, wk]
      refine Ev.some (.inr ⟨_, rfl, rfl, Z7.set _, G.step hat bd (fun a2 y2 h2 hy2 hc2 hl2 => ?_) (fun _ => ⟨a, y, ha, hy, hc, hlast⟩), M.step hat⟩)
      have z1 := hl2 a y ha hy hc
      have z2 := hlast a2 y2 h2 hy2 hc2
      have : a = a2 := Nat.le_antisymm z1 z2
      subst this
      rw [AtO.same hy2 hy]
      exact ⟨by omega, e2⟩
    · rw [decide_eq_false e2] at ah
      simp only [lk, obind, List.getElem?_cons_zero, List.getElem?_cons_succ, s7', q7, q8, asI_int, decide_eq_false e1, q9, q6, W_call, ah, asB_bool, Bool.not_false]
      exact bad Z7.fr fun G => e2 (G.2 a k y x ha (Nat.lt_succ_self k) hy hat hc).2

theorem rowE_one {g : Nat → Option Blk} {x : V} {l : List Evt} (h : RowE g x l) : x.one = true := by
  obtain ⟨rfl, _⟩ | ⟨b, c, k, rfl, _⟩ := h <;> rfl
theorem rowE_box {g : Nat → Option Blk} {x : V} {l : List Evt} (h : RowE g x l) : boxc x = some [x] := by
  obtain ⟨rfl, _⟩ | ⟨b, c, k, rfl, _⟩ := h <;> rfl

theorem sortedO_of {l : List Evt} {d : Array Int} (hd : d.size = l.length) (hs : SortedIn (ltE l) 0 l.length d) : SortedO l d.toList := by
  rintro a b x y hab ⟨i, hi, hxi⟩ ⟨j, hj, hyj⟩ hlt
  have hb := lt_of_get hj
  rw [Array.length_toList, hd] at hb
  have h1 := hs a b (Nat.zero_le _) hab hb
  rw [get_toList (by rw [hd]; omega)] at hi
  rw [get_toList (by rw [hd]; exact hb)] at hj
  rw [Option.some.inj hi, Option.some.inj hj] at h1
  have h2 := of_decide_eq_false h1
  unfold opOf at h2
  rw [Int.toNat_natCast, Int.toNat_natCast, hxi, hyj] at h2
  exact h2 hlt

theorem right_spec {h : H} (ok : h.ok) {x0 : V} {l : List Evt} (hx : RowE h.get x0 l) (hl : l.length ≤ 60) (clients : Int) :
    Ev (C 178 [x0, .int .i64 clients] h) fun r => ∃ v, r.1 = .bool v ∧ (v = true ↔ RightH l clients) ∧ Fr [] h r.2 := by
  refine call_ev (af := F.hist_Right) (by kernel_rfl) rfl ?_
  rw [S.hist_Right_eq]
  have bx := rowE_box hx
  have h1 := rowE_one hx
  have hxl := hx.len
  have F0 : Fr [] h ((h.new (.cells [x0] .rw)).new (.map [])) := ((Fr.refl ok).new _).new _
  have g1 : ((h.new (.cells [x0] .rw)).new (.map [])).get h.next = some (.cells [x0] .rw) := by
    rw [get_new_ne (by rw [H.next_new]; omega)]; exact get_new_self _ _
  have l1 : ((h.new (.cells [x0] .rw)).new (.map [])).ld1 (.ptr h.next 0) = some x0 := ld1_get g1 rfl h1
  have m1 : ((h.new (.cells [x0] .rw)).new (.map [])).get (h.next + 1) = some (.map (KV .i64 [])) := get_new_self _ _
  have n1 : ((h.new (.cells [x0] .rw)).new (.map [])).next = h.next + 2 := rfl
  have nn : (h.new (.cells [x0] .rw)).next = h.next + 1 := rfl
  have mk := mkInts (h := (h.new (.cells [x0] .rw)).new (.map [])) (n := l.length) (Nat.le_trans hl (by decide))
  rw [n1] at mk
  simp only [S.hist_Right, bx, obind, l1, hxl, mk, lenSl_sl, nn]
  have F1 := F0.new (.cells (fillL l.length 0) .rw)
  have g2 := F1
  generalize hgg : ((h.new (.cells [x0] .rw)).new (.map [])).new (.cells (fillL l.length 0) .rw) = g at F1
  have b1 : g.get h.next = some (.cells [x0] .rw) := by rw [← hgg, get_new_ne (by rw [n1]; omega)]; exact g1
  have b2 : g.get (h.next + 1) = some (.map (KV .i64 [])) := by rw [← hgg, get_new_ne (by rw [n1]; omega)]; exact m1
  have b3 : g.get (h.next + 2) = some (.cells (fillL l.length 0) .rw) := by rw [← hgg, ← n1]; exact get_new_self _ _
  clear hgg mk l1 m1 g1 n1 nn F0 g2
  refine loop_ev (α := Nat) (fun k => S.hist_Right_c1_E (.int .i64 clients) (.ptr h.next 0) (.map (h.next + 1)) (.sl (h.next + 2) 0 l.length (.ex l.length)) (.int .i64 (l.length : Nat)) (.int .i64 (k : Nat)))
    (fun k g => k ≤ l.length ∧ Fr [] h g ∧ g.get h.next = some (.cells [x0] .rw) ∧ g.get (h.next + 1) = some (.map (KV .i64 [])) ∧ g.get (h.next + 2) = some (.cells (fillL l.length k) .rw)) (fun k _ => l.length - k)
    (fun r => r.1 = .exit 0 ∧ r.2.1 = S.hist_Right_c1_O (.int .i64 clients) (.ptr h.next 0) (.map (h.next + 1)) (.sl (h.next + 2) 0 l.length (.ex l.length)) ∧ Fr [] h r.2.2 ∧ r.2.2.get h.next = some (.cells [x0] .rw) ∧ r.2.2.get (h.next + 1) = some (.map (KV .i64 [])) ∧ r.2.2.get (h.next + 2) = some (.cells (ints (idA l.length)) .rw))
    0 rfl ⟨Nat.zero_le _, F1, b1, b2, b3⟩ ?_ ?_
  · clear b1 b2 b3 F1
    rintro k g ⟨hk, F, b1, b2, b3⟩
    rw [S.hist_Right_c1_eq]
    by_cases hkl : k < l.length
    · have hd : decide ((k : Int) < (l.length : Int)) = true := decide_eq_true (by omega)
      have wk := hr_k (k := k) (by omega)
      have i0 := sl_idx1 (b := h.next + 2) (c := .ex l.length) hkl
      have s0 := st1_get b3 (by simp) (one_int .i64 (k : Int)) (by rw [fillL_len]; exact hkl)
      rw [fillL_set hkl] at s0
      simp only [S.hist_Right_c1_S, hd, i0, obind, s0, wk]
      exact Ev.some (.inl ⟨k + 1, rfl, rfl, ⟨hkl, F.put (.inr (by omega)) (F.ok.lt b3) _, by rw [get_put_ne (by omega)]; exact b1, by rw [get_put_ne (by omega)]; exact b2, get_put_self _ _ _⟩, Nat.sub_lt_sub_left hkl (Nat.lt_succ_self k)⟩)
    · have hke : k = l.length := Nat.le_antisymm hk (Nat.le_of_not_lt hkl)
      have hd : decide ((k : Int) < (l.length : Int)) = false := decide_eq_false (by omega)
      simp only [S.hist_Right_c1_S, hd]
      rw [hke, fillL_all] at b3
      exact Ev.some (.inr ⟨by simp, rfl, rfl, F, b1, b2, b3⟩)
  clear b1 b2 b3 F1
  rintro ⟨_, _, g⟩ ⟨rfl, rfl, F, b1, b2, b3⟩
  dsimp only at F b1 b2 b3
  show Ev (S.hist_Right_K2 W (.exit 0) _ _) _
  rw [S.hist_Right_c1_e0_eq]
  have A0 : Sw g (h.next + 2) l.length g (idA l.length) := ⟨Fr.refl F.ok, b3, idA_size _, fun i hi => by rw [idA_get hi]; omega⟩
  have hxg := hx.fr ok F (by simp)
  have K : Cmp g (h.next + 2) l.length 333 [.ptr h.next 0] (ltE l) := right_cmp F.ok b1 h1 hxg (by omega) (fun q hq => by have := hx.lt ok q hq; omega)
  obtain ⟨⟨v, g2⟩, e2, R, rfl, r1, r2, A2⟩ := sortFunc_spec (c := .ex l.length) A0 K (ltE_swo l) (by omega)
  dsimp only at A2
  simp only [S.hist_Right_c1_e0, W_call, e2, obind, lenSl_sl]
  have P := AllNums.of A2.sz r1
  have hs := sortedO_of A2.sz r2
  have hiff := rightTo_iff (clients := clients) P hs
  have F2 : Fr [] h g2 := F.trans A2.fr (fun q hq => by rw [List.mem_singleton] at hq; exact .inr (by omega))
  have Z0 : RtSt h g2 x0 l h.next (h.next + 2) (h.next + 1) R [] := ⟨F2, A2.fr.get F.ok b1 (by simp), A2.at_, A2.fr.get F.ok b2 (by simp), by omega, by omega, by omega⟩
  refine loop_ev (α := Nat × List (Int × V)) (fun z => S.hist_Right_c3_E (.int .i64 clients) (.ptr h.next 0) (.map (h.next + 1)) (.sl (h.next + 2) 0 l.length (.ex l.length)) (.int .i64 (l.length : Nat)) (.int .i64 (z.1 : Nat)))
    (fun z g => z.1 ≤ l.length ∧ RtSt h g x0 l h.next (h.next + 2) (h.next + 1) R z.2 ∧ RightTo l clients R.toList z.1 ∧ LastM l R.toList z.1 z.2) (fun z _ => l.length - z.1)
    (fun r => Fr [] h r.2.2 ∧ ((r.1 = .ret ∧ r.2.1 = S.hist_Right_c3_O (.bool false) ∧ ¬ RightH l clients) ∨ (r.1 = .exit 2 ∧ r.2.1 = S.hist_Right_c3_O .dead ∧ RightH l clients)))
    (0, []) rfl ⟨Nat.zero_le _, Z0, ⟨fun a y ha => absurd ha (Nat.not_lt_zero a), fun a b x y _ hb => absurd hb (Nat.not_lt_zero b)⟩, LastM.zero _ _⟩ ?_ ?_
  · rintro ⟨k, m⟩ g ⟨hk, Z, G, M⟩
    dsimp only at hk Z G M ⊢
    rw [S.hist_Right_c3_eq]
    by_cases hkl : k < l.length
    · refine (right_step ok hx h1 hl Z A2.sz P hs hkl G M).mono ?_
      rintro ⟨_, _, g'⟩ (⟨rfl, rfl, F, hb⟩ | ⟨m', rfl, rfl, Z', G', M'⟩)
      · refine .inr ⟨by simp, F, .inl ⟨rfl, rfl, fun hr => hb ?_⟩⟩
        have := hiff.mpr hr
        exact ⟨fun a y ha => this.1 a y (by omega), fun a b x y hab hb' => this.2 a b x y hab (by omega)⟩
      · exact .inl ⟨(k + 1, m'), rfl, rfl, ⟨hkl, Z', G', M'⟩, Nat.sub_lt_sub_left hkl (Nat.lt_succ_self k)⟩
    · have hke : k = l.length := Nat.le_antisymm hk (Nat.le_of_not_lt hkl)
      have hd : decide ((k : Int) < (l.length : Int)) = false := decide_eq_false (by omega)
      simp only [S.hist_Right_c3_S, hd]
      exact Ev.some (.inr ⟨by simp, Z.fr, .inr ⟨rfl, rfl, hiff.mp (hke ▸ G)⟩⟩)
  rintro ⟨_, _, g⟩ ⟨F, (⟨rfl, rfl, hb⟩ | ⟨rfl, rfl, hb⟩)⟩
  · show Ev (S.hist_Right_K4 W .ret _ g) _
    rw [S.hist_Right_c3_r_eq]
    exact Ev.some ⟨false, rfl, ⟨fun h => (absurd h (by decide)), fun h => absurd h hb⟩, F⟩
  · show Ev (S.hist_Right_K4 W (.exit 2) _ g) _
    rw [S.hist_Right_c3_e2_eq]
    exact Ev.some ⟨true, rfl, ⟨fun _ => hb, fun _ => rfl⟩, F⟩
end Wm
end

section
/- The document's Right. -/
namespace Wm
attribute [local congr] bind_congr1
attribute [local irreducible] wr

/-- One pair is right. -/
def PairR (x y : Evt) : Prop := x.client = y.client → ¬ (x.op = y.op ∨ x.op < y.op ∧ ¬ x.ended < y.begun)

/-- The inner loop: an event with each other one. -/
theorem refRight_in {h g : H} (ok : h.ok) {x0 : V} {l : List Evt} (hx : RowE h.get x0 l) (hl : l.length ≤ 60) (F : Fr [] h g) {i : Nat} {x : Evt} {q : Nat} (hq : g.get q = some (.cells x.cs .rw)) {clients : Int} (K : AX × List V × H → Option (AX × List V × H)) (R : AX × List V × H → Prop)
    (hbad : ∀ g', Fr [] h g' → (∃ k y, l[k]? = some y ∧ k ≠ i ∧ ¬ PairR x y) → Ev (K (.ret, S.withyref18_Right_c3_O x0 (.int .i64 clients) (.bool false) (.int .i64 (i : Nat)), g')) R)
    (hgood : ∀ g', Fr [] h g' → (∀ k y, l[k]? = some y → k ≠ i → PairR x y) → Ev (K (.exit 2, S.withyref18_Right_c3_O x0 (.int .i64 clients) .dead (.int .i64 (i : Nat)), g')) R) :
    Ev ((W.loop (S.withyref18_Right_c3_B W) (S.withyref18_Right_c3_E x0 (.int .i64 clients) (.int .i64 (i : Nat)) (.ptr q 0) (.int .i64 0)) g).bind K) R := by
  refine loop_ev (α := Nat) (fun y => S.withyref18_Right_c3_E x0 (.int .i64 clients) (.int .i64 (i : Nat)) (.ptr q 0) (.int .i64 (y : Nat)))
    (fun n g' => n ≤ l.length ∧ Fr [] h g' ∧ g'.get q = some (.cells x.cs .rw) ∧ ∀ k y, k < n → l[k]? = some y → k ≠ i → PairR x y) (fun y _ => l.length - y)
    (fun r => Fr [] h r.2.2 ∧ ((r.1 = .ret ∧ r.2.1 = S.withyref18_Right_c3_O x0 (.int .i64 clients) (.bool false) (.int .i64 (i : Nat)) ∧ ∃ k y, l[k]? = some y ∧ k ≠ i ∧ ¬ PairR x y) ∨ (r.1 = .exit 2 ∧ r.2.1 = S.withyref18_Right_c3_O x0 (.int .i64 clients) .dead (.int .i64 (i : Nat)) ∧ ∀ k y, l[k]? = some y → k ≠ i → PairR x y)))
    0 rfl ⟨Nat.zero_le _, F, hq, fun k y hk => absurd hk (Nat.not_lt_zero k)⟩ ?_ ?_
  rotate_left
  · rintro ⟨_, _, g'⟩ ⟨F', (⟨rfl, rfl, hb⟩ | ⟨rfl, rfl, hb⟩)⟩
    · exact hbad g' F' hb
    · exact hgood g' F' hb
  clear hq F
  rintro n g ⟨hn, F, hq, hN⟩
  rw [S.withyref18_Right_c3_eq]
  have hxl := hx.len
  by_cases hnl : n < l.length
  · have hd : decide ((n : Int) < (l.length : Int)) = true := decide_eq_true (by omega)
    have wn := hr_k (k := n) (by omega)
    obtain ⟨y, hy⟩ : ∃ y, l[n]? = some y := ⟨_, List.getElem?_eq_getElem hnl⟩
    obtain ⟨eb, i1, l2, _⟩ := (hx.fr ok F (by simp)).at hy
    have l2' : g.ldN 14 (.ptr eb (n * 14)) = some (.agg y.cs) := by rw [ldN_get']; exact l2
    obtain ⟨g4, s4, F4, c4, n4⟩ := new_st F.ok (vs := y.cs) rfl (evt_one y)
    have s4' : (g.new (.cells [(.int .i64 0), (.int .i64 0), (.int .i64 0), (.int .i64 0), (.int .i64 0), (.bool false), (.int .i64 0), (.int .i64 0), (.int .u64 0), (.int .u64 0), (.int .u64 0), (.int .i64 0), (.int .u64 0), (.bool false)] .rw)).st 14 (.ptr g.next 0) (.agg y.cs) = some g4 := s4
    have FF := F.trans F4 (by simp)
    have hq4 := F4.get F.ok hq (by simp)
    have q0 : g4.ld1 (.ptr q 0) = some (.int .i64 x.client) := ld1_get hq4 rfl rfl
    have q1 : g4.ld1 (.ptr g.next 0) = some (.int .i64 y.client) := ld1_get c4 rfl rfl
    have q2 : g4.ld1 (.ptr q 1) = some (.int .i64 x.op) := ld1_get hq4 rfl rfl
    have q3 : g4.ld1 (.ptr g.next 1) = some (.int .i64 y.op) := ld1_get c4 rfl rfl
    have q4 := ld_agg (n := 14) hq4 rfl
    have q5 := ld_agg (n := 14) c4 rfl
    have ah := refAhead_spec x y g4
    have e0 : decide ((n : Int) = (i : Int)) = decide (n = i) := by rw [decide_eq_decide]; omega
    have nxt : PairR x y ∨ n = i → ∀ k z, k < n + 1 → l[k]? = some z → k ≠ i → PairR x z := fun hp k z hk hz hki => by
      rcases Nat.lt_succ_iff_lt_or_eq.mp hk with r | r
      · exact hN k z r hz hki
      · subst r
        rw [hy] at hz; cases hz
        exact hp.resolve_right hki
    by_cases e1 : n = i
    · simp only [S.withyref18_Right_c3_S, hxl, obind, hd, i1, l2', s4', e0, decide_eq_true e1, Bool.not_true, wn]
      exact Ev.some (.inl ⟨n + 1, rfl, rfl, ⟨hnl, FF, hq4, nxt (.inr e1)⟩, Nat.sub_lt_sub_left hnl (Nat.lt_succ_self n)⟩)
    by_cases e2 : x.client = y.client
    rotate_left
    · simp only [S.withyref18_Right_c3_S, hxl, obind, hd, i1, l2', s4', e0, decide_eq_false e1, Bool.not_false, ptrAt_ptr, Nat.zero_add, q0, q1, asI_int, decide_eq_false e2, wn]
      exact Ev.some (.inl ⟨n + 1, rfl, rfl, ⟨hnl, FF, hq4, nxt (.inl fun z => absurd z e2)⟩, Nat.sub_lt_sub_left hnl (Nat.lt_succ_self n)⟩)
    by_cases e3 : x.op = y.op
    · simp only [S.withyref18_Right_c3_S, hxl, obind, hd, i1, l2', s4', e0, decide_eq_false e1, Bool.not_false, ptrAt_ptr, Nat.zero_add, q0, q1, asI_int, decide_eq_true e2, q2, q3, decide_eq_true e3]
      exact Ev.some (.inr ⟨by simp, FF, .inl ⟨rfl, rfl, n, y, hy, e1, fun p => p e2 (.inl e3)⟩⟩)
    by_cases e4 : x.op < y.op
    rotate_left
    · simp only [S.withyref18_Right_c3_S, hxl, obind, hd, i1, l2', s4', e0, decide_eq_false e1, Bool.not_false, ptrAt_ptr, Nat.zero_add, q0, q1, asI_int, decide_eq_true e2, q2, q3, decide_eq_false e3, decide_eq_false e4, wn]
      exact Ev.some (.inl ⟨n + 1, rfl, rfl, ⟨hnl, FF, hq4, nxt (.inl fun _ z => z.elim e3 fun z => e4 z.1)⟩, Nat.sub_lt_sub_left hnl (Nat.lt_succ_self n)⟩)
    by_cases e5 : x.ended < y.begun
    · rw [decide_eq_true e5] at ah
      simp only [S.withyref18_Right_c3_S, hxl, obind, hd, i1, l2', s4', e0, decide_eq_false e1, Bool.not_false, ptrAt_ptr, Nat.zero_add, q0, q1, asI_int, decide_eq_true e2, q2, q3, decide_eq_false e3, decide_eq_true e4, q4, q5, W_call, ah, asB_bool, Bool.not_true, wn]
      exact Ev.some (.inl ⟨n + 1, rfl, rfl, ⟨hnl, FF, hq4, nxt (.inl fun _ z => z.elim e3 fun z => z.2 e5)⟩, Nat.sub_lt_sub_left hnl (Nat.lt_succ_self n)⟩)
    · rw [decide_eq_false e5] at ah
      simp only [S.withyref18_Right_c3_S, hxl, obind, hd, i1, l2', s4', e0, decide_eq_false e1, Bool.not_false, ptrAt_ptr, Nat.zero_add, q0, q1, asI_int, decide_eq_true e2, q2, q3, decide_eq_false e3, decide_eq_true e4, q4, q5, W_call, ah, asB_bool]
      exact Ev.some (.inr ⟨by simp, FF, .inl ⟨rfl, rfl, n, y, hy, e1, fun p => p e2 (.inr ⟨e4, e5⟩)⟩⟩)
  · have hne : n = l.length := Nat.le_antisymm hn (Nat.le_of_not_lt hnl)
    have hd : decide ((n : Int) < (l.length : Int)) = false := decide_eq_false (by omega)
    simp only [S.withyref18_Right_c3_S, hxl, obind, hd]
    exact Ev.some (.inr ⟨by simp, F, .inr ⟨rfl, rfl, fun k y hy hki => hN k y (hne ▸ lt_of_get hy) hy hki⟩⟩)

def RightUp (l : List Evt) (clients : Int) (n : Nat) : Prop := ∀ i x, i < n → l[i]? = some x → x.bd clients ∧ ∀ k y, l[k]? = some y → k ≠ i → PairR x y
theorem rightUp_iff {l : List Evt} {clients : Int} : RightUp l clients l.length ↔ RightH l clients :=
  ⟨fun h => ⟨fun i x hx => (h i x (lt_of_get hx) hx).1, fun i k x y hx hy hki hc => (h i x (lt_of_get hx) hx).2 k y hy hki hc⟩,
   fun h i x _ hx => ⟨h.1 i x hx, fun k y hy hki hc => h.2 i k x y hx hy hki hc⟩⟩

theorem refRightH_spec {h : H} (ok : h.ok) {x0 : V} {l : List Evt} (hx : RowE h.get x0 l) (hl : l.length ≤ 60) (clients : Int) :
    Ev (C 179 [x0, .int .i64 clients] h) fun r => ∃ v, r.1 = .bool v ∧ (v = true ↔ RightH l clients) ∧ Fr [] h r.2 := by
  refine call_ev (af := F.withyref18_Right) (by kernel_rfl) rfl ?_
  rw [S.withyref18_Right_eq]
  simp only [S.withyref18_Right]
  refine loop_ev (α := Nat) (fun y => S.withyref18_Right_c1_E x0 (.int .i64 clients) (.int .i64 (y : Nat)))
    (fun n g => n ≤ l.length ∧ Fr [] h g ∧ RightUp l clients n) (fun n _ => l.length - n)
    (fun r => Fr [] h r.2.2 ∧ ((r.1 = .ret ∧ r.2.1 = S.withyref18_Right_c1_O (.bool false) ∧ ¬ RightH l clients) ∨ (r.1 = .exit 0 ∧ r.2.1 = S.withyref18_Right_c1_O .dead ∧ RightH l clients)))
    0 rfl ⟨Nat.zero_le _, Fr.refl ok, fun i x hi => absurd hi (Nat.not_lt_zero i)⟩ ?_ ?_
  rotate_left
  · rintro ⟨_, _, g⟩ ⟨F, (⟨rfl, rfl, hb⟩ | ⟨rfl, rfl, hb⟩)⟩
    · show Ev (S.withyref18_Right_K2 W .ret _ g) _
      rw [S.withyref18_Right_c1_r_eq]
      exact Ev.some ⟨false, rfl, ⟨fun h => (absurd h (by decide)), fun h => absurd h hb⟩, F⟩
    · show Ev (S.withyref18_Right_K2 W (.exit 0) _ g) _
      rw [S.withyref18_Right_c1_e0_eq]
      exact Ev.some ⟨true, rfl, ⟨fun _ => hb, fun _ => rfl⟩, F⟩
  rintro n g ⟨hn, F, hN⟩
  rw [S.withyref18_Right_c1_eq]
  have hxl := hx.len
  by_cases hnl : n < l.length
  rotate_left
  · have hne : n = l.length := Nat.le_antisymm hn (Nat.le_of_not_lt hnl)
    have hd : decide ((n : Int) < (l.length : Int)) = false := decide_eq_false (by omega)
    simp only [S.withyref18_Right_c1_S, hxl, obind, hd]
    exact Ev.some (.inr ⟨by simp, F, .inr ⟨rfl, rfl, rightUp_iff.mp (hne ▸ hN)⟩⟩)
  have hd : decide ((n : Int) < (l.length : Int)) = true := decide_eq_true (by omega)
  have wn := hr_k (k := n) (by omega)
  obtain ⟨x, hxn⟩ : ∃ y, l[n]? = some y := ⟨_, List.getElem?_eq_getElem hnl⟩
  obtain ⟨eb, i1, l2, _⟩ := (hx.fr ok F (by simp)).at hxn
  have l2' : g.ldN 14 (.ptr eb (n * 14)) = some (.agg x.cs) := by rw [ldN_get']; exact l2
  obtain ⟨g4, s4, F4, c4, n4⟩ := new_st F.ok (vs := x.cs) rfl (evt_one x)
  have s4' : (g.new (.cells [(.int .i64 0), (.int .i64 0), (.int .i64 0), (.int .i64 0), (.int .i64 0), (.bool false), (.int .i64 0), (.int .i64 0), (.int .u64 0), (.int .u64 0), (.int .u64 0), (.int .i64 0), (.int .u64 0), (.bool false)] .rw)).st 14 (.ptr g.next 0) (.agg x.cs) = some g4 := s4
  have FF := F.trans F4 (by simp)
  have q0 : g4.ld1 (.ptr g.next 0) = some (.int .i64 x.client) := ld1_get c4 rfl rfl
  have q2 : g4.ld1 (.ptr g.next 2) = some (.int .i64 x.begun) := ld1_get c4 rfl rfl
  have q3 : g4.ld1 (.ptr g.next 3) = some (.int .i64 x.point) := ld1_get c4 rfl rfl
  have q4 : g4.ld1 (.ptr g.next 4) = some (.int .i64 x.ended) := ld1_get c4 rfl rfl
  have bad : ∀ {g' : H}, Fr [] h g' → ¬ RightH l clients → Ev (some (AX.ret, S.withyref18_Right_c1_O (.bool false), g')) fun r =>
      (∃ a' : Nat, r.1 = .normal ∧ r.2.1 = S.withyref18_Right_c1_E x0 (.int .i64 clients) (.int .i64 (a' : Nat)) ∧ (a' ≤ l.length ∧ Fr [] h r.2.2 ∧ RightUp l clients a') ∧ l.length - a' < l.length - n) ∨
      (r.1 ≠ .normal ∧ (Fr [] h r.2.2 ∧ ((r.1 = .ret ∧ r.2.1 = S.withyref18_Right_c1_O (.bool false) ∧ ¬ RightH l clients) ∨ (r.1 = .exit 0 ∧ r.2.1 = S.withyref18_Right_c1_O .dead ∧ RightH l clients)))) :=
    fun F hb => Ev.some (.inr ⟨by simp, F, .inl ⟨rfl, rfl, hb⟩⟩)
  simp only [S.withyref18_Right_c1_S, hxl, obind, hd, i1, l2', s4', q0, q2, q3, q4, asI_int]
  by_cases b1 : x.client < 0
  · simp only [decide_eq_true b1]
    exact bad FF fun G => by have := (G.1 n x hxn).c0; omega
  simp only [decide_eq_false b1]
  by_cases b2 : clients ≤ x.client
  · simp only [decide_eq_true b2]
    exact bad FF fun G => by have := (G.1 n x hxn).c1; omega
  simp only [decide_eq_false b2]
  by_cases b3 : x.point < x.begun
  · simp only [decide_eq_true b3]
    exact bad FF fun G => by have := (G.1 n x hxn).p0; omega
  simp only [decide_eq_false b3]
  by_cases b4 : x.ended < x.point
  · simp only [decide_eq_true b4]
    exact bad FF fun G => by have := (G.1 n x hxn).p1; omega
  simp only [decide_eq_false b4]
  refine refRight_in ok hx hl FF (i := n) c4 _ _ ?_ ?_
  · rintro g' F' ⟨k, y, hy, hki, hb⟩
    show Ev (S.withyref18_Right_K6 W .ret _ _) _
    rw [S.withyref18_Right_c3_r_eq]
    simp only [S.withyref18_Right_c3_r]
    exact bad F' fun G => hb fun hc => G.2 n k x y hxn hy hki hc
  · intro g' F' hg
    show Ev (S.withyref18_Right_K6 W (.exit 2) _ _) _
    rw [S.withyref18_Right_c3_e2_eq]
    simp only [S.withyref18_Right_c3_e2, wn]
    refine Ev.some (.inl ⟨n + 1, rfl, rfl, ⟨hnl, F', fun i z hi hz => ?_⟩, Nat.sub_lt_sub_left hnl (Nat.lt_succ_self n)⟩)
    rcases Nat.lt_succ_iff_lt_or_eq.mp hi with r | r
    · exact hN i z r hz
    · subst r
      rw [hxn] at hz; cases hz
      exact ⟨⟨by omega, by omega, by omega, by omega⟩, hg⟩
end Wm
end

section
/- The document's example of a layer, run by the kernel. -/
namespace Wm
set_option maxRecDepth 100000 in
theorem awake18_run : runF prog meth 2000 200 180 [] .empty = some (.bool true, .empty) := by kernel_rfl
theorem awake18 (h : H) : C 180 [] h = some (.bool true, h) := call_closed_run (af := F.withylaw18_awake) (by kernel_rfl) rfl (by rw [← runF_eq]; exact awake18_run) h
end Wm
end

section
/- The law HistRights, of my machine. -/
namespace Wm
attribute [local congr] bind_congr1
attribute [local irreducible] wr

def shHistRights : List (Bool × List CSh) := [(false, [.sl 112 [.int .i64, .int .i64, .int .i64, .int .i64, .int .i64, .bool, .int .i64, .int .i64, .int .u64, .int .u64, .int .u64, .int .i64, .int .u64, .bool]]), (false, [.int .i64])]

theorem lawHistRights (h : H) (us : List V) (ok : h.ok) (ha : ArgsOk h.get shHistRights us) : Ev (C 33 us h) fun r => r.1 = .bool true := by
  obtain ⟨_, _, rfl, ⟨_, _, hx, hxc, rfl⟩, _, _, rfl, ⟨_, _, hy, ⟨n, rfl, _⟩, rfl⟩, rfl⟩ := ha
  cases hx; cases hy
  rename_i x0
  obtain ⟨l, hx, _, _, _⟩ := rowE_of hxc
  refine call_ev (af := F.withylaw18_HistRights) (by kernel_rfl) rfl ?_
  rw [S.withylaw18_HistRights_eq]
  have hxl := hx.len
  by_cases h60 : 60 < l.length
  · have d : decide ((60 : Int) < (l.length : Int)) = true := decide_eq_true (by omega)
    simp only [S.withylaw18_HistRights, Option.bind_some, W_call, hxl, d, awake18]
    exact Ev.some rfl
  have d : decide ((60 : Int) < (l.length : Int)) = false := decide_eq_false (by omega)
  have hl : l.length ≤ 60 := Nat.le_of_not_lt h60
  obtain ⟨⟨v1, g1⟩, e1, b1, rfl, hb1, F1⟩ := right_spec ok hx hl n
  obtain ⟨⟨v2, g2⟩, e2, b2, rfl, hb2, F2⟩ := refRightH_spec F1.ok (hx.fr ok F1 (by simp)) hl n
  have hb : b1 = b2 := Bool.eq_iff_iff.mpr (hb1.trans hb2.symm)
  subst hb
  simp only [S.withylaw18_HistRights, Option.bind_some, eqV, W_call, hxl, d, e1, e2, BEq.rfl, awake18]
  exact Ev.some rfl
end Wm
end

