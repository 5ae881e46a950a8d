/- What the functions come to, and the law: of my machine. -/
import Derived.Test.YtjcppjbepndjcaaWmEv
import Derived.Test.YtjcppjbepndjcaaWmHeap
import Derived.Test.YtjcppjbepndjcaaWmProgHistOrders
import Derived.KernelRfl
import Derived.Test.YtjcppjbepndjcaaWmShal
import Derived.Test.YtjcppjbepndjcaaWmCore
import Derived.Test.YtjcppjbepndjcaaWmPOp0
import Derived.Test.YtjcppjbepndjcaaWmOpen
import Derived.Test.YtjcppjbepndjcaaWmFnc
import Derived.Sort.LotA
import Derived.Test.YtjcppjbepndjcaaWmTxtHistOrdersA
import Derived.Test.YtjcppjbepndjcaaWmFnsHistOrdersA
import Derived.Sort.LotC
import Derived.Sort.Lot0
import Derived.Sort.LotD3
import Derived.Test.YtjcppjbepndjcaaWmFast
import Derived.Sort.LotD1
import Derived.Sort.LotD4
import Derived.Sort.LotB
set_option linter.all false
section
/- Slices that grow, and loops. -/
namespace Wm
theorem mkSl_ok {h : H} {e b : Nat} {z : List V} {l c : Int} (h1 : 0 ≤ l) (h2 : l ≤ c) (h3 : c * b ≤ 140737488355328) (h4 : c ≤ 9223372036854775807) (h5 : z.length = e) (h6 : 0 < e) :
    h.mkSl e b z l c = some (.sl h.next 0 l.toNat (.ex c.toNat), h.new (.cells (repl z c.toNat) .rw)) := by
  subst h5
  simp [H.mkSl, h1, h2, h3, h4, h6]

theorem append_op {h : H} {e b bb o len n : Nat} {x : V} {new old cs : List V} (hx : lenSl x = some n) (hn : h.slc e x = some new) (ho : h.slc e (.sl bb o len (.op e)) = some old) (hg : h.get bb = some (.cells cs (.gr e))) (h1 : new.all V.one = true) (h2 : (len + n + (len + n) / 2 + 1000) * b ≤ 281474976710656) (he : 0 < e) (hb : 0 < b) :
    h.append e b (.sl bb o len (.op e)) x = some (.sl h.next 0 (len + n) (.op e), (h.put bb none).new (.cells (old ++ new) (.gr e))) := by
  have h3 : lenSl (.sl bb o len (.op e)) = some len := rfl
  simp only [H.append, hx, hn, h3, ho, h1, h2, he, hb, decide_true, Bool.and_self, hg, Nat.beq_refl]

theorem append_nil {h : H} {e b n : Nat} {x : V} {new : List V} (hx : lenSl x = some n) (hn : h.slc e x = some new) (h0 : n ≠ 0) (h1 : new.all V.one = true) (h2 : (n + n / 2 + 1000) * b ≤ 281474976710656) (he : 0 < e) (hb : 0 < b) :
    h.append e b .nilsl x = some (.sl h.next 0 n (.op e), h.new (.cells new (.gr e))) := by
  have h3 : lenSl .nilsl = some 0 := rfl
  have h4 : h.slc e .nilsl = some [] := rfl
  have h5 : Nat.beq n 0 = false := by cases n with
    | zero => exact absurd rfl h0
    | succ n => rfl
  simp only [H.append, hx, hn, h3, h4, h1, h2, he, hb, decide_true, Bool.and_self, Nat.zero_add, h5, List.nil_append]

theorem slc_get {h : H} {e bb o len : Nat} {cap : Cap} {cs : List V} {k : Bk} (hg : h.get bb = some (.cells cs k)) (hl : o + len * e ≤ cs.length) : h.slc e (.sl bb o len cap) = some ((cs.drop o).take (len * e)) := by
  simp only [H.slc, ldc_get hg hl]

theorem st1_get {h : H} {b o : Nat} {cs : List V} {k : Bk} {v : V} (hb : h.get b = some (.cells cs k)) (hk : k ≠ .ro) (hv : v.one = true) (hl : o < cs.length) : h.st 1 (.ptr b o) v = some (h.put b (some (.cells (cs.set o v) k))) := by
  have hc : v.cells = [v] := by cases v <;> first | rfl | simp [V.one] at hv
  have hs : splice cs o [v] = cs.set o v := by
    simp only [splice, List.length_singleton]
    rw [List.set_eq_take_append_cons_drop, if_pos hl]
    simp
  have h6 := stc_get hb hk (vs := [v]) (by simp [hv]) (show o + [v].length ≤ cs.length by simp; omega)
  rw [hs] at h6
  simp only [H.st, hc, List.length_singleton, Nat.beq, h6]

theorem loop_ev {α : Type} {call : Nat → List V → H → Option (V × H)} {meth : Nat → Nat → Option Nat} {b : List V → H → Option (AX × List V × H)} {R : Type} {k : AX × List V × H → Option R} {Q : R → Prop} {e : List V} {h : H} (enc : α → List V) (I : α → H → Prop) (μ : α → H → Nat) (P : AX × List V × H → Prop) (a : α) (he : e = enc a) (h0 : I a h)
    (step : ∀ a h, I a h → Ev (b (enc a) h) fun r => (∃ a', r.1 = .normal ∧ r.2.1 = enc a' ∧ I a' r.2.2 ∧ μ a' r.2.2 < μ a h) ∨ (r.1 ≠ .normal ∧ P r)) (out : ∀ r, P r → Ev (k r) Q) : Ev (((envW meth call).loop b e h).bind k) Q := by
  subst he
  exact Ev.bind (loopW_ev enc I μ step a h h0) out

end Wm
end

section
/- Frames: what of a heap stays; known blocks are read and written. -/
namespace Wm

theorem bind_congr1 {α β : Type} {x y : Option α} {f : α → Option β} (h : x = y) : x.bind f = y.bind f := by rw [h]

/-- Blocks of 'h' outside of 'L' are as they were; more may have come. -/
structure Fr (L : List Nat) (h h' : H) : Prop where
  le : h.next ≤ h'.next
  ok : h'.ok
  same : ∀ b, b < h.next → b ∉ L → h'.get b = h.get b

theorem Fr.refl {L : List Nat} {h : H} (ok : h.ok) : Fr L h h := ⟨Nat.le_refl _, ok, fun _ _ _ => rfl⟩
theorem Fr.new {L : List Nat} {h h' : H} (f : Fr L h h') (x : Blk) : Fr L h (h'.new x) :=
  ⟨by have := f.le; simp only [H.next_new]; omega, f.ok.new x, fun b hb hL => by rw [get_new_ne (by have := f.le; omega)]; exact f.same b hb hL⟩
theorem Fr.put {L : List Nat} {h h' : H} (f : Fr L h h') {b : Nat} (hb : b ∈ L ∨ h.next ≤ b) (hl : b < h'.next) (x : Option Blk) : Fr L h (h'.put b x) :=
  ⟨f.le, f.ok.put hl x, fun c hc hL => by
    rw [get_put_ne (by rintro rfl; rcases hb with q | q; exact hL q; omega)]; exact f.same c hc hL⟩
theorem Fr.trans {L L' : List Nat} {h h1 h2 : H} (f : Fr L h h1) (g : Fr L' h1 h2) (hL : ∀ b ∈ L', b ∈ L ∨ h.next ≤ b) : Fr L h h2 :=
  ⟨Nat.le_trans f.le g.le, g.ok, fun b hb hn => by
    rw [g.same b (by have := f.le; omega) (fun q => by rcases hL b q with q | q; exact hn q; omega)]; exact f.same b hb hn⟩
theorem Fr.trans' {L : List Nat} {h h1 h2 : H} (f : Fr L h h1) (g : Fr L h1 h2) : Fr L h h2 := f.trans g fun _ q => .inl q
theorem Fr.get {L : List Nat} {h h' : H} (f : Fr L h h') (ok : h.ok) {b : Nat} {x : Blk} (hb : h.get b = some x) (hL : b ∉ L) : h'.get b = some x := by
  rw [f.same b (ok.lt hb) hL]; exact hb
/-! ### Reads and writes of blocks that are known -/
section
variable {h : H} {n b o : Nat}
theorem ld1_get' : h.ld1 (.ptr b o) = ldB (h.get b) o := H.ld1_eq
theorem ldN_get' : h.ldN (n + 1) (.ptr b o) = ldNB (h.get b) o (n + 1) := H.ldN_eq (Nat.succ_ne_zero n)
theorem st_get' {x : V} : h.st n (.ptr b o) x = match Nat.beq x.cells.length n with
    | true => (stB (h.get b) o x.cells).map fun y => h.put b (some y)
    | false => none := by
  simp only [H.st]
  split
  · rename_i hb; simp only [hb, H.stc_eq]
  · rename_i hb; simp only [hb]
theorem get_new' {x : Blk} {c : Nat} : (h.new x).get c = if c = h.next then some x else h.get c := H.get_new _ _ _
theorem put_put' {x y : Option Blk} : (h.put b x).put b y = h.put b y := by
  simp only [H.put, T.put, T.put'_put' _ _ _ _ _ _ (Nat.lt_succ_self _) (Nat.lt_succ_self _)]
end
theorem lenSl_sl (b o n : Nat) (c : Cap) : lenSl (.sl b o n c) = some n := rfl
/-! ### Configs -/
structure Cfg where
  s : Int
  a : Int
  c : Int
  hd : Int
  g : Int
  st : Int
/-! ### Words of a memory -/
structure Touch where
  kind : Int
  at' : Int
  was : Int
  now : Int
structure Mem where
  ws : List Int
  n : Int
  last : Touch

end Wm
end

section
/- A slice that grows among blocks that came: what it holds. -/
namespace Wm

theorem lt_of_get {α : Type} {l : List α} {j : Nat} {x : α} (h : l[j]? = some x) : j < l.length := by
  rcases Nat.lt_or_ge j l.length with q | q
  · exact q
  · rw [List.getElem?_eq_none q] at h; cases h

end Wm
end

section
/- Words of a memory by what they are: all of a config, in their order, and where each stands. -/
namespace Wm

inductive Wd
  | clock | epoch | grays | top
  | pin (k : Nat)
  | entry (k i : Nat)
  | view (k : Nat)
  | start (k : Nat)
  | header (s : Nat)
  | link (s : Nat)
  | body (s i : Nat)
  deriving DecidableEq

def Cfg.S (k : Cfg) : Nat := k.s.toNat
def Cfg.room (k : Cfg) : Nat := (if k.a < 3 then 3 else k.a).toNat
def Cfg.C (k : Cfg) : Nat := k.c.toNat
def Cfg.H (k : Cfg) : Nat := k.hd.toNat
def Wd.ok (k : Cfg) : Wd → Prop
  | .clock | .epoch | .grays | .top => True
  | .pin q | .view q | .start q => q < k.C
  | .entry q i => q < k.C ∧ i < k.H
  | .header s | .link s => s < k.S
  | .body s i => s < k.S ∧ i < k.room
instance (k : Cfg) (l : Wd) : Decidable (l.ok k) := by cases l <;> (unfold Wd.ok; infer_instance)

end Wm
end

section
/- The program's machines as plain functions: headers, shades. -/
namespace Wm

def black (e : Int) : Int := (e / 4 + 1) % 2
end Wm
end

section
/- Headers and their words: what the functions of head come to. -/
namespace Wm
attribute [local congr] bind_congr1

def born (e : Int) : Int := if e % 4 = 0 then 1 - black e else black e
end Wm
end

section
/- All words of a config, and those of a memory in which nothing was done: withyref06.Words, Memory. -/
namespace Wm
attribute [local congr] bind_congr1
attribute [local irreducible] wr

theorem sl_idx {b n i e : Nat} {c : Cap} (hi : i < n) : indexAV e (.sl b 0 n c) (.int .i64 (i : Int)) = some (.ptr b (i * e)) := by
  simp only [indexAV, indexOf, asIAny, show decide ((0 : Int) ≤ (i : Int)) = true from decide_eq_true (by omega), show decide ((i : Int) < (n : Int)) = true from decide_eq_true (by omega), Bool.and_self, Nat.zero_add, Int.toNat_natCast]
theorem sl_idx1 {b n i : Nat} {c : Cap} (hi : i < n) : indexAV 1 (.sl b 0 n c) (.int .i64 (i : Int)) = some (.ptr b i) := by rw [sl_idx hi, Nat.mul_one]

end Wm
end

section
/- A step of a run that the kernel need not look into: joins. -/
namespace Wm
theorem obind {α β : Type} (a : α) (f : α → Option β) : (some a).bind f = f a := by
  cases h : f a with
  | none => rw [Option.bind_some, h]
  | some b => rw [Option.bind_some, h]
theorem one_bool (b : Bool) : V.one (.bool b) = true := rfl
theorem one_int (k : Go.IntKind) (n : Int) : V.one (.int k n) = true := rfl
theorem cells_agg (l : List V) : V.cells (.agg l) = l := rfl
end Wm
end

section
/- Sorts of numbers by a function: what stands in the slice, reads, swaps, comparisons. -/
namespace Wm
attribute [local congr] bind_congr1
attribute [local irreducible] wr
open Go.Sort (swp)

def ints (d : Array Int) : List V := d.toList.map (V.int .i64)
theorem ints_length (d : Array Int) : (ints d).length = d.size := by unfold ints; rw [List.length_map]; rfl
theorem ints_get {d : Array Int} {i : Nat} (h : i < d.size) : (ints d)[i]? = some (.int .i64 d[i]!) := by
  unfold ints
  rw [List.getElem?_map, Array.getElem?_toList, Array.getElem?_eq_getElem h, getElem!_pos d i h]; rfl
theorem ints_set' {d : Array Int} {i : Nat} {v : Int} : (ints d).set i (.int .i64 v) = ints (d.setIfInBounds i v) := by
  unfold ints
  rw [Array.toList_setIfInBounds, List.map_set]

/-- The slice that is sorted: block b; all else of h0 is as it was. -/
structure Sw (h0 : H) (b N : Nat) (h : H) (d : Array Int) : Prop where
  fr : Fr [b] h0 h
  at_ : h.get b = some (.cells (ints d) .rw)
  sz : d.size = N
  inr : ∀ i, i < N → 0 ≤ d[i]! ∧ d[i]! < N

/-- What is asked of the comparison. -/
def Cmp (h0 : H) (b N f : Nat) (cs : List V) (lt : Int → Int → Bool) : Prop :=
  ∀ h, Fr [b] h0 h → ∀ i j : Int, 0 ≤ i → i < N → 0 ≤ j → j < N → ∃ n h', C f ([.int .i64 i, .int .i64 j] ++ cs) h = some (.int .i64 n, h') ∧ decide (n < 0) = lt i j ∧ Fr [] h h'

section
variable {h0 h : H} {b N : Nat} {d : Array Int}
theorem Sw.ok (S : Sw h0 b N h d) : h.ok := S.fr.ok
theorem Sw.ld (S : Sw h0 b N h d) {i : Nat} (hi : i < N) : ldB (h.get b) i = some (.int .i64 d[i]!) := by
  rw [S.at_, ldB_cells, ints_get (by rw [S.sz]; exact hi)]; rfl
theorem Sw.fr0 (S : Sw h0 b N h d) {h' : H} (F : Fr [] h h') : Sw h0 b N h' d :=
  ⟨S.fr.trans F (fun _ q => by simp at q), F.get S.ok S.at_ (by simp), S.sz, S.inr⟩
theorem Sw.cmp (S : Sw h0 b N h d) {f : Nat} {cs : List V} {lt : Int → Int → Bool} (K : Cmp h0 b N f cs lt) {i j : Nat} (hi : i < N) (hj : j < N) :
    ∃ n h', (∀ {R : Type} (k : V × H → Option R), callFn W (.fn f cs) [.int .i64 d[i]!, .int .i64 d[j]!] h k = k (.int .i64 n, h')) ∧ decide (n < 0) = lt d[i]! d[j]! ∧ Sw h0 b N h' d ∧ Fr [] h h' := by
  obtain ⟨n, h', e, hn, F⟩ := K h S.fr d[i]! d[j]! (S.inr i hi).1 (S.inr i hi).2 (S.inr j hj).1 (S.inr j hj).2
  exact ⟨n, h', fun k => callFn_is (M := W) e k, hn, S.fr0 F, F⟩
theorem Sw.swap (S : Sw h0 b N h d) {i j : Nat} (hi : i < N) (hj : j < N) :
    ∃ h1 h2, h.st 1 (.ptr b i) (.int .i64 d[j]!) = some h1 ∧ h1.st 1 (.ptr b j) (.int .i64 d[i]!) = some h2 ∧ Sw h0 b N h2 (swp d i j) ∧ Fr [b] h h2 := by
  have hl : b < h.next := S.ok.lt S.at_
  have e1 := st1_get S.at_ (by simp) (one_int .i64 d[j]!) (by rw [ints_length, S.sz]; exact hi)
  rw [ints_set'] at e1
  have g1 : (h.put b (some (.cells (ints (d.setIfInBounds i d[j]!)) .rw))).get b = some (.cells (ints (d.setIfInBounds i d[j]!)) .rw) := get_put_self _ _ _
  have e2 := st1_get g1 (by simp) (one_int .i64 d[i]!) (by rw [ints_length, Array.size_setIfInBounds, S.sz]; exact hj)
  rw [ints_set', put_put'] at e2
  have F2 : Fr [b] h (h.put b (some (.cells (ints (swp d i j)) .rw))) := (Fr.refl S.ok).put (.inl (by simp)) hl _
  refine ⟨_, _, e1, e2, ⟨S.fr.trans' F2, get_put_self _ _ _, by rw [Go.Sort.swp_size]; exact S.sz, fun k hk => ?_⟩, F2⟩
  by_cases hkj : k = j
  · subst hkj
    rw [Go.Sort.swp_right _ _ _ (by rw [S.sz]; exact hj)]; exact S.inr i hi
  by_cases hki : k = i
  · subst hki
    rw [Go.Sort.swp_left _ _ _ (by rw [S.sz]; exact hi) hkj]; exact S.inr j hj
  · rw [Go.Sort.swp_other _ _ _ _ hki hkj]; exact S.inr k hk
end
end Wm
end

section
/- The insertion sort. -/
namespace Wm
attribute [local congr] bind_congr1
attribute [local irreducible] wr
open Go.Sort (swp insInner insOuter)

section
variable {h0 h : H} {b N f : Nat} {cs : List V} {lt : Int → Int → Bool} {d : Array Int} {c : Cap}

theorem sort_lt {i j : Nat} (h : i < j) : decide ((i : Int) < (j : Int)) = true := decide_eq_true (by omega)
theorem sort_nlt {i j : Nat} (h : ¬ i < j) : decide ((i : Int) < (j : Int)) = false := decide_eq_false (by omega)
theorem sort_pred {i : Nat} (h : i + 1 ≤ 9000) : wr .i64 (((i + 1 : Nat) : Int) - 1) = (i : Int) := by rw [wr64 (by omega) (by omega)]; omega
theorem sort_succ {i : Nat} (h : i ≤ 9000) : wr .i64 ((i : Int) + 1) = ((i + 1 : Nat) : Int) := by rw [wr64 (by omega) (by omega)]; omega

theorem insInner_stop {a j : Nat} {d : Array Int} (h : ¬ a < j) : insInner lt a j d = d := by
  cases j with
  | zero => rfl
  | succ j => rw [insInner, if_neg (by simp [show ¬ j + 1 > a from h])]

theorem insInner_spec (A : Sw h0 b N h d) (K : Cmp h0 b N f cs lt) (hN : N ≤ 1000) {a e i : Nat} (hi : i < N) :
    Ev ((W.loop (S.slices_insertionSortCmpFunc_int__c2_B W) (S.slices_insertionSortCmpFunc_int__c2_E (.sl b 0 N c) (.int .i64 (a : Int)) (.int .i64 (e : Int)) (.fn f cs) (.int .i64 (i : Int)) (.int .i64 (i : Int))) h).bind fun z => S.slices_insertionSortCmpFunc_int__K5 W z.1 z.2.1 z.2.2)
      fun z => z.1 = .normal ∧ z.2.1 = S.slices_insertionSortCmpFunc_int__c0_E (.sl b 0 N c) (.int .i64 (a : Int)) (.int .i64 (e : Int)) (.fn f cs) (.int .i64 ((i + 1 : Nat) : Int)) ∧ Sw h0 b N z.2.2 (insInner lt a i d) := by
  refine loop_ev (α := Nat × Array Int) (fun q => S.slices_insertionSortCmpFunc_int__c2_E (.sl b 0 N c) (.int .i64 (a : Int)) (.int .i64 (e : Int)) (.fn f cs) (.int .i64 (i : Int)) (.int .i64 (q.1 : Int)))
    (fun q h => q.1 < N ∧ Sw h0 b N h q.2 ∧ insInner lt a q.1 q.2 = insInner lt a i d) (fun q _ => q.1)
    (fun z => z.1 = .exit 2 ∧ z.2.1 = S.slices_insertionSortCmpFunc_int__c2_O (.sl b 0 N c) (.int .i64 (a : Int)) (.int .i64 (e : Int)) (.fn f cs) (.int .i64 (i : Int)) ∧ Sw h0 b N z.2.2 (insInner lt a i d)) (i, d) rfl ⟨hi, A, rfl⟩ ?_ ?_
  rotate_left
  · rintro ⟨_, _, g⟩ ⟨rfl, rfl, A⟩
    show Ev (S.slices_insertionSortCmpFunc_int__K5 W (.exit 2) _ _) _
    rw [S.slices_insertionSortCmpFunc_int__c2_e2_eq]
    simp only [S.slices_insertionSortCmpFunc_int__c2_e2, sort_succ (i := i) (by omega)]
    exact Ev.some ⟨rfl, rfl, A⟩
  rintro ⟨j, d1⟩ g ⟨hj, A, hd⟩
  dsimp only at hj A hd
  rw [S.slices_insertionSortCmpFunc_int__c2_eq]
  by_cases haj : a < j
  · obtain ⟨k, rfl⟩ : ∃ k, j = k + 1 := ⟨j - 1, by omega⟩
    have hk : k < N := Nat.lt_of_succ_lt hj
    have c1 := sort_lt haj
    have wp := sort_pred (i := k) (by omega)
    have i1 := sl_idx1 (b := b) (c := c) hj
    have i2 := sl_idx1 (b := b) (c := c) hk
    have l1 := A.ld hj
    have l2 := A.ld hk
    obtain ⟨n, g1, ec, hn, A1, _⟩ := A.cmp K hj hk
    have l3 := A1.ld hj
    have l4 := A1.ld hk
    obtain ⟨g2, g3, s1, s2, A3, _⟩ := A1.swap hj hk
    rw [insInner] at hd
    cases hl : lt d1[k + 1]! d1[k]! with
    | true =>
      rw [if_pos (by rw [hl]; simpa using haj)] at hd
      simp only [S.slices_insertionSortCmpFunc_int__c2_S, c1, wp, i1, i2, obind, ld1_get', l1, l2, ec, asI_int, hn, hl, l3, l4, s1, s2]
      exact Ev.some (.inl ⟨(k, swp d1 (k + 1) k), rfl, rfl, ⟨hk, A3, hd⟩, Nat.lt_succ_self k⟩)
    | false =>
      rw [if_neg (by rw [hl]; simp)] at hd
      simp only [S.slices_insertionSortCmpFunc_int__c2_S, c1, wp, i1, i2, obind, ld1_get', l1, l2, ec, asI_int, hn, hl]
      exact Ev.some (.inr ⟨by simp, rfl, rfl, hd ▸ A1⟩)
  · rw [insInner_stop haj] at hd
    simp only [S.slices_insertionSortCmpFunc_int__c2_S, sort_nlt haj]
    exact Ev.some (.inr ⟨by simp, rfl, rfl, hd ▸ A⟩)

theorem insertion_spec (A : Sw h0 b N h d) (K : Cmp h0 b N f cs lt) (hN : N ≤ 1000) {a e : Nat} (he : e ≤ N) (ha : a ≤ N) :
    Ev (C 450 [.sl b 0 N c, .int .i64 (a : Int), .int .i64 (e : Int), .fn f cs] h) fun z => z.1 = .tup [] ∧ Sw h0 b N z.2 (Go.Sort.insertionSort lt d a e) := by
  refine call_ev (af := F.slices_insertionSortCmpFunc_int_) (by kernel_rfl) rfl ?_
  rw [S.slices_insertionSortCmpFunc_int__eq]
  simp only [S.slices_insertionSortCmpFunc_int_, sort_succ (i := a) (by omega)]
  unfold Go.Sort.insertionSort
  refine loop_ev (α := Nat × Array Int) (fun q => S.slices_insertionSortCmpFunc_int__c0_E (.sl b 0 N c) (.int .i64 (a : Int)) (.int .i64 (e : Int)) (.fn f cs) (.int .i64 (q.1 : Int)))
    (fun q h => Sw h0 b N h q.2 ∧ insOuter lt a e q.1 q.2 = insOuter lt a e (a + 1) d) (fun q _ => e - q.1)
    (fun z => z.1 = .exit 0 ∧ z.2.1 = S.slices_insertionSortCmpFunc_int__c0_O ∧ Sw h0 b N z.2.2 (insOuter lt a e (a + 1) d)) (a + 1, d) rfl ⟨A, rfl⟩ ?_ ?_
  rotate_left
  · rintro ⟨_, _, g⟩ ⟨rfl, rfl, A⟩
    show Ev (S.slices_insertionSortCmpFunc_int__K1 W (.exit 0) _ _) _
    rw [S.slices_insertionSortCmpFunc_int__c0_e0_eq]
    exact Ev.some ⟨rfl, A⟩
  rintro ⟨i, d1⟩ g ⟨A, hd⟩
  dsimp only at A hd
  rw [S.slices_insertionSortCmpFunc_int__c0_eq]
  rw [insOuter] at hd
  by_cases hi : i < e
  · rw [if_pos hi] at hd
    simp only [S.slices_insertionSortCmpFunc_int__c0_S, sort_lt hi]
    refine (insInner_spec A K hN (a := a) (e := e) (Nat.lt_of_lt_of_le hi he)).mono ?_
    rintro ⟨_, _, g1⟩ ⟨rfl, rfl, A1⟩
    exact .inl ⟨(i + 1, insInner lt a i d1), rfl, rfl, ⟨A1, hd⟩, Nat.sub_lt_sub_left hi (Nat.lt_succ_self i)⟩
  · rw [if_neg hi] at hd
    simp only [S.slices_insertionSortCmpFunc_int__c0_S, sort_nlt hi]
    exact Ev.some (.inr ⟨by simp, rfl, rfl, hd ▸ A⟩)
end
end Wm
end

section
/- The heap sort; a range reversed. -/
namespace Wm
attribute [local congr] bind_congr1
attribute [local irreducible] wr
open Go.Sort (swp siftDown heapBuild heapPop reverseLoop)

section
variable {h0 h : H} {b N f : Nat} {cs : List V} {lt : Int → Int → Bool} {d : Array Int} {c : Cap}

theorem sort_le {i j : Nat} (h : i ≤ j) : decide ((i : Int) ≤ (j : Int)) = true := decide_eq_true (by omega)
theorem sort_nle {i j : Nat} (h : ¬ i ≤ j) : decide ((i : Int) ≤ (j : Int)) = false := decide_eq_false (by omega)
theorem sort_add {i j : Nat} (h : i + j ≤ 9000) : wr .i64 ((i : Int) + (j : Int)) = ((i + j : Nat) : Int) := by rw [wr64 (by omega) (by omega)]; omega
theorem sort_sub {i j : Nat} (h : j ≤ i) (hi : i ≤ 9000) : wr .i64 ((i : Int) - (j : Int)) = ((i - j : Nat) : Int) := by rw [wr64 (by omega) (by omega)]; omega
theorem sort_twice {i : Nat} (h : i ≤ 9000) : wr .i64 (2 * (i : Int)) = ((2 * i : Nat) : Int) := by rw [wr64 (by omega) (by omega)]; omega
end
end Wm
end

section
/- Ranges that change places; a rotation. -/
namespace Wm
attribute [local congr] bind_congr1
attribute [local irreducible] wr
open Go.Sort (swp PermIn permIn_trans permIn_refl permIn_mono)

/-- Two ranges, of n each, change places. -/
def swpR (d : Array Int) (a b : Nat) : Nat → Array Int
  | 0 => d
  | n + 1 => swp (swpR d a b n) (a + n) (b + n)
theorem swpR_size (d : Array Int) (a b : Nat) : ∀ n, (swpR d a b n).size = d.size
  | 0 => rfl
  | n + 1 => by rw [swpR, Go.Sort.swp_size, swpR_size d a b n]
theorem swpR_perm {d : Array Int} {a b lo hi : Nat} (hhi : hi ≤ d.size) : ∀ n, lo ≤ a → a + n ≤ hi → lo ≤ b → b + n ≤ hi → PermIn lo hi d (swpR d a b n)
  | 0, _, _, _, _ => permIn_refl _ _ _
  | n + 1, h1, h2, h3, h4 => by
    have ih := swpR_perm (d := d) (a := a) (b := b) (lo := lo) hhi n h1 (by omega) h3 (by omega)
    exact permIn_trans _ _ _ _ _ ih (Go.Sort.swp_permIn _ lo hi _ _ (by omega) (by omega) (by omega) (by omega) (by rw [swpR_size]; exact hhi))
theorem swpR_get {d : Array Int} {a b : Nat} : ∀ n, a + n ≤ b → b + n ≤ d.size → ∀ k, (swpR d a b n)[k]! = if a ≤ k ∧ k < a + n then d[b + (k - a)]! else if b ≤ k ∧ k < b + n then d[a + (k - b)]! else d[k]!
  | 0, _, _, k => by rw [if_neg (by omega), if_neg (by omega)]; rfl
  | n + 1, h1, h2, k => by
    have ih := swpR_get (d := d) (a := a) (b := b) n (by omega) (by omega)
    rw [swpR]
    by_cases k1 : k = b + n
    · subst k1
      rw [Go.Sort.swp_right _ _ _ (by rw [swpR_size]; omega), ih, if_neg (by omega), if_neg (by omega), if_neg (by omega), if_pos (by omega)]
      congr 2; omega
    by_cases k2 : k = a + n
    · subst k2
      rw [Go.Sort.swp_left _ _ _ (by rw [swpR_size]; omega) (by omega), ih, if_neg (by omega), if_neg (by omega), if_pos (by omega)]
      congr 2; omega
    · rw [Go.Sort.swp_other _ _ _ _ k2 k1, ih]
      by_cases q1 : a ≤ k ∧ k < a + n
      · rw [if_pos q1, if_pos (by omega)]
      · rw [if_neg q1, if_neg (show ¬ (a ≤ k ∧ k < a + (n + 1)) by omega)]
        by_cases q2 : b ≤ k ∧ k < b + n
        · rw [if_pos q2, if_pos (by omega)]
        · rw [if_neg q2, if_neg (by omega)]

/-- What a rotation comes to: [a, m) and [m, b) have changed places. -/
def rotA (d : Array Int) (a m b k : Nat) : Int :=
  if k < a ∨ b ≤ k then d[k]! else if k < a + (b - m) then d[m + (k - a)]! else d[k - (b - m)]!

theorem rot_more {d : Array Int} {m i j : Nat} (hj : j < i) (hi : i ≤ m) (hb : m + j ≤ d.size) (k : Nat) : rotA (swpR d (m - i) m j) (m - (i - j)) m (m + j) k = rotA d (m - i) m (m + j) k := by
  have g := swpR_get (d := d) (a := m - i) (b := m) j (by omega) hb
  unfold rotA
  by_cases c1 : k < m - i ∨ m + j ≤ k
  · rw [if_pos (show k < m - (i - j) ∨ m + j ≤ k by omega), if_pos c1, g, if_neg (by omega), if_neg (by omega)]
  rw [if_neg c1]
  by_cases c2 : k < m - i + j
  · rw [if_pos (show k < m - (i - j) ∨ m + j ≤ k by omega), if_pos (show k < m - i + (m + j - m) by omega), g, if_pos (by omega)]
  rw [if_neg (show ¬ (k < m - (i - j) ∨ m + j ≤ k) by omega), if_neg (show ¬ k < m - i + (m + j - m) by omega)]
  by_cases c3 : k < m - (i - j) + (m + j - m)
  · rw [if_pos c3, g, if_neg (by omega), if_pos (by omega)]
    congr 1; omega
  · rw [if_neg c3, g, if_neg (by omega), if_neg (by omega)]
theorem rot_less {d : Array Int} {m i j : Nat} (hj : i < j) (hi : i ≤ m) (hb : m + j ≤ d.size) (k : Nat) : rotA (swpR d (m - i) (m + j - i) i) (m - i) m (m + (j - i)) k = rotA d (m - i) m (m + j) k := by
  have g := swpR_get (d := d) (a := m - i) (b := m + j - i) i (by omega) (by omega)
  unfold rotA
  by_cases c1 : k < m - i ∨ m + j ≤ k
  · rw [if_pos (show k < m - i ∨ m + (j - i) ≤ k by omega), if_pos c1, g, if_neg (by omega), if_neg (by omega)]
  rw [if_neg c1]
  by_cases c2 : m + (j - i) ≤ k
  · rw [if_pos (show k < m - i ∨ m + (j - i) ≤ k by omega), if_neg (show ¬ k < m - i + (m + j - m) by omega), g, if_neg (by omega), if_pos (by omega)]
    congr 1; omega
  rw [if_neg (show ¬ (k < m - i ∨ m + (j - i) ≤ k) by omega), if_pos (show k < m - i + (m + j - m) by omega)]
  by_cases c3 : k < m - i + (m + (j - i) - m)
  · rw [if_pos c3, g, if_neg (by omega), if_neg (by omega)]
  · rw [if_neg c3, g, if_pos (by omega)]
    congr 1; omega
theorem rot_same {d : Array Int} {m i : Nat} (hi : i ≤ m) (hb : m + i ≤ d.size) (k : Nat) : (swpR d (m - i) m i)[k]! = rotA d (m - i) m (m + i) k := by
  rw [swpR_get (d := d) (a := m - i) (b := m) i (by omega) hb]
  unfold rotA
  by_cases c1 : k < m - i ∨ m + i ≤ k
  · rw [if_pos c1, if_neg (by omega), if_neg (by omega)]
  rw [if_neg c1]
  by_cases c2 : k < m - i + i
  · rw [if_pos (by omega), if_pos (by omega)]
  · rw [if_neg (by omega), if_pos (by omega), if_neg (by omega)]
    congr 1; omega

section
variable {h0 h : H} {b N : Nat} {d : Array Int} {c : Cap}

theorem swapRange_spec (A : Sw h0 b N h d) (hN : N ≤ 1000) {a m n : Nat} (ha : a + n ≤ N) (hm : m + n ≤ N) (x : V) :
    Ev (C 513 [.sl b 0 N c, .int .i64 (a : Int), .int .i64 (m : Int), .int .i64 (n : Int), x] h) fun z => z.1 = .tup [] ∧ Sw h0 b N z.2 (swpR d a m n) := by
  refine call_ev (af := F.slices_swapRangeCmpFunc_int_) (by kernel_rfl) rfl ?_
  rw [S.slices_swapRangeCmpFunc_int__eq]
  simp only [S.slices_swapRangeCmpFunc_int_]
  refine loop_ev (α := Nat) (fun q => S.slices_swapRangeCmpFunc_int__c0_E (.sl b 0 N c) (.int .i64 (a : Int)) (.int .i64 (m : Int)) (.int .i64 (n : Int)) (.int .i64 (q : Int)))
    (fun q h => q ≤ n ∧ Sw h0 b N h (swpR d a m q)) (fun q _ => n - q)
    (fun z => z.1 = .exit 0 ∧ z.2.1 = S.slices_swapRangeCmpFunc_int__c0_O ∧ Sw h0 b N z.2.2 (swpR d a m n)) 0 rfl ⟨Nat.zero_le _, A⟩ ?_ ?_
  rotate_left
  · rintro ⟨_, _, g⟩ ⟨rfl, rfl, A⟩
    show Ev (S.slices_swapRangeCmpFunc_int__K1 W (.exit 0) _ _) _
    rw [S.slices_swapRangeCmpFunc_int__c0_e0_eq]
    exact Ev.some ⟨rfl, A⟩
  clear A
  rintro q g ⟨hq, A⟩
  rw [S.slices_swapRangeCmpFunc_int__c0_eq]
  by_cases hqn : q < n
  · have h1 : a + q < N := by omega
    have h2 : m + q < N := by omega
    have q9 : q ≤ 9000 := by omega
    have w1 := sort_add (i := m) (j := q) (by omega)
    have w2 := sort_add (i := a) (j := q) (by clear w1; omega)
    have w3 := sort_succ q9
    have i1 := sl_idx1 (b := b) (c := c) h1
    have i2 := sl_idx1 (b := b) (c := c) h2
    have l1 := A.ld h1
    have l2 := A.ld h2
    obtain ⟨g1, g2, s1, s2, A2, _⟩ := A.swap h1 h2
    simp only [S.slices_swapRangeCmpFunc_int__c0_S, sort_lt hqn, w1, w2, w3, i1, i2, obind, ld1_get', l1, l2, s1, s2]
    exact Ev.some (.inl ⟨q + 1, rfl, rfl, ⟨hqn, A2⟩, Nat.sub_lt_sub_left hqn (Nat.lt_succ_self q)⟩)
  · have hqe : q = n := Nat.le_antisymm hq (Nat.le_of_not_lt hqn)
    subst hqe
    simp only [S.slices_swapRangeCmpFunc_int__c0_S, sort_nlt hqn]
    exact Ev.some (.inr ⟨by simp, rfl, rfl, A⟩)

theorem rot_ne {i j : Nat} : decide ((i : Int) = (j : Int)) = decide (i = j) := by rw [decide_eq_decide]; omega

theorem rotate_spec (A : Sw h0 b N h d) (hN : N ≤ 1000) {a m e : Nat} (ham : a < m) (hme : m < e) (he : e ≤ N) (x : V) :
    Ev (C 492 [.sl b 0 N c, .int .i64 (a : Int), .int .i64 (m : Int), .int .i64 (e : Int), x] h) fun z => ∃ R, z.1 = .tup [] ∧ PermIn a e d R ∧ (∀ k, R[k]! = rotA d a m e k) ∧ Sw h0 b N z.2 R := by
  refine call_ev (af := F.slices_rotateCmpFunc_int_) (by kernel_rfl) rfl ?_
  rw [S.slices_rotateCmpFunc_int__eq]
  have n9 : N ≤ 9000 := Nat.le_trans hN (by decide)
  have m9 : m ≤ 9000 := by omega
  have w1 := sort_sub (i := m) (j := a) (Nat.le_of_lt ham) m9
  have w2 := sort_sub (i := e) (j := m) (Nat.le_of_lt hme) (Nat.le_trans he n9)
  simp only [S.slices_rotateCmpFunc_int_, w1, w2]
  clear w1 w2
  refine loop_ev (α := Nat × Nat × Array Int) (fun q => S.slices_rotateCmpFunc_int__c1_E (.sl b 0 N c) (.int .i64 (m : Int)) x (.int .i64 (q.1 : Int)) (.int .i64 (q.2.1 : Int)))
    (fun q h => (0 < q.1 ∧ 0 < q.2.1 ∧ q.1 ≤ m - a ∧ q.2.1 ≤ e - m) ∧ Sw h0 b N h q.2.2 ∧ PermIn a e d q.2.2 ∧ ∀ k, rotA q.2.2 (m - q.1) m (m + q.2.1) k = rotA d a m e k) (fun q _ => q.1 + q.2.1)
    (fun z => ∃ i d', (0 < i ∧ i ≤ m - a ∧ i ≤ e - m) ∧ z.1 = .exit 0 ∧ z.2.1 = S.slices_rotateCmpFunc_int__c1_O (.sl b 0 N c) (.int .i64 (m : Int)) x (.int .i64 (i : Int)) ∧ Sw h0 b N z.2.2 d' ∧ PermIn a e d d' ∧ ∀ k, rotA d' (m - i) m (m + i) k = rotA d a m e k) (m - a, e - m, d) rfl
    ⟨⟨by dsimp only; omega, by dsimp only; omega, Nat.le_refl _, Nat.le_refl _⟩, A, permIn_refl _ _ _, fun k => by dsimp only; rw [show m - (m - a) = a by omega, show m + (e - m) = e by omega]⟩ ?_ ?_
  · clear A
    rintro ⟨i, j, d1⟩ g ⟨⟨i0, j0, hi, hj⟩, A, hp, hr⟩
    dsimp only at i0 j0 hi hj A hp hr
    have hsz := A.sz
    rw [S.slices_rotateCmpFunc_int__c1_eq]
    by_cases hij : i = j
    · subst hij
      simp only [S.slices_rotateCmpFunc_int__c1_S, decide_true, Bool.not_true]
      exact Ev.some (.inr ⟨by simp, i, d1, ⟨i0, hi, hj⟩, rfl, rfl, A, hp, hr⟩)
    have i9 : i ≤ m := by omega
    have z1 : m - i + i ≤ N := by omega
    by_cases hlt : j < i
    · have w1 := sort_sub (i := m) (j := i) i9 m9
      have w2 := sort_sub (i := i) (j := j) (Nat.le_of_lt hlt) (by clear w1; omega)
      obtain ⟨⟨v, g1⟩, e1, rfl, A1⟩ := swapRange_spec (c := c) (a := m - i) (m := m) (n := j) A hN (by clear w1 w2; omega) (by clear w1 w2; omega) x
      dsimp only at A1
      simp only [S.slices_rotateCmpFunc_int__c1_S, rot_ne, decide_eq_false hij, Bool.not_false, sort_lt hlt, w1, w2, W_call, e1, obind]
      clear w1 w2 e1
      refine Ev.some (.inl ⟨(i - j, j, _), rfl, rfl, ⟨⟨by dsimp only; omega, j0, by dsimp only; omega, hj⟩, A1, permIn_trans _ _ _ _ _ hp (swpR_perm (by rw [hsz]; exact he) j (by omega) (by omega) (by omega) (by omega)), fun k => ?_⟩, by dsimp only; omega⟩)
      exact (rot_more hlt i9 (by rw [hsz]; omega) k).trans (hr k)
    · have hlt' : i < j := by omega
      have w1 := sort_sub (i := m) (j := i) i9 m9
      have w2 := sort_add (i := m) (j := j) (by clear w1; omega)
      have w3 := sort_sub (i := m + j) (j := i) (by clear w1 w2; omega) (by clear w1 w2; omega)
      have w4 := sort_sub (i := j) (j := i) (Nat.le_of_lt hlt') (by clear w1 w2 w3; omega)
      obtain ⟨⟨v, g1⟩, e1, rfl, A1⟩ := swapRange_spec (c := c) (a := m - i) (m := m + j - i) (n := i) A hN z1 (by clear w1 w2 w3 w4; omega) x
      dsimp only at A1
      simp only [S.slices_rotateCmpFunc_int__c1_S, rot_ne, decide_eq_false hij, Bool.not_false, sort_nlt hlt, w1, w2, w3, w4, W_call, e1, obind]
      clear w1 w2 w3 w4 e1
      refine Ev.some (.inl ⟨(i, j - i, _), rfl, rfl, ⟨⟨i0, by dsimp only; omega, hi, by dsimp only; omega⟩, A1, permIn_trans _ _ _ _ _ hp (swpR_perm (by rw [hsz]; exact he) i (by omega) (by omega) (by omega) (by omega)), fun k => ?_⟩, by dsimp only; omega⟩)
      exact (rot_less hlt' i9 (by rw [hsz]; omega) k).trans (hr k)
  rintro ⟨_, _, g⟩ ⟨i, d1, ⟨i0, hi, hj⟩, rfl, rfl, A, hp, hr⟩
  dsimp only at A
  have hsz := A.sz
  show Ev (S.slices_rotateCmpFunc_int__K2 W (.exit 0) _ _) _
  rw [S.slices_rotateCmpFunc_int__c1_e0_eq]
  have i9 : i ≤ m := by omega
  have z1 : m - i + i ≤ N := by omega
  have z2 : m + i ≤ N := by omega
  obtain ⟨⟨v, g1⟩, e1, rfl, A1⟩ := swapRange_spec (c := c) (a := m - i) (m := m) (n := i) A hN z1 z2 x
  dsimp only at A1
  have w1 := sort_sub (i := m) (j := i) i9 m9
  simp only [S.slices_rotateCmpFunc_int__c1_e0, w1, W_call, e1, obind]
  clear w1 e1
  exact Ev.some ⟨_, rfl, permIn_trans _ _ _ _ _ hp (swpR_perm (by rw [hsz]; exact he) i (by omega) (by omega) (by omega) (by omega)), fun k => (rot_same i9 (by rw [hsz]; exact z2) k).trans (hr k), A1⟩
end
end Wm
end

section
/- A stable sort is one by a finer order: what stood ahead is less. Two rows merged. -/
namespace Wm
open Go.Sort (swp PermIn SortedIn SWO permIn_trans permIn_refl permIn_mono permIn_all insInner insOuter)

def ltS (lt : Int → Int → Bool) (x y : Int) : Bool := lt x y || (!lt y x && decide (x < y))
theorem ltS_up {lt : Int → Int → Bool} (h : SWO lt) {x y : Int} (hxy : x < y) : ltS lt x y = !lt y x := by
  unfold ltS
  cases h1 : lt y x with
  | true => rw [h.asymm h1]; rfl
  | false => simp [hxy]
theorem ltS_dn {lt : Int → Int → Bool} {x y : Int} (hxy : x < y) : ltS lt y x = lt y x := by
  unfold ltS
  rw [decide_eq_false (show ¬ y < x by omega), Bool.and_false, Bool.or_false]
theorem ltS_false {lt : Int → Int → Bool} {x y : Int} : ltS lt x y = false ↔ lt x y = false ∧ (lt y x = true ∨ y ≤ x) := by
  unfold ltS
  cases h1 : lt x y <;> cases h2 : lt y x <;> simp
theorem ltS_swo {lt : Int → Int → Bool} (h : SWO lt) : SWO (ltS lt) where
  irrefl x := by unfold ltS; simp [h.irrefl x]
  trans x y z h1 h2 := by
    have e1 : lt x y = true ∨ (lt y x = false ∧ x < y) := by unfold ltS at h1; simpa using h1
    have e2 : lt y z = true ∨ (lt z y = false ∧ y < z) := by unfold ltS at h2; simpa using h2
    unfold ltS
    cases h3 : lt x z with
    | true => rfl
    | false =>
      have h4 : lt z x = false := by
        cases h5 : lt z x with
        | false => rfl
        | true =>
          rcases e1 with q | ⟨q, _⟩
          · have := h.trans _ _ _ h5 q
            rcases e2 with r | ⟨r, _⟩
            · rw [h.asymm r] at this; cases this
            · rw [r] at this; cases this
          · rcases e2 with r | ⟨r, _⟩
            · have := h.trans _ _ _ r h5
              rw [q] at this; cases this
            · have := h.ntrans _ _ _ r q
              rw [h5] at this; cases this
      rcases e1 with q | ⟨q, q2⟩
      · rcases e2 with r | ⟨r, r2⟩
        · rw [h.trans _ _ _ q r] at h3; cases h3
        · exfalso
          cases h5 : lt y z with
          | true => rw [h.trans _ _ _ q h5] at h3; cases h3
          | false =>
            have := h.ntrans _ _ _ h3 r
            rw [q] at this; cases this
      · rcases e2 with r | ⟨r, r2⟩
        · exfalso
          cases h5 : lt x y with
          | true => rw [h.trans _ _ _ h5 r] at h3; cases h3
          | false =>
            have := h.ntrans _ _ _ q h3
            rw [r] at this; cases this
        · simp [h4]; omega
  ntrans x y z h1 h2 := by
    rw [ltS_false] at h1 h2 ⊢
    refine ⟨h.ntrans _ _ _ h1.1 h2.1, ?_⟩
    rcases h1.2 with q | q
    · rcases h2.2 with r | r
      · exact .inl (h.trans _ _ _ r q)
      · cases h5 : lt z x with
        | true => exact .inl rfl
        | false =>
          have := h.ntrans _ _ _ h2.1 h5
          rw [q] at this; cases this
    · rcases h2.2 with r | r
      · cases h5 : lt z x with
        | true => exact .inl rfl
        | false =>
          have := h.ntrans _ _ _ h5 h1.1
          rw [r] at this; cases this
      · exact .inr (by omega)
theorem ltS_total {lt : Int → Int → Bool} (x y : Int) (h1 : ltS lt x y = false) (h2 : ltS lt y x = false) : x = y := by
  rw [ltS_false] at h1 h2
  rcases h1.2 with q | q
  · rw [h2.1] at q; cases q
  · rcases h2.2 with r | r
    · rw [h1.1] at r; cases r
    · omega

/-- Two rows side by side, each sorted, the first one's of old. -/
structure Mg (lt : Int → Int → Bool) (a m e : Nat) (d : Array Int) : Prop where
  s1 : SortedIn (ltS lt) a m d
  s2 : SortedIn (ltS lt) m e d
  old : ∀ i j, a ≤ i → i < m → m ≤ j → j < e → d[i]! < d[j]!

section
variable {lt : Int → Int → Bool} {d R : Array Int} {a m e i : Nat}

theorem ins1_sorted (hlt : SWO lt) (M : Mg lt a m e d) (ham : m = a + 1) (hi1 : m ≤ i) (hi : i ≤ e) (h1 : ∀ k, m ≤ k → k < i → lt d[k]! d[a]! = true) (h2 : ∀ k, i ≤ k → k < e → lt d[k]! d[a]! = false) (hR : ∀ k, R[k]! = rotA d a m i k) : SortedIn (ltS lt) a e R := by
  subst ham
  have v : ∀ k, a ≤ k → R[k]! = if k < i - 1 then d[k + 1]! else if k = i - 1 then d[a]! else d[k]! := fun k hk => by
    rw [hR]; unfold rotA
    by_cases c1 : k < i - 1
    · rw [if_neg (by omega), if_pos (by omega), if_pos c1]; congr 1; omega
    · rw [if_neg c1]
      by_cases c2 : k = i - 1
      · rw [if_neg (by omega), if_neg (by omega), if_pos c2]; congr 1; omega
      · rw [if_pos (by omega), if_neg c2]
  intro p q hp hpq hq
  rw [v p hp, v q (by omega)]
  by_cases p1 : p < i - 1
  · rw [if_pos p1]
    by_cases q1 : q < i - 1
    · rw [if_pos q1]; exact M.s2 _ _ (by omega) (by omega) (by omega)
    · rw [if_neg q1]
      by_cases q2 : q = i - 1
      · rw [if_pos q2, ltS_up hlt (M.old a (p + 1) (Nat.le_refl _) (by omega) (by omega) (by omega)), h1 (p + 1) (by omega) (by omega)]; rfl
      · rw [if_neg q2]; exact M.s2 _ _ (by omega) (by omega) (by omega)
  · rw [if_neg p1]
    by_cases p2 : p = i - 1
    · rw [if_pos p2, if_neg (by omega), if_neg (by omega), ltS_dn (M.old a q (Nat.le_refl _) (by omega) (by omega) hq)]
      exact h2 q (by omega) hq
    · rw [if_neg p2, if_neg (by omega), if_neg (by omega)]; exact M.s2 _ _ (by omega) hpq hq

theorem ins2_sorted (hlt : SWO lt) (M : Mg lt a m e d) (hme : e = m + 1) (hi1 : a ≤ i) (hi : i ≤ m) (h1 : ∀ k, a ≤ k → k < i → lt d[m]! d[k]! = false) (h2 : ∀ k, i ≤ k → k < m → lt d[m]! d[k]! = true) (hR : ∀ k, R[k]! = rotA d i m e k) : SortedIn (ltS lt) a e R := by
  subst hme
  have v : ∀ k, k < m + 1 → R[k]! = if k < i then d[k]! else if k = i then d[m]! else d[k - 1]! := fun k hk => by
    rw [hR]; unfold rotA
    by_cases c1 : k < i
    · rw [if_pos (by omega), if_pos c1]
    · rw [if_neg c1]
      by_cases c2 : k = i
      · rw [if_neg (by omega), if_pos (by omega), if_pos c2]; congr 1; omega
      · rw [if_neg (by omega), if_neg (by omega), if_neg c2]; congr 1; omega
  intro p q hp hpq hq
  rw [v p (by omega), v q hq]
  by_cases p1 : p < i
  · rw [if_pos p1]
    by_cases q1 : q < i
    · rw [if_pos q1]; exact M.s1 _ _ hp hpq (by omega)
    · rw [if_neg q1]
      by_cases q2 : q = i
      · rw [if_pos q2, ltS_dn (M.old p m hp (by omega) (Nat.le_refl _) (by omega))]; exact h1 p hp p1
      · rw [if_neg q2]; exact M.s1 _ _ hp (by omega) (by omega)
  · rw [if_neg p1, if_neg (show ¬ q < i by omega), if_neg (show ¬ q = i by omega)]
    by_cases p2 : p = i
    · rw [if_pos p2, ltS_up hlt (M.old (q - 1) m (by omega) (by omega) (Nat.le_refl _) (by omega)), h2 (q - 1) (by omega) (by omega)]; rfl
    · rw [if_neg p2]; exact M.s1 _ _ (by omega) (by omega) (by omega)

theorem split_merge (hlt : SWO lt) (M : Mg lt a m e d) {s t : Nat} (hs1 : a ≤ s) (hs : s ≤ m) (ht1 : m ≤ t) (ht : t ≤ e) (c1 : a < s → t < e → lt d[t]! d[s - 1]! = false) (c2 : s < m → m < t → lt d[t - 1]! d[s]! = true) (hR : ∀ k, R[k]! = rotA d s m t k) :
    Mg lt a s (s + (t - m)) R ∧ Mg lt (s + (t - m)) t e R ∧ ∀ x y, a ≤ x → x < s + (t - m) → s + (t - m) ≤ y → y < e → ltS lt R[y]! R[x]! = false := by
  have hS := ltS_swo hlt
  have v1 : ∀ k, k < s → R[k]! = d[k]! := fun k hk => by rw [hR]; unfold rotA; rw [if_pos (by omega)]
  have v2 : ∀ k, s ≤ k → k < s + (t - m) → R[k]! = d[m + (k - s)]! := fun k h1 h2 => by rw [hR]; unfold rotA; rw [if_neg (by omega), if_pos (by omega)]
  have v3 : ∀ k, s + (t - m) ≤ k → k < t → R[k]! = d[k - (t - m)]! := fun k h1 h2 => by rw [hR]; unfold rotA; rw [if_neg (by omega), if_neg (by omega)]
  have v4 : ∀ k, t ≤ k → R[k]! = d[k]! := fun k hk => by rw [hR]; unfold rotA; rw [if_pos (by omega)]
  -- cross
  have le1 : ∀ x y, a ≤ x → x < s → t ≤ y → y < e → ltS lt d[y]! d[x]! = false := fun x y h1 h2 h3 h4 => by
    have k1 := c1 (by omega) (by omega)
    rw [← ltS_dn (lt := lt) (M.old (s - 1) t (by omega) (by omega) ht1 (by omega))] at k1
    have k2 : ltS lt d[s - 1]! d[x]! = false := by
      rcases Nat.lt_or_eq_of_le (show x ≤ s - 1 by omega) with q | q
      · exact M.s1 x (s - 1) h1 q (by omega)
      · rw [q]; exact hS.irrefl _
    have k3 : ltS lt d[y]! d[t]! = false := by
      rcases Nat.lt_or_eq_of_le h3 with q | q
      · exact M.s2 t y ht1 q h4
      · rw [q]; exact hS.irrefl _
    exact hS.ntrans _ _ _ k3 (hS.ntrans _ _ _ k1 k2)
  have lt2 : ∀ x y, s ≤ x → x < m → m ≤ y → y < t → ltS lt d[x]! d[y]! = false := fun x y h1 h2 h3 h4 => by
    have k1 := c2 (by omega) (by omega)
    have k0 : ltS lt d[s]! d[t - 1]! = false := by
      rw [ltS_up hlt (M.old s (t - 1) hs1 (by omega) (by omega) (by omega)), k1]; rfl
    have k2 : ltS lt d[x]! d[s]! = false := by
      rcases Nat.lt_or_eq_of_le h1 with q | q
      · exact M.s1 s x hs1 q h2
      · rw [q]; exact hS.irrefl _
    have k3 : ltS lt d[t - 1]! d[y]! = false := by
      rcases Nat.lt_or_eq_of_le (show y ≤ t - 1 by omega) with q | q
      · exact M.s2 y (t - 1) h3 q (by omega)
      · rw [q]; exact hS.irrefl _
    exact hS.ntrans _ _ _ k2 (hS.ntrans _ _ _ k0 k3)
  refine ⟨⟨fun p q h1 h2 h3 => ?_, fun p q h1 h2 h3 => ?_, fun p q h1 h2 h3 h4 => ?_⟩, ⟨fun p q h1 h2 h3 => ?_, fun p q h1 h2 h3 => ?_, fun p q h1 h2 h3 h4 => ?_⟩, fun x y h1 h2 h3 h4 => ?_⟩
  · rw [v1 p (by omega), v1 q h3]; exact M.s1 p q h1 h2 (by omega)
  · rw [v2 p h1 (by omega), v2 q (by omega) h3]; exact M.s2 _ _ (by omega) (by omega) (by omega)
  · rw [v1 p h2, v2 q h3 h4]; exact M.old _ _ h1 (by omega) (by omega) (by omega)
  · rw [v3 p h1 (by omega), v3 q (by omega) h3]; exact M.s1 _ _ (by omega) (by omega) (by omega)
  · rw [v4 p h1, v4 q (by omega)]; exact M.s2 _ _ (by omega) h2 h3
  · rw [v3 p h1 h2, v4 q h3]; exact M.old _ _ (by omega) (by omega) (by omega) h4
  · by_cases x1 : x < s
    · rw [v1 x x1]
      by_cases y1 : y < t
      · rw [v3 y h3 y1]; exact M.s1 x (y - (t - m)) h1 (by omega) (by omega)
      · rw [v4 y (by omega)]; exact le1 x y h1 x1 (by omega) h4
    · rw [v2 x (by omega) h2]
      by_cases y1 : y < t
      · rw [v3 y h3 y1]; exact lt2 (y - (t - m)) (m + (x - s)) (by omega) (by omega) (by omega) (by omega)
      · rw [v4 y (by omega)]; exact M.s2 _ _ (by omega) (by omega) h4

theorem glue2 {f : Int → Int → Bool} {mid : Nat} (hL : SortedIn f a mid R) (hR : SortedIn f mid e R) (hx : ∀ x y, a ≤ x → x < mid → mid ≤ y → y < e → f R[y]! R[x]! = false) : SortedIn f a e R := fun p q h1 h2 h3 => by
  by_cases p1 : p < mid
  · by_cases q1 : q < mid
    · exact hL p q h1 h2 q1
    · exact hx p q h1 p1 (by omega) h3
  · exact hR p q (by omega) h2 h3

/-- What is sorted in both parts is sorted. -/
theorem merge_done {f : Int → Int → Bool} {mid : Nat} {R1 R2 : Array Int} (ham : a ≤ mid) (hme : mid ≤ e) (he : e ≤ R.size) (hx : ∀ x y, a ≤ x → x < mid → mid ≤ y → y < e → f R[y]! R[x]! = false) (p1 : PermIn a mid R R1) (s1 : SortedIn f a mid R1) (p2 : PermIn mid e R1 R2) (s2 : SortedIn f mid e R2) : PermIn a e R R2 ∧ SortedIn f a e R2 := by
  have he1 : e ≤ R1.size := by rw [p1.1]; exact he
  refine ⟨permIn_trans _ _ _ a e (permIn_mono _ _ a mid a e (Nat.le_refl _) hme he p1) (permIn_mono _ _ mid e a e ham (Nat.le_refl _) he1 p2), ?_⟩
  have eq2 : ∀ k, k < mid → R2[k]! = R1[k]! := fun k hk => p2.2.1 k (.inl hk)
  refine glue2 (s1.congr fun k h1 h2 => eq2 k h2) s2 fun x y h1 h2 h3 h4 => ?_
  have k1 := permIn_all R R1 a mid (fun v => ∀ y, mid ≤ y → y < e → f R[y]! v = false) (by omega) p1 (fun i h1 h2 y h3 h4 => hx i y h1 h2 h3 h4) x h1 h2
  have k2 := permIn_all R1 R2 mid e (fun v => f v R1[x]! = false) he1 p2 (fun y h3 h4 => by rw [p1.2.1 y (.inr h3)]; exact k1 y h3 h4) y h3 h4
  rw [eq2 x h2]; exact k2
end
end Wm
end

section
/- symMerge: two sorted rows made one. -/
namespace Wm
attribute [local congr] bind_congr1
attribute [local irreducible] wr
open Go.Sort (swp PermIn SortedIn SWO permIn_trans permIn_refl permIn_mono permIn_all)

theorem sort_half {x y : Nat} (h : x + y ≤ 9000) : wr .i64 ((wr .u64 (wr .i64 ((x : Int) + (y : Int)))) / 2 ^ (min (Int.toNat 1) (Go.IntKind.bits .u64))) = (((x + y) / 2 : Nat) : Int) := by
  have e1 : wr .i64 ((x : Int) + (y : Int)) = ((x + y : Nat) : Int) := by rw [wr64 (by omega) (by omega)]; omega
  have e2 : wr .u64 ((x + y : Nat) : Int) = ((x + y : Nat) : Int) := wru64 (by omega) (by omega)
  have e3 : (2 : Int) ^ (min (Int.toNat 1) (Go.IntKind.bits .u64)) = 2 := by decide
  rw [e1, e2, e3, wr64 (by omega) (by omega)]; omega

/-- A first one goes up, by n. -/
def shU (d : Array Int) (a : Nat) : Nat → Array Int
  | 0 => d
  | n + 1 => swp (shU d a n) (a + n) (a + n + 1)
theorem shU_size (d : Array Int) (a : Nat) : ∀ n, (shU d a n).size = d.size
  | 0 => rfl
  | n + 1 => by rw [shU, Go.Sort.swp_size, shU_size d a n]
theorem shU_perm {d : Array Int} {a lo hi : Nat} (hhi : hi ≤ d.size) (h1 : lo ≤ a) : ∀ n, a + n < hi → PermIn lo hi d (shU d a n)
  | 0, _ => permIn_refl _ _ _
  | n + 1, h2 => permIn_trans _ _ _ _ _ (shU_perm hhi h1 n (by omega)) (Go.Sort.swp_permIn _ lo hi _ _ (by omega) (by omega) (by omega) (by omega) (by rw [shU_size]; exact hhi))
theorem shU_get {d : Array Int} {a : Nat} : ∀ n, a + n < d.size → ∀ k, (shU d a n)[k]! = if k < a ∨ a + n < k then d[k]! else if k = a + n then d[a]! else d[k + 1]!
  | 0, _, k => by
    show d[k]! = _
    by_cases h : k = a
    · rw [if_neg (by omega), if_pos (by omega), h]
    · rw [if_pos (by omega)]
  | n + 1, h, k => by
    have ih := shU_get (d := d) (a := a) n (by omega)
    rw [shU]
    by_cases k1 : k = a + n + 1
    · rw [k1, Go.Sort.swp_right _ _ _ (by rw [shU_size]; omega), ih, if_neg (by omega), if_pos rfl, if_neg (by omega), if_pos (by omega)]
    by_cases k2 : k = a + n
    · rw [k2, Go.Sort.swp_left _ _ _ (by rw [shU_size]; omega) (by omega), ih, if_pos (by omega), if_neg (by omega), if_neg (by omega)]
    · rw [Go.Sort.swp_other _ _ _ _ k2 k1, ih]
      by_cases c : k < a ∨ a + n < k
      · rw [if_pos c, if_pos (by omega)]
      · rw [if_neg c, if_neg k2, if_neg (by omega), if_neg (by omega)]
theorem shU_rot {d : Array Int} {a i : Nat} (h1 : a + 1 ≤ i) (h2 : i ≤ d.size) (k : Nat) : (shU d a (i - 1 - a))[k]! = rotA d a (a + 1) i k := by
  rw [shU_get _ (by omega)]
  unfold rotA
  by_cases c : k < a ∨ i ≤ k
  · rw [if_pos (by omega), if_pos c]
  · rw [if_neg (by omega), if_neg c]
    by_cases c2 : k = a + (i - 1 - a)
    · rw [if_pos c2, if_neg (by omega)]; congr 1; omega
    · rw [if_neg c2, if_pos (by omega)]; congr 1; omega
/-- A last one goes down, by n. -/
def shD (d : Array Int) (m : Nat) : Nat → Array Int
  | 0 => d
  | n + 1 => swp (shD d m n) (m - n) (m - n - 1)
theorem shD_size (d : Array Int) (a : Nat) : ∀ n, (shD d a n).size = d.size
  | 0 => rfl
  | n + 1 => by rw [shD, Go.Sort.swp_size, shD_size d a n]
theorem shD_perm {d : Array Int} {m lo hi : Nat} (hhi : hi ≤ d.size) (h1 : m < hi) : ∀ n, lo + n ≤ m → PermIn lo hi d (shD d m n)
  | 0, _ => permIn_refl _ _ _
  | n + 1, h2 => permIn_trans _ _ _ _ _ (shD_perm hhi h1 n (by omega)) (Go.Sort.swp_permIn _ lo hi _ _ (by omega) (by omega) (by omega) (by omega) (by rw [shD_size]; exact hhi))
theorem shD_get {d : Array Int} {m : Nat} (hm : m < d.size) : ∀ n, n ≤ m → ∀ k, (shD d m n)[k]! = if k < m - n ∨ m < k then d[k]! else if k = m - n then d[m]! else d[k - 1]!
  | 0, _, k => by
    show d[k]! = _
    by_cases h : k = m
    · rw [if_neg (by omega), if_pos (by omega), h]
    · rw [if_pos (by omega)]
  | n + 1, h, k => by
    have ih := shD_get (d := d) hm n (by omega)
    rw [shD]
    by_cases k1 : k = m - n - 1
    · rw [k1, Go.Sort.swp_right _ _ _ (by rw [shD_size]; omega), ih, if_neg (by omega), if_pos rfl, if_neg (by omega), if_pos (by omega)]
    by_cases k2 : k = m - n
    · rw [k2, Go.Sort.swp_left _ _ _ (by rw [shD_size]; omega) (by omega), ih, if_pos (by omega), if_neg (by omega), if_neg (by omega)]
    · rw [Go.Sort.swp_other _ _ _ _ k2 k1, ih]
      by_cases c : k < m - n ∨ m < k
      · rw [if_pos c, if_pos (by omega)]
      · rw [if_neg c, if_neg k2, if_neg (by omega), if_neg (by omega)]
theorem shD_rot {d : Array Int} {m i : Nat} (h1 : i ≤ m) (h2 : m < d.size) (k : Nat) : (shD d m (m - i))[k]! = rotA d i m (m + 1) k := by
  rw [shD_get h2 _ (by omega)]
  unfold rotA
  by_cases c : k < i ∨ m + 1 ≤ k
  · rw [if_pos (by omega), if_pos c]
  · rw [if_neg (by omega), if_neg c]
    by_cases c2 : k = m - (m - i)
    · rw [if_pos c2, if_pos (by omega)]; congr 1; omega
    · rw [if_neg c2, if_neg (by omega)]; congr 1; omega

section
variable {h0 h : H} {b N f : Nat} {cs : List V} {lt : Int → Int → Bool} {d : Array Int} {c : Cap}

theorem half_in {i j : Nat} (h : i < j) : i ≤ (i + j) / 2 ∧ (i + j) / 2 < j := by omega

theorem smFind1 {R : Type} {kk : AX × List V × H → Option R} {Q : R → Prop} (A : Sw h0 b N h d) (K : Cmp h0 b N f cs lt) (hN : N ≤ 1000) {a m e : Nat} (ha : a < N) (hme : m ≤ e) (he : e ≤ N)
    (mon : ∀ k k', m ≤ k → k ≤ k' → k' < e → lt d[k']! d[a]! = true → lt d[k]! d[a]! = true)
    (out : ∀ i, m ≤ i → i ≤ e → (∀ k, m ≤ k → k < i → lt d[k]! d[a]! = true) → (∀ k, i ≤ k → k < e → lt d[k]! d[a]! = false) → ∀ g, Sw h0 b N g d → Ev (kk (.exit 0, S.slices_symMergeCmpFunc_int__c2_O (.sl b 0 N c) (.int .i64 (a : Int)) (.int .i64 (i : Int)), g)) Q) :
    Ev ((W.loop (S.slices_symMergeCmpFunc_int__c2_B W) (S.slices_symMergeCmpFunc_int__c2_E (.sl b 0 N c) (.int .i64 (a : Int)) (.fn f cs) (.int .i64 (m : Int)) (.int .i64 (e : Int))) h).bind kk) Q := by
  refine loop_ev (α := Nat × Nat) (fun q => S.slices_symMergeCmpFunc_int__c2_E (.sl b 0 N c) (.int .i64 (a : Int)) (.fn f cs) (.int .i64 (q.1 : Int)) (.int .i64 (q.2 : Int)))
    (fun q h => (m ≤ q.1 ∧ q.1 ≤ q.2 ∧ q.2 ≤ e) ∧ Sw h0 b N h d ∧ (∀ k, m ≤ k → k < q.1 → lt d[k]! d[a]! = true) ∧ (∀ k, q.2 ≤ k → k < e → lt d[k]! d[a]! = false)) (fun q _ => q.2 - q.1)
    (fun z => ∃ i, (m ≤ i ∧ i ≤ e) ∧ z.1 = .exit 0 ∧ z.2.1 = S.slices_symMergeCmpFunc_int__c2_O (.sl b 0 N c) (.int .i64 (a : Int)) (.int .i64 (i : Int)) ∧ Sw h0 b N z.2.2 d ∧ (∀ k, m ≤ k → k < i → lt d[k]! d[a]! = true) ∧ (∀ k, i ≤ k → k < e → lt d[k]! d[a]! = false)) (m, e) rfl ⟨⟨Nat.le_refl _, hme, Nat.le_refl _⟩, A, fun k h1 h2 => absurd h2 (Nat.not_lt.mpr h1), fun k h1 h2 => absurd h2 (Nat.not_lt.mpr h1)⟩ ?_ ?_
  rotate_left
  · rintro ⟨_, _, g⟩ ⟨i, ⟨h1, h2⟩, rfl, rfl, A, h3, h4⟩
    exact out i h1 h2 h3 h4 g A
  clear A out
  rintro ⟨i, j⟩ g ⟨⟨h1, h2, h3⟩, A, h4, h5⟩
  dsimp only at h1 h2 h3 h4 h5
  rw [S.slices_symMergeCmpFunc_int__c2_eq]
  by_cases hij : i < j
  · obtain ⟨q1, q2⟩ := half_in hij
    have j9 : i + j ≤ 9000 := by omega
    have hc : (i + j) / 2 < N := by omega
    have c9 : (i + j) / 2 ≤ 9000 := by omega
    have wh := sort_half j9
    generalize (i + j) / 2 = q at q1 q2 hc c9 wh
    have w1 := sort_succ c9
    have i1 := sl_idx1 (b := b) (c := c) hc
    have i2 := sl_idx1 (b := b) (c := c) ha
    have l1 := A.ld hc
    have l2 := A.ld ha
    obtain ⟨n, g1, ec, hn, A1, _⟩ := A.cmp K hc ha
    cases hl : lt d[q]! d[a]! with
    | true =>
      simp only [S.slices_symMergeCmpFunc_int__c2_S, sort_lt hij, wh, w1, i1, i2, obind, ld1_get', l1, l2, ec, asI_int, hn, hl]
      clear wh w1
      exact Ev.some (.inl ⟨(q + 1, j), rfl, rfl, ⟨⟨Nat.le_succ_of_le (Nat.le_trans h1 q1), q2, h3⟩, A1, fun k r1 r2 => mon k q r1 (Nat.le_of_lt_succ r2) (Nat.lt_of_lt_of_le q2 h3) hl, h5⟩, by dsimp only; omega⟩)
    | false =>
      simp only [S.slices_symMergeCmpFunc_int__c2_S, sort_lt hij, wh, i1, i2, obind, ld1_get', l1, l2, ec, asI_int, hn, hl]
      clear wh w1
      refine Ev.some (.inl ⟨(i, q), rfl, rfl, ⟨⟨h1, q1, Nat.le_trans (Nat.le_of_lt q2) h3⟩, A1, h4, fun k r1 r2 => ?_⟩, by dsimp only; omega⟩)
      cases hk : lt d[k]! d[a]! with
      | false => rfl
      | true => rw [mon q k (Nat.le_trans h1 q1) r1 r2 hk] at hl; cases hl
  · have he' : i = j := Nat.le_antisymm h2 (Nat.le_of_not_lt hij)
    subst he'
    simp only [S.slices_symMergeCmpFunc_int__c2_S, sort_nlt hij]
    exact Ev.some (.inr ⟨by simp, i, ⟨h1, h3⟩, rfl, rfl, A, h4, h5⟩)

theorem smFind2 {R : Type} {kk : AX × List V × H → Option R} {Q : R → Prop} (A : Sw h0 b N h d) (K : Cmp h0 b N f cs lt) (hN : N ≤ 1000) {a m : Nat} (hm : m < N) (ham : a ≤ m)
    (mon : ∀ k k', a ≤ k → k ≤ k' → k' < m → lt d[m]! d[k]! = true → lt d[m]! d[k']! = true)
    (out : ∀ i, a ≤ i → i ≤ m → (∀ k, a ≤ k → k < i → lt d[m]! d[k]! = false) → (∀ k, i ≤ k → k < m → lt d[m]! d[k]! = true) → ∀ g, Sw h0 b N g d → Ev (kk (.exit 4, S.slices_symMergeCmpFunc_int__c7_O (.sl b 0 N c) (.int .i64 (m : Int)) (.int .i64 (i : Int)), g)) Q) :
    Ev ((W.loop (S.slices_symMergeCmpFunc_int__c7_B W) (S.slices_symMergeCmpFunc_int__c7_E (.sl b 0 N c) (.int .i64 (m : Int)) (.fn f cs) (.int .i64 (a : Int)) (.int .i64 (m : Int))) h).bind kk) Q := by
  refine loop_ev (α := Nat × Nat) (fun q => S.slices_symMergeCmpFunc_int__c7_E (.sl b 0 N c) (.int .i64 (m : Int)) (.fn f cs) (.int .i64 (q.1 : Int)) (.int .i64 (q.2 : Int)))
    (fun q h => (a ≤ q.1 ∧ q.1 ≤ q.2 ∧ q.2 ≤ m) ∧ Sw h0 b N h d ∧ (∀ k, a ≤ k → k < q.1 → lt d[m]! d[k]! = false) ∧ (∀ k, q.2 ≤ k → k < m → lt d[m]! d[k]! = true)) (fun q _ => q.2 - q.1)
    (fun z => ∃ i, (a ≤ i ∧ i ≤ m) ∧ z.1 = .exit 4 ∧ z.2.1 = S.slices_symMergeCmpFunc_int__c7_O (.sl b 0 N c) (.int .i64 (m : Int)) (.int .i64 (i : Int)) ∧ Sw h0 b N z.2.2 d ∧ (∀ k, a ≤ k → k < i → lt d[m]! d[k]! = false) ∧ (∀ k, i ≤ k → k < m → lt d[m]! d[k]! = true)) (a, m) rfl ⟨⟨Nat.le_refl _, ham, Nat.le_refl _⟩, A, fun k h1 h2 => absurd h2 (Nat.not_lt.mpr h1), fun k h1 h2 => absurd h2 (Nat.not_lt.mpr h1)⟩ ?_ ?_
  rotate_left
  · rintro ⟨_, _, g⟩ ⟨i, ⟨h1, h2⟩, rfl, rfl, A, h3, h4⟩
    exact out i h1 h2 h3 h4 g A
  clear A out
  rintro ⟨i, j⟩ g ⟨⟨h1, h2, h3⟩, A, h4, h5⟩
  dsimp only at h1 h2 h3 h4 h5
  rw [S.slices_symMergeCmpFunc_int__c7_eq]
  by_cases hij : i < j
  · obtain ⟨q1, q2⟩ := half_in hij
    have j9 : i + j ≤ 9000 := by omega
    have hc : (i + j) / 2 < N := by omega
    have c9 : (i + j) / 2 ≤ 9000 := by omega
    have wh := sort_half j9
    generalize (i + j) / 2 = q at q1 q2 hc c9 wh
    have w1 := sort_succ c9
    have i1 := sl_idx1 (b := b) (c := c) hc
    have i2 := sl_idx1 (b := b) (c := c) hm
    have l1 := A.ld hc
    have l2 := A.ld hm
    obtain ⟨n, g1, ec, hn, A1, _⟩ := A.cmp K hm hc
    cases hl : lt d[m]! d[q]! with
    | false =>
      simp only [S.slices_symMergeCmpFunc_int__c7_S, sort_lt hij, wh, w1, i1, i2, obind, ld1_get', l1, l2, ec, asI_int, hn, hl, Bool.not_false]
      clear wh w1
      refine Ev.some (.inl ⟨(q + 1, j), rfl, rfl, ⟨⟨Nat.le_succ_of_le (Nat.le_trans h1 q1), q2, h3⟩, A1, fun k r1 r2 => ?_, h5⟩, by dsimp only; omega⟩)
      cases hk : lt d[m]! d[k]! with
      | false => rfl
      | true => rw [mon k q r1 (Nat.le_of_lt_succ r2) (Nat.lt_of_lt_of_le q2 h3) hk] at hl; cases hl
    | true =>
      simp only [S.slices_symMergeCmpFunc_int__c7_S, sort_lt hij, wh, i1, i2, obind, ld1_get', l1, l2, ec, asI_int, hn, hl, Bool.not_true]
      clear wh w1
      exact Ev.some (.inl ⟨(i, q), rfl, rfl, ⟨⟨h1, q1, Nat.le_trans (Nat.le_of_lt q2) h3⟩, A1, h4, fun k r1 r2 => mon q k (Nat.le_trans h1 q1) r1 r2 hl⟩, by dsimp only; omega⟩)
  · have he' : i = j := Nat.le_antisymm h2 (Nat.le_of_not_lt hij)
    subst he'
    simp only [S.slices_symMergeCmpFunc_int__c7_S, sort_nlt hij]
    exact Ev.some (.inr ⟨by simp, i, ⟨h1, h3⟩, rfl, rfl, A, h4, h5⟩)

theorem smFind3 {R : Type} {kk : AX × List V × H → Option R} {Q : R → Prop} (A : Sw h0 b N h d) (K : Cmp h0 b N f cs lt) (hN : N ≤ 1000) {s0 r0 p : Nat} {x1 x2 x3 x18 x19 : Int} (hsr : s0 ≤ r0) (hr : r0 ≤ N) (hp : ∀ k, s0 ≤ k → k < r0 → k ≤ p ∧ p - k < N) (hp9 : p ≤ 9000)
    (mon : ∀ k k', s0 ≤ k → k ≤ k' → k' < r0 → lt d[p - k]! d[k]! = true → lt d[p - k']! d[k']! = true)
    (out : ∀ i, s0 ≤ i → i ≤ r0 → (∀ k, s0 ≤ k → k < i → lt d[p - k]! d[k]! = false) → (∀ k, i ≤ k → k < r0 → lt d[p - k]! d[k]! = true) → ∀ g, Sw h0 b N g d → Ev (kk (.exit 8, S.slices_symMergeCmpFunc_int__c13_O (.sl b 0 N c) (.int .i64 x1) (.int .i64 x2) (.int .i64 x3) (.fn f cs) (.int .i64 x18) (.int .i64 x19) (.int .i64 (i : Int)), g)) Q) :
    Ev ((W.loop (S.slices_symMergeCmpFunc_int__c13_B W) (S.slices_symMergeCmpFunc_int__c13_E (.sl b 0 N c) (.int .i64 x1) (.int .i64 x2) (.int .i64 x3) (.fn f cs) (.int .i64 x18) (.int .i64 x19) (.int .i64 (s0 : Int)) (.int .i64 (r0 : Int)) (.int .i64 (p : Int))) h).bind kk) Q := by
  refine loop_ev (α := Nat × Nat) (fun q => S.slices_symMergeCmpFunc_int__c13_E (.sl b 0 N c) (.int .i64 x1) (.int .i64 x2) (.int .i64 x3) (.fn f cs) (.int .i64 x18) (.int .i64 x19) (.int .i64 (q.1 : Int)) (.int .i64 (q.2 : Int)) (.int .i64 (p : Int)))
    (fun q h => (s0 ≤ q.1 ∧ q.1 ≤ q.2 ∧ q.2 ≤ r0) ∧ Sw h0 b N h d ∧ (∀ k, s0 ≤ k → k < q.1 → lt d[p - k]! d[k]! = false) ∧ (∀ k, q.2 ≤ k → k < r0 → lt d[p - k]! d[k]! = true)) (fun q _ => q.2 - q.1)
    (fun z => ∃ i, (s0 ≤ i ∧ i ≤ r0) ∧ z.1 = .exit 8 ∧ z.2.1 = S.slices_symMergeCmpFunc_int__c13_O (.sl b 0 N c) (.int .i64 x1) (.int .i64 x2) (.int .i64 x3) (.fn f cs) (.int .i64 x18) (.int .i64 x19) (.int .i64 (i : Int)) ∧ Sw h0 b N z.2.2 d ∧ (∀ k, s0 ≤ k → k < i → lt d[p - k]! d[k]! = false) ∧ (∀ k, i ≤ k → k < r0 → lt d[p - k]! d[k]! = true)) (s0, r0) rfl ⟨⟨Nat.le_refl _, hsr, Nat.le_refl _⟩, A, fun k h1 h2 => absurd h2 (Nat.not_lt.mpr h1), fun k h1 h2 => absurd h2 (Nat.not_lt.mpr h1)⟩ ?_ ?_
  rotate_left
  · rintro ⟨_, _, g⟩ ⟨i, ⟨h1, h2⟩, rfl, rfl, A, h3, h4⟩
    exact out i h1 h2 h3 h4 g A
  clear A out
  rintro ⟨i, j⟩ g ⟨⟨h1, h2, h3⟩, A, h4, h5⟩
  dsimp only at h1 h2 h3 h4 h5
  rw [S.slices_symMergeCmpFunc_int__c13_eq]
  by_cases hij : i < j
  · obtain ⟨q1, q2⟩ := half_in hij
    have j9 : i + j ≤ 9000 := by omega
    have hc : (i + j) / 2 < N := by omega
    have c9 : (i + j) / 2 ≤ 9000 := by omega
    have wh := sort_half j9
    generalize (i + j) / 2 = q at q1 q2 hc c9 wh
    obtain ⟨p1, p2⟩ := hp q (Nat.le_trans h1 q1) (Nat.lt_of_lt_of_le q2 h3)
    have w1 := sort_succ c9
    have w2 := sort_sub p1 hp9
    have i1 := sl_idx1 (b := b) (c := c) p2
    have i2 := sl_idx1 (b := b) (c := c) hc
    have l1 := A.ld p2
    have l2 := A.ld hc
    obtain ⟨n, g1, ec, hn, A1, _⟩ := A.cmp K p2 hc
    cases hl : lt d[p - q]! d[q]! with
    | false =>
      simp only [S.slices_symMergeCmpFunc_int__c13_S, sort_lt hij, wh, w1, w2, i1, i2, obind, ld1_get', l1, l2, ec, asI_int, hn, hl, Bool.not_false]
      clear wh w1 w2
      refine Ev.some (.inl ⟨(q + 1, j), rfl, rfl, ⟨⟨Nat.le_succ_of_le (Nat.le_trans h1 q1), q2, h3⟩, A1, fun k r1 r2 => ?_, h5⟩, by dsimp only; omega⟩)
      cases hk : lt d[p - k]! d[k]! with
      | false => rfl
      | true => rw [mon k q r1 (Nat.le_of_lt_succ r2) (Nat.lt_of_lt_of_le q2 h3) hk] at hl; cases hl
    | true =>
      simp only [S.slices_symMergeCmpFunc_int__c13_S, sort_lt hij, wh, w2, i1, i2, obind, ld1_get', l1, l2, ec, asI_int, hn, hl, Bool.not_true]
      clear wh w1 w2
      exact Ev.some (.inl ⟨(i, q), rfl, rfl, ⟨⟨h1, q1, Nat.le_trans (Nat.le_of_lt q2) h3⟩, A1, h4, fun k r1 r2 => mon q k (Nat.le_trans h1 q1) r1 r2 hl⟩, by dsimp only; omega⟩)
  · have he' : i = j := Nat.le_antisymm h2 (Nat.le_of_not_lt hij)
    subst he'
    simp only [S.slices_symMergeCmpFunc_int__c13_S, sort_nlt hij]
    exact Ev.some (.inr ⟨by simp, i, ⟨h1, h3⟩, rfl, rfl, A, h4, h5⟩)

theorem smUp {R : Type} {kk : AX × List V × H → Option R} {Q : R → Prop} (A : Sw h0 b N h d) (hN : N ≤ 1000) {a i : Nat} (hai : a < i) (hi : i ≤ N)
    (out : ∀ g, Sw h0 b N g (shU d a (i - 1 - a)) → Ev (kk (.exit 2, S.slices_symMergeCmpFunc_int__c4_O, g)) Q) :
    Ev ((W.loop (S.slices_symMergeCmpFunc_int__c4_B W) (S.slices_symMergeCmpFunc_int__c4_E (.sl b 0 N c) (.int .i64 (i : Int)) (.int .i64 (a : Int))) h).bind kk) Q := by
  refine loop_ev (α := Nat) (fun q => S.slices_symMergeCmpFunc_int__c4_E (.sl b 0 N c) (.int .i64 (i : Int)) (.int .i64 ((a + q : Nat) : Int)))
    (fun q h => q ≤ i - 1 - a ∧ Sw h0 b N h (shU d a q)) (fun q _ => i - 1 - a - q)
    (fun z => z.1 = .exit 2 ∧ z.2.1 = S.slices_symMergeCmpFunc_int__c4_O ∧ Sw h0 b N z.2.2 (shU d a (i - 1 - a))) 0 rfl ⟨Nat.zero_le _, A⟩ ?_ ?_
  rotate_left
  · rintro ⟨_, _, g⟩ ⟨rfl, rfl, A⟩
    exact out g A
  clear A out
  rintro q g ⟨hq, A⟩
  rw [S.slices_symMergeCmpFunc_int__c4_eq]
  obtain ⟨n, hn⟩ : ∃ n, i = n + 1 := ⟨i - 1, by omega⟩
  have w0 : wr .i64 ((i : Int) - 1) = ((i - 1 : Nat) : Int) := by rw [hn]; exact sort_pred (i := n) (by omega)
  by_cases hqn : a + q < i - 1
  · have h1 : a + q < N := by clear w0; omega
    have h2 : a + q + 1 < N := by clear w0; omega
    have w1 := sort_succ (i := a + q) (by clear w0; omega)
    have i1 := sl_idx1 (b := b) (c := c) h1
    have i2 := sl_idx1 (b := b) (c := c) h2
    have l1 := A.ld h1
    have l2 := A.ld h2
    obtain ⟨g1, g2, s1, s2, A2, _⟩ := A.swap h1 h2
    simp only [S.slices_symMergeCmpFunc_int__c4_S, w0, sort_lt hqn, w1, i1, i2, obind, ld1_get', l1, l2, s1, s2]
    clear w0 w1
    exact Ev.some (.inl ⟨q + 1, rfl, rfl, ⟨by omega, A2⟩, by omega⟩)
  · have hqe : q = i - 1 - a := by clear w0; omega
    subst hqe
    simp only [S.slices_symMergeCmpFunc_int__c4_S, w0, sort_nlt hqn]
    exact Ev.some (.inr ⟨by simp, rfl, rfl, A⟩)

theorem smDown {R : Type} {kk : AX × List V × H → Option R} {Q : R → Prop} (A : Sw h0 b N h d) (hN : N ≤ 1000) {m i : Nat} (him : i ≤ m) (hm : m < N)
    (out : ∀ g, Sw h0 b N g (shD d m (m - i)) → Ev (kk (.exit 6, S.slices_symMergeCmpFunc_int__c9_O, g)) Q) :
    Ev ((W.loop (S.slices_symMergeCmpFunc_int__c9_B W) (S.slices_symMergeCmpFunc_int__c9_E (.sl b 0 N c) (.int .i64 (i : Int)) (.int .i64 (m : Int))) h).bind kk) Q := by
  refine loop_ev (α := Nat) (fun q => S.slices_symMergeCmpFunc_int__c9_E (.sl b 0 N c) (.int .i64 (i : Int)) (.int .i64 ((m - q : Nat) : Int)))
    (fun q h => q ≤ m - i ∧ Sw h0 b N h (shD d m q)) (fun q _ => m - i - q)
    (fun z => z.1 = .exit 6 ∧ z.2.1 = S.slices_symMergeCmpFunc_int__c9_O ∧ Sw h0 b N z.2.2 (shD d m (m - i))) 0 rfl ⟨Nat.zero_le _, A⟩ ?_ ?_
  rotate_left
  · rintro ⟨_, _, g⟩ ⟨rfl, rfl, A⟩
    exact out g A
  clear A out
  rintro q g ⟨hq, A⟩
  rw [S.slices_symMergeCmpFunc_int__c9_eq]
  by_cases hqn : i < m - q
  · have h1 : m - q < N := by omega
    have h2 : m - q - 1 < N := by omega
    obtain ⟨n, hn⟩ : ∃ n, m - q = n + 1 := ⟨m - q - 1, by omega⟩
    have w0 : wr .i64 (((m - q : Nat) : Int) - 1) = ((m - q - 1 : Nat) : Int) := by rw [hn]; exact sort_pred (i := n) (by omega)
    have i1 := sl_idx1 (b := b) (c := c) h1
    have i2 := sl_idx1 (b := b) (c := c) h2
    have l1 := A.ld h1
    have l2 := A.ld h2
    obtain ⟨g1, g2, s1, s2, A2, _⟩ := A.swap h1 h2
    simp only [S.slices_symMergeCmpFunc_int__c9_S, w0, sort_lt hqn, i1, i2, obind, ld1_get', l1, l2, s1, s2]
    clear w0
    exact Ev.some (.inl ⟨q + 1, rfl, rfl, ⟨by omega, A2⟩, by omega⟩)
  · have hqe : q = m - i := by omega
    subst hqe
    simp only [S.slices_symMergeCmpFunc_int__c9_S, sort_nlt hqn]
    exact Ev.some (.inr ⟨by simp, rfl, rfl, A⟩)
end
end Wm
end

section
/- symMerge, whole. -/
namespace Wm
attribute [local congr] bind_congr1
attribute [local irreducible] wr
open Go.Sort (swp PermIn SortedIn SWO permIn_trans permIn_refl permIn_mono permIn_all)

section
variable {h0 h : H} {b N f : Nat} {cs : List V} {lt : Int → Int → Bool} {d : Array Int} {c : Cap}

def SymPost (h0 : H) (b N : Nat) (lt : Int → Int → Bool) (a e : Nat) (d : Array Int) (z : V × H) : Prop :=
  ∃ R, z.1 = .tup [] ∧ PermIn a e d R ∧ SortedIn (ltS lt) a e R ∧ Sw h0 b N z.2 R
def SymIH (h0 : H) (b N : Nat) (c : Cap) (f : Nat) (cs : List V) (lt : Int → Int → Bool) (n : Nat) : Prop :=
  ∀ (a m e : Nat) (d : Array Int) (h : H), e - a < n → a < m → m < e → e ≤ N → Sw h0 b N h d → Mg lt a m e d →
    Ev (C 460 [.sl b 0 N c, .int .i64 (a : Int), .int .i64 (m : Int), .int .i64 (e : Int), .fn f cs] h) (SymPost h0 b N lt a e d)

theorem Mg.none {a m e : Nat} (M : Mg lt a m e d) (h : m ≤ a ∨ e ≤ m) : SortedIn (ltS lt) a e d := by
  intro p q h1 h2 h3
  rcases h with h | h
  · exact M.s2 p q (by omega) h2 h3
  · exact M.s1 p q h1 h2 (by omega)
theorem Mg.congr {a m e : Nat} {d' : Array Int} (M : Mg lt a m e d) (h : ∀ k, a ≤ k → k < e → d'[k]! = d[k]!) (ham : a ≤ m) (hme : m ≤ e) : Mg lt a m e d' :=
  ⟨M.s1.congr fun k h1 h2 => h k h1 (by omega), M.s2.congr fun k h1 h2 => h k (by omega) h2, fun i j h1 h2 h3 h4 => by rw [h i h1 (by omega), h j (by omega) h4]; exact M.old i j h1 h2 h3 h4⟩

theorem smLast (A : Sw h0 b N h d) {mid t e n : Nat} (ih : SymIH h0 b N c f cs lt n) (hn : e - mid < n) (M : Mg lt mid t e d) (he : e ≤ N) :
    Ev (S.slices_symMergeCmpFunc_int__c17_n W (.sl b 0 N c) (e : Int) (.fn f cs) (mid : Int) (t : Int) h) (SymPost h0 b N lt mid e d) := by
  by_cases h1 : mid < t
  · by_cases h2 : t < e
    · obtain ⟨⟨v, g⟩, e1, R, rfl, r1, r2, A1⟩ := ih mid t e d h hn h1 h2 he A M
      simp only [S.slices_symMergeCmpFunc_int__c17_n, sort_lt h1, sort_lt h2, W_call, e1, obind]
      exact Ev.some ⟨R, rfl, r1, r2, A1⟩
    · simp only [S.slices_symMergeCmpFunc_int__c17_n, sort_lt h1, sort_nlt h2]
      exact Ev.some ⟨d, rfl, permIn_refl _ _ _, M.none (.inr (Nat.le_of_not_lt h2)), A⟩
  · simp only [S.slices_symMergeCmpFunc_int__c17_n, sort_nlt h1]
    exact Ev.some ⟨d, rfl, permIn_refl _ _ _, M.none (.inl (Nat.le_of_not_lt h1)), A⟩

theorem smTwo (A : Sw h0 b N h d) {a s mid t e n : Nat} (ih : SymIH h0 b N c f cs lt n) (hn1 : mid - a < n) (hn : e - mid < n) (M1 : Mg lt a s mid d) (M2 : Mg lt mid t e d) (hx : ∀ x y, a ≤ x → x < mid → mid ≤ y → y < e → ltS lt d[y]! d[x]! = false) (ham : a ≤ mid) (hmt : mid ≤ t) (hte : t ≤ e) (he : e ≤ N) :
    Ev (S.slices_symMergeCmpFunc_int__c15_n W (.sl b 0 N c) (a : Int) (e : Int) (.fn f cs) (mid : Int) (s : Int) (t : Int) h) (SymPost h0 b N lt a e d) := by
  have hme : mid ≤ e := Nat.le_trans hmt hte
  have key : ∀ (R : Array Int) (g : H), PermIn a mid d R → SortedIn (ltS lt) a mid R → Sw h0 b N g R → Ev (S.slices_symMergeCmpFunc_int__K15 W .normal (S.slices_symMergeCmpFunc_int__c17_O (.sl b 0 N c) (.int .i64 (e : Int)) (.fn f cs) (.int .i64 (mid : Int)) (.int .i64 (t : Int))) g) (SymPost h0 b N lt a e d) := by
    intro R g r1 r2 A1
    rw [S.slices_symMergeCmpFunc_int__c17_n_eq]
    refine (smLast A1 ih hn (M2.congr (fun k h1 h2 => r1.2.1 k (.inr h1)) hmt hte) he).mono ?_
    rintro ⟨v, g2⟩ ⟨R2, rfl, q1, q2, A2⟩
    obtain ⟨z1, z2⟩ := merge_done ham hme (by rw [A.sz]; exact he) hx r1 r2 q1 q2
    exact ⟨R2, rfl, z1, z2, A2⟩
  simp only [S.slices_symMergeCmpFunc_int__c15_n]
  rw [S.slices_symMergeCmpFunc_int__c17_eq]
  by_cases h1 : a < s
  · by_cases h2 : s < mid
    · obtain ⟨⟨v, g⟩, e1, R, rfl, r1, r2, A1⟩ := ih a s mid d h hn1 h1 h2 (Nat.le_trans hme he) A M1
      dsimp only at A1
      simp only [S.slices_symMergeCmpFunc_int__c17_S, sort_lt h1, sort_lt h2, W_call, e1, obind]
      exact key R g r1 r2 A1
    · simp only [S.slices_symMergeCmpFunc_int__c17_S, sort_lt h1, sort_nlt h2, obind]
      exact key d h (permIn_refl _ _ _) (M1.none (.inr (Nat.le_of_not_lt h2))) A
  · simp only [S.slices_symMergeCmpFunc_int__c17_S, sort_nlt h1, obind]
    exact key d h (permIn_refl _ _ _) (M1.none (.inl (Nat.le_of_not_lt h1))) A

theorem rot_none1 {d : Array Int} {m t k : Nat} : rotA d m m t k = d[k]! := by
  unfold rotA
  by_cases h : k < m ∨ t ≤ k
  · rw [if_pos h]
  · rw [if_neg h, if_pos (by omega)]; congr 1; omega
theorem rot_none2 {d : Array Int} {s m k : Nat} : rotA d s m m k = d[k]! := by
  unfold rotA
  by_cases h : k < s ∨ m ≤ k
  · rw [if_pos h]
  · rw [if_neg h, if_neg (by omega)]; congr 1; omega

theorem smRot (A : Sw h0 b N h d) (hlt : SWO lt) (hN : N ≤ 1000) {a m e s t mid n : Nat} (ih : SymIH h0 b N c f cs lt n) (hn1 : mid - a < n) (hn : e - mid < n) (M : Mg lt a m e d) (has : a ≤ s) (hsm : s ≤ m) (hmt : m ≤ t) (hte : t ≤ e) (he : e ≤ N) (hmid : mid = s + (t - m))
    (c1 : a < s → t < e → lt d[t]! d[s - 1]! = false) (c2 : s < m → m < t → lt d[t - 1]! d[s]! = true) {x19 : Int} (ht : wr .i64 (x19 - (s : Int)) = (t : Int)) :
    Ev (S.slices_symMergeCmpFunc_int__c13_e8 W (.sl b 0 N c) (a : Int) (m : Int) (e : Int) (.fn f cs) (mid : Int) x19 (s : Int) h) (SymPost h0 b N lt a e d) := by
  have key : ∀ (R : Array Int) (g : H), PermIn s t d R → (∀ k, R[k]! = rotA d s m t k) → Sw h0 b N g R → Ev (S.slices_symMergeCmpFunc_int__K14 W .normal (S.slices_symMergeCmpFunc_int__c15_O (.sl b 0 N c) (.int .i64 (a : Int)) (.int .i64 (e : Int)) (.fn f cs) (.int .i64 (mid : Int)) (.int .i64 (s : Int)) (.int .i64 (t : Int))) g) (SymPost h0 b N lt a e d) := by
    intro R g r1 hR A1
    rw [S.slices_symMergeCmpFunc_int__c15_n_eq]
    obtain ⟨M1, M2, hx⟩ := split_merge hlt M has hsm hmt hte c1 c2 hR
    rw [← hmid] at M1 M2 hx
    refine (smTwo A1 ih hn1 hn M1 M2 hx (by omega) (by omega) hte he).mono ?_
    rintro ⟨v, g2⟩ ⟨R2, rfl, q1, q2, A2⟩
    exact ⟨R2, rfl, permIn_trans _ _ _ _ _ (permIn_mono _ _ s t a e has hte (by rw [A.sz]; exact he) r1) q1, q2, A2⟩
  simp only [S.slices_symMergeCmpFunc_int__c13_e8, ht]
  rw [S.slices_symMergeCmpFunc_int__c15_eq]
  by_cases h1 : s < m
  · by_cases h2 : m < t
    · obtain ⟨⟨v, g⟩, e1, R, rfl, r1, r2, A1⟩ := rotate_spec (c := c) A hN h1 h2 (Nat.le_trans hte he) (.fn f cs)
      dsimp only at A1
      simp only [S.slices_symMergeCmpFunc_int__c15_S, sort_lt h1, sort_lt h2, W_call, e1, obind]
      exact key R g r1 r2 A1
    · have : t = m := by omega
      subst this
      simp only [S.slices_symMergeCmpFunc_int__c15_S, sort_lt h1, sort_nlt h2, obind]
      exact key d h (permIn_refl _ _ _) (fun k => rot_none2.symm) A
  · have : s = m := by omega
    subst this
    simp only [S.slices_symMergeCmpFunc_int__c15_S, sort_nlt h1, obind]
    exact key d h (permIn_refl _ _ _) (fun k => rot_none1.symm) A

theorem sm_nums {a m e mid : Nat} (hmid : mid = (a + e) / 2) (h1 : a + 2 ≤ m) (h2 : m + 2 ≤ e) : a < mid ∧ mid < e ∧ mid - a < e - a ∧ e - mid < e - a ∧
    (mid < m → (e ≤ mid + m ∧ a ≤ mid + m - e ∧ mid + m - e ≤ mid ∧ mid + m - e ≤ m)) ∧ (¬ mid < m → m ≤ mid ∧ mid + m - 1 - a < e ∧ ∀ k, k < m → k ≤ mid + m - 1 ∧ m ≤ mid + m - 1 - k) := by
  refine ⟨by omega, by omega, by omega, by omega, fun h => ⟨by omega, by omega, by omega, by omega⟩, fun h => ⟨by omega, by omega, fun k hk => ⟨by omega, by omega⟩⟩⟩

theorem smSearch (A : Sw h0 b N h d) (K : Cmp h0 b N f cs lt) (hlt : SWO lt) (hN : N ≤ 1000) {a m e mid s0 r0 n : Nat} (ih : SymIH h0 b N c f cs lt n) (M : Mg lt a m e d) (he : e ≤ N) (hn1 : mid - a < n) (hn : e - mid < n)
    (z1 : a ≤ s0) (z2 : s0 ≤ r0) (z3 : r0 ≤ m) (z4 : ∀ k, s0 ≤ k → k < r0 → k ≤ mid + m - 1 ∧ m ≤ mid + m - 1 - k ∧ mid + m - 1 - k < e) (z5 : ∀ s, s0 ≤ s → s ≤ r0 → m ≤ mid + m - s ∧ mid + m - s ≤ e ∧ s ≤ mid) (z6 : s0 = a ∨ s0 + e = mid + m) (z7 : r0 = m ∨ r0 = mid) (z8 : 1 ≤ m) (z9 : mid + m ≤ 9000) :
    Ev (S.slices_symMergeCmpFunc_int__c11_n W (.sl b 0 N c) (a : Int) (m : Int) (e : Int) (.fn f cs) (mid : Int) ((mid + m : Nat) : Int) (s0 : Int) (r0 : Int) h) (SymPost h0 b N lt a e d) := by
  have hS := ltS_swo hlt
  have hme : m ≤ e := Nat.le_trans (z5 r0 z2 (Nat.le_refl _)).1 (z5 r0 z2 (Nat.le_refl _)).2.1
  obtain ⟨p, hp⟩ : ∃ p, mid + m = p + 1 := ⟨mid + m - 1, by omega⟩
  have hp' : mid + m - 1 = p := by omega
  have w1 : wr .i64 (((mid + m : Nat) : Int) - 1) = (p : Int) := by rw [hp]; exact sort_pred (i := p) (by omega)
  have cross : ∀ i j, a ≤ i → i < m → m ≤ j → j < e → lt d[j]! d[i]! = ltS lt d[j]! d[i]! := fun i j h1 h2 h3 h4 => (ltS_dn (lt := lt) (M.old i j h1 h2 h3 h4)).symm
  have ge1 : ∀ k k', a ≤ k → k ≤ k' → k' < m → ltS lt d[k']! d[k]! = false := fun k k' h1 h2 h3 => by
    rcases Nat.lt_or_eq_of_le h2 with q | q
    · exact M.s1 k k' h1 q h3
    · rw [q]; exact hS.irrefl _
  have ge2 : ∀ k k', m ≤ k → k ≤ k' → k' < e → ltS lt d[k']! d[k]! = false := fun k k' h1 h2 h3 => by
    rcases Nat.lt_or_eq_of_le h2 with q | q
    · exact M.s2 k k' h1 q h3
    · rw [q]; exact hS.irrefl _
  rw [hp'] at z4
  simp only [S.slices_symMergeCmpFunc_int__c11_n, w1]
  clear w1
  refine smFind3 A K hN z2 (by omega) (fun k h1 h2 => ⟨(z4 k h1 h2).1, Nat.lt_of_lt_of_le (z4 k h1 h2).2.2 he⟩) (by omega) ?_ ?_
  · intro k k' h1 h2 h3 hk
    obtain ⟨y1, y2, y3⟩ := z4 k h1 (Nat.lt_of_le_of_lt h2 h3)
    obtain ⟨x1, x2, x3⟩ := z4 k' (Nat.le_trans h1 h2) h3
    rw [cross k' (p - k') (by omega) (by omega) x2 x3]
    rw [cross k (p - k) (by omega) (by omega) y2 y3] at hk
    cases hq : ltS lt d[p - k']! d[k']! with
    | true => rfl
    | false =>
      have q1 := hS.ntrans _ _ _ hq (ge1 k k' (by omega) h2 (by omega))
      have q2 := hS.ntrans _ _ _ (ge2 (p - k') (p - k) x2 (by omega) y3) q1
      rw [hk] at q2; cases q2
  · intro s hs1 hs2 hlo hhi g A1
    show Ev (S.slices_symMergeCmpFunc_int__K13 W (.exit 8) _ _) _
    rw [S.slices_symMergeCmpFunc_int__c13_e8_eq]
    obtain ⟨y1, y2, y3⟩ := z5 s hs1 hs2
    have wt : wr .i64 (((mid + m : Nat) : Int) - (s : Int)) = ((mid + m - s : Nat) : Int) := sort_sub (by omega) z9
    refine smRot A1 hlt hN ih hn1 hn M (Nat.le_trans z1 hs1) (Nat.le_trans hs2 z3) y1 y2 he (by clear wt; omega) ?_ ?_ wt
    · clear wt
      intro q1 q2
      by_cases r : s0 < s
      · have := hlo (s - 1) (by omega) (by omega)
        rw [show p - (s - 1) = mid + m - s by omega] at this
        exact this
      · exfalso; rcases z6 with z | z <;> omega
    · clear wt
      intro q1 q2
      by_cases r : s < r0
      · have := hhi s (Nat.le_refl _) r
        rw [show p - s = mid + m - s - 1 by omega] at this
        exact this
      · exfalso; rcases z7 with z | z <;> omega

theorem sm_one {a m : Nat} : decide (((m - a : Nat) : Int) = 1) = decide (m - a = 1) := by rw [decide_eq_decide]; omega

theorem symMerge_all (K : Cmp h0 b N f cs lt) (hlt : SWO lt) (hN : N ≤ 1000) : ∀ n, SymIH h0 b N c f cs lt n
  | 0 => fun a m e d h hn => absurd hn (Nat.not_lt_zero _)
  | n + 1 => by
    intro a m e d h hn ham hme he A M
    have ih := symMerge_all K hlt hN n
    have hS := ltS_swo hlt
    have n9 : N ≤ 9000 := Nat.le_trans hN (by decide)
    refine call_ev (af := F.slices_symMergeCmpFunc_int_) (by kernel_rfl) rfl ?_
    rw [S.slices_symMergeCmpFunc_int__eq]
    have ge1 : ∀ k k', a ≤ k → k ≤ k' → k' < m → ltS lt d[k']! d[k]! = false := fun k k' h1 h2 h3 => by
      rcases Nat.lt_or_eq_of_le h2 with q | q
      · exact M.s1 k k' h1 q h3
      · rw [q]; exact hS.irrefl _
    have ge2 : ∀ k k', m ≤ k → k ≤ k' → k' < e → ltS lt d[k']! d[k]! = false := fun k k' h1 h2 h3 => by
      rcases Nat.lt_or_eq_of_le h2 with q | q
      · exact M.s2 k k' h1 q h3
      · rw [q]; exact hS.irrefl _
    have cross : ∀ i j, a ≤ i → i < m → m ≤ j → j < e → lt d[j]! d[i]! = ltS lt d[j]! d[i]! := fun i j h1 h2 h3 h4 => (ltS_dn (lt := lt) (M.old i j h1 h2 h3 h4)).symm
    have m9 : m ≤ 9000 := by omega
    have haN : a < N := by omega
    have hmN : m < N := by omega
    by_cases c1 : m - a = 1
    · -- one on the left
      have hm1 : m = a + 1 := by omega
      have fnd : Ev ((W.loop (S.slices_symMergeCmpFunc_int__c2_B W) (S.slices_symMergeCmpFunc_int__c2_E (.sl b 0 N c) (.int .i64 (a : Int)) (.fn f cs) (.int .i64 (m : Int)) (.int .i64 (e : Int))) h).bind fun p0 => S.slices_symMergeCmpFunc_int__K3 W p0.1 p0.2.1 p0.2.2) (SymPost h0 b N lt a e d) := by
        refine smFind1 A K hN haN (Nat.le_of_lt hme) he ?_ ?_
        · intro k k' h1 h2 h3 hk
          rw [cross a k' (Nat.le_refl _) ham (by omega) h3] at hk
          rw [cross a k (Nat.le_refl _) ham h1 (by omega)]
          cases hq : ltS lt d[k]! d[a]! with
          | true => rfl
          | false => rw [hS.ntrans _ _ _ (ge2 k k' h1 h2 h3) hq] at hk; cases hk
        · intro i h1 h2 h3 h4 g A1
          show Ev (S.slices_symMergeCmpFunc_int__K3 W (.exit 0) _ _) _
          rw [S.slices_symMergeCmpFunc_int__c2_e0_eq]
          simp only [S.slices_symMergeCmpFunc_int__c2_e0]
          have hiN : i ≤ N := Nat.le_trans h2 he
          refine smUp A1 hN (Nat.lt_of_lt_of_le ham h1) hiN ?_
          intro g2 A2
          show Ev (S.slices_symMergeCmpFunc_int__K9 W (.exit 2) _ _) _
          rw [S.slices_symMergeCmpFunc_int__c4_e2_eq]
          have hsz : i ≤ d.size := by rw [A.sz]; exact hiN
          exact Ev.some ⟨_, rfl, shU_perm (by rw [A.sz]; exact he) (Nat.le_refl _) _ (by omega), ins1_sorted hlt M hm1 h1 h2 h3 h4 fun k => by rw [shU_rot (by omega) hsz, hm1], A2⟩
      have w1 := sort_sub (i := m) (j := a) (Nat.le_of_lt ham) m9
      obtain ⟨aI, haI⟩ : ∃ x : Int, x = (a : Int) := ⟨_, rfl⟩
      obtain ⟨mI, hmI⟩ : ∃ x : Int, x = (m : Int) := ⟨_, rfl⟩
      rw [← haI] at fnd w1 ⊢; rw [← hmI] at fnd w1 ⊢
      simp only [S.slices_symMergeCmpFunc_int_, w1, sm_one, decide_eq_true c1]
      exact fnd
    by_cases c2 : e - m = 1
    · -- one on the right
      have he1 : e = m + 1 := by omega
      have fnd : Ev ((W.loop (S.slices_symMergeCmpFunc_int__c7_B W) (S.slices_symMergeCmpFunc_int__c7_E (.sl b 0 N c) (.int .i64 (m : Int)) (.fn f cs) (.int .i64 (a : Int)) (.int .i64 (m : Int))) h).bind fun p0 => S.slices_symMergeCmpFunc_int__K6 W p0.1 p0.2.1 p0.2.2) (SymPost h0 b N lt a e d) := by
        refine smFind2 A K hN hmN (Nat.le_of_lt ham) ?_ ?_
        · intro k k' h1 h2 h3 hk
          rw [cross k m h1 (by omega) (Nat.le_refl _) hme] at hk
          rw [cross k' m (by omega) h3 (Nat.le_refl _) hme]
          cases hq : ltS lt d[m]! d[k']! with
          | true => rfl
          | false => rw [hS.ntrans _ _ _ hq (ge1 k k' h1 h2 h3)] at hk; cases hk
        · intro i h1 h2 h3 h4 g A1
          show Ev (S.slices_symMergeCmpFunc_int__K6 W (.exit 4) _ _) _
          rw [S.slices_symMergeCmpFunc_int__c7_e4_eq]
          simp only [S.slices_symMergeCmpFunc_int__c7_e4]
          refine smDown A1 hN h2 hmN ?_
          intro g2 A2
          show Ev (S.slices_symMergeCmpFunc_int__K11 W (.exit 6) _ _) _
          rw [S.slices_symMergeCmpFunc_int__c9_e6_eq]
          have hsz : m < d.size := by rw [A.sz]; exact hmN
          exact Ev.some ⟨_, rfl, shD_perm (by rw [A.sz]; exact he) hme _ (by omega), ins2_sorted hlt M he1 h1 h2 h3 h4 fun k => by rw [shD_rot h2 hsz, he1], A2⟩
      have w1 := sort_sub (i := m) (j := a) (Nat.le_of_lt ham) m9
      have w2 := sort_sub (i := e) (j := m) (Nat.le_of_lt hme) (Nat.le_trans he n9)
      obtain ⟨aI, haI⟩ : ∃ x : Int, x = (a : Int) := ⟨_, rfl⟩
      obtain ⟨mI, hmI⟩ : ∃ x : Int, x = (m : Int) := ⟨_, rfl⟩
      obtain ⟨eI, heI⟩ : ∃ x : Int, x = (e : Int) := ⟨_, rfl⟩
      rw [← haI] at fnd w1 ⊢; rw [← hmI] at fnd w1 w2 ⊢; rw [← heI] at w2 ⊢
      simp only [S.slices_symMergeCmpFunc_int_, w1, w2, sm_one, decide_eq_false c1, decide_eq_true c2]
      exact fnd
    -- both longer
    obtain ⟨mid, hmid⟩ : ∃ mid, mid = (a + e) / 2 := ⟨_, rfl⟩
    obtain ⟨u1, u2, u3, u4, u5, u6⟩ := sm_nums hmid (show a + 2 ≤ m by omega) (show m + 2 ≤ e by omega)
    have hmm : mid + m ≤ 9000 := by omega
    have hml : 1 ≤ m := by omega
    have big : Ev ((S.slices_symMergeCmpFunc_int__c11_B W (S.slices_symMergeCmpFunc_int__c11_E (.sl b 0 N c) (.int .i64 (a : Int)) (.int .i64 (m : Int)) (.int .i64 (e : Int)) (.fn f cs) (.int .i64 (mid : Int)) (.int .i64 ((mid + m : Nat) : Int))) h).bind fun p0 => S.slices_symMergeCmpFunc_int__K7 W p0.1 p0.2.1 p0.2.2) (SymPost h0 b N lt a e d) := by
      rw [S.slices_symMergeCmpFunc_int__c11_eq]
      by_cases hc : mid < m
      · obtain ⟨v1, v2, v3, v4⟩ := u5 hc
        have w3 := sort_sub (i := mid + m) (j := e) v1 hmm
        simp only [S.slices_symMergeCmpFunc_int__c11_S, sort_lt hc, w3, obind]
        clear w3
        show Ev (S.slices_symMergeCmpFunc_int__K7 W .normal _ _) _
        rw [S.slices_symMergeCmpFunc_int__c11_n_eq]
        exact smSearch A K hlt hN ih M he (by omega) (by omega) v2 v3 (Nat.le_of_lt hc) (fun k h1 h2 => ⟨by omega, by omega, by omega⟩) (fun s h1 h2 => ⟨by omega, by omega, h2⟩) (.inr (by omega)) (.inr rfl) hml hmm
      · obtain ⟨v1, v2, v3⟩ := u6 hc
        simp only [S.slices_symMergeCmpFunc_int__c11_S, sort_nlt hc, obind]
        show Ev (S.slices_symMergeCmpFunc_int__K7 W .normal _ _) _
        rw [S.slices_symMergeCmpFunc_int__c11_n_eq]
        exact smSearch A K hlt hN ih M he (by omega) (by omega) (Nat.le_refl _) (Nat.le_of_lt ham) (Nat.le_refl _) (fun k h1 h2 => ⟨(v3 k h2).1, (v3 k h2).2, by omega⟩) (fun s h1 h2 => ⟨by omega, by omega, by omega⟩) (.inl rfl) (.inl rfl) hml hmm
    have ae9 : a + e ≤ 9000 := by omega
    have w1 := sort_sub (i := m) (j := a) (Nat.le_of_lt ham) m9
    have w2 := sort_sub (i := e) (j := m) (Nat.le_of_lt hme) (Nat.le_trans he n9)
    have w3 := sort_half (x := a) (y := e) ae9
    have w4 := sort_add (i := mid) (j := m) hmm
    rw [← hmid] at w3
    obtain ⟨aI, haI⟩ : ∃ x : Int, x = (a : Int) := ⟨_, rfl⟩
    obtain ⟨mI, hmI⟩ : ∃ x : Int, x = (m : Int) := ⟨_, rfl⟩
    obtain ⟨eI, heI⟩ : ∃ x : Int, x = (e : Int) := ⟨_, rfl⟩
    rw [← haI] at big w1 w3 ⊢; rw [← hmI] at big w1 w2 w4 ⊢; rw [← heI] at big w2 w3 ⊢
    simp only [S.slices_symMergeCmpFunc_int_, w1, w2, sm_one, decide_eq_false c1, decide_eq_false c2, w3, w4]
    exact big
end
end Wm
end

section
/- Slices that grow: what is appended, one element at a time. -/
namespace Wm
attribute [local congr] bind_congr1
attribute [local irreducible] wr

/-- The block of a slice. -/
def V.blk : V → List Nat
  | .sl b _ _ _ => [b]
  | _ => []

/-- A slice that grew: elements of 'e' cells. -/
def Grown (g : Nat → Option Blk) (x : V) (e : Nat) (l : List V) : Prop :=
  (x = .nilsl ∧ l = []) ∨ ∃ b n, x = .sl b 0 n (.op e) ∧ l.length = n * e ∧ g b = some (.cells l (.gr e))

theorem Grown.nil (g : Nat → Option Blk) (e : Nat) : Grown g .nilsl e [] := .inl ⟨rfl, rfl⟩
theorem Grown.len {g : Nat → Option Blk} {x : V} {e : Nat} {l : List V} (G : Grown g x e l) (he : 0 < e) : ∃ n, lenSl x = some n ∧ l.length = n * e := by
  obtain ⟨rfl, rfl⟩ | ⟨b, n, rfl, hl, _⟩ := G
  · exact ⟨0, rfl, by simp⟩
  · exact ⟨n, rfl, hl⟩
theorem Grown.len1 {g : Nat → Option Blk} {x : V} {l : List V} (G : Grown g x 1 l) : lenSl x = some l.length := by
  obtain ⟨n, h1, h2⟩ := G.len (by omega)
  rw [h1, h2, Nat.mul_one]
theorem Grown.fr {g g' : H} {L : List Nat} {x : V} {e : Nat} {l : List V} (G : Grown g.get x e l) (ok : g.ok) (F : Fr L g g') (h : ∀ b ∈ x.blk, b ∉ L) : Grown g'.get x e l := by
  obtain h1 | ⟨b, n, rfl, hl, hb⟩ := G
  · exact .inl h1
  · exact .inr ⟨b, n, rfl, hl, F.get ok hb (h b (by simp [V.blk]))⟩
/-- No block of another kind is its own. -/
theorem Grown.ne {g : Nat → Option Blk} {x : V} {e : Nat} {l : List V} (G : Grown g x e l) {b : Nat} {cs : List V} {k : Bk} (hb : g b = some (.cells cs k)) (hk : k ≠ .gr e) : b ∉ x.blk := by
  obtain ⟨rfl, rfl⟩ | ⟨b', n, rfl, hl, hb'⟩ := G
  · simp [V.blk]
  · simp only [V.blk, List.mem_singleton]
    rintro rfl
    rw [hb] at hb'
    simp only [Option.some.injEq, Blk.cells.injEq] at hb'
    exact hk hb'.2
/-- An element. -/
theorem Grown.at1 {g : H} {x : V} {l : List V} (G : Grown g.get x 1 l) {i : Nat} {v : V} (hv : l[i]? = some v) (h1 : v.one = true) : ∃ b, indexAV 1 x (.int .i64 (i : Int)) = some (.ptr b i) ∧ g.ld1 (.ptr b i) = some v := by
  have hi := lt_of_get hv
  obtain ⟨rfl, rfl⟩ | ⟨b, n, rfl, hl, hb⟩ := G
  · simp at hv
  · refine ⟨b, sl_idx1 (by omega), ?_⟩
    rw [ld1_get', hb, ldB_cells, hv]; simp only [h1]

theorem Grown.push {g : H} (ok : g.ok) {x : V} {e : Nat} {l new : List V} {nb : Nat} {k : Bk} {bytes : Nat} (G : Grown g.get x e l) (hn : g.get nb = some (.cells new k)) (hlen : new.length = e) (h1 : new.all V.one = true) (he : 0 < e) (hb : 0 < bytes ∧ bytes ≤ 1000) (hs : l.length ≤ 1000000) :
    ∃ x' g', g.append e bytes x (.sl nb 0 1 (.ex 1)) = some (x', g') ∧ Fr x.blk g g' ∧ Grown g'.get x' e (l ++ new) ∧ (∀ b ∈ x'.blk, g.next ≤ b) ∧ x'.blk ≠ [] := by
  have hslc : g.slc e (.sl nb 0 1 (.ex 1)) = some new := by
    rw [slc_get hn (by omega), List.drop_zero, List.take_of_length_le (by omega)]
  obtain ⟨rfl, rfl⟩ | ⟨b, n, rfl, hl, hbk⟩ := G
  · refine ⟨_, _, append_nil (n := 1) rfl hslc (by omega) h1 (by omega) he hb.1, (Fr.refl ok).new _, .inr ⟨_, _, rfl, by simp; omega, ?_⟩, by simp [V.blk], by simp [V.blk]⟩
    rw [List.nil_append]; exact get_new_self _ _
  · have hnn : n ≤ 1000000 := by
      have : n * 1 ≤ n * e := Nat.mul_le_mul_left _ he
      omega
    have hold : g.slc e (.sl b 0 n (.op e)) = some l := by rw [slc_get hbk (by omega), List.drop_zero, List.take_of_length_le (by omega)]
    have hsz : (n + 1 + (n + 1) / 2 + 1000) * bytes ≤ 281474976710656 := by
      have : (n + 1 + (n + 1) / 2 + 1000) * bytes ≤ 2000000 * 1000 := Nat.mul_le_mul (by omega) hb.2
      omega
    refine ⟨_, _, append_op (n := 1) rfl hslc hold hbk h1 hsz he hb.1, ?_, .inr ⟨_, _, rfl, by rw [List.length_append, hl, hlen, Nat.add_mul, Nat.one_mul], get_new_self _ _⟩, by simp [V.blk], by simp [V.blk]⟩
    exact ((Fr.refl ok).put (.inl (by simp [V.blk])) (ok.lt hbk) _).new _

/-- A row of numbers of a kind that is only read, or nil. -/
def RowN (kd : Go.IntKind) (g : Nat → Option Blk) (x : V) (ws : List Int) : Prop := (x = .nilsl ∧ ws = []) ∨ ∃ b c k, x = .sl b 0 ws.length c ∧ g b = some (.cells (ws.map (.int kd)) k)
theorem RowN.len {kd : Go.IntKind} {g : Nat → Option Blk} {x : V} {ws : List Int} (h : RowN kd g x ws) : lenSl x = some ws.length := by
  obtain ⟨rfl, rfl⟩ | ⟨b, c, k, rfl, _⟩ := h <;> rfl
theorem RowN.at {kd : Go.IntKind} {g : H} {x : V} {ws : List Int} (h : RowN kd g.get x ws) {i : Nat} {w : Int} (hw : ws[i]? = some w) : ∃ b, indexAV 1 x (.int .i64 (i : Int)) = some (.ptr b i) ∧ g.ld1 (.ptr b i) = some (.int kd w) := by
  have hi := lt_of_get hw
  obtain ⟨rfl, rfl⟩ | ⟨b, c, k, rfl, hb⟩ := h
  · simp at hw
  · refine ⟨b, sl_idx1 hi, ?_⟩
    rw [ld1_get', hb, ldB_cells, List.getElem?_map, hw]; rfl
theorem RowN.fr {kd : Go.IntKind} {g g' : H} {L : List Nat} {x : V} {ws : List Int} (h : RowN kd g.get x ws) (ok : g.ok) (F : Fr L g g') (hL : ∀ b ∈ x.blk, b ∉ L) : RowN kd g'.get x ws := by
  obtain h1 | ⟨b, c, k, rfl, hb⟩ := h
  · exact .inl h1
  · exact .inr ⟨b, c, k, rfl, F.get ok hb (hL b (by simp [V.blk]))⟩
end Wm
end

section
/- What arguments are, as lists of typed things. -/
namespace Wm

theorem chunks {α : Type} {P : List V → Prop} {enc : α → List V} {Q : α → Prop} {z : Nat} (hP : ∀ c, P c → ∃ y, c = enc y ∧ Q y) :
    ∀ (n : Nat) (cs : List V), cs.length = n * z → (∀ i, i < n → P ((cs.drop (i * z)).take z)) → ∃ ys : List α, cs = (ys.map enc).flatten ∧ ys.length = n ∧ ∀ y ∈ ys, Q y
  | 0, cs, hl, _ => ⟨[], by simpa using hl, rfl, by simp⟩
  | n + 1, cs, hl, h => by
    obtain ⟨y, hy, qy⟩ := hP _ (h 0 (by omega))
    have hl2 : (cs.drop z).length = n * z := by rw [List.length_drop, hl, Nat.add_mul]; omega
    obtain ⟨ys, h1, h2, h3⟩ := chunks hP n (cs.drop z) hl2 (fun i hi => by
      have := h (i + 1) (by omega)
      rw [Nat.add_mul, Nat.one_mul, Nat.add_comm (i * z) z, ← List.drop_drop] at this
      exact this)
    refine ⟨y :: ys, ?_, by simp [h2], fun x hx => ?_⟩
    · rw [List.map_cons, List.flatten_cons, ← h1, ← hy, Nat.zero_mul, List.drop_zero, List.take_append_drop]
    · rcases List.mem_cons.mp hx with rfl | hx
      · exact qy
      · exact h3 x hx

theorem wf_i64 {n : Int} (h : (Go.Lit.int .i64 n).wf = true) : -9223372036854775808 ≤ n ∧ n ≤ 9223372036854775807 := by
  simpa [Go.Lit.wf, Go.IntKind.min, Go.IntKind.max, Go.IntKind.signed, Go.IntKind.bits] using h
end Wm
end

section
/- Events: rows of them, rows of truths. -/
namespace Wm
attribute [local congr] bind_congr1
attribute [local irreducible] wr

structure Evt where
  client : Int
  op : Int
  begun : Int
  point : Int
  ended : Int
  behind : Bool
  kind : Int
  n : Int
  h : Int
  x : Int
  y : Int
  err : Int
  ah : Int
  yes : Bool
def Evt.cs (e : Evt) : List V := [.int .i64 e.client, .int .i64 e.op, .int .i64 e.begun, .int .i64 e.point, .int .i64 e.ended, .bool e.behind, .int .i64 e.kind, .int .i64 e.n, .int .u64 e.h, .int .u64 e.x, .int .u64 e.y, .int .i64 e.err, .int .u64 e.ah, .bool e.yes]
def I64 (n : Int) : Prop := -9223372036854775808 ≤ n ∧ n ≤ 9223372036854775807
structure Evt.i64 (e : Evt) : Prop where
  client : I64 e.client
  op : I64 e.op
  begun : I64 e.begun
  point : I64 e.point
  ended : I64 e.ended
def evtSh : List CSh := [.int .i64, .int .i64, .int .i64, .int .i64, .int .i64, .bool, .int .i64, .int .i64, .int .u64, .int .u64, .int .u64, .int .i64, .int .u64, .bool]

/-- A row of events. -/
def RowE (g : Nat → Option Blk) (x : V) (l : List Evt) : Prop := (x = .nilsl ∧ l = []) ∨ ∃ b c k, x = .sl b 0 l.length c ∧ g b = some (.cells (l.map Evt.cs).flatten k)
theorem evt14 (l : List Evt) : ∀ x ∈ l.map Evt.cs, x.length = 14 := fun x hx => by
  obtain ⟨_, _, rfl⟩ := List.mem_map.mp hx; rfl
theorem RowE.len {g : Nat → Option Blk} {x : V} {l : List Evt} (h : RowE g x l) : lenSl x = some l.length := by
  obtain ⟨rfl, rfl⟩ | ⟨b, c, k, rfl, _⟩ := h <;> rfl
theorem RowE.fr {g g' : H} {L : List Nat} {x : V} {l : List Evt} (h : RowE g.get x l) (ok : g.ok) (F : Fr L g g') (hL : ∀ b ∈ x.blk, b ∉ L) : RowE g'.get x l := by
  obtain h1 | ⟨b, c, k, rfl, hb⟩ := h
  · exact .inl h1
  · exact .inr ⟨b, c, k, rfl, F.get ok hb (hL b (by simp [V.blk]))⟩
theorem RowE.lt {g : H} {x : V} {l : List Evt} (h : RowE g.get x l) (ok : g.ok) : ∀ b ∈ x.blk, b < g.next := by
  obtain ⟨rfl, rfl⟩ | ⟨b, c, k, rfl, hb⟩ := h
  · simp [V.blk]
  · intro c' hc; simp only [V.blk, List.mem_singleton] at hc; subst hc; exact ok.lt hb
theorem RowE.at {g : H} {x : V} {l : List Evt} (h : RowE g.get x l) {i : Nat} {y : Evt} (hy : l[i]? = some y) :
    ∃ b, indexAV 14 x (.int .i64 (i : Int)) = some (.ptr b (i * 14)) ∧ ldNB (g.get b) (i * 14) 14 = some (.agg y.cs) ∧ ldB (g.get b) (i * 14 + 2) = some (.int .i64 y.begun) ∧ ldB (g.get b) (i * 14 + 4) = some (.int .i64 y.ended) ∧ ldB (g.get b) (i * 14 + 1) = some (.int .i64 y.op) ∧ b ∈ x.blk := by
  have hi := lt_of_get hy
  obtain ⟨rfl, rfl⟩ | ⟨b, c, k, rfl, hb⟩ := h
  · simp at hy
  · have hn : (l.map Evt.cs).flatten.length = l.length * 14 := by rw [flat_length (evt14 l), List.length_map]
    have hp := flat_part (evt14 l) i y.cs (by rw [List.getElem?_map, hy]; rfl)
    have at' : ∀ j, j < 14 → (l.map Evt.cs).flatten[i * 14 + j]? = y.cs[j]? := fun j hj => by
      rw [← hp, List.getElem?_take, if_pos hj, List.getElem?_drop]
    refine ⟨b, sl_idx hi, ?_, ?_, ?_, ?_, by simp [V.blk]⟩
    · rw [hb, ldNB_cells, decide_eq_true (by rw [hn]; omega), hp]
    · rw [hb, ldB_cells, at' 2 (by decide)]; rfl
    · rw [hb, ldB_cells, at' 4 (by decide)]; rfl
    · rw [hb, ldB_cells, at' 1 (by decide)]; rfl
theorem rowE_of {g : Nat → Option Blk} {by' : Nat} {v : V} (h : CellOk g (.sl by' evtSh) v) :
    ∃ l, RowE g v l ∧ (∀ y ∈ l, y.i64) ∧ l.length * by' ≤ 140737488351232 ∧ l.length ≤ Go.maxLen := by
  unfold CellOk at h
  rcases h with rfl | ⟨b, n, cs, rfl, ⟨h1, h2⟩, h3, h4, h5⟩
  · exact ⟨[], .inl ⟨rfl, rfl⟩, by simp, by simp, by simp⟩
  · obtain ⟨ws, e1, e2, e3⟩ := chunks (α := Evt) (enc := Evt.cs) (Q := Evt.i64) (P := CellsOk g evtSh) (fun c hc => by
      obtain ⟨_, _, rfl, ⟨y0, rfl, b0⟩, _, _, rfl, ⟨y1, rfl, b1⟩, _, _, rfl, ⟨y2, rfl, b2⟩, _, _, rfl, ⟨y3, rfl, b3⟩, _, _, rfl, ⟨y4, rfl, b4⟩, _, _, rfl, ⟨y5, rfl⟩, _, _, rfl, ⟨y6, rfl, b6⟩, _, _, rfl, ⟨y7, rfl, b7⟩, _, _, rfl, ⟨y8, rfl, b8⟩, _, _, rfl, ⟨y9, rfl, b9⟩, _, _, rfl, ⟨y10, rfl, b10⟩, _, _, rfl, ⟨y11, rfl, b11⟩, _, _, rfl, ⟨y12, rfl, b12⟩, _, _, rfl, ⟨y13, rfl⟩, rfl⟩ := hc
      exact ⟨⟨y0, y1, y2, y3, y4, y5, y6, y7, y8, y9, y10, y11, y12, y13⟩, rfl, ⟨wf_i64 b0, wf_i64 b1, wf_i64 b2, wf_i64 b3, wf_i64 b4⟩⟩) n cs h4 h5
    subst e2
    exact ⟨ws, .inr ⟨b, _, .ro, rfl, by rw [h3, e1]⟩, e3, h2, h1⟩

/-! ### Rows of truths -/
def bools (l : List Bool) : List V := l.map .bool
theorem bools_len (l : List Bool) : (bools l).length = l.length := List.length_map _
theorem bools_at {l : List Bool} {i : Nat} {v : Bool} (h : l[i]? = some v) : (bools l)[i]? = some (.bool v) := by unfold bools; rw [List.getElem?_map, h]; rfl
theorem bools_set (l : List Bool) (i : Nat) (v : Bool) : (bools l).set i (.bool v) = bools (l.set i v) := by unfold bools; rw [List.map_set]
theorem repl_bool (n : Nat) : repl [V.bool false] n = bools (List.replicate n false) := by
  unfold bools
  induction n with
  | zero => rfl
  | succ n ih => simp only [repl, ih, List.replicate_succ, List.map_cons, List.cons_append, List.nil_append]
/-- A made slice. -/
theorem mkBools {h : H} {n : Nat} (hn : n ≤ 1000000) : h.mkSl 1 1 [(.bool false)] (n : Int) (n : Int) = some (.sl h.next 0 n (.ex n), h.new (.cells (bools (List.replicate n false)) .rw)) := by
  have h0 : (0 : Int) ≤ (n : Int) := Int.natCast_nonneg n
  have h1 : (n : Int) * ((1 : Nat) : Int) ≤ 140737488355328 := by omega
  have h2 : (n : Int) ≤ 9223372036854775807 := by omega
  rw [mkSl_ok (e := 1) (z := [.bool false]) h0 (Int.le_refl _) h1 h2 rfl (by decide), Int.toNat_natCast, repl_bool]
end Wm
end

section
/- hist.Right: whether a history is right. -/
namespace Wm
attribute [local congr] bind_congr1
attribute [local irreducible] wr
open Go.Sort (swp PermIn SortedIn Below SWO)

/-! ### cmp.Compare -/
def cmp3 (a b : Int) : Int := if a < b then -1 else if b < a then 1 else 0
theorem nan_spec (a : Int) (h : H) : C 407 [.int .i64 a] h = some (.bool false, h) := by
  refine call_closed (af := F.cmp_isNaN_int_) (by kernel_rfl) rfl (by rfl) (by rfl) h ?_
  rw [S.cmp_isNaN_int__eq]
  simp only [S.cmp_isNaN_int_, decide_true, Bool.not_true]
  exact Ev.some rfl
theorem cmp_spec (a b : Int) (h : H) : C 334 [.int .i64 a, .int .i64 b] h = some (.int .i64 (cmp3 a b), h) := by
  refine call_closed (af := F.cmp_Compare_int_) (by kernel_rfl) rfl (by rfl) (by rfl) h ?_
  rw [S.cmp_Compare_int__eq]
  unfold cmp3
  simp only [S.cmp_Compare_int_, W_call, nan_spec, obind, asB_bool]
  by_cases h1 : a < b
  · simp only [h1, decide_true, if_true]
    exact Ev.some rfl
  · by_cases h2 : b < a
    · simp only [h1, h2, decide_true, decide_false, if_true, if_false]
      exact Ev.some rfl
    · simp only [h1, h2, decide_false, if_false]
      exact Ev.some rfl
theorem cmp3_neg (a b : Int) : decide (cmp3 a b < 0) = decide (a < b) := by
  unfold cmp3
  by_cases h1 : a < b
  · simp [h1]
  · by_cases h2 : b < a
    · simp [h1, h2]
    · simp [h1, h2]

section
variable {h0 h : H} {b N f : Nat} {cs : List V} {lt : Int → Int → Bool} {d : Array Int} {c : Cap}

end

/-! ### The numbers of events, in order -/
def idA (n : Nat) : Array Int := ((List.range n).map (fun i : Nat => (i : Int))).toArray
theorem idA_size (n : Nat) : (idA n).size = n := by simp [idA]
theorem idA_get {n i : Nat} (hi : i < n) : (idA n)[i]! = (i : Int) := by
  rw [getElem!_pos (idA n) i (by rw [idA_size]; exact hi)]
  simp [idA]

/-- A list of all numbers below n, in some order. -/
structure AllNums (n : Nat) (o : List Int) : Prop where
  len : o.length = n
  perm : o.Perm ((List.range n).map (fun i : Nat => (i : Int)))
theorem AllNums.of {n : Nat} {d : Array Int} (hd : d.size = n) (hp : PermIn 0 n (idA n) d) : AllNums n d.toList := by
  refine ⟨by rw [Array.length_toList]; exact hd, ?_⟩
  have h := hp.2.2
  have e1 : (d.extract 0 n) = d := by rw [← hd]; exact Array.extract_size
  have e2 : (idA n).extract 0 n = idA n := by
    have := idA_size n
    conv => lhs; rw [← this]
    rw [this]
    exact (congrArg (fun k => (idA n).extract 0 k) this.symm).trans Array.extract_size
  rw [e1, e2] at h
  simpa [idA] using h
theorem get_toList {d : Array Int} {k : Nat} (hk : k < d.size) : d.toList[k]? = some d[k]! := by
  rw [Array.getElem?_toList, Array.getElem?_eq_getElem hk, getElem!_pos d k hk]

end Wm
end

section
/- The stable sort of numbers in order. -/
namespace Wm
attribute [local congr] bind_congr1
attribute [local irreducible] wr
open Go.Sort (swp PermIn SortedIn SWO permIn_trans permIn_refl permIn_mono permIn_all insInner insOuter)

section
variable {lt : Int → Int → Bool}
theorem insInner_perm {a e : Nat} : ∀ (j : Nat) (d : Array Int), a ≤ j → j < e → e ≤ d.size → PermIn a e d (insInner lt a j d)
  | 0, d, _, _, _ => by rw [insInner]; exact permIn_refl _ _ _
  | j + 1, d, h1, h2, h3 => by
    rw [insInner]
    split
    · rename_i hc
      have hc' : j + 1 > a := by
        rw [Bool.and_eq_true] at hc; exact of_decide_eq_true hc.1
      exact permIn_trans _ _ _ _ _ (Go.Sort.swp_permIn _ a e _ _ (by omega) (by omega) (by omega) (by omega) h3) (insInner_perm j _ (by omega) (by omega) (by rw [Go.Sort.swp_size]; exact h3))
    · exact permIn_refl _ _ _
theorem insInner_same {a : Nat} : ∀ (j : Nat) (d : Array Int), j < d.size → (∀ i, a ≤ i → i < j → d[i]! < d[j]!) → insInner lt a j d = insInner (ltS lt) a j d
  | 0, d, _, _ => by rw [insInner, insInner]
  | j + 1, d, hj, h => by
    rw [insInner, insInner]
    by_cases ha : j + 1 > a
    · rw [ltS_dn (h j (by omega) (by omega))]
      cases hl : lt d[j + 1]! d[j]! with
      | false => simp
      | true =>
        simp only [decide_eq_true ha, Bool.and_self, if_true]
        refine insInner_same j _ (by rw [Go.Sort.swp_size]; omega) fun i h1 h2 => ?_
        rw [Go.Sort.swp_right _ _ _ (by omega), Go.Sort.swp_other _ _ _ _ (by omega) (by omega)]
        exact h i h1 (by omega)
    · rw [decide_eq_false ha, Bool.false_and, Bool.false_and]; rfl
theorem insOuter_same {a e : Nat} : ∀ (n i : Nat) (d : Array Int), e - i = n → a ≤ i → e ≤ d.size → (∀ p q, a ≤ p → p < q → i ≤ q → q < e → d[p]! < d[q]!) → insOuter lt a e i d = insOuter (ltS lt) a e i d
  | 0, i, d, hn, _, _, _ => by
    have un : ∀ l : Int → Int → Bool, insOuter l a e i d = d := fun l => by rw [insOuter, if_neg (by omega)]
    rw [un, un]
  | n + 1, i, d, hn, hai, he, h => by
    have hi : i < e := by omega
    have un : ∀ l : Int → Int → Bool, insOuter l a e i d = insOuter l a e (i + 1) (insInner l a i d) := fun l => by rw [insOuter, if_pos hi]
    rw [un, un, ← insInner_same i d (by omega) (fun k h1 h2 => h k i h1 h2 (Nat.le_refl _) hi)]
    have hp := insInner_perm (lt := lt) (a := a) (e := i + 1) i d hai (Nat.lt_succ_self i) (by omega)
    refine insOuter_same n (i + 1) _ (by omega) (by omega) (by rw [hp.1]; exact he) fun p q h1 h2 h3 h4 => ?_
    rw [hp.2.1 q (.inr h3)]
    by_cases hpi : p < i + 1
    · exact permIn_all d _ a (i + 1) (fun v => v < d[q]!) (by omega) hp (fun k h5 h6 => h k q h5 (by omega) (by omega) h4) p h1 hpi
    · rw [hp.2.1 p (.inr (by omega))]; exact h p q h1 h2 (by omega) h4
theorem ins_sorted (hlt : SWO lt) {a e : Nat} {d : Array Int} (hae : a ≤ e) (he : e ≤ d.size) (h : ∀ p q, a ≤ p → p < q → q < e → d[p]! < d[q]!) : PermIn a e d (Go.Sort.insertionSort lt d a e) ∧ SortedIn (ltS lt) a e (Go.Sort.insertionSort lt d a e) := by
  have e1 : Go.Sort.insertionSort lt d a e = Go.Sort.insertionSort (ltS lt) d a e := by
    unfold Go.Sort.insertionSort
    exact insOuter_same (e - (a + 1)) (a + 1) d rfl (by omega) he fun p q h1 h2 h3 h4 => h p q h1 h2 h4
  rw [e1]
  exact Go.Sort.insertionSort_holds (ltS_swo hlt) d a e hae he

/-- All ahead of a place are less than all behind. -/
def Cut (d : Array Int) (N c : Nat) : Prop := ∀ i j, i < c → c ≤ j → j < N → d[i]! < d[j]!
theorem Cut.perm {d R : Array Int} {N a e c : Nat} (h : Cut d N c) (hp : PermIn a e d R) (he : e ≤ d.size) (heN : e ≤ N) (hc : c ≤ a ∨ e ≤ c) : Cut R N c := by
  intro i j hi hj hjN
  rcases hc with hc | hc
  · rw [hp.2.1 i (.inl (by omega))]
    by_cases q : a ≤ j ∧ j < e
    · exact permIn_all d R a e (fun v => d[i]! < v) he hp (fun k h1 h2 => h i k hi (by omega) (by omega)) j q.1 q.2
    · rw [hp.2.1 j (by omega)]; exact h i j hi hj hjN
  · rw [hp.2.1 j (.inr (by omega))]
    by_cases q : a ≤ i ∧ i < e
    · exact permIn_all d R a e (fun v => v < d[j]!) he hp (fun k h1 h2 => h k j (by omega) hj hjN) i q.1 q.2
    · rw [hp.2.1 i (by omega)]; exact h i j hi hj hjN

/-- Blocks of size B are sorted, up to n; and each block's are ahead of the next one's. -/
def Blks (lt : Int → Int → Bool) (B : Nat) (d : Array Int) (P : Nat → Prop) (N : Nat) : Prop :=
  ∀ k p q, P k → k * B ≤ p → p < q → q < (k + 1) * B → q < N → ltS lt d[q]! d[p]! = false
end

section
variable {h0 h : H} {b N f : Nat} {cs : List V} {lt : Int → Int → Bool} {d : Array Int} {c : Cap}

theorem mul_in {k k' B : Nat} (h : k' < k) : (k' + 1) * B ≤ k * B := Nat.mul_le_mul_right B h
theorem mul_two {k B : Nat} : k * (2 * B) = 2 * k * B ∧ (k + 1) * (2 * B) = k * (2 * B) + 2 * B ∧ (2 * k + 1) * B = k * (2 * B) + B ∧ (2 * k + 1 + 1) * B = k * (2 * B) + 2 * B := by
  have e1 : k * (2 * B) = 2 * k * B := by rw [← Nat.mul_assoc, Nat.mul_comm k 2]
  refine ⟨e1, by rw [Nat.add_mul, Nat.one_mul], by rw [Nat.add_mul, Nat.one_mul, e1], by rw [Nat.add_mul, Nat.add_mul, Nat.one_mul, e1]; omega⟩

/-- One block that was sorted. -/
theorem Blks.step {B k : Nat} {R : Array Int} (hb : Blks lt B d (· < k) N) (hp : PermIn (k * B) ((k + 1) * B) d R) (hs : SortedIn (ltS lt) (k * B) ((k + 1) * B) R) : Blks lt B R (· < k + 1) N := by
  intro k' p q hk h1 h2 h3 h4
  rcases Nat.lt_succ_iff_lt_or_eq.mp hk with r | r
  · have := mul_in (B := B) r
    rw [hp.2.1 p (.inl (by omega)), hp.2.1 q (.inl (by omega))]
    exact hb k' p q r h1 h2 h3 h4
  · subst r; exact hs p q h1 h2 h3
theorem Blks.last {B k : Nat} {R : Array Int} (hb : Blks lt B d (· < k) N) (hp : PermIn (k * B) N d R) (hs : SortedIn (ltS lt) (k * B) N R) (hN : N < (k + 1) * B) : Blks lt B R (fun _ => True) N := by
  intro k' p q _ h1 h2 h3 h4
  rcases Nat.lt_trichotomy k' k with r | r | r
  · have := mul_in (B := B) r
    rw [hp.2.1 p (.inl (by omega)), hp.2.1 q (.inl (by omega))]
    exact hb k' p q r h1 h2 h3 h4
  · subst r; exact hs p q h1 h2 h4
  · have := mul_in (B := B) r
    omega

structure Stg (h0 : H) (b N : Nat) (lt : Int → Int → Bool) (B : Nat) (h : H) (d : Array Int) : Prop where
  sw : Sw h0 b N h d
  perm : PermIn 0 N (idA N) d
  blk : Blks lt B d (fun _ => True) N
  cut : ∀ k, Cut d N (k * B)

/-- In the midst of a stage. -/
structure Mid (h0 : H) (b N : Nat) (lt : Int → Int → Bool) (B k : Nat) (h : H) (d : Array Int) : Prop where
  sw : Sw h0 b N h d
  perm : PermIn 0 N (idA N) d
  done : Blks lt (2 * B) d (· < k) N
  rest : Blks lt B d (2 * k ≤ ·) N
  cut : ∀ k', Cut d N (k' * (2 * B))
  cut1 : ∀ k', 2 * k ≤ k' → Cut d N (k' * B)
  in_ : k * (2 * B) ≤ N

theorem Stg.mid {B : Nat} (T : Stg h0 b N lt B h d) : Mid h0 b N lt B 0 h d :=
  ⟨T.sw, T.perm, fun k p q hk => absurd hk (Nat.not_lt_zero k), fun k p q _ => T.blk k p q trivial, fun k' => by rw [(mul_two (k := k') (B := B)).1]; exact T.cut _, fun k' _ => T.cut k', by omega⟩
theorem Mid.mg {B k e : Nat} (M : Mid h0 b N lt B k h d) (h1 : k * (2 * B) + B ≤ e) (h2 : e ≤ k * (2 * B) + 2 * B) (h3 : e ≤ N) : Mg lt (k * (2 * B)) (k * (2 * B) + B) e d := by
  obtain ⟨e1, e2, e3, e4⟩ := mul_two (k := k) (B := B)
  refine ⟨fun p q z1 z2 z3 => ?_, fun p q z1 z2 z3 => ?_, fun i j z1 z2 z3 z4 => ?_⟩
  · exact M.rest (2 * k) p q (Nat.le_refl _) (by omega) z2 (by omega) (by omega)
  · exact M.rest (2 * k + 1) p q (Nat.le_succ _) (by omega) z2 (by omega) (by omega)
  · have := M.cut1 (2 * k + 1) (Nat.le_succ _)
    rw [e3] at this
    exact this i j z2 z3 (by omega)
theorem Mid.step {B k : Nat} {g : H} {R : Array Int} (M : Mid h0 b N lt B k h d) (A : Sw h0 b N g R) (hB : k * (2 * B) + 2 * B ≤ N) (hp : PermIn (k * (2 * B)) (k * (2 * B) + 2 * B) d R) (hs : SortedIn (ltS lt) (k * (2 * B)) (k * (2 * B) + 2 * B) R) : Mid h0 b N lt B (k + 1) g R := by
  obtain ⟨e1, e2, e3, e4⟩ := mul_two (k := k) (B := B)
  have hsz : k * (2 * B) + 2 * B ≤ d.size := by rw [M.sw.sz]; exact hB
  refine ⟨A, permIn_trans _ _ _ _ _ M.perm (permIn_mono _ _ _ _ 0 N (Nat.zero_le _) hB (by rw [M.sw.sz]; exact Nat.le_refl _) hp), M.done.step (by rw [e2]; exact hp) (by rw [e2]; exact hs), fun k' p q z1 z2 z3 z4 z5 => ?_, fun k' => ?_, fun k' z1 => ?_, by rw [e2]; exact hB⟩
  · have z6 : (2 * k + 1 + 1) * B ≤ k' * B := Nat.mul_le_mul_right B (by omega)
    rw [hp.2.1 p (.inr (by omega)), hp.2.1 q (.inr (by omega))]
    exact M.rest k' p q (by omega) z2 z3 z4 z5
  · refine (M.cut k').perm hp hsz hB ?_
    rcases Nat.lt_or_ge k k' with r | r
    · have := mul_in (B := 2 * B) r; omega
    · exact .inl (Nat.mul_le_mul_right _ r)
  · have z6 : (2 * k + 1 + 1) * B ≤ k' * B := Nat.mul_le_mul_right B (by omega)
    exact (M.cut1 k' (by omega)).perm hp hsz hB (.inr (by omega))
theorem Mid.last {B k : Nat} {g : H} {R : Array Int} (M : Mid h0 b N lt B k h d) (A : Sw h0 b N g R) (hB : N < k * (2 * B) + 2 * B) (hp : PermIn (k * (2 * B)) N d R) (hs : SortedIn (ltS lt) (k * (2 * B)) N R) : Stg h0 b N lt (2 * B) g R := by
  obtain ⟨e1, e2, e3, e4⟩ := mul_two (k := k) (B := B)
  have hsz : N ≤ d.size := by rw [M.sw.sz]; exact Nat.le_refl _
  refine ⟨A, permIn_trans _ _ _ _ _ M.perm (permIn_mono _ _ _ _ 0 N (Nat.zero_le _) (Nat.le_refl _) hsz hp), M.done.last hp hs (by rw [e2]; exact hB), fun k' => ?_⟩
  intro i j hi hj hjN
  refine (M.cut k').perm hp hsz (Nat.le_refl _) ?_ i j hi hj hjN
  rcases Nat.lt_or_ge k k' with r | r
  · have := mul_in (B := 2 * B) r; omega
  · exact .inl (Nat.mul_le_mul_right _ r)
/-- The rest is one block alone. -/
theorem Mid.one {B k : Nat} (M : Mid h0 b N lt B k h d) (hB : N ≤ k * (2 * B) + B) : SortedIn (ltS lt) (k * (2 * B)) N d := fun p q z1 z2 z3 => by
  obtain ⟨e1, e2, e3, e4⟩ := mul_two (k := k) (B := B)
  exact M.rest (2 * k) p q (Nat.le_refl _) (by omega) z2 (by omega) z3

/-- A stage. -/
theorem stage_spec {B : Nat} (T : Stg h0 b N lt B h d) (K : Cmp h0 b N f cs lt) (hlt : SWO lt) (hN : N ≤ 1000) (hB0 : 0 < B) (hB : B < N) :
    Ev (S.slices_stableCmpFunc_int__c2_S W (.sl b 0 N c) (N : Int) (.fn f cs) (B : Int) h) fun z => ∃ d', z.1 = .normal ∧ z.2.1 = S.slices_stableCmpFunc_int__c2_E (.sl b 0 N c) (.int .i64 (N : Int)) (.fn f cs) (.int .i64 ((2 * B : Nat) : Int)) ∧ Stg h0 b N lt (2 * B) z.2.2 d' := by
  have b9 : B ≤ 1000 := by omega
  have w1 := sort_twice (i := B) (by omega)
  have w2 : wr .i64 ((B : Int) * 2) = ((2 * B : Nat) : Int) := by rw [wr64 (by omega) (by omega)]; omega
  simp only [S.slices_stableCmpFunc_int__c2_S, sort_lt hB, w1]
  refine loop_ev (α := Nat × Array Int) (fun q => S.slices_stableCmpFunc_int__c4_E (.sl b 0 N c) (.int .i64 (N : Int)) (.fn f cs) (.int .i64 (B : Int)) (.int .i64 ((q.1 * (2 * B) : Nat) : Int)) (.int .i64 ((q.1 * (2 * B) + 2 * B : Nat) : Int)))
    (fun q h => Mid h0 b N lt B q.1 h q.2) (fun q _ => N - q.1 * (2 * B))
    (fun z => ∃ k d', z.1 = .exit 4 ∧ z.2.1 = S.slices_stableCmpFunc_int__c4_O (.sl b 0 N c) (.int .i64 (N : Int)) (.fn f cs) (.int .i64 (B : Int)) (.int .i64 ((k * (2 * B) : Nat) : Int)) ∧ Mid h0 b N lt B k z.2.2 d' ∧ N < k * (2 * B) + 2 * B) (0, d) (by simp only [Nat.zero_mul, Nat.zero_add]; rfl) T.mid ?_ ?_
  · rintro ⟨k, d1⟩ g M
    dsimp only at M
    rw [S.slices_stableCmpFunc_int__c4_eq]
    have hin := M.in_
    have e2 := (mul_two (k := k) (B := B)).2.1
    by_cases hle : k * (2 * B) + 2 * B ≤ N
    · have w3 := sort_add (i := k * (2 * B)) (j := B) (by clear w1 w2; omega)
      have w4 := sort_add (i := k * (2 * B) + 2 * B) (j := 2 * B) (by clear w1 w2 w3; omega)
      obtain ⟨⟨v, g1⟩, e1, R, rfl, r1, r2, A1⟩ := symMerge_all (c := c) K hlt hN (N + 1) (k * (2 * B)) (k * (2 * B) + B) (k * (2 * B) + 2 * B) d1 g (by clear w1 w2 w3 w4; omega) (by clear w1 w2 w3 w4; omega) (by clear w1 w2 w3 w4; omega) hle M.sw (M.mg (by clear w1 w2 w3 w4; omega) (Nat.le_refl _) hle)
      dsimp only at A1
      simp only [S.slices_stableCmpFunc_int__c4_S, sort_le hle, w1, w3, w4, W_call, e1, obind]
      clear w1 w2 w3 w4 e1
      refine Ev.some (.inl ⟨(k + 1, R), rfl, ?_, M.step A1 hle r1 r2, by dsimp only; omega⟩)
      dsimp only
      rw [e2]
    · simp only [S.slices_stableCmpFunc_int__c4_S, sort_nle hle]
      exact Ev.some (.inr ⟨by simp, k, d1, rfl, rfl, M, by clear w1 w2; omega⟩)
  rintro ⟨_, _, g⟩ ⟨k, d1, rfl, rfl, M, hlt2⟩
  dsimp only at M
  show Ev (S.slices_stableCmpFunc_int__K7 W (.exit 4) _ _) _
  rw [S.slices_stableCmpFunc_int__c4_e4_eq]
  have hin := M.in_
  have w3 := sort_add (i := k * (2 * B)) (j := B) (by clear w1 w2; omega)
  obtain ⟨kI, hkI⟩ : ∃ x : Int, x = ((k * (2 * B) : Nat) : Int) := ⟨_, rfl⟩
  obtain ⟨bI, hbI⟩ : ∃ x : Int, x = (B : Int) := ⟨_, rfl⟩
  by_cases hm : k * (2 * B) + B < N
  · obtain ⟨⟨v, g1⟩, e1, R, rfl, r1, r2, A1⟩ := symMerge_all (c := c) K hlt hN (N + 1) (k * (2 * B)) (k * (2 * B) + B) N d1 g (by clear w1 w2 w3; omega) (by clear w1 w2 w3; omega) hm (Nat.le_refl _) M.sw (M.mg (by clear w1 w2 w3; omega) (by clear w1 w2 w3; omega) (Nat.le_refl _))
    dsimp only at A1
    rw [← hkI] at w3 e1 ⊢; rw [← hbI] at w3 w2 ⊢
    simp only [S.slices_stableCmpFunc_int__c4_e4, w3, sort_lt hm, W_call, e1, obind, w2]
    exact Ev.some ⟨R, rfl, rfl, M.last A1 hlt2 r1 r2⟩
  · rw [← hkI] at w3 ⊢; rw [← hbI] at w3 w2 ⊢
    simp only [S.slices_stableCmpFunc_int__c4_e4, w3, sort_nlt hm, w2]
    exact Ev.some ⟨d1, rfl, rfl, M.last M.sw hlt2 (permIn_refl _ _ _) (M.one (Nat.le_of_not_lt hm))⟩

/-- The first blocks: of 20. -/
structure Fst (h0 : H) (b N : Nat) (lt : Int → Int → Bool) (k : Nat) (h : H) (d : Array Int) : Prop where
  sw : Sw h0 b N h d
  perm : PermIn 0 N (idA N) d
  done : Blks lt 20 d (· < k) N
  rest : ∀ i, k * 20 ≤ i → i < N → d[i]! = (i : Int)
  cut : ∀ k', Cut d N (k' * 20)
  in_ : k * 20 ≤ N
theorem Fst.up {k e : Nat} (F : Fst h0 b N lt k h d) (he : e ≤ N) : ∀ p q, k * 20 ≤ p → p < q → q < e → d[p]! < d[q]! := fun p q h1 h2 h3 => by
  rw [F.rest p h1 (by omega), F.rest q (by omega) (by omega)]; omega

theorem stable_spec (A : Sw h0 b N h (idA N)) (K : Cmp h0 b N f cs lt) (hlt : SWO lt) (hN : N ≤ 1000) :
    Ev (C 408 [.sl b 0 N c, .int .i64 (N : Int), .fn f cs] h) fun z => ∃ R, z.1 = .tup [] ∧ PermIn 0 N (idA N) R ∧ SortedIn (ltS lt) 0 N R ∧ Sw h0 b N z.2 R := by
  refine call_ev (af := F.slices_stableCmpFunc_int_) (by kernel_rfl) rfl ?_
  rw [S.slices_stableCmpFunc_int__eq]
  simp only [S.slices_stableCmpFunc_int_]
  have F0 : Fst h0 b N lt 0 h (idA N) := ⟨A, permIn_refl _ _ _, fun k p q hk => absurd hk (Nat.not_lt_zero k), fun i _ hi => idA_get hi, fun k' i j h1 h2 h3 => by rw [idA_get (by omega), idA_get h3]; omega, by omega⟩
  refine loop_ev (α := Nat × Array Int) (fun q => S.slices_stableCmpFunc_int__c1_E (.sl b 0 N c) (.int .i64 (N : Int)) (.fn f cs) (.int .i64 20) (.int .i64 ((q.1 * 20 : Nat) : Int)) (.int .i64 ((q.1 * 20 + 20 : Nat) : Int)))
    (fun q h => Fst h0 b N lt q.1 h q.2) (fun q _ => N - q.1 * 20)
    (fun z => ∃ k d', z.1 = .exit 0 ∧ z.2.1 = S.slices_stableCmpFunc_int__c1_O (.sl b 0 N c) (.int .i64 (N : Int)) (.fn f cs) (.int .i64 20) (.int .i64 ((k * 20 : Nat) : Int)) ∧ Fst h0 b N lt k z.2.2 d' ∧ N < k * 20 + 20) (0, idA N) rfl F0 ?_ ?_
  · clear A F0
    rintro ⟨k, d1⟩ g F
    dsimp only at F
    rw [S.slices_stableCmpFunc_int__c1_eq]
    have hin := F.in_
    by_cases hle : k * 20 + 20 ≤ N
    · have w3 : wr .i64 (((k * 20 + 20 : Nat) : Int) + 20) = (((k + 1) * 20 + 20 : Nat) : Int) := by rw [wr64 (by omega) (by omega)]; omega
      obtain ⟨⟨v, g1⟩, e1, rfl, A1⟩ := insertion_spec (c := c) (a := k * 20) (e := k * 20 + 20) F.sw K hN hle (by clear w3; omega)
      dsimp only at A1
      have hsz : k * 20 + 20 ≤ d1.size := by rw [F.sw.sz]; exact hle
      obtain ⟨r1, r2⟩ := ins_sorted hlt (Nat.le_add_right _ 20) hsz (F.up hle)
      generalize Go.Sort.insertionSort lt d1 (k * 20) (k * 20 + 20) = R at A1 r1 r2
      simp only [S.slices_stableCmpFunc_int__c1_S, sort_le hle, W_call, e1, obind, w3]
      clear w3 e1
      refine Ev.some (.inl ⟨(k + 1, R), rfl, ?_, ⟨A1, permIn_trans _ _ _ _ _ F.perm (permIn_mono _ _ _ _ 0 N (Nat.zero_le _) hle (by rw [F.sw.sz]; exact Nat.le_refl _) r1), F.done.step (by rw [Nat.add_mul, Nat.one_mul]; exact r1) (by rw [Nat.add_mul, Nat.one_mul]; exact r2), fun i h1 h2 => ?_, fun k' => ?_, by dsimp only; omega⟩, by dsimp only; omega⟩)
      · dsimp only
        rw [show (k + 1) * 20 = k * 20 + 20 by omega]
      · rw [r1.2.1 i (.inr (by dsimp only at h1; omega))]; exact F.rest i (by dsimp only at h1; omega) h2
      · refine (F.cut k').perm r1 hsz hle ?_
        omega
    · simp only [S.slices_stableCmpFunc_int__c1_S, sort_nle hle]
      exact Ev.some (.inr ⟨by simp, k, d1, rfl, rfl, F, by omega⟩)
  clear A F0
  rintro ⟨_, _, g⟩ ⟨k, d1, rfl, rfl, F, hlt2⟩
  dsimp only at F
  show Ev (S.slices_stableCmpFunc_int__K2 W (.exit 0) _ _) _
  rw [S.slices_stableCmpFunc_int__c1_e0_eq]
  have hin := F.in_
  obtain ⟨⟨v, g1⟩, e1, rfl, A1⟩ := insertion_spec (c := c) (a := k * 20) (e := N) F.sw K hN (Nat.le_refl _) hin
  dsimp only at A1
  have hsz : N ≤ d1.size := by rw [F.sw.sz]; exact Nat.le_refl _
  obtain ⟨r1, r2⟩ := ins_sorted hlt hin hsz (F.up (Nat.le_refl _))
  generalize Go.Sort.insertionSort lt d1 (k * 20) N = R at A1 r1 r2
  have S0 : Stg h0 b N lt 20 g1 R := ⟨A1, permIn_trans _ _ _ _ _ F.perm (permIn_mono _ _ _ _ 0 N (Nat.zero_le _) (Nat.le_refl _) hsz r1), F.done.last r1 r2 (by omega), fun k' => by
    refine (F.cut k').perm r1 hsz (Nat.le_refl _) ?_
    rcases Nat.lt_or_ge k k' with r | r
    · exact .inr (by omega)
    · exact .inl (by omega)⟩
  simp only [S.slices_stableCmpFunc_int__c1_e0, W_call, e1, obind]
  clear e1 F r1 r2 A1
  refine loop_ev (α := Nat × Array Int) (fun q => S.slices_stableCmpFunc_int__c2_E (.sl b 0 N c) (.int .i64 (N : Int)) (.fn f cs) (.int .i64 (q.1 : Int)))
    (fun q h => 0 < q.1 ∧ Stg h0 b N lt q.1 h q.2) (fun q _ => N - q.1)
    (fun z => ∃ B d', z.1 = .exit 2 ∧ z.2.1 = S.slices_stableCmpFunc_int__c2_O ∧ Stg h0 b N lt B z.2.2 d' ∧ N ≤ B) (20, R) rfl ⟨Nat.succ_pos 19, S0⟩ ?_ ?_
  · clear S0
    rintro ⟨B, d2⟩ g ⟨hB0, T⟩
    dsimp only at hB0 T
    rw [S.slices_stableCmpFunc_int__c2_eq]
    by_cases hB : B < N
    · refine (stage_spec T K hlt hN hB0 hB).mono ?_
      rintro ⟨_, _, g2⟩ ⟨d3, rfl, rfl, S2⟩
      exact .inl ⟨(2 * B, d3), rfl, rfl, ⟨by dsimp only; omega, S2⟩, by dsimp only; omega⟩
    · simp only [S.slices_stableCmpFunc_int__c2_S, sort_nlt hB]
      exact Ev.some (.inr ⟨by simp, B, d2, rfl, rfl, T, Nat.le_of_not_lt hB⟩)
  rintro ⟨_, _, g2⟩ ⟨B, d2, rfl, rfl, T, hB⟩
  dsimp only at T
  show Ev (S.slices_stableCmpFunc_int__K3 W (.exit 2) _ _) _
  rw [S.slices_stableCmpFunc_int__c2_e2_eq]
  refine Ev.some ⟨d2, rfl, T.perm, fun p q _ h2 h3 => T.blk 0 p q trivial (by omega) h2 (by omega) h3, T.sw⟩

theorem sortStable_spec (A : Sw h0 b N h (idA N)) (K : Cmp h0 b N f cs lt) (hlt : SWO lt) (hN : N ≤ 1000) :
    Ev (C 335 [.sl b 0 N c, .fn f cs] h) fun z => ∃ R, z.1 = .tup [] ∧ PermIn 0 N (idA N) R ∧ SortedIn (ltS lt) 0 N R ∧ Sw h0 b N z.2 R := by
  refine call_ev (af := F.slices_SortStableFunc___int_int_) (by kernel_rfl) rfl ?_
  rw [S.slices_SortStableFunc___int_int__eq]
  obtain ⟨⟨v, g⟩, e1, R, rfl, r1, r2, A2⟩ := stable_spec (c := c) A K hlt hN
  simp only [S.slices_SortStableFunc___int_int_, lenSl_sl, obind, W_call, e1]
  exact Ev.some ⟨R, rfl, r1, r2, A2⟩
end
end Wm
end

section
/- hist.Right, walked. -/
namespace Wm
attribute [local congr] bind_congr1
attribute [local irreducible] wr
open Go.Sort (swp PermIn SortedIn Below SWO)

theorem st_agg {g : H} {q n : Nat} {z vs : List V} (hq : g.get q = some (.cells z .rw)) (hz : z.length = n) (hv : vs.length = n) (h1 : vs.all V.one = true) : g.st n (.ptr q 0) (.agg vs) = some (g.put q (some (.cells vs .rw))) := by
  have e1 : Nat.beq (V.cells (.agg vs)).length n = true := by rw [cells_agg, hv]; exact Nat.beq_refl n
  rw [st_get', e1]
  simp only [cells_agg, hq, stB_cells, h1, hv, hz, Nat.zero_add, Nat.le_refl, decide_true, Bool.not_true, Bool.or_false, reduceCtorEq, decide_false, Option.map_some, splice, List.take_zero, List.nil_append]
  rw [List.drop_of_length_le (by rw [hz]; exact Nat.le_refl _), List.append_nil]
theorem ld_agg {g : H} {q n : Nat} {vs : List V} {k : Bk} (hq : g.get q = some (.cells vs k)) (hv : vs.length = n) : g.ldN n (.ptr q 0) = some (.agg vs) := by
  rw [ldN_get hq (by rw [hv]; omega), List.drop_zero, ← hv, List.take_length]

/-! ### The loop that fills -/
def fillL (n k : Nat) : List V := (List.range n).map fun i => .int .i64 (if i < k then (i : Int) else 0)
theorem fillL_len (n k : Nat) : (fillL n k).length = n := by unfold fillL; rw [List.length_map, List.length_range]
theorem fillL_get {n k i : Nat} (hi : i < n) : (fillL n k)[i]? = some (.int .i64 (if i < k then (i : Int) else 0)) := by
  unfold fillL; rw [List.getElem?_map, List.getElem?_range hi]; rfl
theorem fillL_set {n k : Nat} (hk : k < n) : (fillL n k).set k (.int .i64 (k : Int)) = fillL n (k + 1) := by
  apply List.ext_getElem?
  intro i
  by_cases hi : i < n
  · rw [fillL_get hi]
    by_cases hik : k = i
    · subst hik
      rw [List.getElem?_set_self (by rw [fillL_len]; exact hk), if_pos (Nat.lt_succ_self k)]
    · rw [List.getElem?_set_ne hik, fillL_get hi]
      by_cases h1 : i < k
      · rw [if_pos h1, if_pos (Nat.lt_succ_of_lt h1)]
      · rw [if_neg h1, if_neg (by omega)]
  · rw [List.getElem?_eq_none (by rw [List.length_set, fillL_len]; omega), List.getElem?_eq_none (by rw [fillL_len]; omega)]
theorem fillL_all (n : Nat) : fillL n n = ints (idA n) := by
  unfold fillL ints idA
  rw [List.map_map]
  apply List.map_congr_left
  intro i hi
  rw [if_pos (List.mem_range.mp hi)]; rfl
theorem repl_zero (n : Nat) : repl [V.int .i64 0] n = fillL n 0 := by
  apply List.ext_getElem?
  intro i
  have hl : ∀ n, (repl [V.int .i64 0] n) = List.replicate n (V.int .i64 0) := fun n => by
    induction n with
    | zero => rfl
    | succ n ih => simp only [repl, ih, List.replicate_succ, List.cons_append, List.nil_append]
  rw [hl]
  by_cases hi : i < n
  · rw [fillL_get hi, List.getElem?_replicate, if_pos hi]; rfl
  · rw [List.getElem?_eq_none (by rw [List.length_replicate]; omega), List.getElem?_eq_none (by rw [fillL_len]; omega)]
theorem mkInts {h : H} {n : Nat} (hn : n ≤ 1000000) : h.mkSl 1 8 [(.int .i64 0)] (n : Int) (n : Int) = some (.sl h.next 0 n (.ex n), h.new (.cells (fillL n 0) .rw)) := by
  have h0 : (0 : Int) ≤ (n : Int) := Int.natCast_nonneg n
  have h1 : (n : Int) * ((8 : Nat) : Int) ≤ 140737488355328 := by omega
  have h2 : (n : Int) ≤ 9223372036854775807 := by omega
  rw [mkSl_ok (e := 1) (z := [.int .i64 0]) h0 (Int.le_refl _) h1 h2 rfl (by decide), Int.toNat_natCast, repl_zero]

theorem hr_k {k : Nat} (h : k ≤ 9000) : wr .i64 ((k : Int) + 1) = ((k + 1 : Nat) : Int) := by rw [wr64 (by omega) (by omega)]; rfl

def zE : List V := [(.int .i64 0), (.int .i64 0), (.int .i64 0), (.int .i64 0), (.int .i64 0), (.bool false), (.int .i64 0), (.int .i64 0), (.int .u64 0), (.int .u64 0), (.int .u64 0), (.int .i64 0), (.int .u64 0), (.bool false)]

theorem evt_one (x : Evt) : x.cs.all V.one = true := rfl

theorem rowE_one {g : Nat → Option Blk} {x : V} {l : List Evt} (h : RowE g x l) : x.one = true := by
  obtain ⟨rfl, _⟩ | ⟨b, c, k, rfl, _⟩ := h <;> rfl
theorem rowE_box {g : Nat → Option Blk} {x : V} {l : List Evt} (h : RowE g x l) : boxc x = some [x] := by
  obtain ⟨rfl, _⟩ | ⟨b, c, k, rfl, _⟩ := h <;> rfl

end Wm
end

section
/- How events compare in the order by points. -/
namespace Wm
attribute [local congr] bind_congr1
attribute [local irreducible] wr

def bI (b : Bool) : Int := if b then 1 else 0
def orI (a b c d : Int) : Int := if a ≠ 0 then a else if b ≠ 0 then b else if c ≠ 0 then c else d
def ordI (x y : Evt) : Int := orI (cmp3 x.point y.point) (cmp3 (bI x.behind) (bI y.behind)) (cmp3 x.client y.client) (cmp3 x.op y.op)
/-- The order by points: less. -/
def lessE (x y : Evt) : Bool :=
  if x.point = y.point then if x.behind = y.behind then if x.client = y.client then decide (x.op < y.op) else decide (x.client < y.client) else y.behind else decide (x.point < y.point)
theorem cmp3_zero {a b : Int} : cmp3 a b = 0 ↔ a = b := by
  unfold cmp3
  by_cases h1 : a < b
  · simp [h1]; omega
  · by_cases h2 : b < a
    · simp [h1, h2]; omega
    · simp [h1, h2]; omega
theorem ordI_neg (x y : Evt) : decide (ordI x y < 0) = lessE x y := by
  unfold ordI orI lessE
  by_cases h1 : x.point = y.point
  · rw [if_neg (by rw [cmp3_zero.mpr h1]; simp), if_pos h1]
    by_cases h2 : x.behind = y.behind
    · rw [if_neg (by rw [h2, cmp3_zero.mpr rfl]; simp), if_pos h2]
      by_cases h3 : x.client = y.client
      · rw [if_neg (by rw [cmp3_zero.mpr h3]; simp), if_pos h3, cmp3_neg]
      · rw [if_pos (fun e => h3 (cmp3_zero.mp e)), if_neg h3, cmp3_neg]
    · have : bI x.behind ≠ bI y.behind := by
        cases hx : x.behind <;> cases hy : y.behind <;> simp_all [bI]
      rw [if_pos (fun e => this (cmp3_zero.mp e)), if_neg h2, cmp3_neg]
      cases hx : x.behind <;> cases hy : y.behind <;> simp_all [bI]
  · rw [if_pos (fun e => h1 (cmp3_zero.mp e)), if_neg h1, cmp3_neg]

theorem behind_spec (e : Evt) (h : H) : C 338 [.agg e.cs] h = some (.int .i64 (bI e.behind), h) := by
  refine call_closed (af := F.hist_behind) (by kernel_rfl) rfl (by rfl) (by rfl) h ?_
  unfold Evt.cs
  rw [S.hist_behind_eq]
  have h0 : H.empty.next = 0 := rfl
  cases e.behind with
  | true =>
    simp only [S.hist_behind, Option.bind_some, ld1_get', get_new', ldB_cells, List.getElem?_cons_zero, List.getElem?_cons_succ, V.one, asB_bool, if_true, h0]
    exact Ev.some rfl
  | false =>
    simp only [S.hist_behind, Option.bind_some, ld1_get', get_new', ldB_cells, List.getElem?_cons_zero, List.getElem?_cons_succ, V.one, asB_bool, if_true, h0]
    exact Ev.some rfl

theorem or_spec {g : H} {q : Nat} {a b c d : Int} (hq : g.get q = some (.cells [.int .i64 a, .int .i64 b, .int .i64 c, .int .i64 d] .rw)) :
    C 337 [.sl q 0 4 (.ex 4)] g = some (.int .i64 (orI a b c d), g) := by
  have e : Ev (C 337 [.sl q 0 4 (.ex 4)] g) fun r => r = (.int .i64 (orI a b c d), g) := by
    refine call_ev (af := F.cmp_Or_int_) (by kernel_rfl) rfl ?_
    rw [S.cmp_Or_int__eq]
    simp only [S.cmp_Or_int_, lenSl_sl, obind]
    have at' : ∀ k : Nat, k < 4 → ∃ v, [a, b, c, d][k]? = some v ∧ ldB (g.get q) k = some (.int .i64 v) := fun k hk => by
      refine ⟨[a, b, c, d][k], List.getElem?_eq_getElem hk, ?_⟩
      rw [hq, ldB_cells]
      have : [V.int .i64 a, .int .i64 b, .int .i64 c, .int .i64 d] = [a, b, c, d].map (.int .i64) := rfl
      rw [this, List.getElem?_map, List.getElem?_eq_getElem hk]; rfl
    refine loop_ev (α := Nat) (fun k => S.cmp_Or_int__c1_E (.int .i64 0) (.sl q 0 4 (.ex 4)) (.int .i64 ((4 : Nat) : Int)) (.int .i64 (k : Int)))
      (fun k g' => k ≤ 4 ∧ g' = g ∧ ∀ i v, i < k → [a, b, c, d][i]? = some v → v = 0) (fun k _ => 4 - k)
      (fun r => r.2.2 = g ∧ ((r.1 = .ret ∧ r.2.1 = S.cmp_Or_int__c1_O (.int .i64 (orI a b c d)) (.int .i64 0)) ∨ (r.1 = .exit 0 ∧ r.2.1 = S.cmp_Or_int__c1_O .dead (.int .i64 0) ∧ orI a b c d = 0))) 0 rfl ⟨Nat.zero_le _, rfl, fun i v hi => absurd hi (Nat.not_lt_zero i)⟩ ?_ ?_
    · rintro k g' ⟨hk, rfl, hz⟩
      rw [S.cmp_Or_int__c1_eq]
      by_cases hk4 : k < 4
      · have d0 : decide ((k : Int) < ((4 : Nat) : Int)) = true := decide_eq_true (by omega)
        have i0 := sl_idx1 (b := q) (c := .ex 4) hk4
        obtain ⟨v, hv, l0⟩ := at' k hk4
        have wk := hr_k (k := k) (by omega)
        by_cases hv0 : v = 0
        · have d1 : decide (v = 0) = true := decide_eq_true hv0
          simp only [S.cmp_Or_int__c1_S, d0, i0, obind, ld1_get', l0, asI_int, d1, Bool.not_true, wk]
          refine Ev.some (.inl ⟨k + 1, rfl, rfl, ⟨hk4, rfl, fun i w hi hw => ?_⟩, by omega⟩)
          rcases Nat.lt_succ_iff_lt_or_eq.mp hi with r | r
          · exact hz i w r hw
          · subst r; rw [hv] at hw; cases hw; exact hv0
        · have d1 : decide (v = 0) = false := decide_eq_false hv0
          simp only [S.cmp_Or_int__c1_S, d0, i0, obind, ld1_get', l0, asI_int, d1, Bool.not_false]
          refine Ev.some (.inr ⟨by simp, rfl, .inl ⟨rfl, ?_⟩⟩)
          congr 2
          unfold orI
          have z : ∀ i w, i < k → [a, b, c, d][i]? = some w → w = 0 := hz
          match k, hk4, hv, z with
          | 0, _, hv, z => cases hv; rw [if_pos hv0]
          | 1, _, hv, z => cases hv; rw [if_neg (not_not_intro (z 0 a (by decide) rfl)), if_pos hv0]
          | 2, _, hv, z => cases hv; rw [if_neg (not_not_intro (z 0 a (by decide) rfl)), if_neg (not_not_intro (z 1 b (by decide) rfl)), if_pos hv0]
          | 3, _, hv, z => cases hv; rw [if_neg (not_not_intro (z 0 a (by decide) rfl)), if_neg (not_not_intro (z 1 b (by decide) rfl)), if_neg (not_not_intro (z 2 c (by decide) rfl))]
      · have d0 : decide ((k : Int) < ((4 : Nat) : Int)) = false := decide_eq_false (by omega)
        simp only [S.cmp_Or_int__c1_S, d0]
        refine Ev.some (.inr ⟨by simp, rfl, .inr ⟨rfl, rfl, ?_⟩⟩)
        unfold orI
        rw [if_neg (not_not_intro (hz 0 a (by omega) rfl)), if_neg (not_not_intro (hz 1 b (by omega) rfl)), if_neg (not_not_intro (hz 2 c (by omega) rfl)), hz 3 d (by omega) rfl]
    rintro ⟨_, _, g'⟩ ⟨rfl, (⟨rfl, rfl⟩ | ⟨rfl, rfl, hz⟩)⟩
    · show Ev (S.cmp_Or_int__K2 W .ret _ _) _
      rw [S.cmp_Or_int__c1_r_eq]
      exact Ev.some rfl
    · show Ev (S.cmp_Or_int__K2 W (.exit 0) _ _) _
      rw [S.cmp_Or_int__c1_e0_eq, hz]
      exact Ev.some rfl
  obtain ⟨r, e, rfl⟩ := e
  exact e

theorem ck_int (k : Go.IntKind) (n : Int) : ckB (some (.int k n)) (.int k n) = true := by simp [ckB, V.beq]
theorem ck_evt (e : Evt) : ckB (some (.agg e.cs)) (.agg e.cs) = true := by unfold Evt.cs; simp [ckB, V.beq, V.beqs]
theorem ck_sl (b o n : Nat) (c : Cap) : ckB (some (.sl b o n c)) (.sl b o n c) = true := by simp [ckB, V.beq]
theorem fill4 (a b c d : Int) : fill (repl [(.int .i64 0)] 4) [] [(0, 1, .c (.int .i64 a)), (1, 1, .c (.int .i64 b)), (2, 1, .c (.int .i64 c)), (3, 1, .c (.int .i64 d))] = some [.int .i64 a, .int .i64 b, .int .i64 c, .int .i64 d] := rfl

theorem order1_spec {g : H} (ok : g.ok) {bx : Nat} {x0 : V} {l : List Evt} (hb : g.get bx = some (.cells [x0] .rw)) (h1 : x0.one = true) (hx : RowE g.get x0 l) {i j : Nat} {x y : Evt} (hi : l[i]? = some x) (hj : l[j]? = some y) :
    Ev (C 336 [.int .i64 (i : Int), .int .i64 (j : Int), .ptr bx 0] g) fun r => r.1 = .int .i64 (ordI x y) ∧ Fr [] g r.2 := by
  refine call_ev (af := F.hist_Order_1) (by kernel_rfl) rfl ?_
  rw [S.hist_Order_1_eq]
  have l0 : g.ld1 (.ptr bx 0) = some x0 := ld1_get hb rfl h1
  obtain ⟨eb, i1, i2, _⟩ := hx.at hi
  obtain ⟨fb, j1, j2, _⟩ := hx.at hj
  have i2' : g.ldN 14 (.ptr eb (i * 14)) = some (.agg x.cs) := by rw [ldN_get']; exact i2
  have j2' : g.ldN 14 (.ptr fb (j * 14)) = some (.agg y.cs) := by rw [ldN_get']; exact j2
  obtain ⟨g7, hg7⟩ : ∃ g7, g7 = (g.new (.cells zE .rw)).new (.cells zE .rw) := ⟨_, rfl⟩
  have n6 : (g.new (.cells zE .rw)).next = g.next + 1 := rfl
  have F7 : Fr [] g g7 := by rw [hg7]; exact ((Fr.refl ok).new _).new _
  have a7 : g7.get g.next = some (.cells zE .rw) := by rw [hg7, get_new_ne (by rw [n6]; omega)]; exact get_new_self _ _
  have b7 : g7.get (g.next + 1) = some (.cells zE .rw) := by rw [hg7]; exact get_new_self _ _
  have s8 := st_agg (n := 14) (vs := x.cs) a7 rfl rfl (evt_one x)
  obtain ⟨g8, hg8⟩ : ∃ g8, g8 = g7.put g.next (some (.cells x.cs .rw)) := ⟨_, rfl⟩
  rw [← hg8] at s8
  have F8 : Fr [] g g8 := by rw [hg8]; exact F7.put (.inr (Nat.le_refl _)) (F7.ok.lt a7) _
  have b8 : g8.get (g.next + 1) = some (.cells zE .rw) := by rw [hg8, get_put_ne (by omega)]; exact b7
  have a8 : g8.get g.next = some (.cells x.cs .rw) := by rw [hg8]; exact get_put_self _ _ _
  have s9 := st_agg (n := 14) (vs := y.cs) b8 rfl rfl (evt_one y)
  obtain ⟨g9, hg9⟩ : ∃ g9, g9 = g8.put (g.next + 1) (some (.cells y.cs .rw)) := ⟨_, rfl⟩
  rw [← hg9] at s9
  have F9 : Fr [] g g9 := by rw [hg9]; exact F8.put (.inr (by omega)) (F8.ok.lt b8) _
  have b9 : g9.get (g.next + 1) = some (.cells y.cs .rw) := by rw [hg9]; exact get_put_self _ _ _
  have a9 : g9.get g.next = some (.cells x.cs .rw) := by rw [hg9, get_put_ne (by omega)]; exact a8
  clear hg9 hg8 a8 b8 a7 b7
  have l8 : g8.ld1 (.ptr bx 0) = some x0 := ld1_get (F8.get ok hb (by simp)) rfl h1
  obtain ⟨fb', k1, k2, _⟩ := (hx.fr ok F8 (by simp)).at hj
  rw [j1] at k1; cases k1
  have k2' : g8.ldN 14 (.ptr fb (j * 14)) = some (.agg y.cs) := by rw [ldN_get']; exact k2
  have kx : ckB (some x0) x0 = true := by
    obtain ⟨rfl, _⟩ | ⟨b, c, k, rfl, _⟩ := hx
    · rfl
    · exact ck_sl _ _ _ _
  have x0' : g9.ld1 (.ptr g.next 0) = some (.int .i64 x.client) := ld1_get a9 rfl rfl
  have x1' : g9.ld1 (.ptr g.next 1) = some (.int .i64 x.op) := ld1_get a9 rfl rfl
  have x3' : g9.ld1 (.ptr g.next 3) = some (.int .i64 x.point) := ld1_get a9 rfl rfl
  have y0' : g9.ld1 (.ptr (g.next + 1) 0) = some (.int .i64 y.client) := ld1_get b9 rfl rfl
  have y1' : g9.ld1 (.ptr (g.next + 1) 1) = some (.int .i64 y.op) := ld1_get b9 rfl rfl
  have y3' : g9.ld1 (.ptr (g.next + 1) 3) = some (.int .i64 y.point) := ld1_get b9 rfl rfl
  have xa := ld_agg (n := 14) a9 rfl
  have ya := ld_agg (n := 14) b9 rfl
  have e1 := fun a b => cmp_spec a b g9
  have e2 := fun e => behind_spec e g9
  have e3 := fun a b c d => or_spec (g := g9.new (.cells [.int .i64 a, .int .i64 b, .int .i64 c, .int .i64 d] .rw)) (q := g9.next) (a := a) (b := b) (c := c) (d := d) (get_new_self _ _)
  have hz : (g.new (.cells [(.int .i64 0), (.int .i64 0), (.int .i64 0), (.int .i64 0), (.int .i64 0), (.bool false), (.int .i64 0), (.int .i64 0), (.int .u64 0), (.int .u64 0), (.int .u64 0), (.int .i64 0), (.int .u64 0), (.bool false)] .rw)).new (.cells [(.int .i64 0), (.int .i64 0), (.int .i64 0), (.int .i64 0), (.int .i64 0), (.bool false), (.int .i64 0), (.int .i64 0), (.int .u64 0), (.int .u64 0), (.int .u64 0), (.int .i64 0), (.int .u64 0), (.bool false)] .rw) = g7 := hg7.symm
  have hn : (g.new (.cells [(.int .i64 0), (.int .i64 0), (.int .i64 0), (.int .i64 0), (.int .i64 0), (.bool false), (.int .i64 0), (.int .i64 0), (.int .u64 0), (.int .u64 0), (.int .u64 0), (.int .i64 0), (.int .u64 0), (.bool false)] .rw)).next = g.next + 1 := n6
  simp only [S.hist_Order_1, l0, obind, i1, i2', j1, j2', hz, hn, s8, k2', ck_evt, l8, kx, s9, x0', x1', x3', y0', y1', y3', xa, ya, W_call, e1, ck_int, e2, fill4, e3]
  exact Ev.some ⟨rfl, F9.new _⟩

theorem less_spec (x y : Evt) (h : H) : C 339 [.agg x.cs, .agg y.cs] h = some (.bool (lessE x y), h) := by
  refine call_closed (af := F.withyref18_Less) (by kernel_rfl) rfl (by rfl) (by rfl) h ?_
  unfold Evt.cs lessE
  rw [S.withyref18_Less_eq]
  have h0 : H.empty.next = 0 := rfl
  by_cases h1 : x.point = y.point
  · rw [if_pos h1]
    by_cases h2 : x.behind = y.behind
    · rw [if_pos h2]
      have e2 : (x.behind == y.behind) = true := by rw [h2]; exact BEq.rfl
      by_cases h3 : x.client = y.client
      · rw [if_pos h3]
        simp only [S.withyref18_Less, Option.bind_some, ld1_get', get_new', ldB_cells, H.next_new, List.getElem?_cons_zero, List.getElem?_cons_succ, Nat.zero_add, V.one, asI_int, Bool.not_true, if_true, if_false, reduceCtorEq, eqV, h0, decide_eq_true h1, e2, decide_eq_true h3]
        exact Ev.some rfl
      · rw [if_neg h3]
        simp only [S.withyref18_Less, Option.bind_some, ld1_get', get_new', ldB_cells, H.next_new, List.getElem?_cons_zero, List.getElem?_cons_succ, Nat.zero_add, V.one, asI_int, Bool.not_true, Bool.not_false, if_true, if_false, reduceCtorEq, eqV, h0, decide_eq_true h1, e2, decide_eq_false h3]
        exact Ev.some rfl
    · rw [if_neg h2]
      have e2 : (x.behind == y.behind) = false := by simpa using h2
      simp only [S.withyref18_Less, Option.bind_some, ld1_get', get_new', ldB_cells, H.next_new, List.getElem?_cons_zero, List.getElem?_cons_succ, Nat.zero_add, V.one, asI_int, Bool.not_true, Bool.not_false, if_true, if_false, reduceCtorEq, eqV, h0, decide_eq_true h1, e2]
      exact Ev.some rfl
  · rw [if_neg h1]
    simp only [S.withyref18_Less, Option.bind_some, ld1_get', get_new', ldB_cells, H.next_new, List.getElem?_cons_zero, List.getElem?_cons_succ, Nat.zero_add, V.one, asI_int, Bool.not_false, if_true, if_false, reduceCtorEq, eqV, h0, decide_eq_false h1]
    exact Ev.some rfl
end Wm
end

section
/- The order by points: the code's, and the document's. -/
namespace Wm
attribute [local congr] bind_congr1
attribute [local irreducible] wr
open Go.Sort (swp PermIn SortedIn SWO)

theorem lessE_iff (x y : Evt) : lessE x y = true ↔ x.point < y.point ∨ (x.point = y.point ∧ (bI x.behind < bI y.behind ∨ (bI x.behind = bI y.behind ∧ (x.client < y.client ∨ (x.client = y.client ∧ x.op < y.op))))) := by
  have hb : (x.behind = y.behind) ↔ bI x.behind = bI y.behind := by
    cases x.behind <;> cases y.behind <;> simp [bI]
  have hb2 : y.behind = true ∧ x.behind ≠ y.behind ↔ bI x.behind < bI y.behind := by
    cases x.behind <;> cases y.behind <;> simp [bI]
  unfold lessE
  by_cases h1 : x.point = y.point
  · rw [if_pos h1]
    by_cases h2 : x.behind = y.behind
    · rw [if_pos h2]
      have h2' := hb.mp h2
      by_cases h3 : x.client = y.client
      · rw [if_pos h3, decide_eq_true_eq]; omega
      · rw [if_neg h3, decide_eq_true_eq]; omega
    · rw [if_neg h2]
      have h4 : y.behind = true ↔ bI x.behind < bI y.behind := by rw [← hb2]; exact ⟨fun z => ⟨z, h2⟩, fun z => z.1⟩
      have h2' : ¬ bI x.behind = bI y.behind := fun z => h2 (hb.mpr z)
      rw [h4]; omega
  · rw [if_neg h1, decide_eq_true_eq]; omega
theorem lessE_false (x y : Evt) : lessE x y = false ↔ ¬ (x.point < y.point ∨ (x.point = y.point ∧ (bI x.behind < bI y.behind ∨ (bI x.behind = bI y.behind ∧ (x.client < y.client ∨ (x.client = y.client ∧ x.op < y.op)))))) := by
  rw [← lessE_iff]; simp
def evt0 : Evt := ⟨0, 0, 0, 0, 0, false, 0, 0, 0, 0, 0, 0, 0, false⟩
def evAt (l : List Evt) (i : Int) : Evt := (l[i.toNat]?).getD evt0
def ltO (l : List Evt) (i j : Int) : Bool := lessE (evAt l i) (evAt l j)
theorem ltO_swo (l : List Evt) : SWO (ltO l) where
  irrefl x := by unfold ltO; rw [lessE_false]; omega
  trans x y z h1 h2 := by unfold ltO at *; rw [lessE_iff] at *; omega
  ntrans x y z h1 h2 := by unfold ltO at *; rw [lessE_false] at *; omega
theorem evAt_nat {l : List Evt} {i : Nat} {x : Evt} (h : l[i]? = some x) : evAt l (i : Int) = x := by
  unfold evAt; rw [Int.toNat_natCast, h]; rfl

/-- The order by points. -/
structure OrdL (l : List Evt) (o : List Int) : Prop where
  all : AllNums l.length o
  sorted : o.Pairwise (fun x y => ltS (ltO l) y x = false)
theorem OrdL.unique {l : List Evt} {o p : List Int} (h1 : OrdL l o) (h2 : OrdL l p) : o = p :=
  List.Perm.eq_of_pairwise (fun a b _ _ e1 e2 => (ltS_total b a e1 e2).symm) h1.sorted h2.sorted (h1.all.perm.trans h2.all.perm.symm)

theorem order_cmp {h0 : H} {b bx : Nat} {x0 : V} {l : List Evt} (ok : h0.ok) (hb : h0.get bx = some (.cells [x0] .rw)) (h1 : x0.one = true) (hx : RowE h0.get x0 l) (n1 : bx ≠ b) (n2 : ∀ q ∈ x0.blk, q ≠ b) : Cmp h0 b l.length 336 [.ptr bx 0] (ltO l) := by
  intro h F i j i0 i1 j0 j1
  obtain ⟨i', rfl⟩ : ∃ n : Nat, i = (n : Int) := ⟨i.toNat, by omega⟩
  obtain ⟨j', rfl⟩ : ∃ n : Nat, j = (n : Int) := ⟨j.toNat, by omega⟩
  obtain ⟨x, hxi⟩ : ∃ x, l[i']? = some x := ⟨_, List.getElem?_eq_getElem (by omega)⟩
  obtain ⟨y, hyj⟩ : ∃ x, l[j']? = some x := ⟨_, List.getElem?_eq_getElem (by omega)⟩
  obtain ⟨⟨v, g⟩, e, rfl, F2⟩ := order1_spec F.ok (F.get ok hb (by simpa using n1)) h1 (hx.fr ok F (fun q hq => by simpa using n2 q hq)) hxi hyj
  refine ⟨_, g, e, ?_, F2⟩
  rw [ordI_neg]
  unfold ltO
  rw [evAt_nat hxi, evAt_nat hyj]

theorem order_spec {h : H} (ok : h.ok) {x0 : V} {l : List Evt} (hx : RowE h.get x0 l) (hl : l.length ≤ 60) :
    Ev (C 181 [x0] h) fun r => ∃ o, OrdL l o ∧ RowN .i64 r.2.get r.1 o ∧ (∀ b ∈ r.1.blk, h.next ≤ b) ∧ Fr [] h r.2 := by
  refine call_ev (af := F.hist_Order) (by kernel_rfl) rfl ?_
  rw [S.hist_Order_eq]
  have bx := rowE_box hx
  have h1 := rowE_one hx
  have hxl := hx.len
  have F0 : Fr [] h (h.new (.cells [x0] .rw)) := (Fr.refl ok).new _
  have g1 : (h.new (.cells [x0] .rw)).get h.next = some (.cells [x0] .rw) := get_new_self _ _
  have l1 : (h.new (.cells [x0] .rw)).ld1 (.ptr h.next 0) = some x0 := ld1_get g1 rfl h1
  have n1 : (h.new (.cells [x0] .rw)).next = h.next + 1 := rfl
  have mk := mkInts (h := h.new (.cells [x0] .rw)) (n := l.length) (Nat.le_trans hl (by decide))
  rw [n1] at mk
  simp only [S.hist_Order, bx, obind, l1, hxl, mk, lenSl_sl]
  have F1 := F0.new (.cells (fillL l.length 0) .rw)
  generalize hgg : (h.new (.cells [x0] .rw)).new (.cells (fillL l.length 0) .rw) = g at F1
  have b1 : g.get h.next = some (.cells [x0] .rw) := by rw [← hgg, get_new_ne (by rw [n1]; omega)]; exact g1
  have b3 : g.get (h.next + 1) = some (.cells (fillL l.length 0) .rw) := by rw [← hgg, ← n1]; exact get_new_self _ _
  clear hgg mk l1 g1 n1 F0
  refine loop_ev (α := Nat) (fun k => S.hist_Order_c1_E (.ptr h.next 0) (.sl (h.next + 1) 0 l.length (.ex l.length)) (.int .i64 (l.length : Nat)) (.int .i64 (k : Nat)))
    (fun k g => k ≤ l.length ∧ Fr [] h g ∧ g.get h.next = some (.cells [x0] .rw) ∧ g.get (h.next + 1) = some (.cells (fillL l.length k) .rw)) (fun k _ => l.length - k)
    (fun r => r.1 = .exit 0 ∧ r.2.1 = S.hist_Order_c1_O (.ptr h.next 0) (.sl (h.next + 1) 0 l.length (.ex l.length)) ∧ Fr [] h r.2.2 ∧ r.2.2.get h.next = some (.cells [x0] .rw) ∧ r.2.2.get (h.next + 1) = some (.cells (ints (idA l.length)) .rw))
    0 rfl ⟨Nat.zero_le _, F1, b1, b3⟩ ?_ ?_
  · clear b1 b3 F1
    rintro k g ⟨hk, F, b1, b3⟩
    rw [S.hist_Order_c1_eq]
    by_cases hkl : k < l.length
    · have hd : decide ((k : Int) < (l.length : Int)) = true := decide_eq_true (by omega)
      have wk := hr_k (k := k) (by omega)
      have i0 := sl_idx1 (b := h.next + 1) (c := .ex l.length) hkl
      have s0 := st1_get b3 (by simp) (one_int .i64 (k : Int)) (by rw [fillL_len]; exact hkl)
      rw [fillL_set hkl] at s0
      simp only [S.hist_Order_c1_S, hd, i0, obind, s0, wk]
      exact Ev.some (.inl ⟨k + 1, rfl, rfl, ⟨hkl, F.put (.inr (by omega)) (F.ok.lt b3) _, by rw [get_put_ne (by omega)]; exact b1, get_put_self _ _ _⟩, Nat.sub_lt_sub_left hkl (Nat.lt_succ_self k)⟩)
    · have hke : k = l.length := Nat.le_antisymm hk (Nat.le_of_not_lt hkl)
      have hd : decide ((k : Int) < (l.length : Int)) = false := decide_eq_false (by omega)
      simp only [S.hist_Order_c1_S, hd]
      rw [hke, fillL_all] at b3
      exact Ev.some (.inr ⟨by simp, rfl, rfl, F, b1, b3⟩)
  clear b1 b3 F1
  rintro ⟨_, _, g⟩ ⟨rfl, rfl, F, b1, b3⟩
  dsimp only at F b1 b3
  show Ev (S.hist_Order_K2 W (.exit 0) _ _) _
  rw [S.hist_Order_c1_e0_eq]
  have A0 : Sw g (h.next + 1) l.length g (idA l.length) := ⟨Fr.refl F.ok, b3, idA_size _, fun i hi => by rw [idA_get hi]; omega⟩
  have hxg := hx.fr ok F (by simp)
  have K : Cmp g (h.next + 1) l.length 336 [.ptr h.next 0] (ltO l) := order_cmp F.ok b1 h1 hxg (by omega) (fun q hq => by have := hx.lt ok q hq; omega)
  obtain ⟨⟨v, g2⟩, e2, R, rfl, r1, r2, A2⟩ := sortStable_spec (c := .ex l.length) A0 K (ltO_swo l) (by omega)
  dsimp only at A2
  simp only [S.hist_Order_c1_e0, W_call, e2, obind]
  have P := AllNums.of A2.sz r1
  have F2 : Fr [] h g2 := F.trans A2.fr (fun q hq => by rw [List.mem_singleton] at hq; exact .inr (by omega))
  have hlen : R.toList.length = l.length := by rw [Array.length_toList]; exact A2.sz
  refine Ev.some ⟨R.toList, ⟨P, ?_⟩, .inr ⟨h.next + 1, .ex l.length, .rw, by rw [hlen], A2.at_⟩, fun q hq => ?_, F2⟩
  · rw [List.pairwise_iff_getElem]
    intro i j hi hj hij
    have hi' : i < R.size := by rw [Array.length_toList] at hi; exact hi
    have hj' : j < R.size := by rw [Array.length_toList] at hj; exact hj
    have e1 : R.toList[i] = R[i]! := Option.some.inj (by rw [← List.getElem?_eq_getElem hi, get_toList hi'])
    have e2 : R.toList[j] = R[j]! := Option.some.inj (by rw [← List.getElem?_eq_getElem hj, get_toList hj'])
    rw [e1, e2]
    exact r2 i j (Nat.zero_le _) hij (by rw [← A2.sz]; exact hj')
  · simp only [V.blk, List.mem_singleton] at hq; omega

/-! ### The document's -/
def rng (n : Nat) : List Int := (List.range n).map (fun i : Nat => (i : Int))
theorem rng_mem {n : Nat} {v : Int} : v ∈ rng n ↔ ∃ i : Nat, i < n ∧ v = (i : Int) := by
  unfold rng
  rw [List.mem_map]
  exact ⟨fun ⟨i, h1, h2⟩ => ⟨i, List.mem_range.mp h1, h2.symm⟩, fun ⟨i, h1, h2⟩ => ⟨i, List.mem_range.mpr h1, h2.symm⟩⟩
theorem rng_nodup (n : Nat) : (rng n).Nodup := List.pairwise_map.mpr (List.nodup_range.imp fun h e => h (Int.ofNat.inj e))
theorem rng_len (n : Nat) : (rng n).length = n := by unfold rng; rw [List.length_map, List.length_range]

/-- Which were picked. -/
structure Pick (l : List Evt) (o : List Int) (us : List Bool) : Prop where
  len : us.length = l.length
  use : ∀ i, i < l.length → us[i]? = some (decide ((i : Int) ∈ o))
  nd : o.Nodup
  inr : ∀ v ∈ o, v ∈ rng l.length
  sorted : o.Pairwise (fun x y => ltS (ltO l) y x = false)
  rest : ∀ v ∈ o, ∀ i : Nat, i < l.length → (i : Int) ∉ o → ltS (ltO l) (i : Int) v = false
theorem Pick.zero (l : List Evt) : Pick l [] (List.replicate l.length false) :=
  ⟨List.length_replicate, fun i hi => by rw [List.getElem?_replicate, if_pos hi]; simp, List.nodup_nil, by simp, List.Pairwise.nil, by simp⟩
theorem Pick.some {l : List Evt} {o : List Int} {us : List Bool} (P : Pick l o us) (h : o.length < l.length) : ∃ i : Nat, i < l.length ∧ (i : Int) ∉ o := by
  refine Classical.byContradiction fun hn => ?_
  have : rng l.length ⊆ o := fun v hv => by
    obtain ⟨i, hi, rfl⟩ := rng_mem.mp hv
    refine Classical.byContradiction fun hv => hn ⟨i, hi, hv⟩
  have := (rng_nodup l.length).length_le_of_subset this
  rw [rng_len] at this
  omega
theorem Pick.ord {l : List Evt} {o : List Int} {us : List Bool} (P : Pick l o us) (h : o.length = l.length) : OrdL l o := by
  refine ⟨⟨h, ?_⟩, P.sorted⟩
  rw [List.perm_iff_count]
  intro a
  show List.count a o = List.count a (rng l.length)
  rw [P.nd.count, (rng_nodup l.length).count]
  by_cases ha : a ∈ o
  · rw [if_pos ha, if_pos (P.inr a ha)]
  · rw [if_neg ha, if_neg]
    intro hr
    have nd : (a :: o).Nodup := List.nodup_cons.mpr ⟨ha, P.nd⟩
    have : (a :: o) ⊆ rng l.length := fun v hv => by
      rcases List.mem_cons.mp hv with rfl | hv
      · exact hr
      · exact P.inr v hv
    have := nd.length_le_of_subset this
    rw [rng_len, List.length_cons] at this
    omega
theorem Pick.step {l : List Evt} {o : List Int} {us : List Bool} (P : Pick l o us) {k : Nat} (hk : k < l.length) (hn : (k : Int) ∉ o) (hmin : ∀ i : Nat, i < l.length → (i : Int) ∉ o → ltS (ltO l) (i : Int) (k : Int) = false) : Pick l (o ++ [(k : Int)]) (us.set k true) := by
  refine ⟨by rw [List.length_set]; exact P.len, fun i hi => ?_, ?_, fun v hv => ?_, ?_, fun v hv i hi hni => ?_⟩
  · by_cases h : k = i
    · subst h
      rw [List.getElem?_set_self (by rw [P.len]; exact hk)]; simp
    · rw [List.getElem?_set_ne h, P.use i hi]
      congr 1
      rw [decide_eq_decide]
      have : ¬ (i : Int) = (k : Int) := fun e => h (Int.ofNat.inj e).symm
      simp [this]
  · rw [List.nodup_append]
    refine ⟨P.nd, by simp, fun a ha b hb e => ?_⟩
    rw [List.mem_singleton] at hb
    subst e; subst hb; exact hn ha
  · rcases List.mem_append.mp hv with hv | hv
    · exact P.inr v hv
    · rw [List.mem_singleton] at hv; subst hv; exact rng_mem.mpr ⟨k, hk, rfl⟩
  · rw [List.pairwise_append]
    refine ⟨P.sorted, List.pairwise_singleton _ _, fun a ha b hb => ?_⟩
    rw [List.mem_singleton] at hb
    subst hb
    exact P.rest a ha k hk hn
  · have hni' : (i : Int) ∉ o := fun z => hni (List.mem_append.mpr (.inl z))
    rcases List.mem_append.mp hv with hv | hv
    · exact P.rest v hv i hi hni'
    · rw [List.mem_singleton] at hv; subst hv; exact hmin i hi hni'

/-- The best one so far. -/
def Best (l : List Evt) (o : List Int) (i : Nat) (k : Int) : Prop :=
  (k = -1 ∧ ∀ j : Nat, j < i → (j : Int) ∈ o) ∨ ∃ q : Nat, k = (q : Int) ∧ q < i ∧ (q : Int) ∉ o ∧ ∀ j : Nat, j < i → (j : Int) ∉ o → ltS (ltO l) (j : Int) (q : Int) = false

structure RoSt (h g : H) (x3 : V) (o : List Int) (ub : Nat) (us : List Bool) : Prop where
  fr : Fr [] h g
  row : Grown g.get x3 1 (o.map (.int .i64))
  blk : ∀ b ∈ x3.blk, h.next ≤ b
  use : g.get ub = some (.cells (bools us) .rw)
  nub : h.next ≤ ub

theorem refOrder_in {h g : H} (ok : h.ok) {x0 : V} {l : List Evt} (hx : RowE h.get x0 l) (hl : l.length ≤ 60) {x3 : V} {o : List Int} {ub : Nat} {us : List Bool} (Z : RoSt h g x3 o ub us) (P : Pick l o us) (r : Nat) (hr : o.length < l.length) (K : AX × List V × H → Option (AX × List V × H)) (Q : AX × List V × H → Prop)
    (out : ∀ k : Nat, k < l.length → (k : Int) ∉ o → (∀ i : Nat, i < l.length → (i : Int) ∉ o → ltS (ltO l) (i : Int) (k : Int) = false) → Ev (K (.exit 2, S.withyref18_Order_c4_O x0 x3 (.sl ub 0 l.length (.ex l.length)) (.int .i64 (r : Nat)) (.int .i64 (k : Nat)), g)) Q) :
    Ev ((W.loop (S.withyref18_Order_c4_B W) (S.withyref18_Order_c4_E x0 x3 (.sl ub 0 l.length (.ex l.length)) (.int .i64 (r : Nat)) (.int .i64 (-1)) (.int .i64 0)) g).bind K) Q := by
  refine loop_ev (α := Nat × Int) (fun y => S.withyref18_Order_c4_E x0 x3 (.sl ub 0 l.length (.ex l.length)) (.int .i64 (r : Nat)) (.int .i64 y.2) (.int .i64 (y.1 : Nat)))
    (fun y g' => y.1 ≤ l.length ∧ g' = g ∧ Best l o y.1 y.2) (fun y _ => l.length - y.1)
    (fun z => z.2.2 = g ∧ ∃ k : Nat, z.1 = .exit 2 ∧ z.2.1 = S.withyref18_Order_c4_O x0 x3 (.sl ub 0 l.length (.ex l.length)) (.int .i64 (r : Nat)) (.int .i64 (k : Nat)) ∧ k < l.length ∧ (k : Int) ∉ o ∧ (∀ i : Nat, i < l.length → (i : Int) ∉ o → ltS (ltO l) (i : Int) (k : Int) = false)) (0, -1) rfl ⟨Nat.zero_le _, rfl, .inl ⟨rfl, fun j hj => absurd hj (Nat.not_lt_zero j)⟩⟩ ?_ ?_
  rotate_left
  · rintro ⟨_, _, g'⟩ ⟨rfl, k, rfl, rfl, h1, h2, h3⟩
    exact out k h1 h2 h3
  rintro ⟨i, k⟩ g' ⟨hi, rfl, hB⟩
  dsimp only at hi hB
  rw [S.withyref18_Order_c4_eq]
  have hxl := hx.len
  have hxg := hx.fr ok Z.fr (by simp)
  by_cases hil : i < l.length
  rotate_left
  · have hie : i = l.length := Nat.le_antisymm hi (Nat.le_of_not_lt hil)
    have hd : decide ((i : Int) < (l.length : Int)) = false := decide_eq_false (by omega)
    simp only [S.withyref18_Order_c4_S, hxl, obind, hd]
    obtain ⟨rfl, hall⟩ | ⟨q, rfl, hq, hqn, hmin⟩ := hB
    · obtain ⟨j, hj, hjn⟩ := P.some hr
      exact absurd (hall j (hie ▸ hj)) hjn
    · exact Ev.some (.inr ⟨by simp, rfl, q, rfl, rfl, hie ▸ hq, hqn, fun j hj => hmin j (hie ▸ hj)⟩)
  have hd : decide ((i : Int) < (l.length : Int)) = true := decide_eq_true (by omega)
  have wi := hr_k (k := i) (by omega)
  have i0 := sl_idx1 (b := ub) (c := .ex l.length) hil
  have hu := bools_at (P.use i hil)
  have l0 : ldB (g'.get ub) i = some (.bool (decide ((i : Int) ∈ o))) := by rw [Z.use, ldB_cells, hu]; rfl
  by_cases hio : (i : Int) ∈ o
  · have d1 : decide ((i : Int) ∈ o) = true := decide_eq_true hio
    simp only [S.withyref18_Order_c4_S, hxl, obind, hd, i0, ld1_get', l0, asB_bool, d1, Bool.not_true, wi]
    refine Ev.some (.inl ⟨(i + 1, k), rfl, rfl, ⟨hil, rfl, ?_⟩, Nat.sub_lt_sub_left hil (Nat.lt_succ_self i)⟩)
    obtain ⟨rfl, hall⟩ | ⟨q, rfl, hq, hqn, hmin⟩ := hB
    · refine .inl ⟨rfl, fun j hj => ?_⟩
      rcases Nat.lt_succ_iff_lt_or_eq.mp hj with z | z
      · exact hall j z
      · rw [z]; exact hio
    · refine .inr ⟨q, rfl, Nat.lt_succ_of_lt hq, hqn, fun j hj hjn => ?_⟩
      rcases Nat.lt_succ_iff_lt_or_eq.mp hj with z | z
      · exact hmin j z hjn
      · rw [z] at hjn; exact absurd hio hjn
  have d1 : decide ((i : Int) ∈ o) = false := decide_eq_false hio
  obtain ⟨rfl, hall⟩ | ⟨q, rfl, hq, hqn, hmin⟩ := hB
  · have d2 : decide ((-1 : Int) < 0) = true := rfl
    simp only [S.withyref18_Order_c4_S, hxl, obind, hd, i0, ld1_get', l0, asB_bool, d1, Bool.not_false, d2, wi]
    refine Ev.some (.inl ⟨(i + 1, (i : Int)), rfl, rfl, ⟨hil, rfl, .inr ⟨i, rfl, Nat.lt_succ_self i, hio, fun j hj hjn => ?_⟩⟩, Nat.sub_lt_sub_left hil (Nat.lt_succ_self i)⟩)
    rcases Nat.lt_succ_iff_lt_or_eq.mp hj with z | z
    · exact absurd (hall j z) hjn
    · rw [z]; exact (ltS_swo (ltO_swo l)).irrefl _
  · have d2 : decide ((q : Int) < 0) = false := decide_eq_false (by omega)
    obtain ⟨x, hxi⟩ : ∃ x, l[i]? = some x := ⟨_, List.getElem?_eq_getElem hil⟩
    obtain ⟨y, hyq⟩ : ∃ x, l[q]? = some x := ⟨_, List.getElem?_eq_getElem (by omega)⟩
    obtain ⟨eb, e1, e2, _⟩ := hxg.at hxi
    obtain ⟨fb, f1, f2, _⟩ := hxg.at hyq
    have lt : lessE x y = ltO l (i : Int) (q : Int) := by unfold ltO; rw [evAt_nat hxi, evAt_nat hyq]
    have ls := less_spec x y g'
    rw [lt] at ls
    have hS := ltS_swo (ltO_swo l)
    have hqi : (q : Int) < (i : Int) := by omega
    cases hlt : ltO l (i : Int) (q : Int) with
    | true =>
      rw [hlt] at ls
      simp only [S.withyref18_Order_c4_S, hxl, obind, hd, i0, ld1_get', ldN_get', l0, asB_bool, d1, Bool.not_false, d2, e1, e2, f1, f2, W_call, ls, wi]
      refine Ev.some (.inl ⟨(i + 1, (i : Int)), rfl, rfl, ⟨hil, rfl, .inr ⟨i, rfl, Nat.lt_succ_self i, hio, fun j hj hjn => ?_⟩⟩, Nat.sub_lt_sub_left hil (Nat.lt_succ_self i)⟩)
      rcases Nat.lt_succ_iff_lt_or_eq.mp hj with z | z
      · refine hS.ntrans _ _ _ (hmin j z hjn) ?_
        rw [ltS_up (ltO_swo l) hqi, hlt]; rfl
      · rw [z]; exact hS.irrefl _
    | false =>
      rw [hlt] at ls
      simp only [S.withyref18_Order_c4_S, hxl, obind, hd, i0, ld1_get', ldN_get', l0, asB_bool, d1, Bool.not_false, d2, e1, e2, f1, f2, W_call, ls, wi]
      refine Ev.some (.inl ⟨(i + 1, (q : Int)), rfl, rfl, ⟨hil, rfl, .inr ⟨q, rfl, Nat.lt_succ_of_lt hq, hqn, fun j hj hjn => ?_⟩⟩, Nat.sub_lt_sub_left hil (Nat.lt_succ_self i)⟩)
      rcases Nat.lt_succ_iff_lt_or_eq.mp hj with z | z
      · exact hmin j z hjn
      · rw [z, ltS_dn hqi]; exact hlt

theorem refOrder_spec {h : H} (ok : h.ok) {x0 : V} {l : List Evt} (hx : RowE h.get x0 l) (hl : l.length ≤ 60) :
    Ev (C 182 [x0] h) fun r => ∃ o, OrdL l o ∧ Grown r.2.get r.1 1 (o.map (.int .i64)) ∧ (∀ b ∈ r.1.blk, h.next ≤ b) ∧ Fr [] h r.2 := by
  refine call_ev (af := F.withyref18_Order) (by kernel_rfl) rfl ?_
  rw [S.withyref18_Order_eq]
  have hxl := hx.len
  have hmk := mkBools (h := h) (n := l.length) (Nat.le_trans hl (by decide))
  simp only [S.withyref18_Order, hxl, obind, hmk]
  have Z0 : RoSt h (h.new (.cells (bools (List.replicate l.length false)) .rw)) .nilsl [] h.next (List.replicate l.length false) := ⟨(Fr.refl ok).new _, Grown.nil _ _, by simp [V.blk], get_new_self _ _, Nat.le_refl _⟩
  refine loop_ev (α := V × List Int × List Bool) (fun y => S.withyref18_Order_c1_E x0 y.1 (.sl h.next 0 l.length (.ex l.length)) (.int .i64 (y.2.1.length : Nat)))
    (fun y g => RoSt h g y.1 y.2.1 h.next y.2.2 ∧ Pick l y.2.1 y.2.2 ∧ y.2.1.length ≤ l.length) (fun y _ => l.length - y.2.1.length)
    (fun r => ∃ x3 o us, r.1 = .exit 0 ∧ r.2.1 = S.withyref18_Order_c1_O x3 ∧ RoSt h r.2.2 x3 o h.next us ∧ OrdL l o) (.nilsl, [], List.replicate l.length false) rfl ⟨Z0, Pick.zero l, Nat.zero_le _⟩ ?_ ?_
  rotate_left
  · rintro ⟨_, _, g⟩ ⟨x3, o, us, rfl, rfl, Z, hO⟩
    show Ev (S.withyref18_Order_K2 W (.exit 0) _ _) _
    rw [S.withyref18_Order_c1_e0_eq]
    exact Ev.some ⟨o, hO, Z.row, Z.blk, Z.fr⟩
  rintro ⟨x3, o, us⟩ g ⟨Z, P, hol⟩
  dsimp only at Z P hol
  rw [S.withyref18_Order_c1_eq]
  by_cases hlt : o.length < l.length
  rotate_left
  · have hd : decide ((o.length : Int) < (l.length : Int)) = false := decide_eq_false (by omega)
    simp only [S.withyref18_Order_c1_S, hxl, obind, hd]
    exact Ev.some (.inr ⟨by simp, x3, o, us, rfl, rfl, Z, P.ord (by omega)⟩)
  have hd : decide ((o.length : Int) < (l.length : Int)) = true := decide_eq_true (by omega)
  have wk := hr_k (k := o.length) (by omega)
  simp only [S.withyref18_Order_c1_S, hxl, obind, hd]
  refine refOrder_in ok hx hl Z P o.length hlt _ _ ?_
  intro k hk hkn hmin
  show Ev (S.withyref18_Order_K7 W (.exit 2) _ _) _
  rw [S.withyref18_Order_c4_e2_eq]
  have i0 := sl_idx1 (b := h.next) (c := .ex l.length) hk
  have s0 := st1_get Z.use (by simp) (one_bool true) (by rw [bools_len, P.len]; exact hk)
  rw [bools_set] at s0
  obtain ⟨g1, hg1⟩ : ∃ g1, g1 = g.put h.next (some (.cells (bools (us.set k true)) .rw)) := ⟨_, rfl⟩
  rw [← hg1] at s0
  have F1 : Fr [h.next] g g1 := by rw [hg1]; exact (Fr.refl Z.fr.ok).put (.inl (by simp)) (Z.fr.ok.lt Z.use) _
  have hub : h.next ∉ x3.blk := Z.row.ne Z.use (by simp)
  have row1 : Grown g1.get x3 1 (o.map (.int .i64)) := Z.row.fr Z.fr.ok F1 (fun b hb e => hub (by rw [List.mem_singleton] at e; exact e ▸ hb))
  have use1 : g1.get h.next = some (.cells (bools (us.set k true)) .rw) := by rw [hg1]; exact get_put_self _ _ _
  have ok2 : (g1.new (.cells [.int .i64 (k : Int)] .rw)).ok := F1.ok.new _
  have F2 : Fr [] g1 (g1.new (.cells [.int .i64 (k : Int)] .rw)) := (Fr.refl F1.ok).new _
  have row2 := row1.fr F1.ok F2 (by simp)
  obtain ⟨x3', g3, ea, F3, row3, blk3, _⟩ := Grown.push ok2 row2 (nb := g1.next) (new := [.int .i64 (k : Int)]) (k := .rw) (bytes := 8) (get_new_self _ _) rfl rfl (by decide) (by decide) (by rw [List.length_map]; omega)
  simp only [S.withyref18_Order_c4_e2, i0, obind, s0, ea, wk]
  have Fh1 : Fr [] h g1 := Z.fr.trans F1 (fun b hb => by rw [List.mem_singleton] at hb; exact .inr (hb ▸ Z.nub))
  have Fh2 : Fr [] h (g1.new (.cells [.int .i64 (k : Int)] .rw)) := Fh1.trans F2 (by simp)
  have Fh3 : Fr [] h g3 := Fh2.trans F3 (fun b hb => .inr (Z.blk b hb))
  have use2 := F2.get F1.ok use1 (by simp)
  have use3 := F3.get ok2 use2 hub
  refine Ev.some (.inl ⟨(x3', o ++ [(k : Int)], us.set k true), rfl, ?_, ⟨⟨Fh3, ?_, fun b hb => Nat.le_trans Fh2.le (blk3 b hb), use3, Z.nub⟩, P.step hk hkn hmin, by dsimp only; rw [List.length_append, List.length_singleton]; omega⟩, by dsimp only; rw [List.length_append, List.length_singleton]; omega⟩)
  · dsimp only
    rw [List.length_append, List.length_singleton]
  · rw [List.map_append]; exact row3
end Wm
end

section
/- The document's example of a layer, run by the kernel. -/
namespace Wm
set_option maxRecDepth 100000 in
theorem awake18_run : runF prog meth 2000 200 180 [] .empty = some (.bool true, .empty) := by kernel_rfl
theorem awake18 (h : H) : C 180 [] h = some (.bool true, h) := call_closed_run (af := F.withylaw18_awake) (by kernel_rfl) rfl (by rw [← runF_eq]; exact awake18_run) h
end Wm
end

section
/- The law HistOrders, of my machine. -/
namespace Wm
attribute [local congr] bind_congr1
attribute [local irreducible] wr

def shHistOrders : List (Bool × List CSh) := [(false, [.sl 112 [.int .i64, .int .i64, .int .i64, .int .i64, .int .i64, .bool, .int .i64, .int .i64, .int .u64, .int .u64, .int .u64, .int .i64, .int .u64, .bool]])]

theorem lawHistOrders (h : H) (us : List V) (ok : h.ok) (ha : ArgsOk h.get shHistOrders us) : Ev (C 34 us h) fun r => r.1 = .bool true := by
  obtain ⟨_, _, rfl, ⟨_, _, hx, hxc, rfl⟩, rfl⟩ := ha
  cases hx
  rename_i x0
  obtain ⟨l, hx, _, _, _⟩ := rowE_of hxc
  refine call_ev (af := F.withylaw18_HistOrders) (by kernel_rfl) rfl ?_
  rw [S.withylaw18_HistOrders_eq]
  have hxl := hx.len
  by_cases h60 : 60 < l.length
  · have d : decide ((60 : Int) < (l.length : Int)) = true := decide_eq_true (by omega)
    simp only [S.withylaw18_HistOrders, Option.bind_some, W_call, hxl, d, awake18]
    exact Ev.some rfl
  have d : decide ((60 : Int) < (l.length : Int)) = false := decide_eq_false (by omega)
  have hl : l.length ≤ 60 := Nat.le_of_not_lt h60
  obtain ⟨⟨x1, g1⟩, e1, o, ho, row1, _, F1⟩ := order_spec ok hx hl
  obtain ⟨⟨x2, g2⟩, e2, p, hp, row2, _, F2⟩ := refOrder_spec F1.ok (hx.fr ok F1 (by simp)) hl
  dsimp only at row1 row2 F1 F2
  have := ho.unique hp
  subst this
  have row1' := row1.fr F1.ok F2 (by simp)
  have n1 := row1'.len
  have n2 := row2.len1
  rw [List.length_map] at n2
  simp only [S.withylaw18_HistOrders, Option.bind_some, Bool.not_true, decide_true, W_call, hxl, d, e1, e2, n1, n2]
  refine loop_ev (α := Nat) (fun k => S.withylaw18_HistOrders_c1_E x1 x2 (.int .i64 (k : Nat))) (fun k g => k ≤ o.length ∧ g = g2) (fun k _ => o.length - k)
    (fun r => r.1 = .exit 0 ∧ r.2.1 = S.withylaw18_HistOrders_c1_O .dead ∧ r.2.2 = g2) 0 rfl ⟨Nat.zero_le _, rfl⟩ ?_ ?_
  · rintro k g ⟨hk, rfl⟩
    rw [S.withylaw18_HistOrders_c1_eq]
    by_cases hko : k < o.length
    · have dk : decide ((k : Int) < (o.length : Int)) = true := decide_eq_true (by omega)
      have hol : o.length = l.length := ho.all.len
      have wk := hr_k (k := k) (by omega)
      obtain ⟨v, hv⟩ : ∃ v, o[k]? = some v := ⟨_, List.getElem?_eq_getElem hko⟩
      obtain ⟨b1, i1, l1⟩ := row1'.at hv
      obtain ⟨b2, i2, l2⟩ := row2.at1 (i := k) (v := .int .i64 v) (by rw [List.getElem?_map, hv]; rfl) rfl
      simp only [S.withylaw18_HistOrders_c1_S, n1, obind, dk, i1, l1, i2, l2, asI_int, decide_true, Bool.not_true, wk]
      exact Ev.some (.inl ⟨k + 1, rfl, rfl, ⟨hko, rfl⟩, Nat.sub_lt_sub_left hko (Nat.lt_succ_self k)⟩)
    · have dk : decide ((k : Int) < (o.length : Int)) = false := decide_eq_false (by omega)
      simp only [S.withylaw18_HistOrders_c1_S, n1, obind, dk]
      exact Ev.some (.inr ⟨by simp, rfl, rfl, rfl⟩)
  rintro ⟨_, _, g⟩ ⟨rfl, rfl, rfl⟩
  show Ev (S.withylaw18_HistOrders_K2 W (.exit 0) _ _) _
  rw [S.withylaw18_HistOrders_c1_e0_eq]
  simp only [S.withylaw18_HistOrders_c1_e0, Option.bind_some, W_call, awake18]
  exact Ev.some rfl
end Wm
end

