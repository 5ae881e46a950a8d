/- What the functions come to, and the law: of my machine. -/
import Derived.Test.YtjcppjbepndjcaaWmEv
import Derived.Test.YtjcppjbepndjcaaWmHeap
import Derived.Test.YtjcppjbepndjcaaWmProgHistMoves
import Derived.KernelRfl
import Derived.Test.YtjcppjbepndjcaaWmShal
import Derived.Test.YtjcppjbepndjcaaWmCore
import Derived.Test.YtjcppjbepndjcaaWmPOp0
import Derived.Test.YtjcppjbepndjcaaWmOpen
import Derived.Test.YtjcppjbepndjcaaWmFnc
import Derived.Sort.LotA
import Derived.Test.YtjcppjbepndjcaaWmTxtHistMovesA
import Derived.Sort.LotC
import Derived.Sort.Lot0
import Derived.Sort.LotD3
import Derived.Test.YtjcppjbepndjcaaWmFast
import Derived.Test.YtjcppjbepndjcaaWmFnsHistMovesA
import Derived.Sort.LotD1
import Derived.Sort.LotD4
import Derived.Sort.LotB
set_option linter.all false
section
/- Slices that grow, and loops. -/
namespace Wm
theorem mkSl_ok {h : H} {e b : Nat} {z : List V} {l c : Int} (h1 : 0 ≤ l) (h2 : l ≤ c) (h3 : c * b ≤ 140737488355328) (h4 : c ≤ 9223372036854775807) (h5 : z.length = e) (h6 : 0 < e) :
    h.mkSl e b z l c = some (.sl h.next 0 l.toNat (.ex c.toNat), h.new (.cells (repl z c.toNat) .rw)) := by
  subst h5
  simp [H.mkSl, h1, h2, h3, h4, h6]

theorem append_op {h : H} {e b bb o len n : Nat} {x : V} {new old cs : List V} (hx : lenSl x = some n) (hn : h.slc e x = some new) (ho : h.slc e (.sl bb o len (.op e)) = some old) (hg : h.get bb = some (.cells cs (.gr e))) (h1 : new.all V.one = true) (h2 : (len + n + (len + n) / 2 + 1000) * b ≤ 281474976710656) (he : 0 < e) (hb : 0 < b) :
    h.append e b (.sl bb o len (.op e)) x = some (.sl h.next 0 (len + n) (.op e), (h.put bb none).new (.cells (old ++ new) (.gr e))) := by
  have h3 : lenSl (.sl bb o len (.op e)) = some len := rfl
  simp only [H.append, hx, hn, h3, ho, h1, h2, he, hb, decide_true, Bool.and_self, hg, Nat.beq_refl]

theorem append_nil {h : H} {e b n : Nat} {x : V} {new : List V} (hx : lenSl x = some n) (hn : h.slc e x = some new) (h0 : n ≠ 0) (h1 : new.all V.one = true) (h2 : (n + n / 2 + 1000) * b ≤ 281474976710656) (he : 0 < e) (hb : 0 < b) :
    h.append e b .nilsl x = some (.sl h.next 0 n (.op e), h.new (.cells new (.gr e))) := by
  have h3 : lenSl .nilsl = some 0 := rfl
  have h4 : h.slc e .nilsl = some [] := rfl
  have h5 : Nat.beq n 0 = false := by cases n with
    | zero => exact absurd rfl h0
    | succ n => rfl
  simp only [H.append, hx, hn, h3, h4, h1, h2, he, hb, decide_true, Bool.and_self, Nat.zero_add, h5, List.nil_append]

theorem slc_get {h : H} {e bb o len : Nat} {cap : Cap} {cs : List V} {k : Bk} (hg : h.get bb = some (.cells cs k)) (hl : o + len * e ≤ cs.length) : h.slc e (.sl bb o len cap) = some ((cs.drop o).take (len * e)) := by
  simp only [H.slc, ldc_get hg hl]

theorem st1_get {h : H} {b o : Nat} {cs : List V} {k : Bk} {v : V} (hb : h.get b = some (.cells cs k)) (hk : k ≠ .ro) (hv : v.one = true) (hl : o < cs.length) : h.st 1 (.ptr b o) v = some (h.put b (some (.cells (cs.set o v) k))) := by
  have hc : v.cells = [v] := by cases v <;> first | rfl | simp [V.one] at hv
  have hs : splice cs o [v] = cs.set o v := by
    simp only [splice, List.length_singleton]
    rw [List.set_eq_take_append_cons_drop, if_pos hl]
    simp
  have h6 := stc_get hb hk (vs := [v]) (by simp [hv]) (show o + [v].length ≤ cs.length by simp; omega)
  rw [hs] at h6
  simp only [H.st, hc, List.length_singleton, Nat.beq, h6]

theorem loop_ev {α : Type} {call : Nat → List V → H → Option (V × H)} {meth : Nat → Nat → Option Nat} {b : List V → H → Option (AX × List V × H)} {R : Type} {k : AX × List V × H → Option R} {Q : R → Prop} {e : List V} {h : H} (enc : α → List V) (I : α → H → Prop) (μ : α → H → Nat) (P : AX × List V × H → Prop) (a : α) (he : e = enc a) (h0 : I a h)
    (step : ∀ a h, I a h → Ev (b (enc a) h) fun r => (∃ a', r.1 = .normal ∧ r.2.1 = enc a' ∧ I a' r.2.2 ∧ μ a' r.2.2 < μ a h) ∨ (r.1 ≠ .normal ∧ P r)) (out : ∀ r, P r → Ev (k r) Q) : Ev (((envW meth call).loop b e h).bind k) Q := by
  subst he
  exact Ev.bind (loopW_ev enc I μ step a h h0) out

end Wm
end

section
/- Frames: what of a heap stays; known blocks are read and written. -/
namespace Wm

theorem bind_congr1 {α β : Type} {x y : Option α} {f : α → Option β} (h : x = y) : x.bind f = y.bind f := by rw [h]

/-- Blocks of 'h' outside of 'L' are as they were; more may have come. -/
structure Fr (L : List Nat) (h h' : H) : Prop where
  le : h.next ≤ h'.next
  ok : h'.ok
  same : ∀ b, b < h.next → b ∉ L → h'.get b = h.get b

theorem Fr.refl {L : List Nat} {h : H} (ok : h.ok) : Fr L h h := ⟨Nat.le_refl _, ok, fun _ _ _ => rfl⟩
theorem Fr.new {L : List Nat} {h h' : H} (f : Fr L h h') (x : Blk) : Fr L h (h'.new x) :=
  ⟨by have := f.le; simp only [H.next_new]; omega, f.ok.new x, fun b hb hL => by rw [get_new_ne (by have := f.le; omega)]; exact f.same b hb hL⟩
theorem Fr.put {L : List Nat} {h h' : H} (f : Fr L h h') {b : Nat} (hb : b ∈ L ∨ h.next ≤ b) (hl : b < h'.next) (x : Option Blk) : Fr L h (h'.put b x) :=
  ⟨f.le, f.ok.put hl x, fun c hc hL => by
    rw [get_put_ne (by rintro rfl; rcases hb with q | q; exact hL q; omega)]; exact f.same c hc hL⟩
theorem Fr.trans {L L' : List Nat} {h h1 h2 : H} (f : Fr L h h1) (g : Fr L' h1 h2) (hL : ∀ b ∈ L', b ∈ L ∨ h.next ≤ b) : Fr L h h2 :=
  ⟨Nat.le_trans f.le g.le, g.ok, fun b hb hn => by
    rw [g.same b (by have := f.le; omega) (fun q => by rcases hL b q with q | q; exact hn q; omega)]; exact f.same b hb hn⟩
theorem Fr.trans' {L : List Nat} {h h1 h2 : H} (f : Fr L h h1) (g : Fr L h1 h2) : Fr L h h2 := f.trans g fun _ q => .inl q
theorem Fr.get {L : List Nat} {h h' : H} (f : Fr L h h') (ok : h.ok) {b : Nat} {x : Blk} (hb : h.get b = some x) (hL : b ∉ L) : h'.get b = some x := by
  rw [f.same b (ok.lt hb) hL]; exact hb
/-! ### Reads and writes of blocks that are known -/
section
variable {h : H} {n b o : Nat}
theorem ld1_get' : h.ld1 (.ptr b o) = ldB (h.get b) o := H.ld1_eq
theorem ldN_get' : h.ldN (n + 1) (.ptr b o) = ldNB (h.get b) o (n + 1) := H.ldN_eq (Nat.succ_ne_zero n)
theorem st_get' {x : V} : h.st n (.ptr b o) x = match Nat.beq x.cells.length n with
    | true => (stB (h.get b) o x.cells).map fun y => h.put b (some y)
    | false => none := by
  simp only [H.st]
  split
  · rename_i hb; simp only [hb, H.stc_eq]
  · rename_i hb; simp only [hb]
theorem get_put' {x : Option Blk} {c : Nat} : (h.put b x).get c = if c = b then x else h.get c := H.get_put _ _ _ _
theorem get_new' {x : Blk} {c : Nat} : (h.new x).get c = if c = h.next then some x else h.get c := H.get_new _ _ _
theorem put_put' {x y : Option Blk} : (h.put b x).put b y = h.put b y := by
  simp only [H.put, T.put, T.put'_put' _ _ _ _ _ _ (Nat.lt_succ_self _) (Nat.lt_succ_self _)]
end
theorem lenSl_sl (b o n : Nat) (c : Cap) : lenSl (.sl b o n c) = some n := rfl
theorem nilc_ptr (b o : Nat) : nilc (.ptr b o) = some (.ptr b o) := rfl
/-! ### Configs -/
structure Cfg where
  s : Int
  a : Int
  c : Int
  hd : Int
  g : Int
  st : Int
/-! ### Words of a memory -/
structure Touch where
  kind : Int
  at' : Int
  was : Int
  now : Int
structure Mem where
  ws : List Int
  n : Int
  last : Touch

end Wm
end

section
/- A slice that grows among blocks that came: what it holds. -/
namespace Wm

theorem lt_of_get {α : Type} {l : List α} {j : Nat} {x : α} (h : l[j]? = some x) : j < l.length := by
  rcases Nat.lt_or_ge j l.length with q | q
  · exact q
  · rw [List.getElem?_eq_none q] at h; cases h

end Wm
end

section
/- Words of a memory by what they are: all of a config, in their order, and where each stands. -/
namespace Wm

inductive Wd
  | clock | epoch | grays | top
  | pin (k : Nat)
  | entry (k i : Nat)
  | view (k : Nat)
  | start (k : Nat)
  | header (s : Nat)
  | link (s : Nat)
  | body (s i : Nat)
  deriving DecidableEq

def Cfg.S (k : Cfg) : Nat := k.s.toNat
def Cfg.room (k : Cfg) : Nat := (if k.a < 3 then 3 else k.a).toNat
def Cfg.C (k : Cfg) : Nat := k.c.toNat
def Cfg.H (k : Cfg) : Nat := k.hd.toNat
def Wd.ok (k : Cfg) : Wd → Prop
  | .clock | .epoch | .grays | .top => True
  | .pin q | .view q | .start q => q < k.C
  | .entry q i => q < k.C ∧ i < k.H
  | .header s | .link s => s < k.S
  | .body s i => s < k.S ∧ i < k.room
instance (k : Cfg) (l : Wd) : Decidable (l.ok k) := by cases l <;> (unfold Wd.ok; infer_instance)

end Wm
end

section
/- The program's machines as plain functions: headers, shades. -/
namespace Wm

def black (e : Int) : Int := (e / 4 + 1) % 2
end Wm
end

section
/- Headers and their words: what the functions of head come to. -/
namespace Wm
attribute [local congr] bind_congr1

def born (e : Int) : Int := if e % 4 = 0 then 1 - black e else black e
end Wm
end

section
/- All words of a config, and those of a memory in which nothing was done: withyref06.Words, Memory. -/
namespace Wm
attribute [local congr] bind_congr1
attribute [local irreducible] wr

theorem sl_idx {b n i e : Nat} {c : Cap} (hi : i < n) : indexAV e (.sl b 0 n c) (.int .i64 (i : Int)) = some (.ptr b (i * e)) := by
  simp only [indexAV, indexOf, asIAny, show decide ((0 : Int) ≤ (i : Int)) = true from decide_eq_true (by omega), show decide ((i : Int) < (n : Int)) = true from decide_eq_true (by omega), Bool.and_self, Nat.zero_add, Int.toNat_natCast]
theorem sl_idx1 {b n i : Nat} {c : Cap} (hi : i < n) : indexAV 1 (.sl b 0 n c) (.int .i64 (i : Int)) = some (.ptr b i) := by rw [sl_idx hi, Nat.mul_one]

end Wm
end

section
/- A step of a run that the kernel need not look into: joins. -/
namespace Wm
theorem obind {α β : Type} (a : α) (f : α → Option β) : (some a).bind f = f a := by
  cases h : f a with
  | none => rw [Option.bind_some, h]
  | some b => rw [Option.bind_some, h]
theorem one_int (k : Go.IntKind) (n : Int) : V.one (.int k n) = true := rfl
theorem cells_agg (l : List V) : V.cells (.agg l) = l := rfl
end Wm
end

section
/- Sorts of numbers by a function: what stands in the slice, reads, swaps, comparisons. -/
namespace Wm
attribute [local congr] bind_congr1
attribute [local irreducible] wr
open Go.Sort (swp)

def ints (d : Array Int) : List V := d.toList.map (V.int .i64)
theorem ints_length (d : Array Int) : (ints d).length = d.size := by unfold ints; rw [List.length_map]; rfl
theorem ints_get {d : Array Int} {i : Nat} (h : i < d.size) : (ints d)[i]? = some (.int .i64 d[i]!) := by
  unfold ints
  rw [List.getElem?_map, Array.getElem?_toList, Array.getElem?_eq_getElem h, getElem!_pos d i h]; rfl
theorem ints_set' {d : Array Int} {i : Nat} {v : Int} : (ints d).set i (.int .i64 v) = ints (d.setIfInBounds i v) := by
  unfold ints
  rw [Array.toList_setIfInBounds, List.map_set]

/-- The slice that is sorted: block b; all else of h0 is as it was. -/
structure Sw (h0 : H) (b N : Nat) (h : H) (d : Array Int) : Prop where
  fr : Fr [b] h0 h
  at_ : h.get b = some (.cells (ints d) .rw)
  sz : d.size = N
  inr : ∀ i, i < N → 0 ≤ d[i]! ∧ d[i]! < N

/-- What is asked of the comparison. -/
def Cmp (h0 : H) (b N f : Nat) (cs : List V) (lt : Int → Int → Bool) : Prop :=
  ∀ h, Fr [b] h0 h → ∀ i j : Int, 0 ≤ i → i < N → 0 ≤ j → j < N → ∃ n h', C f ([.int .i64 i, .int .i64 j] ++ cs) h = some (.int .i64 n, h') ∧ decide (n < 0) = lt i j ∧ Fr [] h h'

section
variable {h0 h : H} {b N : Nat} {d : Array Int}
theorem Sw.ok (S : Sw h0 b N h d) : h.ok := S.fr.ok
theorem Sw.ld (S : Sw h0 b N h d) {i : Nat} (hi : i < N) : ldB (h.get b) i = some (.int .i64 d[i]!) := by
  rw [S.at_, ldB_cells, ints_get (by rw [S.sz]; exact hi)]; rfl
theorem Sw.fr0 (S : Sw h0 b N h d) {h' : H} (F : Fr [] h h') : Sw h0 b N h' d :=
  ⟨S.fr.trans F (fun _ q => by simp at q), F.get S.ok S.at_ (by simp), S.sz, S.inr⟩
theorem Sw.fr' (S : Sw h0 b N h d) {h' : H} {q : Nat} (F : Fr [q] h h') (hq : h0.next ≤ q) (hn : q ≠ b) : Sw h0 b N h' d :=
  ⟨S.fr.trans F (fun x hx => by rw [List.mem_singleton] at hx; exact .inr (hx ▸ hq)), F.get S.ok S.at_ (by simpa using fun e => hn e.symm), S.sz, S.inr⟩
theorem Sw.cmp (S : Sw h0 b N h d) {f : Nat} {cs : List V} {lt : Int → Int → Bool} (K : Cmp h0 b N f cs lt) {i j : Nat} (hi : i < N) (hj : j < N) :
    ∃ n h', (∀ {R : Type} (k : V × H → Option R), callFn W (.fn f cs) [.int .i64 d[i]!, .int .i64 d[j]!] h k = k (.int .i64 n, h')) ∧ decide (n < 0) = lt d[i]! d[j]! ∧ Sw h0 b N h' d ∧ Fr [] h h' := by
  obtain ⟨n, h', e, hn, F⟩ := K h S.fr d[i]! d[j]! (S.inr i hi).1 (S.inr i hi).2 (S.inr j hj).1 (S.inr j hj).2
  exact ⟨n, h', fun k => callFn_is (M := W) e k, hn, S.fr0 F, F⟩
theorem Sw.swap (S : Sw h0 b N h d) {i j : Nat} (hi : i < N) (hj : j < N) :
    ∃ h1 h2, h.st 1 (.ptr b i) (.int .i64 d[j]!) = some h1 ∧ h1.st 1 (.ptr b j) (.int .i64 d[i]!) = some h2 ∧ Sw h0 b N h2 (swp d i j) ∧ Fr [b] h h2 := by
  have hl : b < h.next := S.ok.lt S.at_
  have e1 := st1_get S.at_ (by simp) (one_int .i64 d[j]!) (by rw [ints_length, S.sz]; exact hi)
  rw [ints_set'] at e1
  have g1 : (h.put b (some (.cells (ints (d.setIfInBounds i d[j]!)) .rw))).get b = some (.cells (ints (d.setIfInBounds i d[j]!)) .rw) := get_put_self _ _ _
  have e2 := st1_get g1 (by simp) (one_int .i64 d[i]!) (by rw [ints_length, Array.size_setIfInBounds, S.sz]; exact hj)
  rw [ints_set', put_put'] at e2
  have F2 : Fr [b] h (h.put b (some (.cells (ints (swp d i j)) .rw))) := (Fr.refl S.ok).put (.inl (by simp)) hl _
  refine ⟨_, _, e1, e2, ⟨S.fr.trans' F2, get_put_self _ _ _, by rw [Go.Sort.swp_size]; exact S.sz, fun k hk => ?_⟩, F2⟩
  by_cases hkj : k = j
  · subst hkj
    rw [Go.Sort.swp_right _ _ _ (by rw [S.sz]; exact hj)]; exact S.inr i hi
  by_cases hki : k = i
  · subst hki
    rw [Go.Sort.swp_left _ _ _ (by rw [S.sz]; exact hi) hkj]; exact S.inr j hj
  · rw [Go.Sort.swp_other _ _ _ _ hki hkj]; exact S.inr k hk
end
end Wm
end

section
/- The insertion sort. -/
namespace Wm
attribute [local congr] bind_congr1
attribute [local irreducible] wr
open Go.Sort (swp insInner insOuter)

section
variable {h0 h : H} {b N f : Nat} {cs : List V} {lt : Int → Int → Bool} {d : Array Int} {c : Cap}

theorem sort_lt {i j : Nat} (h : i < j) : decide ((i : Int) < (j : Int)) = true := decide_eq_true (by omega)
theorem sort_nlt {i j : Nat} (h : ¬ i < j) : decide ((i : Int) < (j : Int)) = false := decide_eq_false (by omega)
theorem sort_pred {i : Nat} (h : i + 1 ≤ 9000) : wr .i64 (((i + 1 : Nat) : Int) - 1) = (i : Int) := by rw [wr64 (by omega) (by omega)]; omega
theorem sort_succ {i : Nat} (h : i ≤ 9000) : wr .i64 ((i : Int) + 1) = ((i + 1 : Nat) : Int) := by rw [wr64 (by omega) (by omega)]; omega

theorem insInner_stop {a j : Nat} {d : Array Int} (h : ¬ a < j) : insInner lt a j d = d := by
  cases j with
  | zero => rfl
  | succ j => rw [insInner, if_neg (by simp [show ¬ j + 1 > a from h])]

theorem insInner_spec (A : Sw h0 b N h d) (K : Cmp h0 b N f cs lt) (hN : N ≤ 1000) {a e i : Nat} (hi : i < N) :
    Ev ((W.loop (S.slices_insertionSortCmpFunc_int__c2_B W) (S.slices_insertionSortCmpFunc_int__c2_E (.sl b 0 N c) (.int .i64 (a : Int)) (.int .i64 (e : Int)) (.fn f cs) (.int .i64 (i : Int)) (.int .i64 (i : Int))) h).bind fun z => S.slices_insertionSortCmpFunc_int__K5 W z.1 z.2.1 z.2.2)
      fun z => z.1 = .normal ∧ z.2.1 = S.slices_insertionSortCmpFunc_int__c0_E (.sl b 0 N c) (.int .i64 (a : Int)) (.int .i64 (e : Int)) (.fn f cs) (.int .i64 ((i + 1 : Nat) : Int)) ∧ Sw h0 b N z.2.2 (insInner lt a i d) := by
  refine loop_ev (α := Nat × Array Int) (fun q => S.slices_insertionSortCmpFunc_int__c2_E (.sl b 0 N c) (.int .i64 (a : Int)) (.int .i64 (e : Int)) (.fn f cs) (.int .i64 (i : Int)) (.int .i64 (q.1 : Int)))
    (fun q h => q.1 < N ∧ Sw h0 b N h q.2 ∧ insInner lt a q.1 q.2 = insInner lt a i d) (fun q _ => q.1)
    (fun z => z.1 = .exit 2 ∧ z.2.1 = S.slices_insertionSortCmpFunc_int__c2_O (.sl b 0 N c) (.int .i64 (a : Int)) (.int .i64 (e : Int)) (.fn f cs) (.int .i64 (i : Int)) ∧ Sw h0 b N z.2.2 (insInner lt a i d)) (i, d) rfl ⟨hi, A, rfl⟩ ?_ ?_
  rotate_left
  · rintro ⟨_, _, g⟩ ⟨rfl, rfl, A⟩
    show Ev (S.slices_insertionSortCmpFunc_int__K5 W (.exit 2) _ _) _
    rw [S.slices_insertionSortCmpFunc_int__c2_e2_eq]
    simp only [S.slices_insertionSortCmpFunc_int__c2_e2, sort_succ (i := i) (by omega)]
    exact Ev.some ⟨rfl, rfl, A⟩
  rintro ⟨j, d1⟩ g ⟨hj, A, hd⟩
  dsimp only at hj A hd
  rw [S.slices_insertionSortCmpFunc_int__c2_eq]
  by_cases haj : a < j
  · obtain ⟨k, rfl⟩ : ∃ k, j = k + 1 := ⟨j - 1, by omega⟩
    have hk : k < N := Nat.lt_of_succ_lt hj
    have c1 := sort_lt haj
    have wp := sort_pred (i := k) (by omega)
    have i1 := sl_idx1 (b := b) (c := c) hj
    have i2 := sl_idx1 (b := b) (c := c) hk
    have l1 := A.ld hj
    have l2 := A.ld hk
    obtain ⟨n, g1, ec, hn, A1, _⟩ := A.cmp K hj hk
    have l3 := A1.ld hj
    have l4 := A1.ld hk
    obtain ⟨g2, g3, s1, s2, A3, _⟩ := A1.swap hj hk
    rw [insInner] at hd
    cases hl : lt d1[k + 1]! d1[k]! with
    | true =>
      rw [if_pos (by rw [hl]; simpa using haj)] at hd
      simp only [S.slices_insertionSortCmpFunc_int__c2_S, c1, wp, i1, i2, obind, ld1_get', l1, l2, ec, asI_int, hn, hl, l3, l4, s1, s2]
      exact Ev.some (.inl ⟨(k, swp d1 (k + 1) k), rfl, rfl, ⟨hk, A3, hd⟩, Nat.lt_succ_self k⟩)
    | false =>
      rw [if_neg (by rw [hl]; simp)] at hd
      simp only [S.slices_insertionSortCmpFunc_int__c2_S, c1, wp, i1, i2, obind, ld1_get', l1, l2, ec, asI_int, hn, hl]
      exact Ev.some (.inr ⟨by simp, rfl, rfl, hd ▸ A1⟩)
  · rw [insInner_stop haj] at hd
    simp only [S.slices_insertionSortCmpFunc_int__c2_S, sort_nlt haj]
    exact Ev.some (.inr ⟨by simp, rfl, rfl, hd ▸ A⟩)

theorem insertion_spec (A : Sw h0 b N h d) (K : Cmp h0 b N f cs lt) (hN : N ≤ 1000) {a e : Nat} (he : e ≤ N) (ha : a ≤ N) :
    Ev (C 450 [.sl b 0 N c, .int .i64 (a : Int), .int .i64 (e : Int), .fn f cs] h) fun z => z.1 = .tup [] ∧ Sw h0 b N z.2 (Go.Sort.insertionSort lt d a e) := by
  refine call_ev (af := F.slices_insertionSortCmpFunc_int_) (by kernel_rfl) rfl ?_
  rw [S.slices_insertionSortCmpFunc_int__eq]
  simp only [S.slices_insertionSortCmpFunc_int_, sort_succ (i := a) (by omega)]
  unfold Go.Sort.insertionSort
  refine loop_ev (α := Nat × Array Int) (fun q => S.slices_insertionSortCmpFunc_int__c0_E (.sl b 0 N c) (.int .i64 (a : Int)) (.int .i64 (e : Int)) (.fn f cs) (.int .i64 (q.1 : Int)))
    (fun q h => Sw h0 b N h q.2 ∧ insOuter lt a e q.1 q.2 = insOuter lt a e (a + 1) d) (fun q _ => e - q.1)
    (fun z => z.1 = .exit 0 ∧ z.2.1 = S.slices_insertionSortCmpFunc_int__c0_O ∧ Sw h0 b N z.2.2 (insOuter lt a e (a + 1) d)) (a + 1, d) rfl ⟨A, rfl⟩ ?_ ?_
  rotate_left
  · rintro ⟨_, _, g⟩ ⟨rfl, rfl, A⟩
    show Ev (S.slices_insertionSortCmpFunc_int__K1 W (.exit 0) _ _) _
    rw [S.slices_insertionSortCmpFunc_int__c0_e0_eq]
    exact Ev.some ⟨rfl, A⟩
  rintro ⟨i, d1⟩ g ⟨A, hd⟩
  dsimp only at A hd
  rw [S.slices_insertionSortCmpFunc_int__c0_eq]
  rw [insOuter] at hd
  by_cases hi : i < e
  · rw [if_pos hi] at hd
    simp only [S.slices_insertionSortCmpFunc_int__c0_S, sort_lt hi]
    refine (insInner_spec A K hN (a := a) (e := e) (Nat.lt_of_lt_of_le hi he)).mono ?_
    rintro ⟨_, _, g1⟩ ⟨rfl, rfl, A1⟩
    exact .inl ⟨(i + 1, insInner lt a i d1), rfl, rfl, ⟨A1, hd⟩, Nat.sub_lt_sub_left hi (Nat.lt_succ_self i)⟩
  · rw [if_neg hi] at hd
    simp only [S.slices_insertionSortCmpFunc_int__c0_S, sort_nlt hi]
    exact Ev.some (.inr ⟨by simp, rfl, rfl, hd ▸ A⟩)
end
end Wm
end

section
/- The heap sort; a range reversed. -/
namespace Wm
attribute [local congr] bind_congr1
attribute [local irreducible] wr
open Go.Sort (swp siftDown heapBuild heapPop reverseLoop)

section
variable {h0 h : H} {b N f : Nat} {cs : List V} {lt : Int → Int → Bool} {d : Array Int} {c : Cap}

theorem sort_le {i j : Nat} (h : i ≤ j) : decide ((i : Int) ≤ (j : Int)) = true := decide_eq_true (by omega)
theorem sort_nle {i j : Nat} (h : ¬ i ≤ j) : decide ((i : Int) ≤ (j : Int)) = false := decide_eq_false (by omega)
theorem sort_add {i j : Nat} (h : i + j ≤ 9000) : wr .i64 ((i : Int) + (j : Int)) = ((i + j : Nat) : Int) := by rw [wr64 (by omega) (by omega)]; omega
theorem sort_sub {i j : Nat} (h : j ≤ i) (hi : i ≤ 9000) : wr .i64 ((i : Int) - (j : Int)) = ((i - j : Nat) : Int) := by rw [wr64 (by omega) (by omega)]; omega
theorem sort_twice {i : Nat} (h : i ≤ 9000) : wr .i64 (2 * (i : Int)) = ((2 * i : Nat) : Int) := by rw [wr64 (by omega) (by omega)]; omega
theorem sort_succ' {i : Nat} (h : i ≤ 9000) : wr .i64 ((i : Int) + 1) = ((i + 1 : Nat) : Int) := by rw [wr64 (by omega) (by omega)]; omega

theorem sift_nums {N hi fi root : Nat} (hN : N ≤ 1000) (hf : fi + hi ≤ N) (hr : root ≤ N) (h1 : ¬ hi ≤ 2 * root + 1) :
    fi + (2 * root + 1) < N ∧ fi + root < N ∧ 2 * root + 1 ≤ N ∧ hi - (2 * root + 1) < hi - root ∧ fi + (2 * root + 1) ≤ 9000 ∧ fi + root ≤ 9000 ∧ fi + (2 * root + 1 + 1) ≤ 9000 ∧ (2 * root + 1 + 1 < hi → fi + (2 * root + 1 + 1) < N) := by omega

theorem sift_spec (A : Sw h0 b N h d) (K : Cmp h0 b N f cs lt) (hN : N ≤ 1000) {hi fi root : Nat} (hf : fi + hi ≤ N) (hr : root ≤ N) :
    Ev (C 487 [.sl b 0 N c, .int .i64 (root : Int), .int .i64 (hi : Int), .int .i64 (fi : Int), .fn f cs] h) fun z => z.1 = .tup [] ∧ Sw h0 b N z.2 (siftDown lt hi fi root d) := by
  refine call_ev (af := F.slices_siftDownCmpFunc_int_) (by kernel_rfl) rfl ?_
  rw [S.slices_siftDownCmpFunc_int__eq]
  simp only [S.slices_siftDownCmpFunc_int_]
  refine loop_ev (α := Nat × Array Int) (fun q => S.slices_siftDownCmpFunc_int__c0_E (.sl b 0 N c) (.int .i64 (hi : Int)) (.int .i64 (fi : Int)) (.fn f cs) (.int .i64 (q.1 : Int)))
    (fun q h => q.1 ≤ N ∧ Sw h0 b N h q.2 ∧ siftDown lt hi fi q.1 q.2 = siftDown lt hi fi root d) (fun q _ => hi - q.1)
    (fun z => (z.1 = .exit 0 ∨ z.1 = .ret) ∧ z.2.1 = S.slices_siftDownCmpFunc_int__c0_O ∧ Sw h0 b N z.2.2 (siftDown lt hi fi root d)) (root, d) rfl ⟨hr, A, rfl⟩ ?_ ?_
  rotate_left
  · rintro ⟨_, _, g⟩ ⟨rfl | rfl, rfl, A⟩
    · show Ev (S.slices_siftDownCmpFunc_int__K1 W (.exit 0) _ _) _
      rw [S.slices_siftDownCmpFunc_int__c0_e0_eq]
      exact Ev.some ⟨rfl, A⟩
    · show Ev (S.slices_siftDownCmpFunc_int__K1 W .ret _ _) _
      rw [S.slices_siftDownCmpFunc_int__c0_r_eq]
      exact Ev.some ⟨rfl, A⟩
  clear hr A
  generalize siftDown lt hi fi root d = D
  clear root
  rintro ⟨root, d1⟩ g ⟨hr, A, hd⟩
  dsimp only at hr A hd
  rw [S.slices_siftDownCmpFunc_int__c0_eq]
  rw [siftDown, show fi + (2 * root + 1) + 1 = fi + (2 * root + 1 + 1) from rfl, show 2 * root + 2 = 2 * root + 1 + 1 from rfl] at hd
  have rN : 2 * root + 2 ≤ 9000 := by omega
  obtain ⟨hI, hhi⟩ : ∃ x : Int, x = (hi : Int) := ⟨_, rfl⟩
  obtain ⟨fI, hfi⟩ : ∃ x : Int, x = (fi : Int) := ⟨_, rfl⟩
  obtain ⟨rI, hri⟩ : ∃ x : Int, x = (root : Int) := ⟨_, rfl⟩
  rw [← hhi, ← hfi, ← hri]
  have w2 : wr .i64 (2 * rI) = ((2 * root : Nat) : Int) := hri ▸ sort_twice (i := root) (Nat.le_trans hr (Nat.le_trans hN (by decide)))
  have w3 := sort_succ' (i := 2 * root) (Nat.le_trans (by simp) rN)
  by_cases h1 : hi ≤ 2 * root + 1
  · rw [dif_pos h1] at hd
    have k1 : decide (hI ≤ ((2 * root + 1 : Nat) : Int)) = true := hhi ▸ sort_le h1
    simp only [S.slices_siftDownCmpFunc_int__c0_S, w2, w3, k1]
    subst hhi hfi hri
    exact Ev.some (.inr ⟨by simp, .inl rfl, rfl, hd ▸ A⟩)
  obtain ⟨b1, b2, m1, m2, f1, f2, f3, f4⟩ := sift_nums hN hf hr h1
  have w4 := sort_succ' (i := 2 * root + 1) (Nat.le_trans (by simp) rN)
  have w5 : wr .i64 (fI + ((2 * root + 1 : Nat) : Int)) = ((fi + (2 * root + 1) : Nat) : Int) := hfi ▸ sort_add (i := fi) (j := 2 * root + 1) f1
  have w6 : wr .i64 (((fi + (2 * root + 1) : Nat) : Int) + 1) = ((fi + (2 * root + 1 + 1) : Nat) : Int) := sort_succ' (i := fi + (2 * root + 1)) f1
  have w7 : wr .i64 (fI + rI) = ((fi + root : Nat) : Int) := hfi ▸ hri ▸ sort_add (i := fi) (j := root) f2
  have w8 : wr .i64 (fI + ((2 * root + 1 + 1 : Nat) : Int)) = ((fi + (2 * root + 1 + 1) : Nat) : Int) := hfi ▸ sort_add (i := fi) (j := 2 * root + 1 + 1) f3
  have i1 := sl_idx1 (b := b) (c := c) b1
  have i2 := sl_idx1 (b := b) (c := c) b2
  rw [dif_neg h1] at hd
  have k1 : decide (hI ≤ ((2 * root + 1 : Nat) : Int)) = false := hhi ▸ sort_nle h1
  -- the left child
  have left : ∀ (g1 : H), Sw h0 b N g1 d1 → (if (!lt d1[fi + root]! d1[fi + (2 * root + 1)]!) = true then d1 else siftDown lt hi fi (2 * root + 1) (swp d1 (fi + root) (fi + (2 * root + 1)))) = D →
      ∃ n g2, (∀ {R : Type} (k : V × H → Option R), callFn W (.fn f cs) [.int .i64 d1[fi + root]!, .int .i64 d1[fi + (2 * root + 1)]!] g1 k = k (.int .i64 n, g2)) ∧ Sw h0 b N g2 d1 ∧ ((decide (n < 0) = false ∧ d1 = D) ∨ (decide (n < 0) = true ∧ ∃ g3 g4, g2.st 1 (.ptr b (fi + root)) (.int .i64 d1[fi + (2 * root + 1)]!) = some g3 ∧ g3.st 1 (.ptr b (fi + (2 * root + 1))) (.int .i64 d1[fi + root]!) = some g4 ∧ Sw h0 b N g4 (swp d1 (fi + root) (fi + (2 * root + 1))) ∧ siftDown lt hi fi (2 * root + 1) (swp d1 (fi + root) (fi + (2 * root + 1))) = D)) := by
    intro g1 A1 hd
    obtain ⟨n, g2, ec, hn, A2, _⟩ := A1.cmp K b2 b1
    refine ⟨n, g2, ec, A2, ?_⟩
    cases hl : lt d1[fi + root]! d1[fi + (2 * root + 1)]! with
    | false => rw [hl] at hn hd; exact .inl ⟨hn, by simpa using hd⟩
    | true =>
      rw [hl] at hn hd
      obtain ⟨g3, g4, s1, s2, A4, _⟩ := A2.swap b2 b1
      exact .inr ⟨hn, g3, g4, s1, s2, A4, by simpa using hd⟩
  have l1 := A.ld b1
  have l2 := A.ld b2
  by_cases h2 : 2 * root + 1 + 1 < hi
  · have k2 : decide (((2 * root + 1 + 1 : Nat) : Int) < hI) = true := hhi ▸ sort_lt h2
    have b3 : fi + (2 * root + 1 + 1) < N := f4 h2
    have i3 := sl_idx1 (b := b) (c := c) b3
    have l3 := A.ld b3
    obtain ⟨n, g1, ec, hn, A1, _⟩ := A.cmp K b1 b3
    have l4 := A1.ld b1
    have l5 := A1.ld b2
    have l6 := A1.ld b3
    cases hl : lt d1[fi + (2 * root + 1)]! d1[fi + (2 * root + 1 + 1)]! with
    | true =>
      rw [if_pos (by rw [hl]; simpa using h2)] at hd
      obtain ⟨n2, g2, ec2, hn2, A2, _⟩ := A1.cmp K b2 b3
      have l7 := A2.ld b2
      have l8 := A2.ld b3
      cases hl2 : lt d1[fi + root]! d1[fi + (2 * root + 1 + 1)]! with
      | false =>
        rw [if_pos (by rw [hl2]; rfl)] at hd
        simp only [S.slices_siftDownCmpFunc_int__c0_S, w2, w3, w4, w5, w6, w7, w8, k1, k2, i1, i2, i3, obind, ld1_get', l1, l3, ec, asI_int, hn, hl, l5, l6, ec2, hn2, hl2, Bool.not_false]
        subst hhi hfi hri
        exact Ev.some (.inr ⟨by simp, .inr rfl, rfl, hd ▸ A2⟩)
      | true =>
        rw [if_neg (by rw [hl2]; simp), dif_pos h2] at hd
        obtain ⟨g3, g4, s1, s2, A4, _⟩ := A2.swap b2 b3
        simp only [S.slices_siftDownCmpFunc_int__c0_S, w2, w3, w4, w5, w6, w7, w8, k1, k2, i1, i2, i3, obind, ld1_get', l1, l3, ec, asI_int, hn, hl, l5, l6, ec2, hn2, hl2, Bool.not_true, l7, l8, s1, s2]
        subst hhi hfi hri
        exact Ev.some (.inl ⟨(2 * root + 1 + 1, _), rfl, rfl, ⟨Nat.le_trans (Nat.le_of_lt h2) (Nat.le_trans (Nat.le_add_left _ _) hf), A4, hd⟩, Nat.lt_of_le_of_lt (Nat.sub_le_sub_left (Nat.le_succ _) _) m2⟩)
    | false =>
      rw [if_neg (by rw [hl]; simp)] at hd
      obtain ⟨n2, g2, ec2, A2, q⟩ := left g1 A1 hd
      rcases q with ⟨hn2, hD⟩ | ⟨hn2, g3, g4, s1, s2, A4, hD⟩
      · simp only [S.slices_siftDownCmpFunc_int__c0_S, w2, w3, w4, w5, w6, w7, w8, k1, k2, i1, i2, i3, obind, ld1_get', l1, l3, ec, asI_int, hn, hl, l4, l5, ec2, hn2, Bool.not_false]
        subst hhi hfi hri
        exact Ev.some (.inr ⟨by simp, .inr rfl, rfl, hD ▸ A2⟩)
      · have l7 := A2.ld b2
        have l8 := A2.ld b1
        simp only [S.slices_siftDownCmpFunc_int__c0_S, w2, w3, w4, w5, w6, w7, w8, k1, k2, i1, i2, i3, obind, ld1_get', l1, l3, ec, asI_int, hn, hl, l4, l5, ec2, hn2, Bool.not_true, l7, l8, s1, s2]
        subst hhi hfi hri
        exact Ev.some (.inl ⟨(2 * root + 1, _), rfl, rfl, ⟨m1, A4, hD⟩, m2⟩)
  · have k2 : decide (((2 * root + 1 + 1 : Nat) : Int) < hI) = false := hhi ▸ sort_nlt h2
    rw [if_neg (by simp [h2])] at hd
    obtain ⟨n2, g2, ec2, A2, q⟩ := left g A hd
    rcases q with ⟨hn2, hD⟩ | ⟨hn2, g3, g4, s1, s2, A4, hD⟩
    · simp only [S.slices_siftDownCmpFunc_int__c0_S, w2, w3, w4, w5, w7, k1, k2, i1, i2, obind, ld1_get', l1, l2, asI_int, ec2, hn2, Bool.not_false]
      subst hhi hfi hri
      exact Ev.some (.inr ⟨by simp, .inr rfl, rfl, hD ▸ A2⟩)
    · have l7 := A2.ld b2
      have l8 := A2.ld b1
      simp only [S.slices_siftDownCmpFunc_int__c0_S, w2, w3, w4, w5, w7, k1, k2, i1, i2, obind, ld1_get', l1, l2, asI_int, ec2, hn2, Bool.not_true, l7, l8, s1, s2]
      subst hhi hfi hri
      exact Ev.some (.inl ⟨(2 * root + 1, _), rfl, rfl, ⟨m1, A4, hD⟩, m2⟩)

theorem down0 {k : Nat} : decide ((0 : Int) ≤ ((k + 1 : Nat) : Int) - 1) = true ∧ ((k + 1 : Nat) : Int) - 1 = (k : Int) := ⟨decide_eq_true (by omega), by omega⟩
theorem down_wr {k : Nat} (h : k ≤ 9000) : wr .i64 ((k : Int) - 1) = (k : Int) - 1 := wr64 (by omega) (by omega)
theorem heap_half {n : Nat} (h : n ≤ 9000) : wr .i64 (Int.tdiv (wr .i64 ((n : Int) - 1)) 2) = (((n - 1) / 2 + 1 : Nat) : Int) - 1 := by
  have e : wr .i64 ((n : Int) - 1) = (n : Int) - 1 := down_wr h
  rw [e]
  cases n with
  | zero => rw [wr64 (by decide) (by decide)]; decide
  | succ n =>
    have e1 : ((n + 1 : Nat) : Int) - 1 = (n : Int) := by omega
    have e2 : Int.tdiv (n : Int) 2 = ((n / 2 : Nat) : Int) := rfl
    rw [e1, e2, wr64 (by omega) (by omega), Nat.add_sub_cancel]
    omega

theorem heapPop_spec (A : Sw h0 b N h d) (K : Cmp h0 b N f cs lt) (hN : N ≤ 1000) {fi n : Nat} (hn : fi + n ≤ N) :
    Ev ((W.loop (S.slices_heapSortCmpFunc_int__c2_B W) (S.slices_heapSortCmpFunc_int__c2_E (.sl b 0 N c) (.fn f cs) (.int .i64 (fi : Int)) (.int .i64 0) (.int .i64 ((n : Int) - 1))) h).bind fun z => S.slices_heapSortCmpFunc_int__K3 W z.1 z.2.1 z.2.2)
      fun z => z.1 = .tup [] ∧ Sw h0 b N z.2 (heapPop lt fi n d) := by
  refine loop_ev (α := Nat × Array Int) (fun q => S.slices_heapSortCmpFunc_int__c2_E (.sl b 0 N c) (.fn f cs) (.int .i64 (fi : Int)) (.int .i64 0) (.int .i64 ((q.1 : Int) - 1)))
    (fun q h => fi + q.1 ≤ N ∧ Sw h0 b N h q.2 ∧ heapPop lt fi q.1 q.2 = heapPop lt fi n d) (fun q _ => q.1)
    (fun z => z.1 = .exit 2 ∧ z.2.1 = S.slices_heapSortCmpFunc_int__c2_O ∧ Sw h0 b N z.2.2 (heapPop lt fi n d)) (n, d) rfl ⟨hn, A, rfl⟩ ?_ ?_
  rotate_left
  · rintro ⟨_, _, g⟩ ⟨rfl, rfl, A⟩
    show Ev (S.slices_heapSortCmpFunc_int__K3 W (.exit 2) _ _) _
    rw [S.slices_heapSortCmpFunc_int__c2_e2_eq]
    exact Ev.some ⟨rfl, A⟩
  rintro ⟨k, d1⟩ g ⟨hk, A, hd⟩
  dsimp only at hk A hd
  rw [S.slices_heapSortCmpFunc_int__c2_eq]
  cases k with
  | zero =>
    have k1 : decide ((0 : Int) ≤ ((0 : Nat) : Int) - 1) = false := by decide
    simp only [S.slices_heapSortCmpFunc_int__c2_S, k1]
    exact Ev.some (.inr ⟨by simp, rfl, rfl, hd ▸ A⟩)
  | succ k =>
    have b1 : fi + k < N := hk
    have b2 : fi < N := Nat.lt_of_le_of_lt (Nat.le_add_right _ _) b1
    have l9 : fi + k ≤ 9000 := Nat.le_trans (Nat.le_of_lt b1) (Nat.le_trans hN (by decide))
    have i1 := sl_idx1 (b := b) (c := c) b1
    have i2 := sl_idx1 (b := b) (c := c) b2
    have l1 := A.ld b1
    have l2 := A.ld b2
    obtain ⟨g1, g2, s1, s2, A2, _⟩ := A.swap b2 b1
    obtain ⟨⟨v3, g3⟩, e3, rfl, A3⟩ := sift_spec (c := c) A2 K hN (hi := k) (fi := fi) (root := 0) (Nat.le_of_lt b1) (Nat.zero_le _)
    dsimp only at A3
    have e3' : C 487 [.sl b 0 N c, .int .i64 0, .int .i64 (k : Int), .int .i64 (fi : Int), .fn f cs] g2 = some (.tup [], g3) := e3
    rw [down0.2]
    have k1 : decide ((0 : Int) ≤ (k : Int)) = true := decide_eq_true (Int.natCast_nonneg k)
    have w1 := sort_add (i := fi) (j := k) l9
    have w2 := down_wr (k := k) (Nat.le_trans (Nat.le_add_left _ _) l9)
    obtain ⟨kI, hki⟩ : ∃ x : Int, x = (k : Int) := ⟨_, rfl⟩
    obtain ⟨fI, hfi⟩ : ∃ x : Int, x = (fi : Int) := ⟨_, rfl⟩
    rw [← hki] at k1 w1 w2 e3' ⊢
    rw [← hfi] at w1 i2 e3' ⊢
    simp only [S.slices_heapSortCmpFunc_int__c2_S, k1, w1, w2, i1, i2, obind, ld1_get', l1, l2, s1, s2, W_call, e3']
    subst hki hfi
    exact Ev.some (.inl ⟨(k, _), rfl, rfl, ⟨Nat.le_of_lt b1, A3, hd⟩, Nat.lt_succ_self k⟩)

theorem heap_spec (A : Sw h0 b N h d) (K : Cmp h0 b N f cs lt) (hN : N ≤ 1000) {a e : Nat} (hae : a ≤ e) (he : e ≤ N) :
    Ev (C 451 [.sl b 0 N c, .int .i64 (a : Int), .int .i64 (e : Int), .fn f cs] h) fun z => z.1 = .tup [] ∧ Sw h0 b N z.2 (Go.Sort.heapSort lt d a e) := by
  refine call_ev (af := F.slices_heapSortCmpFunc_int_) (by kernel_rfl) rfl ?_
  rw [S.slices_heapSortCmpFunc_int__eq]
  have he9 : e ≤ 9000 := Nat.le_trans he (Nat.le_trans hN (by decide))
  have hn9 : e - a ≤ 9000 := Nat.le_trans (Nat.sub_le _ _) he9
  have w1 := sort_sub hae he9
  have w2 := heap_half hn9
  unfold Go.Sort.heapSort
  have hn : a + (e - a) ≤ N := by rw [Nat.add_sub_cancel' hae]; exact he
  generalize e - a = n at w1 w2 hn9 hn ⊢
  simp only [S.slices_heapSortCmpFunc_int_, w1, w2]
  clear w1 w2
  have hm : (n - 1) / 2 + 1 ≤ N + 1 := by omega
  generalize (n - 1) / 2 + 1 = m at hm ⊢
  refine loop_ev (α := Nat × Array Int) (fun q => S.slices_heapSortCmpFunc_int__c1_E (.sl b 0 N c) (.fn f cs) (.int .i64 (a : Int)) (.int .i64 0) (.int .i64 (n : Int)) (.int .i64 ((q.1 : Int) - 1)))
    (fun q h => q.1 ≤ N + 1 ∧ Sw h0 b N h q.2 ∧ heapBuild lt n a q.1 q.2 = heapBuild lt n a m d) (fun q _ => q.1)
    (fun z => z.1 = .exit 0 ∧ z.2.1 = S.slices_heapSortCmpFunc_int__c1_O (.sl b 0 N c) (.fn f cs) (.int .i64 (a : Int)) (.int .i64 0) (.int .i64 (n : Int)) ∧ Sw h0 b N z.2.2 (heapBuild lt n a m d)) (m, d) rfl ⟨hm, A, rfl⟩ ?_ ?_
  rotate_left
  · rintro ⟨_, _, g⟩ ⟨rfl, rfl, A⟩
    show Ev (S.slices_heapSortCmpFunc_int__K2 W (.exit 0) _ _) _
    rw [S.slices_heapSortCmpFunc_int__c1_e0_eq]
    have w3 := down_wr hn9
    simp only [S.slices_heapSortCmpFunc_int__c1_e0, w3]
    exact heapPop_spec A K hN hn
  rintro ⟨k, d1⟩ g ⟨hk, A, hd⟩
  dsimp only at hk A hd
  rw [S.slices_heapSortCmpFunc_int__c1_eq]
  cases k with
  | zero =>
    have k1 : decide ((0 : Int) ≤ ((0 : Nat) : Int) - 1) = false := by decide
    simp only [S.slices_heapSortCmpFunc_int__c1_S, k1]
    exact Ev.some (.inr ⟨by simp, rfl, rfl, hd ▸ A⟩)
  | succ k =>
    have hkN : k ≤ N := Nat.le_of_succ_le_succ hk
    obtain ⟨⟨v3, g3⟩, e3, rfl, A3⟩ := sift_spec (c := c) A K hN (hi := n) (fi := a) (root := k) hn hkN
    dsimp only at A3
    rw [down0.2]
    have k1 : decide ((0 : Int) ≤ (k : Int)) = true := decide_eq_true (Int.natCast_nonneg k)
    have w2 := down_wr (k := k) (Nat.le_trans hkN (Nat.le_trans hN (by decide)))
    simp only [S.slices_heapSortCmpFunc_int__c1_S, k1, w2, obind, W_call, e3]
    exact Ev.some (.inl ⟨(k, _), rfl, rfl, ⟨Nat.le_succ_of_le hkN, A3, hd⟩, Nat.lt_succ_self k⟩)
end
end Wm
end

section
/- partitionEqual. -/
namespace Wm
attribute [local congr] bind_congr1
attribute [local irreducible] wr
open Go.Sort (swp scanUp scanDown partEqLoop)

section
variable {h0 h : H} {b N f : Nat} {cs : List V} {lt : Int → Int → Bool} {d : Array Int} {c : Cap}

theorem scanUp_if (p : Int → Bool) (d : Array Int) (j i : Nat) : scanUp p d j i = if i ≤ j ∧ p d[i]! = true then scanUp p d j (i + 1) else i := by
  rw [scanUp]
  by_cases h : i ≤ j ∧ p d[i]! = true
  · rw [if_pos h, if_pos (by simp [h.1, h.2])]
  · rw [if_neg h, if_neg (by simpa using h)]
theorem scanDown_if (p : Int → Bool) (d : Array Int) {i : Nat} (h1 : 1 ≤ i) : ∀ j, scanDown p d i j = if i ≤ j ∧ p d[j]! = true then scanDown p d i (j - 1) else j
  | 0 => by rw [if_neg (fun q => absurd (Nat.le_trans h1 q.1) (by decide))]; rfl
  | j + 1 => by
    rw [scanDown, Nat.add_sub_cancel]
    by_cases h : i ≤ j + 1 ∧ p d[j + 1]! = true
    · rw [if_pos h, if_pos (by simp [h.1, h.2])]
    · rw [if_neg h, if_neg (by simpa using h)]

/-- What a round of the outer loop comes to. -/
def PePost (h0 : H) (b N : Nat) (c : Cap) (f : Nat) (cs : List V) (a i2 j2 : Nat) (d : Array Int) (z : AX × List V × H) : Prop :=
  if i2 > j2 then z.1 = .exit 0 ∧ z.2.1 = S.slices_partitionEqualCmpFunc_int__c1_O (.int .i64 (i2 : Int)) ∧ Sw h0 b N z.2.2 d
  else z.1 = .normal ∧ z.2.1 = S.slices_partitionEqualCmpFunc_int__c1_E (.sl b 0 N c) (.int .i64 (a : Int)) (.fn f cs) (.int .i64 ((i2 + 1 : Nat) : Int)) (.int .i64 ((j2 - 1 : Nat) : Int)) ∧ Sw h0 b N z.2.2 (swp d i2 j2)

theorem peDown_spec (A : Sw h0 b N h d) (K : Cmp h0 b N f cs lt) (hN : N ≤ 1000) {a i j : Nat} (ha : a < N) (hi1 : 1 ≤ i) (hi : i ≤ N) (hj : j < N) :
    Ev ((W.loop (S.slices_partitionEqualCmpFunc_int__c5_B W) (S.slices_partitionEqualCmpFunc_int__c5_E (.sl b 0 N c) (.int .i64 (a : Int)) (.fn f cs) (.int .i64 (i : Int)) (.int .i64 (j : Int))) h).bind fun z => S.slices_partitionEqualCmpFunc_int__K8 W z.1 z.2.1 z.2.2)
      (PePost h0 b N c f cs a i (scanDown (fun x => lt d[a]! x) d i j) d) := by
  refine loop_ev (α := Nat) (fun q => S.slices_partitionEqualCmpFunc_int__c5_E (.sl b 0 N c) (.int .i64 (a : Int)) (.fn f cs) (.int .i64 (i : Int)) (.int .i64 (q : Int)))
    (fun q h => q < N ∧ Sw h0 b N h d ∧ scanDown (fun x => lt d[a]! x) d i q = scanDown (fun x => lt d[a]! x) d i j) (fun q _ => q)
    (fun z => ∃ q, q < N ∧ z.1 = .exit 4 ∧ z.2.1 = S.slices_partitionEqualCmpFunc_int__c5_O (.sl b 0 N c) (.int .i64 (a : Int)) (.fn f cs) (.int .i64 (i : Int)) (.int .i64 (q : Int)) ∧ Sw h0 b N z.2.2 d ∧ q = scanDown (fun x => lt d[a]! x) d i j) j rfl ⟨hj, A, rfl⟩ ?_ ?_
  rotate_left
  · rintro ⟨_, _, g⟩ ⟨q, hq, rfl, rfl, A, hqe⟩
    rw [← hqe]
    clear hqe
    dsimp only at A ⊢
    show Ev (S.slices_partitionEqualCmpFunc_int__K8 W (.exit 4) _ _) _
    rw [S.slices_partitionEqualCmpFunc_int__c5_e4_eq]
    unfold PePost
    by_cases hqi : q < i
    · simp only [S.slices_partitionEqualCmpFunc_int__c5_e4, sort_lt hqi, if_pos (show i > q from hqi)]
      exact Ev.some ⟨rfl, rfl, A⟩
    · simp only [if_neg (show ¬ i > q from hqi)]
      have hiN : i < N := Nat.lt_of_le_of_lt (Nat.not_lt.mp hqi) hq
      have n9 : N ≤ 9000 := Nat.le_trans hN (by decide)
      obtain ⟨m, rfl⟩ : ∃ m, q = m + 1 := ⟨q - 1, by omega⟩
      have k1 := sort_nlt hqi
      have w1 := sort_succ (i := i) (Nat.le_trans hi n9)
      have w2 := sort_pred (i := m) (Nat.le_trans (Nat.le_of_lt hq) n9)
      have i1 := sl_idx1 (b := b) (c := c) hiN
      have i2 := sl_idx1 (b := b) (c := c) hq
      have l1 := A.ld hiN
      have l2 := A.ld hq
      obtain ⟨g1, g2, s1, s2, A2, _⟩ := A.swap hiN hq
      simp only [S.slices_partitionEqualCmpFunc_int__c5_e4, k1, w1, w2, i1, i2, obind, ld1_get', l1, l2, s1, s2]
      exact Ev.some ⟨rfl, rfl, A2⟩
  rintro q g ⟨hq, A, hd⟩
  rw [S.slices_partitionEqualCmpFunc_int__c5_eq]
  rw [scanDown_if _ _ hi1] at hd
  by_cases hiq : i ≤ q
  · have i1 := sl_idx1 (b := b) (c := c) ha
    have i2 := sl_idx1 (b := b) (c := c) hq
    have l1 := A.ld ha
    have l2 := A.ld hq
    have k1 := sort_le hiq
    obtain ⟨n, g1, ec, hn, A1, _⟩ := A.cmp K ha hq
    obtain ⟨m, rfl⟩ : ∃ m, q = m + 1 := ⟨q - 1, by omega⟩
    have w2 := sort_pred (i := m) (Nat.le_trans (Nat.le_of_lt hq) (Nat.le_trans hN (by decide)))
    cases hl : lt d[a]! d[m + 1]! with
    | true =>
      rw [if_pos ⟨hiq, hl⟩, Nat.add_sub_cancel] at hd
      simp only [S.slices_partitionEqualCmpFunc_int__c5_S, k1, i1, i2, obind, ld1_get', l1, l2, ec, asI_int, hn, hl, w2]
      exact Ev.some (.inl ⟨m, rfl, rfl, ⟨Nat.lt_of_succ_lt hq, A1, hd⟩, Nat.lt_succ_self m⟩)
    | false =>
      rw [if_neg (fun z => by rw [hl] at z; cases z.2)] at hd
      simp only [S.slices_partitionEqualCmpFunc_int__c5_S, k1, i1, i2, obind, ld1_get', l1, l2, ec, asI_int, hn, hl]
      exact Ev.some (.inr ⟨by simp, m + 1, hq, rfl, rfl, A1, hd⟩)
  · rw [if_neg (fun z => hiq z.1)] at hd
    simp only [S.slices_partitionEqualCmpFunc_int__c5_S, sort_nle hiq]
    exact Ev.some (.inr ⟨by simp, q, hq, rfl, rfl, A, hd⟩)

theorem peUp_spec (A : Sw h0 b N h d) (K : Cmp h0 b N f cs lt) (hN : N ≤ 1000) {a i j : Nat} (ha : a < N) (hi1 : 1 ≤ i) (hi : i ≤ N) (hj : j < N) :
    Ev ((W.loop (S.slices_partitionEqualCmpFunc_int__c3_B W) (S.slices_partitionEqualCmpFunc_int__c3_E (.sl b 0 N c) (.int .i64 (a : Int)) (.fn f cs) (.int .i64 (i : Int)) (.int .i64 (j : Int))) h).bind fun z => S.slices_partitionEqualCmpFunc_int__K6 W z.1 z.2.1 z.2.2)
      (PePost h0 b N c f cs a (scanUp (fun x => !lt d[a]! x) d j i) (scanDown (fun x => lt d[a]! x) d (scanUp (fun x => !lt d[a]! x) d j i) j) d) := by
  refine loop_ev (α := Nat) (fun q => S.slices_partitionEqualCmpFunc_int__c3_E (.sl b 0 N c) (.int .i64 (a : Int)) (.fn f cs) (.int .i64 (q : Int)) (.int .i64 (j : Int)))
    (fun q h => (1 ≤ q ∧ q ≤ N) ∧ Sw h0 b N h d ∧ scanUp (fun x => !lt d[a]! x) d j q = scanUp (fun x => !lt d[a]! x) d j i) (fun q _ => N - q)
    (fun z => ∃ q, (1 ≤ q ∧ q ≤ N) ∧ z.1 = .exit 2 ∧ z.2.1 = S.slices_partitionEqualCmpFunc_int__c3_O (.sl b 0 N c) (.int .i64 (a : Int)) (.fn f cs) (.int .i64 (q : Int)) (.int .i64 (j : Int)) ∧ Sw h0 b N z.2.2 d ∧ q = scanUp (fun x => !lt d[a]! x) d j i) i rfl ⟨⟨hi1, hi⟩, A, rfl⟩ ?_ ?_
  rotate_left
  · rintro ⟨_, _, g⟩ ⟨q, ⟨hq1, hq⟩, rfl, rfl, A, hqe⟩
    rw [← hqe]
    clear hqe
    dsimp only at A ⊢
    show Ev (S.slices_partitionEqualCmpFunc_int__K6 W (.exit 2) _ _) _
    rw [S.slices_partitionEqualCmpFunc_int__c3_e2_eq]
    simp only [S.slices_partitionEqualCmpFunc_int__c3_e2]
    exact peDown_spec A K hN ha hq1 hq hj
  rintro q g ⟨⟨hq1, hq⟩, A, hd⟩
  rw [S.slices_partitionEqualCmpFunc_int__c3_eq]
  rw [scanUp_if] at hd
  by_cases hqj : q ≤ j
  · have hqN : q < N := Nat.lt_of_le_of_lt hqj hj
    have i1 := sl_idx1 (b := b) (c := c) ha
    have i2 := sl_idx1 (b := b) (c := c) hqN
    have l1 := A.ld ha
    have l2 := A.ld hqN
    have k1 := sort_le hqj
    obtain ⟨n, g1, ec, hn, A1, _⟩ := A.cmp K ha hqN
    have w2 := sort_succ (i := q) (Nat.le_trans hq (Nat.le_trans hN (by decide)))
    cases hl : lt d[a]! d[q]! with
    | false =>
      rw [if_pos ⟨hqj, by rw [hl]; rfl⟩] at hd
      simp only [S.slices_partitionEqualCmpFunc_int__c3_S, k1, i1, i2, obind, ld1_get', l1, l2, ec, asI_int, hn, hl, w2, Bool.not_false]
      exact Ev.some (.inl ⟨q + 1, rfl, rfl, ⟨⟨Nat.le_succ_of_le hq1, hqN⟩, A1, hd⟩, Nat.sub_lt_sub_left hqN (Nat.lt_succ_self q)⟩)
    | true =>
      rw [if_neg (fun z => by rw [hl] at z; cases z.2)] at hd
      simp only [S.slices_partitionEqualCmpFunc_int__c3_S, k1, i1, i2, obind, ld1_get', l1, l2, ec, asI_int, hn, hl, Bool.not_true]
      exact Ev.some (.inr ⟨by simp, q, ⟨hq1, hq⟩, rfl, rfl, A1, hd⟩)
  · rw [if_neg (fun z => hqj z.1)] at hd
    simp only [S.slices_partitionEqualCmpFunc_int__c3_S, sort_nle hqj]
    exact Ev.some (.inr ⟨by simp, q, ⟨hq1, hq⟩, rfl, rfl, A, hd⟩)

theorem partitionEqual_spec (A : Sw h0 b N h d) (K : Cmp h0 b N f cs lt) (hN : N ≤ 1000) {a e pv : Nat} (hae : a < e) (he : e ≤ N) (hp : pv < N) :
    Ev (C 456 [.sl b 0 N c, .int .i64 (a : Int), .int .i64 (e : Int), .int .i64 (pv : Int), .fn f cs] h) fun z => z.1 = .int .i64 ((Go.Sort.partitionEqual lt d a e pv).1 : Int) ∧ Sw h0 b N z.2 (Go.Sort.partitionEqual lt d a e pv).2 := by
  refine call_ev (af := F.slices_partitionEqualCmpFunc_int_) (by kernel_rfl) rfl ?_
  rw [S.slices_partitionEqualCmpFunc_int__eq]
  obtain ⟨m, rfl⟩ : ∃ m, e = m + 1 := ⟨e - 1, by omega⟩
  have n9 : N ≤ 9000 := Nat.le_trans hN (by decide)
  have ha : a < N := Nat.lt_of_lt_of_le hae he
  have w1 := sort_succ (i := a) (Nat.le_trans (Nat.le_of_lt ha) n9)
  have w2 := sort_pred (i := m) (Nat.le_trans he n9)
  have i1 := sl_idx1 (b := b) (c := c) ha
  have i2 := sl_idx1 (b := b) (c := c) hp
  have l1 := A.ld ha
  have l2 := A.ld hp
  obtain ⟨g1, g2, s1, s2, A2, _⟩ := A.swap ha hp
  simp only [S.slices_partitionEqualCmpFunc_int_, w1, w2, i1, i2, obind, ld1_get', l1, l2, s1, s2]
  unfold Go.Sort.partitionEqual
  rw [Nat.add_sub_cancel]
  generalize swp d a pv = d2 at A2 ⊢
  refine loop_ev (α := Nat × Nat × Array Int) (fun q => S.slices_partitionEqualCmpFunc_int__c1_E (.sl b 0 N c) (.int .i64 (a : Int)) (.fn f cs) (.int .i64 (q.1 : Int)) (.int .i64 (q.2.1 : Int)))
    (fun q h => (1 ≤ q.1 ∧ q.1 ≤ N) ∧ q.2.1 < N ∧ Sw h0 b N h q.2.2 ∧ partEqLoop lt a q.1 q.2.1 q.2.2 = partEqLoop lt a (a + 1) m d2) (fun q _ => q.2.1 + 1 - q.1)
    (fun z => z.1 = .exit 0 ∧ z.2.1 = S.slices_partitionEqualCmpFunc_int__c1_O (.int .i64 ((partEqLoop lt a (a + 1) m d2).1 : Int)) ∧ Sw h0 b N z.2.2 (partEqLoop lt a (a + 1) m d2).2) (a + 1, m, d2) rfl ⟨⟨Nat.succ_le_succ (Nat.zero_le _), ha⟩, he, A2, rfl⟩ ?_ ?_
  rotate_left
  · rintro ⟨_, _, g⟩ ⟨rfl, rfl, A⟩
    show Ev (S.slices_partitionEqualCmpFunc_int__K2 W (.exit 0) _ _) _
    rw [S.slices_partitionEqualCmpFunc_int__c1_e0_eq]
    exact Ev.some ⟨rfl, A⟩
  generalize partEqLoop lt a (a + 1) m d2 = D
  rintro ⟨i, j, d1⟩ g ⟨⟨hi1, hi⟩, hj, A, hd⟩
  dsimp only at hi1 hi hj A hd
  rw [S.slices_partitionEqualCmpFunc_int__c1_eq]
  simp only [S.slices_partitionEqualCmpFunc_int__c1_S]
  refine (peUp_spec A K hN ha hi1 hi hj).mono ?_
  rw [Go.Sort.partEqLoop_eq] at hd
  have u1 := Go.Sort.scanUp_ge (fun x => !lt d1[a]! x) d1 j i
  generalize scanUp (fun x => !lt d1[a]! x) d1 j i = i2 at hd u1 ⊢
  have u2 := Go.Sort.scanDown_le (fun x => lt d1[a]! x) d1 i2 j
  generalize scanDown (fun x => lt d1[a]! x) d1 i2 j = j2 at hd u2 ⊢
  rintro ⟨x1, e1, g1⟩ hz
  unfold PePost at hz
  by_cases hc : i2 > j2
  · rw [if_pos hc] at hd hz
    obtain ⟨rfl, rfl, A1⟩ := hz
    subst hd
    exact .inr ⟨by simp, rfl, rfl, A1⟩
  · rw [if_neg hc] at hd hz
    obtain ⟨rfl, rfl, A1⟩ := hz
    exact .inl ⟨(i2 + 1, j2 - 1, _), rfl, rfl, ⟨⟨Nat.succ_le_succ (Nat.zero_le _), Nat.lt_of_le_of_lt (Nat.le_trans (Nat.not_lt.mp hc) u2) hj⟩, Nat.lt_of_le_of_lt (Nat.sub_le _ _) (Nat.lt_of_le_of_lt u2 hj), A1, hd⟩, Go.Sort.guard_of u1 u2 hc⟩
end
end Wm
end

section
/- partition. -/
namespace Wm
attribute [local congr] bind_congr1
attribute [local irreducible] wr
open Go.Sort (swp scanUp scanDown partLoop)

section
variable {h0 h : H} {b N f : Nat} {cs : List V} {lt : Int → Int → Bool} {d : Array Int} {c : Cap}

theorem paUp1 {R : Type} {kk : AX × List V × H → Option R} {Q : R → Prop} (A : Sw h0 b N h d) (K : Cmp h0 b N f cs lt) (hN : N ≤ 1000) {a i j : Nat} (ha : a < N) (hi1 : 1 ≤ i) (hi : i ≤ N) (hj : j < N)
    (out : ∀ q, 1 ≤ q → q ≤ N → q = scanUp (fun x => lt x d[a]!) d j i → ∀ g, Sw h0 b N g d → Ev (kk (.exit 0, S.slices_partitionCmpFunc_int__c1_O (.sl b 0 N c) (.int .i64 (a : Int)) (.fn f cs) (.int .i64 (q : Int)) (.int .i64 (j : Int)), g)) Q) :
    Ev ((W.loop (S.slices_partitionCmpFunc_int__c1_B W) (S.slices_partitionCmpFunc_int__c1_E (.sl b 0 N c) (.int .i64 (a : Int)) (.fn f cs) (.int .i64 (i : Int)) (.int .i64 (j : Int))) h).bind kk) Q := by
  refine loop_ev (α := Nat) (fun q => S.slices_partitionCmpFunc_int__c1_E (.sl b 0 N c) (.int .i64 (a : Int)) (.fn f cs) (.int .i64 (q : Int)) (.int .i64 (j : Int)))
    (fun q h => (1 ≤ q ∧ q ≤ N) ∧ Sw h0 b N h d ∧ scanUp (fun x => lt x d[a]!) d j q = scanUp (fun x => lt x d[a]!) d j i) (fun q _ => N - q)
    (fun z => ∃ q, (1 ≤ q ∧ q ≤ N) ∧ z.1 = .exit 0 ∧ z.2.1 = S.slices_partitionCmpFunc_int__c1_O (.sl b 0 N c) (.int .i64 (a : Int)) (.fn f cs) (.int .i64 (q : Int)) (.int .i64 (j : Int)) ∧ Sw h0 b N z.2.2 d ∧ q = scanUp (fun x => lt x d[a]!) d j i) i rfl ⟨⟨hi1, hi⟩, A, rfl⟩ ?_ ?_
  rotate_left
  · rintro ⟨_, _, g⟩ ⟨q, ⟨hq1, hq⟩, rfl, rfl, A, hqe⟩
    exact out q hq1 hq hqe g A
  rintro q g ⟨⟨hq1, hq⟩, A, hd⟩
  rw [S.slices_partitionCmpFunc_int__c1_eq]
  rw [scanUp_if] at hd
  by_cases hqj : q ≤ j
  · have hqN : q < N := Nat.lt_of_le_of_lt hqj hj
    have i1 := sl_idx1 (b := b) (c := c) ha
    have i2 := sl_idx1 (b := b) (c := c) hqN
    have l1 := A.ld ha
    have l2 := A.ld hqN
    have k1 := sort_le hqj
    obtain ⟨n, g1, ec, hn, A1, _⟩ := A.cmp K hqN ha
    have w2 := sort_succ (i := q) (Nat.le_trans hq (Nat.le_trans hN (by decide)))
    cases hl : lt d[q]! d[a]! with
    | true =>
      rw [if_pos ⟨hqj, hl⟩] at hd
      simp only [S.slices_partitionCmpFunc_int__c1_S, k1, i1, i2, obind, ld1_get', l1, l2, ec, asI_int, hn, hl, w2]
      exact Ev.some (.inl ⟨q + 1, rfl, rfl, ⟨⟨Nat.le_succ_of_le hq1, hqN⟩, A1, hd⟩, Nat.sub_lt_sub_left hqN (Nat.lt_succ_self q)⟩)
    | false =>
      rw [if_neg (fun z => by rw [hl] at z; cases z.2)] at hd
      simp only [S.slices_partitionCmpFunc_int__c1_S, k1, i1, i2, obind, ld1_get', l1, l2, ec, asI_int, hn, hl]
      exact Ev.some (.inr ⟨by simp, q, ⟨hq1, hq⟩, rfl, rfl, A1, hd⟩)
  · rw [if_neg (fun z => hqj z.1)] at hd
    simp only [S.slices_partitionCmpFunc_int__c1_S, sort_nle hqj]
    exact Ev.some (.inr ⟨by simp, q, ⟨hq1, hq⟩, rfl, rfl, A, hd⟩)

theorem paDown1 {R : Type} {kk : AX × List V × H → Option R} {Q : R → Prop} (A : Sw h0 b N h d) (K : Cmp h0 b N f cs lt) (hN : N ≤ 1000) {a i j : Nat} (ha : a < N) (hi1 : 1 ≤ i) (hj : j < N)
    (out : ∀ q, q < N → q = scanDown (fun x => !lt x d[a]!) d i j → ∀ g, Sw h0 b N g d → Ev (kk (.exit 2, S.slices_partitionCmpFunc_int__c3_O (.sl b 0 N c) (.int .i64 (a : Int)) (.fn f cs) (.int .i64 (i : Int)) (.int .i64 (q : Int)), g)) Q) :
    Ev ((W.loop (S.slices_partitionCmpFunc_int__c3_B W) (S.slices_partitionCmpFunc_int__c3_E (.sl b 0 N c) (.int .i64 (a : Int)) (.fn f cs) (.int .i64 (i : Int)) (.int .i64 (j : Int))) h).bind kk) Q := by
  refine loop_ev (α := Nat) (fun q => S.slices_partitionCmpFunc_int__c3_E (.sl b 0 N c) (.int .i64 (a : Int)) (.fn f cs) (.int .i64 (i : Int)) (.int .i64 (q : Int)))
    (fun q h => q < N ∧ Sw h0 b N h d ∧ scanDown (fun x => !lt x d[a]!) d i q = scanDown (fun x => !lt x d[a]!) d i j) (fun q _ => q)
    (fun z => ∃ q, q < N ∧ z.1 = .exit 2 ∧ z.2.1 = S.slices_partitionCmpFunc_int__c3_O (.sl b 0 N c) (.int .i64 (a : Int)) (.fn f cs) (.int .i64 (i : Int)) (.int .i64 (q : Int)) ∧ Sw h0 b N z.2.2 d ∧ q = scanDown (fun x => !lt x d[a]!) d i j) j rfl ⟨hj, A, rfl⟩ ?_ ?_
  rotate_left
  · rintro ⟨_, _, g⟩ ⟨q, hq, rfl, rfl, A, hqe⟩
    exact out q hq hqe g A
  rintro q g ⟨hq, A, hd⟩
  rw [S.slices_partitionCmpFunc_int__c3_eq]
  rw [scanDown_if _ _ hi1] at hd
  by_cases hiq : i ≤ q
  · have i1 := sl_idx1 (b := b) (c := c) ha
    have i2 := sl_idx1 (b := b) (c := c) hq
    have l1 := A.ld ha
    have l2 := A.ld hq
    have k1 := sort_le hiq
    obtain ⟨n, g1, ec, hn, A1, _⟩ := A.cmp K hq ha
    obtain ⟨m, rfl⟩ : ∃ m, q = m + 1 := ⟨q - 1, by omega⟩
    have w2 := sort_pred (i := m) (Nat.le_trans (Nat.le_of_lt hq) (Nat.le_trans hN (by decide)))
    cases hl : lt d[m + 1]! d[a]! with
    | false =>
      rw [if_pos ⟨hiq, by rw [hl]; rfl⟩, Nat.add_sub_cancel] at hd
      simp only [S.slices_partitionCmpFunc_int__c3_S, k1, i1, i2, obind, ld1_get', l1, l2, ec, asI_int, hn, hl, w2, Bool.not_false]
      exact Ev.some (.inl ⟨m, rfl, rfl, ⟨Nat.lt_of_succ_lt hq, A1, hd⟩, Nat.lt_succ_self m⟩)
    | true =>
      rw [if_neg (fun z => by rw [hl] at z; cases z.2)] at hd
      simp only [S.slices_partitionCmpFunc_int__c3_S, k1, i1, i2, obind, ld1_get', l1, l2, ec, asI_int, hn, hl, Bool.not_true]
      exact Ev.some (.inr ⟨by simp, m + 1, hq, rfl, rfl, A1, hd⟩)
  · rw [if_neg (fun z => hiq z.1)] at hd
    simp only [S.slices_partitionCmpFunc_int__c3_S, sort_nle hiq]
    exact Ev.some (.inr ⟨by simp, q, hq, rfl, rfl, A, hd⟩)

theorem paUp2 {R : Type} {kk : AX × List V × H → Option R} {Q : R → Prop} (A : Sw h0 b N h d) (K : Cmp h0 b N f cs lt) (hN : N ≤ 1000) {a i j : Nat} (ha : a < N) (hi1 : 1 ≤ i) (hi : i ≤ N) (hj : j < N)
    (out : ∀ q, 1 ≤ q → q ≤ N → q = scanUp (fun x => lt x d[a]!) d j i → ∀ g, Sw h0 b N g d → Ev (kk (.exit 6, S.slices_partitionCmpFunc_int__c7_O (.sl b 0 N c) (.int .i64 (a : Int)) (.fn f cs) (.int .i64 (q : Int)) (.int .i64 (j : Int)), g)) Q) :
    Ev ((W.loop (S.slices_partitionCmpFunc_int__c7_B W) (S.slices_partitionCmpFunc_int__c7_E (.sl b 0 N c) (.int .i64 (a : Int)) (.fn f cs) (.int .i64 (i : Int)) (.int .i64 (j : Int))) h).bind kk) Q := by
  refine loop_ev (α := Nat) (fun q => S.slices_partitionCmpFunc_int__c7_E (.sl b 0 N c) (.int .i64 (a : Int)) (.fn f cs) (.int .i64 (q : Int)) (.int .i64 (j : Int)))
    (fun q h => (1 ≤ q ∧ q ≤ N) ∧ Sw h0 b N h d ∧ scanUp (fun x => lt x d[a]!) d j q = scanUp (fun x => lt x d[a]!) d j i) (fun q _ => N - q)
    (fun z => ∃ q, (1 ≤ q ∧ q ≤ N) ∧ z.1 = .exit 6 ∧ z.2.1 = S.slices_partitionCmpFunc_int__c7_O (.sl b 0 N c) (.int .i64 (a : Int)) (.fn f cs) (.int .i64 (q : Int)) (.int .i64 (j : Int)) ∧ Sw h0 b N z.2.2 d ∧ q = scanUp (fun x => lt x d[a]!) d j i) i rfl ⟨⟨hi1, hi⟩, A, rfl⟩ ?_ ?_
  rotate_left
  · rintro ⟨_, _, g⟩ ⟨q, ⟨hq1, hq⟩, rfl, rfl, A, hqe⟩
    exact out q hq1 hq hqe g A
  rintro q g ⟨⟨hq1, hq⟩, A, hd⟩
  rw [S.slices_partitionCmpFunc_int__c7_eq]
  rw [scanUp_if] at hd
  by_cases hqj : q ≤ j
  · have hqN : q < N := Nat.lt_of_le_of_lt hqj hj
    have i1 := sl_idx1 (b := b) (c := c) ha
    have i2 := sl_idx1 (b := b) (c := c) hqN
    have l1 := A.ld ha
    have l2 := A.ld hqN
    have k1 := sort_le hqj
    obtain ⟨n, g1, ec, hn, A1, _⟩ := A.cmp K hqN ha
    have w2 := sort_succ (i := q) (Nat.le_trans hq (Nat.le_trans hN (by decide)))
    cases hl : lt d[q]! d[a]! with
    | true =>
      rw [if_pos ⟨hqj, hl⟩] at hd
      simp only [S.slices_partitionCmpFunc_int__c7_S, k1, i1, i2, obind, ld1_get', l1, l2, ec, asI_int, hn, hl, w2]
      exact Ev.some (.inl ⟨q + 1, rfl, rfl, ⟨⟨Nat.le_succ_of_le hq1, hqN⟩, A1, hd⟩, Nat.sub_lt_sub_left hqN (Nat.lt_succ_self q)⟩)
    | false =>
      rw [if_neg (fun z => by rw [hl] at z; cases z.2)] at hd
      simp only [S.slices_partitionCmpFunc_int__c7_S, k1, i1, i2, obind, ld1_get', l1, l2, ec, asI_int, hn, hl]
      exact Ev.some (.inr ⟨by simp, q, ⟨hq1, hq⟩, rfl, rfl, A1, hd⟩)
  · rw [if_neg (fun z => hqj z.1)] at hd
    simp only [S.slices_partitionCmpFunc_int__c7_S, sort_nle hqj]
    exact Ev.some (.inr ⟨by simp, q, ⟨hq1, hq⟩, rfl, rfl, A, hd⟩)

theorem paDown2 {R : Type} {kk : AX × List V × H → Option R} {Q : R → Prop} (A : Sw h0 b N h d) (K : Cmp h0 b N f cs lt) (hN : N ≤ 1000) {a i j : Nat} (ha : a < N) (hi1 : 1 ≤ i) (hj : j < N)
    (out : ∀ q, q < N → q = scanDown (fun x => !lt x d[a]!) d i j → ∀ g, Sw h0 b N g d → Ev (kk (.exit 8, S.slices_partitionCmpFunc_int__c9_O (.sl b 0 N c) (.int .i64 (a : Int)) (.fn f cs) (.int .i64 (i : Int)) (.int .i64 (q : Int)), g)) Q) :
    Ev ((W.loop (S.slices_partitionCmpFunc_int__c9_B W) (S.slices_partitionCmpFunc_int__c9_E (.sl b 0 N c) (.int .i64 (a : Int)) (.fn f cs) (.int .i64 (i : Int)) (.int .i64 (j : Int))) h).bind kk) Q := by
  refine loop_ev (α := Nat) (fun q => S.slices_partitionCmpFunc_int__c9_E (.sl b 0 N c) (.int .i64 (a : Int)) (.fn f cs) (.int .i64 (i : Int)) (.int .i64 (q : Int)))
    (fun q h => q < N ∧ Sw h0 b N h d ∧ scanDown (fun x => !lt x d[a]!) d i q = scanDown (fun x => !lt x d[a]!) d i j) (fun q _ => q)
    (fun z => ∃ q, q < N ∧ z.1 = .exit 8 ∧ z.2.1 = S.slices_partitionCmpFunc_int__c9_O (.sl b 0 N c) (.int .i64 (a : Int)) (.fn f cs) (.int .i64 (i : Int)) (.int .i64 (q : Int)) ∧ Sw h0 b N z.2.2 d ∧ q = scanDown (fun x => !lt x d[a]!) d i j) j rfl ⟨hj, A, rfl⟩ ?_ ?_
  rotate_left
  · rintro ⟨_, _, g⟩ ⟨q, hq, rfl, rfl, A, hqe⟩
    exact out q hq hqe g A
  rintro q g ⟨hq, A, hd⟩
  rw [S.slices_partitionCmpFunc_int__c9_eq]
  rw [scanDown_if _ _ hi1] at hd
  by_cases hiq : i ≤ q
  · have i1 := sl_idx1 (b := b) (c := c) ha
    have i2 := sl_idx1 (b := b) (c := c) hq
    have l1 := A.ld ha
    have l2 := A.ld hq
    have k1 := sort_le hiq
    obtain ⟨n, g1, ec, hn, A1, _⟩ := A.cmp K hq ha
    obtain ⟨m, rfl⟩ : ∃ m, q = m + 1 := ⟨q - 1, by omega⟩
    have w2 := sort_pred (i := m) (Nat.le_trans (Nat.le_of_lt hq) (Nat.le_trans hN (by decide)))
    cases hl : lt d[m + 1]! d[a]! with
    | false =>
      rw [if_pos ⟨hiq, by rw [hl]; rfl⟩, Nat.add_sub_cancel] at hd
      simp only [S.slices_partitionCmpFunc_int__c9_S, k1, i1, i2, obind, ld1_get', l1, l2, ec, asI_int, hn, hl, w2, Bool.not_false]
      exact Ev.some (.inl ⟨m, rfl, rfl, ⟨Nat.lt_of_succ_lt hq, A1, hd⟩, Nat.lt_succ_self m⟩)
    | true =>
      rw [if_neg (fun z => by rw [hl] at z; cases z.2)] at hd
      simp only [S.slices_partitionCmpFunc_int__c9_S, k1, i1, i2, obind, ld1_get', l1, l2, ec, asI_int, hn, hl, Bool.not_true]
      exact Ev.some (.inr ⟨by simp, m + 1, hq, rfl, rfl, A1, hd⟩)
  · rw [if_neg (fun z => hiq z.1)] at hd
    simp only [S.slices_partitionCmpFunc_int__c9_S, sort_nle hiq]
    exact Ev.some (.inr ⟨by simp, q, hq, rfl, rfl, A, hd⟩)

theorem paRound_spec (A : Sw h0 b N h d) (K : Cmp h0 b N f cs lt) (hN : N ≤ 1000) {a i j : Nat} (ha : a < N) (hi1 : 1 ≤ i) (hi : i ≤ N) (hj : j < N) :
    Ev (S.slices_partitionCmpFunc_int__c5_S W (.sl b 0 N c) (a : Int) (.fn f cs) (i : Int) (j : Int) h) fun z => ∃ i2 j2, i2 = scanUp (fun x => lt x d[a]!) d j i ∧ j2 = scanDown (fun x => !lt x d[a]!) d i2 j ∧ j2 < N ∧ i2 ≤ N ∧
      ((j2 < i2 ∧ z.1 = .exit 4 ∧ z.2.1 = S.slices_partitionCmpFunc_int__c5_O (.sl b 0 N c) (.int .i64 (a : Int)) (.int .i64 (j2 : Int)) ∧ Sw h0 b N z.2.2 d) ∨
       (¬ j2 < i2 ∧ z.1 = .normal ∧ z.2.1 = S.slices_partitionCmpFunc_int__c5_E (.sl b 0 N c) (.int .i64 (a : Int)) (.fn f cs) (.int .i64 ((i2 + 1 : Nat) : Int)) (.int .i64 ((j2 - 1 : Nat) : Int)) ∧ Sw h0 b N z.2.2 (swp d i2 j2))) := by
  simp only [S.slices_partitionCmpFunc_int__c5_S]
  refine paUp2 A K hN ha hi1 hi hj ?_
  intro i2 hq1 hq hqe g A
  show Ev (S.slices_partitionCmpFunc_int__K10 W (.exit 6) _ _) _
  rw [S.slices_partitionCmpFunc_int__c7_e6_eq]
  simp only [S.slices_partitionCmpFunc_int__c7_e6]
  refine paDown2 A K hN ha hq1 hj ?_
  intro j2 hj2 hje g A
  show Ev (S.slices_partitionCmpFunc_int__K12 W (.exit 8) _ _) _
  rw [S.slices_partitionCmpFunc_int__c9_e8_eq]
  by_cases hqi : j2 < i2
  · simp only [S.slices_partitionCmpFunc_int__c9_e8, sort_lt hqi]
    exact Ev.some ⟨i2, j2, hqe, hje, hj2, hq, .inl ⟨hqi, rfl, rfl, A⟩⟩
  · have hiN : i2 < N := Nat.lt_of_le_of_lt (Nat.not_lt.mp hqi) hj2
    have n9 : N ≤ 9000 := Nat.le_trans hN (by decide)
    have k1 := sort_nlt hqi
    obtain ⟨m, hm⟩ : ∃ m, j2 = m + 1 := ⟨j2 - 1, by omega⟩
    have w1 := sort_succ (i := i2) (Nat.le_trans hq n9)
    have w2 : wr .i64 ((j2 : Int) - 1) = ((j2 - 1 : Nat) : Int) := by rw [hm]; exact sort_pred (i := m) (Nat.le_trans (hm ▸ Nat.le_of_lt hj2) n9)
    have i1 := sl_idx1 (b := b) (c := c) hiN
    have i2' := sl_idx1 (b := b) (c := c) hj2
    have l1 := A.ld hiN
    have l2 := A.ld hj2
    obtain ⟨g1, g2, s1, s2, A2, _⟩ := A.swap hiN hj2
    simp only [S.slices_partitionCmpFunc_int__c9_e8, k1, w1, w2, i1, i2', obind, ld1_get', l1, l2, s1, s2]
    exact Ev.some ⟨i2, j2, hqe, hje, hj2, hq, .inr ⟨hqi, rfl, rfl, A2⟩⟩

theorem paLoop_spec (A : Sw h0 b N h d) (K : Cmp h0 b N f cs lt) (hN : N ≤ 1000) {a i j : Nat} (ha : a < N) (hi1 : 1 ≤ i) (hi : i ≤ N) (hj : j < N) :
    Ev ((W.loop (S.slices_partitionCmpFunc_int__c5_B W) (S.slices_partitionCmpFunc_int__c5_E (.sl b 0 N c) (.int .i64 (a : Int)) (.fn f cs) (.int .i64 (i : Int)) (.int .i64 (j : Int))) h).bind fun z => S.slices_partitionCmpFunc_int__K6 W z.1 z.2.1 z.2.2)
      fun z => z.1 = .tup [.int .i64 ((partLoop lt a i j d).1 : Int), .bool false] ∧ Sw h0 b N z.2 (swp (partLoop lt a i j d).2 (partLoop lt a i j d).1 a) := by
  refine loop_ev (α := Nat × Nat × Array Int) (fun q => S.slices_partitionCmpFunc_int__c5_E (.sl b 0 N c) (.int .i64 (a : Int)) (.fn f cs) (.int .i64 (q.1 : Int)) (.int .i64 (q.2.1 : Int)))
    (fun q h => (1 ≤ q.1 ∧ q.1 ≤ N) ∧ q.2.1 < N ∧ Sw h0 b N h q.2.2 ∧ partLoop lt a q.1 q.2.1 q.2.2 = partLoop lt a i j d) (fun q _ => q.2.1 + 1 - q.1)
    (fun z => z.1 = .exit 4 ∧ z.2.1 = S.slices_partitionCmpFunc_int__c5_O (.sl b 0 N c) (.int .i64 (a : Int)) (.int .i64 ((partLoop lt a i j d).1 : Int)) ∧ (partLoop lt a i j d).1 < N ∧ Sw h0 b N z.2.2 (partLoop lt a i j d).2) (i, j, d) rfl ⟨⟨hi1, hi⟩, hj, A, rfl⟩ ?_ ?_
  rotate_left
  · rintro ⟨_, _, g⟩ ⟨rfl, rfl, hD, A⟩
    show Ev (S.slices_partitionCmpFunc_int__K6 W (.exit 4) _ _) _
    rw [S.slices_partitionCmpFunc_int__c5_e4_eq]
    generalize partLoop lt a i j d = D at hD A ⊢
    dsimp only at A
    have i1 := sl_idx1 (b := b) (c := c) hD
    have i2 := sl_idx1 (b := b) (c := c) ha
    have l1 := A.ld hD
    have l2 := A.ld ha
    obtain ⟨g1, g2, s1, s2, A2, _⟩ := A.swap hD ha
    simp only [S.slices_partitionCmpFunc_int__c5_e4, i1, i2, obind, ld1_get', l1, l2, s1, s2]
    exact Ev.some ⟨rfl, A2⟩
  generalize partLoop lt a i j d = D
  clear hi1 hi hj A
  rintro ⟨i, j, d1⟩ g ⟨⟨hi1, hi⟩, hj, A, hd⟩
  dsimp only at hi1 hi hj A hd
  rw [S.slices_partitionCmpFunc_int__c5_eq]
  refine (paRound_spec A K hN ha hi1 hi hj).mono ?_
  rw [Go.Sort.partLoop_eq] at hd
  have u1 := Go.Sort.scanUp_ge (fun x => lt x d1[a]!) d1 j i
  rintro ⟨x1, e1, g1⟩ ⟨i2, j2, hi2, hj2, hjN, hiN, hz⟩
  have u2 := Go.Sort.scanDown_le (fun x => !lt x d1[a]!) d1 i2 j
  rw [← hi2] at u1 hd
  rw [← hj2] at u2 hd
  rcases hz with ⟨hc, rfl, rfl, A1⟩ | ⟨hc, rfl, rfl, A1⟩
  · rw [if_pos (show i2 > j2 from hc)] at hd
    subst hd
    exact .inr ⟨by simp, rfl, rfl, hjN, A1⟩
  · rw [if_neg (show ¬ i2 > j2 from hc)] at hd
    exact .inl ⟨(i2 + 1, j2 - 1, _), rfl, rfl, ⟨⟨Nat.succ_le_succ (Nat.zero_le _), Nat.lt_of_le_of_lt (Nat.not_lt.mp hc) hjN⟩, Nat.lt_of_le_of_lt (Nat.sub_le _ _) hjN, A1, hd⟩, Go.Sort.guard_of u1 u2 hc⟩

theorem partition_spec (A : Sw h0 b N h d) (K : Cmp h0 b N f cs lt) (hN : N ≤ 1000) {a e pv : Nat} (hae : a < e) (he : e ≤ N) (hp : pv < N) :
    Ev (C 457 [.sl b 0 N c, .int .i64 (a : Int), .int .i64 (e : Int), .int .i64 (pv : Int), .fn f cs] h) fun z => z.1 = .tup [.int .i64 ((Go.Sort.partition lt d a e pv).1 : Int), .bool (Go.Sort.partition lt d a e pv).2.1] ∧ Sw h0 b N z.2 (Go.Sort.partition lt d a e pv).2.2 := by
  refine call_ev (af := F.slices_partitionCmpFunc_int_) (by kernel_rfl) rfl ?_
  rw [S.slices_partitionCmpFunc_int__eq]
  obtain ⟨m, rfl⟩ : ∃ m, e = m + 1 := ⟨e - 1, by omega⟩
  have n9 : N ≤ 9000 := Nat.le_trans hN (by decide)
  have ha : a < N := Nat.lt_of_lt_of_le hae he
  have w1 := sort_succ (i := a) (Nat.le_trans (Nat.le_of_lt ha) n9)
  have w2 := sort_pred (i := m) (Nat.le_trans he n9)
  have i1 := sl_idx1 (b := b) (c := c) ha
  have i2 := sl_idx1 (b := b) (c := c) hp
  have l1 := A.ld ha
  have l2 := A.ld hp
  obtain ⟨g1, g2, s1, s2, A2, _⟩ := A.swap ha hp
  simp only [S.slices_partitionCmpFunc_int_, w1, w2, i1, i2, obind, ld1_get', l1, l2, s1, s2]
  unfold Go.Sort.partition
  dsimp only
  rw [Nat.add_sub_cancel]
  clear A s1 s2 l1 l2 w1 w2
  generalize swp d a pv = d2 at A2 ⊢
  refine paUp1 A2 K hN ha (Nat.succ_le_succ (Nat.zero_le _)) ha he ?_
  intro i3 hq1 hq hqe g A
  rw [← hqe]
  clear hqe
  show Ev (S.slices_partitionCmpFunc_int__K2 W (.exit 0) _ _) _
  rw [S.slices_partitionCmpFunc_int__c1_e0_eq]
  simp only [S.slices_partitionCmpFunc_int__c1_e0]
  refine paDown1 A K hN ha hq1 he ?_
  intro j2 hj2 hje g A
  rw [← hje]
  clear hje
  show Ev (S.slices_partitionCmpFunc_int__K4 W (.exit 2) _ _) _
  rw [S.slices_partitionCmpFunc_int__c3_e2_eq]
  by_cases hqi : j2 < i3
  · have i4 := sl_idx1 (b := b) (c := c) hj2
    have l1 := A.ld ha
    have l2 := A.ld hj2
    obtain ⟨g1, g2, s1, s2, A2, _⟩ := A.swap hj2 ha
    simp only [S.slices_partitionCmpFunc_int__c3_e2, sort_lt hqi, i1, i4, obind, ld1_get', l1, l2, s1, s2, if_pos (show i3 > j2 from hqi)]
    exact Ev.some ⟨rfl, A2⟩
  · have hiN : i3 < N := Nat.lt_of_le_of_lt (Nat.not_lt.mp hqi) hj2
    have k1 := sort_nlt hqi
    obtain ⟨m2, hm⟩ : ∃ m, j2 = m + 1 := ⟨j2 - 1, by omega⟩
    have w1 := sort_succ (i := i3) (Nat.le_trans hq n9)
    have w2 : wr .i64 ((j2 : Int) - 1) = ((j2 - 1 : Nat) : Int) := by rw [hm]; exact sort_pred (i := m2) (Nat.le_trans (hm ▸ Nat.le_of_lt hj2) n9)
    have i3' := sl_idx1 (b := b) (c := c) hiN
    have i4 := sl_idx1 (b := b) (c := c) hj2
    have l1 := A.ld hiN
    have l2 := A.ld hj2
    obtain ⟨g1, g2, s1, s2, A2, _⟩ := A.swap hiN hj2
    simp only [S.slices_partitionCmpFunc_int__c3_e2, k1, w1, w2, i3', i4, obind, ld1_get', l1, l2, s1, s2, if_neg (show ¬ i3 > j2 from hqi)]
    exact paLoop_spec A2 K hN ha (Nat.succ_le_succ (Nat.zero_le _)) hiN (Nat.lt_of_le_of_lt (Nat.sub_le _ _) hj2)
end
end Wm
end

section
/- Ranges that change places; a rotation. -/
namespace Wm
attribute [local congr] bind_congr1
attribute [local irreducible] wr
open Go.Sort (swp PermIn permIn_trans permIn_refl permIn_mono)

/-- Two ranges, of n each, change places. -/
def swpR (d : Array Int) (a b : Nat) : Nat → Array Int
  | 0 => d
  | n + 1 => swp (swpR d a b n) (a + n) (b + n)
theorem swpR_size (d : Array Int) (a b : Nat) : ∀ n, (swpR d a b n).size = d.size
  | 0 => rfl
  | n + 1 => by rw [swpR, Go.Sort.swp_size, swpR_size d a b n]
theorem swpR_perm {d : Array Int} {a b lo hi : Nat} (hhi : hi ≤ d.size) : ∀ n, lo ≤ a → a + n ≤ hi → lo ≤ b → b + n ≤ hi → PermIn lo hi d (swpR d a b n)
  | 0, _, _, _, _ => permIn_refl _ _ _
  | n + 1, h1, h2, h3, h4 => by
    have ih := swpR_perm (d := d) (a := a) (b := b) (lo := lo) hhi n h1 (by omega) h3 (by omega)
    exact permIn_trans _ _ _ _ _ ih (Go.Sort.swp_permIn _ lo hi _ _ (by omega) (by omega) (by omega) (by omega) (by rw [swpR_size]; exact hhi))
theorem swpR_get {d : Array Int} {a b : Nat} : ∀ n, a + n ≤ b → b + n ≤ d.size → ∀ k, (swpR d a b n)[k]! = if a ≤ k ∧ k < a + n then d[b + (k - a)]! else if b ≤ k ∧ k < b + n then d[a + (k - b)]! else d[k]!
  | 0, _, _, k => by rw [if_neg (by omega), if_neg (by omega)]; rfl
  | n + 1, h1, h2, k => by
    have ih := swpR_get (d := d) (a := a) (b := b) n (by omega) (by omega)
    rw [swpR]
    by_cases k1 : k = b + n
    · subst k1
      rw [Go.Sort.swp_right _ _ _ (by rw [swpR_size]; omega), ih, if_neg (by omega), if_neg (by omega), if_neg (by omega), if_pos (by omega)]
      congr 2; omega
    by_cases k2 : k = a + n
    · subst k2
      rw [Go.Sort.swp_left _ _ _ (by rw [swpR_size]; omega) (by omega), ih, if_neg (by omega), if_neg (by omega), if_pos (by omega)]
      congr 2; omega
    · rw [Go.Sort.swp_other _ _ _ _ k2 k1, ih]
      by_cases q1 : a ≤ k ∧ k < a + n
      · rw [if_pos q1, if_pos (by omega)]
      · rw [if_neg q1, if_neg (show ¬ (a ≤ k ∧ k < a + (n + 1)) by omega)]
        by_cases q2 : b ≤ k ∧ k < b + n
        · rw [if_pos q2, if_pos (by omega)]
        · rw [if_neg q2, if_neg (by omega)]

/-- What a rotation comes to: [a, m) and [m, b) have changed places. -/
def rotA (d : Array Int) (a m b k : Nat) : Int :=
  if k < a ∨ b ≤ k then d[k]! else if k < a + (b - m) then d[m + (k - a)]! else d[k - (b - m)]!

theorem rot_more {d : Array Int} {m i j : Nat} (hj : j < i) (hi : i ≤ m) (hb : m + j ≤ d.size) (k : Nat) : rotA (swpR d (m - i) m j) (m - (i - j)) m (m + j) k = rotA d (m - i) m (m + j) k := by
  have g := swpR_get (d := d) (a := m - i) (b := m) j (by omega) hb
  unfold rotA
  by_cases c1 : k < m - i ∨ m + j ≤ k
  · rw [if_pos (show k < m - (i - j) ∨ m + j ≤ k by omega), if_pos c1, g, if_neg (by omega), if_neg (by omega)]
  rw [if_neg c1]
  by_cases c2 : k < m - i + j
  · rw [if_pos (show k < m - (i - j) ∨ m + j ≤ k by omega), if_pos (show k < m - i + (m + j - m) by omega), g, if_pos (by omega)]
  rw [if_neg (show ¬ (k < m - (i - j) ∨ m + j ≤ k) by omega), if_neg (show ¬ k < m - i + (m + j - m) by omega)]
  by_cases c3 : k < m - (i - j) + (m + j - m)
  · rw [if_pos c3, g, if_neg (by omega), if_pos (by omega)]
    congr 1; omega
  · rw [if_neg c3, g, if_neg (by omega), if_neg (by omega)]
theorem rot_less {d : Array Int} {m i j : Nat} (hj : i < j) (hi : i ≤ m) (hb : m + j ≤ d.size) (k : Nat) : rotA (swpR d (m - i) (m + j - i) i) (m - i) m (m + (j - i)) k = rotA d (m - i) m (m + j) k := by
  have g := swpR_get (d := d) (a := m - i) (b := m + j - i) i (by omega) (by omega)
  unfold rotA
  by_cases c1 : k < m - i ∨ m + j ≤ k
  · rw [if_pos (show k < m - i ∨ m + (j - i) ≤ k by omega), if_pos c1, g, if_neg (by omega), if_neg (by omega)]
  rw [if_neg c1]
  by_cases c2 : m + (j - i) ≤ k
  · rw [if_pos (show k < m - i ∨ m + (j - i) ≤ k by omega), if_neg (show ¬ k < m - i + (m + j - m) by omega), g, if_neg (by omega), if_pos (by omega)]
    congr 1; omega
  rw [if_neg (show ¬ (k < m - i ∨ m + (j - i) ≤ k) by omega), if_pos (show k < m - i + (m + j - m) by omega)]
  by_cases c3 : k < m - i + (m + (j - i) - m)
  · rw [if_pos c3, g, if_neg (by omega), if_neg (by omega)]
  · rw [if_neg c3, g, if_pos (by omega)]
    congr 1; omega
theorem rot_same {d : Array Int} {m i : Nat} (hi : i ≤ m) (hb : m + i ≤ d.size) (k : Nat) : (swpR d (m - i) m i)[k]! = rotA d (m - i) m (m + i) k := by
  rw [swpR_get (d := d) (a := m - i) (b := m) i (by omega) hb]
  unfold rotA
  by_cases c1 : k < m - i ∨ m + i ≤ k
  · rw [if_pos c1, if_neg (by omega), if_neg (by omega)]
  rw [if_neg c1]
  by_cases c2 : k < m - i + i
  · rw [if_pos (by omega), if_pos (by omega)]
  · rw [if_neg (by omega), if_pos (by omega), if_neg (by omega)]
    congr 1; omega

section
variable {h0 h : H} {b N : Nat} {d : Array Int} {c : Cap}

theorem swapRange_spec (A : Sw h0 b N h d) (hN : N ≤ 1000) {a m n : Nat} (ha : a + n ≤ N) (hm : m + n ≤ N) (x : V) :
    Ev (C 513 [.sl b 0 N c, .int .i64 (a : Int), .int .i64 (m : Int), .int .i64 (n : Int), x] h) fun z => z.1 = .tup [] ∧ Sw h0 b N z.2 (swpR d a m n) := by
  refine call_ev (af := F.slices_swapRangeCmpFunc_int_) (by kernel_rfl) rfl ?_
  rw [S.slices_swapRangeCmpFunc_int__eq]
  simp only [S.slices_swapRangeCmpFunc_int_]
  refine loop_ev (α := Nat) (fun q => S.slices_swapRangeCmpFunc_int__c0_E (.sl b 0 N c) (.int .i64 (a : Int)) (.int .i64 (m : Int)) (.int .i64 (n : Int)) (.int .i64 (q : Int)))
    (fun q h => q ≤ n ∧ Sw h0 b N h (swpR d a m q)) (fun q _ => n - q)
    (fun z => z.1 = .exit 0 ∧ z.2.1 = S.slices_swapRangeCmpFunc_int__c0_O ∧ Sw h0 b N z.2.2 (swpR d a m n)) 0 rfl ⟨Nat.zero_le _, A⟩ ?_ ?_
  rotate_left
  · rintro ⟨_, _, g⟩ ⟨rfl, rfl, A⟩
    show Ev (S.slices_swapRangeCmpFunc_int__K1 W (.exit 0) _ _) _
    rw [S.slices_swapRangeCmpFunc_int__c0_e0_eq]
    exact Ev.some ⟨rfl, A⟩
  clear A
  rintro q g ⟨hq, A⟩
  rw [S.slices_swapRangeCmpFunc_int__c0_eq]
  by_cases hqn : q < n
  · have h1 : a + q < N := by omega
    have h2 : m + q < N := by omega
    have q9 : q ≤ 9000 := by omega
    have w1 := sort_add (i := m) (j := q) (by omega)
    have w2 := sort_add (i := a) (j := q) (by clear w1; omega)
    have w3 := sort_succ q9
    have i1 := sl_idx1 (b := b) (c := c) h1
    have i2 := sl_idx1 (b := b) (c := c) h2
    have l1 := A.ld h1
    have l2 := A.ld h2
    obtain ⟨g1, g2, s1, s2, A2, _⟩ := A.swap h1 h2
    simp only [S.slices_swapRangeCmpFunc_int__c0_S, sort_lt hqn, w1, w2, w3, i1, i2, obind, ld1_get', l1, l2, s1, s2]
    exact Ev.some (.inl ⟨q + 1, rfl, rfl, ⟨hqn, A2⟩, Nat.sub_lt_sub_left hqn (Nat.lt_succ_self q)⟩)
  · have hqe : q = n := Nat.le_antisymm hq (Nat.le_of_not_lt hqn)
    subst hqe
    simp only [S.slices_swapRangeCmpFunc_int__c0_S, sort_nlt hqn]
    exact Ev.some (.inr ⟨by simp, rfl, rfl, A⟩)

theorem rot_ne {i j : Nat} : decide ((i : Int) = (j : Int)) = decide (i = j) := by rw [decide_eq_decide]; omega

theorem rotate_spec (A : Sw h0 b N h d) (hN : N ≤ 1000) {a m e : Nat} (ham : a < m) (hme : m < e) (he : e ≤ N) (x : V) :
    Ev (C 492 [.sl b 0 N c, .int .i64 (a : Int), .int .i64 (m : Int), .int .i64 (e : Int), x] h) fun z => ∃ R, z.1 = .tup [] ∧ PermIn a e d R ∧ (∀ k, R[k]! = rotA d a m e k) ∧ Sw h0 b N z.2 R := by
  refine call_ev (af := F.slices_rotateCmpFunc_int_) (by kernel_rfl) rfl ?_
  rw [S.slices_rotateCmpFunc_int__eq]
  have n9 : N ≤ 9000 := Nat.le_trans hN (by decide)
  have m9 : m ≤ 9000 := by omega
  have w1 := sort_sub (i := m) (j := a) (Nat.le_of_lt ham) m9
  have w2 := sort_sub (i := e) (j := m) (Nat.le_of_lt hme) (Nat.le_trans he n9)
  simp only [S.slices_rotateCmpFunc_int_, w1, w2]
  clear w1 w2
  refine loop_ev (α := Nat × Nat × Array Int) (fun q => S.slices_rotateCmpFunc_int__c1_E (.sl b 0 N c) (.int .i64 (m : Int)) x (.int .i64 (q.1 : Int)) (.int .i64 (q.2.1 : Int)))
    (fun q h => (0 < q.1 ∧ 0 < q.2.1 ∧ q.1 ≤ m - a ∧ q.2.1 ≤ e - m) ∧ Sw h0 b N h q.2.2 ∧ PermIn a e d q.2.2 ∧ ∀ k, rotA q.2.2 (m - q.1) m (m + q.2.1) k = rotA d a m e k) (fun q _ => q.1 + q.2.1)
    (fun z => ∃ i d', (0 < i ∧ i ≤ m - a ∧ i ≤ e - m) ∧ z.1 = .exit 0 ∧ z.2.1 = S.slices_rotateCmpFunc_int__c1_O (.sl b 0 N c) (.int .i64 (m : Int)) x (.int .i64 (i : Int)) ∧ Sw h0 b N z.2.2 d' ∧ PermIn a e d d' ∧ ∀ k, rotA d' (m - i) m (m + i) k = rotA d a m e k) (m - a, e - m, d) rfl
    ⟨⟨by dsimp only; omega, by dsimp only; omega, Nat.le_refl _, Nat.le_refl _⟩, A, permIn_refl _ _ _, fun k => by dsimp only; rw [show m - (m - a) = a by omega, show m + (e - m) = e by omega]⟩ ?_ ?_
  · clear A
    rintro ⟨i, j, d1⟩ g ⟨⟨i0, j0, hi, hj⟩, A, hp, hr⟩
    dsimp only at i0 j0 hi hj A hp hr
    have hsz := A.sz
    rw [S.slices_rotateCmpFunc_int__c1_eq]
    by_cases hij : i = j
    · subst hij
      simp only [S.slices_rotateCmpFunc_int__c1_S, decide_true, Bool.not_true]
      exact Ev.some (.inr ⟨by simp, i, d1, ⟨i0, hi, hj⟩, rfl, rfl, A, hp, hr⟩)
    have i9 : i ≤ m := by omega
    have z1 : m - i + i ≤ N := by omega
    by_cases hlt : j < i
    · have w1 := sort_sub (i := m) (j := i) i9 m9
      have w2 := sort_sub (i := i) (j := j) (Nat.le_of_lt hlt) (by clear w1; omega)
      obtain ⟨⟨v, g1⟩, e1, rfl, A1⟩ := swapRange_spec (c := c) (a := m - i) (m := m) (n := j) A hN (by clear w1 w2; omega) (by clear w1 w2; omega) x
      dsimp only at A1
      simp only [S.slices_rotateCmpFunc_int__c1_S, rot_ne, decide_eq_false hij, Bool.not_false, sort_lt hlt, w1, w2, W_call, e1, obind]
      clear w1 w2 e1
      refine Ev.some (.inl ⟨(i - j, j, _), rfl, rfl, ⟨⟨by dsimp only; omega, j0, by dsimp only; omega, hj⟩, A1, permIn_trans _ _ _ _ _ hp (swpR_perm (by rw [hsz]; exact he) j (by omega) (by omega) (by omega) (by omega)), fun k => ?_⟩, by dsimp only; omega⟩)
      exact (rot_more hlt i9 (by rw [hsz]; omega) k).trans (hr k)
    · have hlt' : i < j := by omega
      have w1 := sort_sub (i := m) (j := i) i9 m9
      have w2 := sort_add (i := m) (j := j) (by clear w1; omega)
      have w3 := sort_sub (i := m + j) (j := i) (by clear w1 w2; omega) (by clear w1 w2; omega)
      have w4 := sort_sub (i := j) (j := i) (Nat.le_of_lt hlt') (by clear w1 w2 w3; omega)
      obtain ⟨⟨v, g1⟩, e1, rfl, A1⟩ := swapRange_spec (c := c) (a := m - i) (m := m + j - i) (n := i) A hN z1 (by clear w1 w2 w3 w4; omega) x
      dsimp only at A1
      simp only [S.slices_rotateCmpFunc_int__c1_S, rot_ne, decide_eq_false hij, Bool.not_false, sort_nlt hlt, w1, w2, w3, w4, W_call, e1, obind]
      clear w1 w2 w3 w4 e1
      refine Ev.some (.inl ⟨(i, j - i, _), rfl, rfl, ⟨⟨i0, by dsimp only; omega, hi, by dsimp only; omega⟩, A1, permIn_trans _ _ _ _ _ hp (swpR_perm (by rw [hsz]; exact he) i (by omega) (by omega) (by omega) (by omega)), fun k => ?_⟩, by dsimp only; omega⟩)
      exact (rot_less hlt' i9 (by rw [hsz]; omega) k).trans (hr k)
  rintro ⟨_, _, g⟩ ⟨i, d1, ⟨i0, hi, hj⟩, rfl, rfl, A, hp, hr⟩
  dsimp only at A
  have hsz := A.sz
  show Ev (S.slices_rotateCmpFunc_int__K2 W (.exit 0) _ _) _
  rw [S.slices_rotateCmpFunc_int__c1_e0_eq]
  have i9 : i ≤ m := by omega
  have z1 : m - i + i ≤ N := by omega
  have z2 : m + i ≤ N := by omega
  obtain ⟨⟨v, g1⟩, e1, rfl, A1⟩ := swapRange_spec (c := c) (a := m - i) (m := m) (n := i) A hN z1 z2 x
  dsimp only at A1
  have w1 := sort_sub (i := m) (j := i) i9 m9
  simp only [S.slices_rotateCmpFunc_int__c1_e0, w1, W_call, e1, obind]
  clear w1 e1
  exact Ev.some ⟨_, rfl, permIn_trans _ _ _ _ _ hp (swpR_perm (by rw [hsz]; exact he) i (by omega) (by omega) (by omega) (by omega)), fun k => (rot_same i9 (by rw [hsz]; exact z2) k).trans (hr k), A1⟩
end
end Wm
end

section
/- A stable sort is one by a finer order: what stood ahead is less. Two rows merged. -/
namespace Wm
open Go.Sort (swp PermIn SortedIn SWO permIn_trans permIn_refl permIn_mono permIn_all insInner insOuter)

def ltS (lt : Int → Int → Bool) (x y : Int) : Bool := lt x y || (!lt y x && decide (x < y))
theorem ltS_up {lt : Int → Int → Bool} (h : SWO lt) {x y : Int} (hxy : x < y) : ltS lt x y = !lt y x := by
  unfold ltS
  cases h1 : lt y x with
  | true => rw [h.asymm h1]; rfl
  | false => simp [hxy]
theorem ltS_dn {lt : Int → Int → Bool} {x y : Int} (hxy : x < y) : ltS lt y x = lt y x := by
  unfold ltS
  rw [decide_eq_false (show ¬ y < x by omega), Bool.and_false, Bool.or_false]
theorem ltS_false {lt : Int → Int → Bool} {x y : Int} : ltS lt x y = false ↔ lt x y = false ∧ (lt y x = true ∨ y ≤ x) := by
  unfold ltS
  cases h1 : lt x y <;> cases h2 : lt y x <;> simp
theorem ltS_swo {lt : Int → Int → Bool} (h : SWO lt) : SWO (ltS lt) where
  irrefl x := by unfold ltS; simp [h.irrefl x]
  trans x y z h1 h2 := by
    have e1 : lt x y = true ∨ (lt y x = false ∧ x < y) := by unfold ltS at h1; simpa using h1
    have e2 : lt y z = true ∨ (lt z y = false ∧ y < z) := by unfold ltS at h2; simpa using h2
    unfold ltS
    cases h3 : lt x z with
    | true => rfl
    | false =>
      have h4 : lt z x = false := by
        cases h5 : lt z x with
        | false => rfl
        | true =>
          rcases e1 with q | ⟨q, _⟩
          · have := h.trans _ _ _ h5 q
            rcases e2 with r | ⟨r, _⟩
            · rw [h.asymm r] at this; cases this
            · rw [r] at this; cases this
          · rcases e2 with r | ⟨r, _⟩
            · have := h.trans _ _ _ r h5
              rw [q] at this; cases this
            · have := h.ntrans _ _ _ r q
              rw [h5] at this; cases this
      rcases e1 with q | ⟨q, q2⟩
      · rcases e2 with r | ⟨r, r2⟩
        · rw [h.trans _ _ _ q r] at h3; cases h3
        · exfalso
          cases h5 : lt y z with
          | true => rw [h.trans _ _ _ q h5] at h3; cases h3
          | false =>
            have := h.ntrans _ _ _ h3 r
            rw [q] at this; cases this
      · rcases e2 with r | ⟨r, r2⟩
        · exfalso
          cases h5 : lt x y with
          | true => rw [h.trans _ _ _ h5 r] at h3; cases h3
          | false =>
            have := h.ntrans _ _ _ q h3
            rw [r] at this; cases this
        · simp [h4]; omega
  ntrans x y z h1 h2 := by
    rw [ltS_false] at h1 h2 ⊢
    refine ⟨h.ntrans _ _ _ h1.1 h2.1, ?_⟩
    rcases h1.2 with q | q
    · rcases h2.2 with r | r
      · exact .inl (h.trans _ _ _ r q)
      · cases h5 : lt z x with
        | true => exact .inl rfl
        | false =>
          have := h.ntrans _ _ _ h2.1 h5
          rw [q] at this; cases this
    · rcases h2.2 with r | r
      · cases h5 : lt z x with
        | true => exact .inl rfl
        | false =>
          have := h.ntrans _ _ _ h5 h1.1
          rw [r] at this; cases this
      · exact .inr (by omega)
/-- Two rows side by side, each sorted, the first one's of old. -/
structure Mg (lt : Int → Int → Bool) (a m e : Nat) (d : Array Int) : Prop where
  s1 : SortedIn (ltS lt) a m d
  s2 : SortedIn (ltS lt) m e d
  old : ∀ i j, a ≤ i → i < m → m ≤ j → j < e → d[i]! < d[j]!

section
variable {lt : Int → Int → Bool} {d R : Array Int} {a m e i : Nat}

theorem ins1_sorted (hlt : SWO lt) (M : Mg lt a m e d) (ham : m = a + 1) (hi1 : m ≤ i) (hi : i ≤ e) (h1 : ∀ k, m ≤ k → k < i → lt d[k]! d[a]! = true) (h2 : ∀ k, i ≤ k → k < e → lt d[k]! d[a]! = false) (hR : ∀ k, R[k]! = rotA d a m i k) : SortedIn (ltS lt) a e R := by
  subst ham
  have v : ∀ k, a ≤ k → R[k]! = if k < i - 1 then d[k + 1]! else if k = i - 1 then d[a]! else d[k]! := fun k hk => by
    rw [hR]; unfold rotA
    by_cases c1 : k < i - 1
    · rw [if_neg (by omega), if_pos (by omega), if_pos c1]; congr 1; omega
    · rw [if_neg c1]
      by_cases c2 : k = i - 1
      · rw [if_neg (by omega), if_neg (by omega), if_pos c2]; congr 1; omega
      · rw [if_pos (by omega), if_neg c2]
  intro p q hp hpq hq
  rw [v p hp, v q (by omega)]
  by_cases p1 : p < i - 1
  · rw [if_pos p1]
    by_cases q1 : q < i - 1
    · rw [if_pos q1]; exact M.s2 _ _ (by omega) (by omega) (by omega)
    · rw [if_neg q1]
      by_cases q2 : q = i - 1
      · rw [if_pos q2, ltS_up hlt (M.old a (p + 1) (Nat.le_refl _) (by omega) (by omega) (by omega)), h1 (p + 1) (by omega) (by omega)]; rfl
      · rw [if_neg q2]; exact M.s2 _ _ (by omega) (by omega) (by omega)
  · rw [if_neg p1]
    by_cases p2 : p = i - 1
    · rw [if_pos p2, if_neg (by omega), if_neg (by omega), ltS_dn (M.old a q (Nat.le_refl _) (by omega) (by omega) hq)]
      exact h2 q (by omega) hq
    · rw [if_neg p2, if_neg (by omega), if_neg (by omega)]; exact M.s2 _ _ (by omega) hpq hq

theorem ins2_sorted (hlt : SWO lt) (M : Mg lt a m e d) (hme : e = m + 1) (hi1 : a ≤ i) (hi : i ≤ m) (h1 : ∀ k, a ≤ k → k < i → lt d[m]! d[k]! = false) (h2 : ∀ k, i ≤ k → k < m → lt d[m]! d[k]! = true) (hR : ∀ k, R[k]! = rotA d i m e k) : SortedIn (ltS lt) a e R := by
  subst hme
  have v : ∀ k, k < m + 1 → R[k]! = if k < i then d[k]! else if k = i then d[m]! else d[k - 1]! := fun k hk => by
    rw [hR]; unfold rotA
    by_cases c1 : k < i
    · rw [if_pos (by omega), if_pos c1]
    · rw [if_neg c1]
      by_cases c2 : k = i
      · rw [if_neg (by omega), if_pos (by omega), if_pos c2]; congr 1; omega
      · rw [if_neg (by omega), if_neg (by omega), if_neg c2]; congr 1; omega
  intro p q hp hpq hq
  rw [v p (by omega), v q hq]
  by_cases p1 : p < i
  · rw [if_pos p1]
    by_cases q1 : q < i
    · rw [if_pos q1]; exact M.s1 _ _ hp hpq (by omega)
    · rw [if_neg q1]
      by_cases q2 : q = i
      · rw [if_pos q2, ltS_dn (M.old p m hp (by omega) (Nat.le_refl _) (by omega))]; exact h1 p hp p1
      · rw [if_neg q2]; exact M.s1 _ _ hp (by omega) (by omega)
  · rw [if_neg p1, if_neg (show ¬ q < i by omega), if_neg (show ¬ q = i by omega)]
    by_cases p2 : p = i
    · rw [if_pos p2, ltS_up hlt (M.old (q - 1) m (by omega) (by omega) (Nat.le_refl _) (by omega)), h2 (q - 1) (by omega) (by omega)]; rfl
    · rw [if_neg p2]; exact M.s1 _ _ (by omega) (by omega) (by omega)

theorem split_merge (hlt : SWO lt) (M : Mg lt a m e d) {s t : Nat} (hs1 : a ≤ s) (hs : s ≤ m) (ht1 : m ≤ t) (ht : t ≤ e) (c1 : a < s → t < e → lt d[t]! d[s - 1]! = false) (c2 : s < m → m < t → lt d[t - 1]! d[s]! = true) (hR : ∀ k, R[k]! = rotA d s m t k) :
    Mg lt a s (s + (t - m)) R ∧ Mg lt (s + (t - m)) t e R ∧ ∀ x y, a ≤ x → x < s + (t - m) → s + (t - m) ≤ y → y < e → ltS lt R[y]! R[x]! = false := by
  have hS := ltS_swo hlt
  have v1 : ∀ k, k < s → R[k]! = d[k]! := fun k hk => by rw [hR]; unfold rotA; rw [if_pos (by omega)]
  have v2 : ∀ k, s ≤ k → k < s + (t - m) → R[k]! = d[m + (k - s)]! := fun k h1 h2 => by rw [hR]; unfold rotA; rw [if_neg (by omega), if_pos (by omega)]
  have v3 : ∀ k, s + (t - m) ≤ k → k < t → R[k]! = d[k - (t - m)]! := fun k h1 h2 => by rw [hR]; unfold rotA; rw [if_neg (by omega), if_neg (by omega)]
  have v4 : ∀ k, t ≤ k → R[k]! = d[k]! := fun k hk => by rw [hR]; unfold rotA; rw [if_pos (by omega)]
  -- cross
  have le1 : ∀ x y, a ≤ x → x < s → t ≤ y → y < e → ltS lt d[y]! d[x]! = false := fun x y h1 h2 h3 h4 => by
    have k1 := c1 (by omega) (by omega)
    rw [← ltS_dn (lt := lt) (M.old (s - 1) t (by omega) (by omega) ht1 (by omega))] at k1
    have k2 : ltS lt d[s - 1]! d[x]! = false := by
      rcases Nat.lt_or_eq_of_le (show x ≤ s - 1 by omega) with q | q
      · exact M.s1 x (s - 1) h1 q (by omega)
      · rw [q]; exact hS.irrefl _
    have k3 : ltS lt d[y]! d[t]! = false := by
      rcases Nat.lt_or_eq_of_le h3 with q | q
      · exact M.s2 t y ht1 q h4
      · rw [q]; exact hS.irrefl _
    exact hS.ntrans _ _ _ k3 (hS.ntrans _ _ _ k1 k2)
  have lt2 : ∀ x y, s ≤ x → x < m → m ≤ y → y < t → ltS lt d[x]! d[y]! = false := fun x y h1 h2 h3 h4 => by
    have k1 := c2 (by omega) (by omega)
    have k0 : ltS lt d[s]! d[t - 1]! = false := by
      rw [ltS_up hlt (M.old s (t - 1) hs1 (by omega) (by omega) (by omega)), k1]; rfl
    have k2 : ltS lt d[x]! d[s]! = false := by
      rcases Nat.lt_or_eq_of_le h1 with q | q
      · exact M.s1 s x hs1 q h2
      · rw [q]; exact hS.irrefl _
    have k3 : ltS lt d[t - 1]! d[y]! = false := by
      rcases Nat.lt_or_eq_of_le (show y ≤ t - 1 by omega) with q | q
      · exact M.s2 y (t - 1) h3 q (by omega)
      · rw [q]; exact hS.irrefl _
    exact hS.ntrans _ _ _ k2 (hS.ntrans _ _ _ k0 k3)
  refine ⟨⟨fun p q h1 h2 h3 => ?_, fun p q h1 h2 h3 => ?_, fun p q h1 h2 h3 h4 => ?_⟩, ⟨fun p q h1 h2 h3 => ?_, fun p q h1 h2 h3 => ?_, fun p q h1 h2 h3 h4 => ?_⟩, fun x y h1 h2 h3 h4 => ?_⟩
  · rw [v1 p (by omega), v1 q h3]; exact M.s1 p q h1 h2 (by omega)
  · rw [v2 p h1 (by omega), v2 q (by omega) h3]; exact M.s2 _ _ (by omega) (by omega) (by omega)
  · rw [v1 p h2, v2 q h3 h4]; exact M.old _ _ h1 (by omega) (by omega) (by omega)
  · rw [v3 p h1 (by omega), v3 q (by omega) h3]; exact M.s1 _ _ (by omega) (by omega) (by omega)
  · rw [v4 p h1, v4 q (by omega)]; exact M.s2 _ _ (by omega) h2 h3
  · rw [v3 p h1 h2, v4 q h3]; exact M.old _ _ (by omega) (by omega) (by omega) h4
  · by_cases x1 : x < s
    · rw [v1 x x1]
      by_cases y1 : y < t
      · rw [v3 y h3 y1]; exact M.s1 x (y - (t - m)) h1 (by omega) (by omega)
      · rw [v4 y (by omega)]; exact le1 x y h1 x1 (by omega) h4
    · rw [v2 x (by omega) h2]
      by_cases y1 : y < t
      · rw [v3 y h3 y1]; exact lt2 (y - (t - m)) (m + (x - s)) (by omega) (by omega) (by omega) (by omega)
      · rw [v4 y (by omega)]; exact M.s2 _ _ (by omega) (by omega) h4

theorem glue2 {f : Int → Int → Bool} {mid : Nat} (hL : SortedIn f a mid R) (hR : SortedIn f mid e R) (hx : ∀ x y, a ≤ x → x < mid → mid ≤ y → y < e → f R[y]! R[x]! = false) : SortedIn f a e R := fun p q h1 h2 h3 => by
  by_cases p1 : p < mid
  · by_cases q1 : q < mid
    · exact hL p q h1 h2 q1
    · exact hx p q h1 p1 (by omega) h3
  · exact hR p q (by omega) h2 h3

/-- What is sorted in both parts is sorted. -/
theorem merge_done {f : Int → Int → Bool} {mid : Nat} {R1 R2 : Array Int} (ham : a ≤ mid) (hme : mid ≤ e) (he : e ≤ R.size) (hx : ∀ x y, a ≤ x → x < mid → mid ≤ y → y < e → f R[y]! R[x]! = false) (p1 : PermIn a mid R R1) (s1 : SortedIn f a mid R1) (p2 : PermIn mid e R1 R2) (s2 : SortedIn f mid e R2) : PermIn a e R R2 ∧ SortedIn f a e R2 := by
  have he1 : e ≤ R1.size := by rw [p1.1]; exact he
  refine ⟨permIn_trans _ _ _ a e (permIn_mono _ _ a mid a e (Nat.le_refl _) hme he p1) (permIn_mono _ _ mid e a e ham (Nat.le_refl _) he1 p2), ?_⟩
  have eq2 : ∀ k, k < mid → R2[k]! = R1[k]! := fun k hk => p2.2.1 k (.inl hk)
  refine glue2 (s1.congr fun k h1 h2 => eq2 k h2) s2 fun x y h1 h2 h3 h4 => ?_
  have k1 := permIn_all R R1 a mid (fun v => ∀ y, mid ≤ y → y < e → f R[y]! v = false) (by omega) p1 (fun i h1 h2 y h3 h4 => hx i y h1 h2 h3 h4) x h1 h2
  have k2 := permIn_all R1 R2 mid e (fun v => f v R1[x]! = false) he1 p2 (fun y h3 h4 => by rw [p1.2.1 y (.inr h3)]; exact k1 y h3 h4) y h3 h4
  rw [eq2 x h2]; exact k2
end
end Wm
end

section
/- symMerge: two sorted rows made one. -/
namespace Wm
attribute [local congr] bind_congr1
attribute [local irreducible] wr
open Go.Sort (swp PermIn SortedIn SWO permIn_trans permIn_refl permIn_mono permIn_all)

theorem sort_half {x y : Nat} (h : x + y ≤ 9000) : wr .i64 ((wr .u64 (wr .i64 ((x : Int) + (y : Int)))) / 2 ^ (min (Int.toNat 1) (Go.IntKind.bits .u64))) = (((x + y) / 2 : Nat) : Int) := by
  have e1 : wr .i64 ((x : Int) + (y : Int)) = ((x + y : Nat) : Int) := by rw [wr64 (by omega) (by omega)]; omega
  have e2 : wr .u64 ((x + y : Nat) : Int) = ((x + y : Nat) : Int) := wru64 (by omega) (by omega)
  have e3 : (2 : Int) ^ (min (Int.toNat 1) (Go.IntKind.bits .u64)) = 2 := by decide
  rw [e1, e2, e3, wr64 (by omega) (by omega)]; omega

/-- A first one goes up, by n. -/
def shU (d : Array Int) (a : Nat) : Nat → Array Int
  | 0 => d
  | n + 1 => swp (shU d a n) (a + n) (a + n + 1)
theorem shU_size (d : Array Int) (a : Nat) : ∀ n, (shU d a n).size = d.size
  | 0 => rfl
  | n + 1 => by rw [shU, Go.Sort.swp_size, shU_size d a n]
theorem shU_perm {d : Array Int} {a lo hi : Nat} (hhi : hi ≤ d.size) (h1 : lo ≤ a) : ∀ n, a + n < hi → PermIn lo hi d (shU d a n)
  | 0, _ => permIn_refl _ _ _
  | n + 1, h2 => permIn_trans _ _ _ _ _ (shU_perm hhi h1 n (by omega)) (Go.Sort.swp_permIn _ lo hi _ _ (by omega) (by omega) (by omega) (by omega) (by rw [shU_size]; exact hhi))
theorem shU_get {d : Array Int} {a : Nat} : ∀ n, a + n < d.size → ∀ k, (shU d a n)[k]! = if k < a ∨ a + n < k then d[k]! else if k = a + n then d[a]! else d[k + 1]!
  | 0, _, k => by
    show d[k]! = _
    by_cases h : k = a
    · rw [if_neg (by omega), if_pos (by omega), h]
    · rw [if_pos (by omega)]
  | n + 1, h, k => by
    have ih := shU_get (d := d) (a := a) n (by omega)
    rw [shU]
    by_cases k1 : k = a + n + 1
    · rw [k1, Go.Sort.swp_right _ _ _ (by rw [shU_size]; omega), ih, if_neg (by omega), if_pos rfl, if_neg (by omega), if_pos (by omega)]
    by_cases k2 : k = a + n
    · rw [k2, Go.Sort.swp_left _ _ _ (by rw [shU_size]; omega) (by omega), ih, if_pos (by omega), if_neg (by omega), if_neg (by omega)]
    · rw [Go.Sort.swp_other _ _ _ _ k2 k1, ih]
      by_cases c : k < a ∨ a + n < k
      · rw [if_pos c, if_pos (by omega)]
      · rw [if_neg c, if_neg k2, if_neg (by omega), if_neg (by omega)]
theorem shU_rot {d : Array Int} {a i : Nat} (h1 : a + 1 ≤ i) (h2 : i ≤ d.size) (k : Nat) : (shU d a (i - 1 - a))[k]! = rotA d a (a + 1) i k := by
  rw [shU_get _ (by omega)]
  unfold rotA
  by_cases c : k < a ∨ i ≤ k
  · rw [if_pos (by omega), if_pos c]
  · rw [if_neg (by omega), if_neg c]
    by_cases c2 : k = a + (i - 1 - a)
    · rw [if_pos c2, if_neg (by omega)]; congr 1; omega
    · rw [if_neg c2, if_pos (by omega)]; congr 1; omega
/-- A last one goes down, by n. -/
def shD (d : Array Int) (m : Nat) : Nat → Array Int
  | 0 => d
  | n + 1 => swp (shD d m n) (m - n) (m - n - 1)
theorem shD_size (d : Array Int) (a : Nat) : ∀ n, (shD d a n).size = d.size
  | 0 => rfl
  | n + 1 => by rw [shD, Go.Sort.swp_size, shD_size d a n]
theorem shD_perm {d : Array Int} {m lo hi : Nat} (hhi : hi ≤ d.size) (h1 : m < hi) : ∀ n, lo + n ≤ m → PermIn lo hi d (shD d m n)
  | 0, _ => permIn_refl _ _ _
  | n + 1, h2 => permIn_trans _ _ _ _ _ (shD_perm hhi h1 n (by omega)) (Go.Sort.swp_permIn _ lo hi _ _ (by omega) (by omega) (by omega) (by omega) (by rw [shD_size]; exact hhi))
theorem shD_get {d : Array Int} {m : Nat} (hm : m < d.size) : ∀ n, n ≤ m → ∀ k, (shD d m n)[k]! = if k < m - n ∨ m < k then d[k]! else if k = m - n then d[m]! else d[k - 1]!
  | 0, _, k => by
    show d[k]! = _
    by_cases h : k = m
    · rw [if_neg (by omega), if_pos (by omega), h]
    · rw [if_pos (by omega)]
  | n + 1, h, k => by
    have ih := shD_get (d := d) hm n (by omega)
    rw [shD]
    by_cases k1 : k = m - n - 1
    · rw [k1, Go.Sort.swp_right _ _ _ (by rw [shD_size]; omega), ih, if_neg (by omega), if_pos rfl, if_neg (by omega), if_pos (by omega)]
    by_cases k2 : k = m - n
    · rw [k2, Go.Sort.swp_left _ _ _ (by rw [shD_size]; omega) (by omega), ih, if_pos (by omega), if_neg (by omega), if_neg (by omega)]
    · rw [Go.Sort.swp_other _ _ _ _ k2 k1, ih]
      by_cases c : k < m - n ∨ m < k
      · rw [if_pos c, if_pos (by omega)]
      · rw [if_neg c, if_neg k2, if_neg (by omega), if_neg (by omega)]
theorem shD_rot {d : Array Int} {m i : Nat} (h1 : i ≤ m) (h2 : m < d.size) (k : Nat) : (shD d m (m - i))[k]! = rotA d i m (m + 1) k := by
  rw [shD_get h2 _ (by omega)]
  unfold rotA
  by_cases c : k < i ∨ m + 1 ≤ k
  · rw [if_pos (by omega), if_pos c]
  · rw [if_neg (by omega), if_neg c]
    by_cases c2 : k = m - (m - i)
    · rw [if_pos c2, if_pos (by omega)]; congr 1; omega
    · rw [if_neg c2, if_neg (by omega)]; congr 1; omega

section
variable {h0 h : H} {b N f : Nat} {cs : List V} {lt : Int → Int → Bool} {d : Array Int} {c : Cap}

theorem half_in {i j : Nat} (h : i < j) : i ≤ (i + j) / 2 ∧ (i + j) / 2 < j := by omega

theorem smFind1 {R : Type} {kk : AX × List V × H → Option R} {Q : R → Prop} (A : Sw h0 b N h d) (K : Cmp h0 b N f cs lt) (hN : N ≤ 1000) {a m e : Nat} (ha : a < N) (hme : m ≤ e) (he : e ≤ N)
    (mon : ∀ k k', m ≤ k → k ≤ k' → k' < e → lt d[k']! d[a]! = true → lt d[k]! d[a]! = true)
    (out : ∀ i, m ≤ i → i ≤ e → (∀ k, m ≤ k → k < i → lt d[k]! d[a]! = true) → (∀ k, i ≤ k → k < e → lt d[k]! d[a]! = false) → ∀ g, Sw h0 b N g d → Ev (kk (.exit 0, S.slices_symMergeCmpFunc_int__c2_O (.sl b 0 N c) (.int .i64 (a : Int)) (.int .i64 (i : Int)), g)) Q) :
    Ev ((W.loop (S.slices_symMergeCmpFunc_int__c2_B W) (S.slices_symMergeCmpFunc_int__c2_E (.sl b 0 N c) (.int .i64 (a : Int)) (.fn f cs) (.int .i64 (m : Int)) (.int .i64 (e : Int))) h).bind kk) Q := by
  refine loop_ev (α := Nat × Nat) (fun q => S.slices_symMergeCmpFunc_int__c2_E (.sl b 0 N c) (.int .i64 (a : Int)) (.fn f cs) (.int .i64 (q.1 : Int)) (.int .i64 (q.2 : Int)))
    (fun q h => (m ≤ q.1 ∧ q.1 ≤ q.2 ∧ q.2 ≤ e) ∧ Sw h0 b N h d ∧ (∀ k, m ≤ k → k < q.1 → lt d[k]! d[a]! = true) ∧ (∀ k, q.2 ≤ k → k < e → lt d[k]! d[a]! = false)) (fun q _ => q.2 - q.1)
    (fun z => ∃ i, (m ≤ i ∧ i ≤ e) ∧ z.1 = .exit 0 ∧ z.2.1 = S.slices_symMergeCmpFunc_int__c2_O (.sl b 0 N c) (.int .i64 (a : Int)) (.int .i64 (i : Int)) ∧ Sw h0 b N z.2.2 d ∧ (∀ k, m ≤ k → k < i → lt d[k]! d[a]! = true) ∧ (∀ k, i ≤ k → k < e → lt d[k]! d[a]! = false)) (m, e) rfl ⟨⟨Nat.le_refl _, hme, Nat.le_refl _⟩, A, fun k h1 h2 => absurd h2 (Nat.not_lt.mpr h1), fun k h1 h2 => absurd h2 (Nat.not_lt.mpr h1)⟩ ?_ ?_
  rotate_left
  · rintro ⟨_, _, g⟩ ⟨i, ⟨h1, h2⟩, rfl, rfl, A, h3, h4⟩
    exact out i h1 h2 h3 h4 g A
  clear A out
  rintro ⟨i, j⟩ g ⟨⟨h1, h2, h3⟩, A, h4, h5⟩
  dsimp only at h1 h2 h3 h4 h5
  rw [S.slices_symMergeCmpFunc_int__c2_eq]
  by_cases hij : i < j
  · obtain ⟨q1, q2⟩ := half_in hij
    have j9 : i + j ≤ 9000 := by omega
    have hc : (i + j) / 2 < N := by omega
    have c9 : (i + j) / 2 ≤ 9000 := by omega
    have wh := sort_half j9
    generalize (i + j) / 2 = q at q1 q2 hc c9 wh
    have w1 := sort_succ c9
    have i1 := sl_idx1 (b := b) (c := c) hc
    have i2 := sl_idx1 (b := b) (c := c) ha
    have l1 := A.ld hc
    have l2 := A.ld ha
    obtain ⟨n, g1, ec, hn, A1, _⟩ := A.cmp K hc ha
    cases hl : lt d[q]! d[a]! with
    | true =>
      simp only [S.slices_symMergeCmpFunc_int__c2_S, sort_lt hij, wh, w1, i1, i2, obind, ld1_get', l1, l2, ec, asI_int, hn, hl]
      clear wh w1
      exact Ev.some (.inl ⟨(q + 1, j), rfl, rfl, ⟨⟨Nat.le_succ_of_le (Nat.le_trans h1 q1), q2, h3⟩, A1, fun k r1 r2 => mon k q r1 (Nat.le_of_lt_succ r2) (Nat.lt_of_lt_of_le q2 h3) hl, h5⟩, by dsimp only; omega⟩)
    | false =>
      simp only [S.slices_symMergeCmpFunc_int__c2_S, sort_lt hij, wh, i1, i2, obind, ld1_get', l1, l2, ec, asI_int, hn, hl]
      clear wh w1
      refine Ev.some (.inl ⟨(i, q), rfl, rfl, ⟨⟨h1, q1, Nat.le_trans (Nat.le_of_lt q2) h3⟩, A1, h4, fun k r1 r2 => ?_⟩, by dsimp only; omega⟩)
      cases hk : lt d[k]! d[a]! with
      | false => rfl
      | true => rw [mon q k (Nat.le_trans h1 q1) r1 r2 hk] at hl; cases hl
  · have he' : i = j := Nat.le_antisymm h2 (Nat.le_of_not_lt hij)
    subst he'
    simp only [S.slices_symMergeCmpFunc_int__c2_S, sort_nlt hij]
    exact Ev.some (.inr ⟨by simp, i, ⟨h1, h3⟩, rfl, rfl, A, h4, h5⟩)

theorem smFind2 {R : Type} {kk : AX × List V × H → Option R} {Q : R → Prop} (A : Sw h0 b N h d) (K : Cmp h0 b N f cs lt) (hN : N ≤ 1000) {a m : Nat} (hm : m < N) (ham : a ≤ m)
    (mon : ∀ k k', a ≤ k → k ≤ k' → k' < m → lt d[m]! d[k]! = true → lt d[m]! d[k']! = true)
    (out : ∀ i, a ≤ i → i ≤ m → (∀ k, a ≤ k → k < i → lt d[m]! d[k]! = false) → (∀ k, i ≤ k → k < m → lt d[m]! d[k]! = true) → ∀ g, Sw h0 b N g d → Ev (kk (.exit 4, S.slices_symMergeCmpFunc_int__c7_O (.sl b 0 N c) (.int .i64 (m : Int)) (.int .i64 (i : Int)), g)) Q) :
    Ev ((W.loop (S.slices_symMergeCmpFunc_int__c7_B W) (S.slices_symMergeCmpFunc_int__c7_E (.sl b 0 N c) (.int .i64 (m : Int)) (.fn f cs) (.int .i64 (a : Int)) (.int .i64 (m : Int))) h).bind kk) Q := by
  refine loop_ev (α := Nat × Nat) (fun q => S.slices_symMergeCmpFunc_int__c7_E (.sl b 0 N c) (.int .i64 (m : Int)) (.fn f cs) (.int .i64 (q.1 : Int)) (.int .i64 (q.2 : Int)))
    (fun q h => (a ≤ q.1 ∧ q.1 ≤ q.2 ∧ q.2 ≤ m) ∧ Sw h0 b N h d ∧ (∀ k, a ≤ k → k < q.1 → lt d[m]! d[k]! = false) ∧ (∀ k, q.2 ≤ k → k < m → lt d[m]! d[k]! = true)) (fun q _ => q.2 - q.1)
    (fun z => ∃ i, (a ≤ i ∧ i ≤ m) ∧ z.1 = .exit 4 ∧ z.2.1 = S.slices_symMergeCmpFunc_int__c7_O (.sl b 0 N c) (.int .i64 (m : Int)) (.int .i64 (i : Int)) ∧ Sw h0 b N z.2.2 d ∧ (∀ k, a ≤ k → k < i → lt d[m]! d[k]! = false) ∧ (∀ k, i ≤ k → k < m → lt d[m]! d[k]! = true)) (a, m) rfl ⟨⟨Nat.le_refl _, ham, Nat.le_refl _⟩, A, fun k h1 h2 => absurd h2 (Nat.not_lt.mpr h1), fun k h1 h2 => absurd h2 (Nat.not_lt.mpr h1)⟩ ?_ ?_
  rotate_left
  · rintro ⟨_, _, g⟩ ⟨i, ⟨h1, h2⟩, rfl, rfl, A, h3, h4⟩
    exact out i h1 h2 h3 h4 g A
  clear A out
  rintro ⟨i, j⟩ g ⟨⟨h1, h2, h3⟩, A, h4, h5⟩
  dsimp only at h1 h2 h3 h4 h5
  rw [S.slices_symMergeCmpFunc_int__c7_eq]
  by_cases hij : i < j
  · obtain ⟨q1, q2⟩ := half_in hij
    have j9 : i + j ≤ 9000 := by omega
    have hc : (i + j) / 2 < N := by omega
    have c9 : (i + j) / 2 ≤ 9000 := by omega
    have wh := sort_half j9
    generalize (i + j) / 2 = q at q1 q2 hc c9 wh
    have w1 := sort_succ c9
    have i1 := sl_idx1 (b := b) (c := c) hc
    have i2 := sl_idx1 (b := b) (c := c) hm
    have l1 := A.ld hc
    have l2 := A.ld hm
    obtain ⟨n, g1, ec, hn, A1, _⟩ := A.cmp K hm hc
    cases hl : lt d[m]! d[q]! with
    | false =>
      simp only [S.slices_symMergeCmpFunc_int__c7_S, sort_lt hij, wh, w1, i1, i2, obind, ld1_get', l1, l2, ec, asI_int, hn, hl, Bool.not_false]
      clear wh w1
      refine Ev.some (.inl ⟨(q + 1, j), rfl, rfl, ⟨⟨Nat.le_succ_of_le (Nat.le_trans h1 q1), q2, h3⟩, A1, fun k r1 r2 => ?_, h5⟩, by dsimp only; omega⟩)
      cases hk : lt d[m]! d[k]! with
      | false => rfl
      | true => rw [mon k q r1 (Nat.le_of_lt_succ r2) (Nat.lt_of_lt_of_le q2 h3) hk] at hl; cases hl
    | true =>
      simp only [S.slices_symMergeCmpFunc_int__c7_S, sort_lt hij, wh, i1, i2, obind, ld1_get', l1, l2, ec, asI_int, hn, hl, Bool.not_true]
      clear wh w1
      exact Ev.some (.inl ⟨(i, q), rfl, rfl, ⟨⟨h1, q1, Nat.le_trans (Nat.le_of_lt q2) h3⟩, A1, h4, fun k r1 r2 => mon q k (Nat.le_trans h1 q1) r1 r2 hl⟩, by dsimp only; omega⟩)
  · have he' : i = j := Nat.le_antisymm h2 (Nat.le_of_not_lt hij)
    subst he'
    simp only [S.slices_symMergeCmpFunc_int__c7_S, sort_nlt hij]
    exact Ev.some (.inr ⟨by simp, i, ⟨h1, h3⟩, rfl, rfl, A, h4, h5⟩)

theorem smFind3 {R : Type} {kk : AX × List V × H → Option R} {Q : R → Prop} (A : Sw h0 b N h d) (K : Cmp h0 b N f cs lt) (hN : N ≤ 1000) {s0 r0 p : Nat} {x1 x2 x3 x18 x19 : Int} (hsr : s0 ≤ r0) (hr : r0 ≤ N) (hp : ∀ k, s0 ≤ k → k < r0 → k ≤ p ∧ p - k < N) (hp9 : p ≤ 9000)
    (mon : ∀ k k', s0 ≤ k → k ≤ k' → k' < r0 → lt d[p - k]! d[k]! = true → lt d[p - k']! d[k']! = true)
    (out : ∀ i, s0 ≤ i → i ≤ r0 → (∀ k, s0 ≤ k → k < i → lt d[p - k]! d[k]! = false) → (∀ k, i ≤ k → k < r0 → lt d[p - k]! d[k]! = true) → ∀ g, Sw h0 b N g d → Ev (kk (.exit 8, S.slices_symMergeCmpFunc_int__c13_O (.sl b 0 N c) (.int .i64 x1) (.int .i64 x2) (.int .i64 x3) (.fn f cs) (.int .i64 x18) (.int .i64 x19) (.int .i64 (i : Int)), g)) Q) :
    Ev ((W.loop (S.slices_symMergeCmpFunc_int__c13_B W) (S.slices_symMergeCmpFunc_int__c13_E (.sl b 0 N c) (.int .i64 x1) (.int .i64 x2) (.int .i64 x3) (.fn f cs) (.int .i64 x18) (.int .i64 x19) (.int .i64 (s0 : Int)) (.int .i64 (r0 : Int)) (.int .i64 (p : Int))) h).bind kk) Q := by
  refine loop_ev (α := Nat × Nat) (fun q => S.slices_symMergeCmpFunc_int__c13_E (.sl b 0 N c) (.int .i64 x1) (.int .i64 x2) (.int .i64 x3) (.fn f cs) (.int .i64 x18) (.int .i64 x19) (.int .i64 (q.1 : Int)) (.int .i64 (q.2 : Int)) (.int .i64 (p : Int)))
    (fun q h => (s0 ≤ q.1 ∧ q.1 ≤ q.2 ∧ q.2 ≤ r0) ∧ Sw h0 b N h d ∧ (∀ k, s0 ≤ k → k < q.1 → lt d[p - k]! d[k]! = false) ∧ (∀ k, q.2 ≤ k → k < r0 → lt d[p - k]! d[k]! = true)) (fun q _ => q.2 - q.1)
    (fun z => ∃ i, (s0 ≤ i ∧ i ≤ r0) ∧ z.1 = .exit 8 ∧ z.2.1 = S.slices_symMergeCmpFunc_int__c13_O (.sl b 0 N c) (.int .i64 x1) (.int .i64 x2) (.int .i64 x3) (.fn f cs) (.int .i64 x18) (.int .i64 x19) (.int .i64 (i : Int)) ∧ Sw h0 b N z.2.2 d ∧ (∀ k, s0 ≤ k → k < i → lt d[p - k]! d[k]! = false) ∧ (∀ k, i ≤ k → k < r0 → lt d[p - k]! d[k]! = true)) (s0, r0) rfl ⟨⟨Nat.le_refl _, hsr, Nat.le_refl _⟩, A, fun k h1 h2 => absurd h2 (Nat.not_lt.mpr h1), fun k h1 h2 => absurd h2 (Nat.not_lt.mpr h1)⟩ ?_ ?_
  rotate_left
  · rintro ⟨_, _, g⟩ ⟨i, ⟨h1, h2⟩, rfl, rfl, A, h3, h4⟩
    exact out i h1 h2 h3 h4 g A
  clear A out
  rintro ⟨i, j⟩ g ⟨⟨h1, h2, h3⟩, A, h4, h5⟩
  dsimp only at h1 h2 h3 h4 h5
  rw [S.slices_symMergeCmpFunc_int__c13_eq]
  by_cases hij : i < j
  · obtain ⟨q1, q2⟩ := half_in hij
    have j9 : i + j ≤ 9000 := by omega
    have hc : (i + j) / 2 < N := by omega
    have c9 : (i + j) / 2 ≤ 9000 := by omega
    have wh := sort_half j9
    generalize (i + j) / 2 = q at q1 q2 hc c9 wh
    obtain ⟨p1, p2⟩ := hp q (Nat.le_trans h1 q1) (Nat.lt_of_lt_of_le q2 h3)
    have w1 := sort_succ c9
    have w2 := sort_sub p1 hp9
    have i1 := sl_idx1 (b := b) (c := c) p2
    have i2 := sl_idx1 (b := b) (c := c) hc
    have l1 := A.ld p2
    have l2 := A.ld hc
    obtain ⟨n, g1, ec, hn, A1, _⟩ := A.cmp K p2 hc
    cases hl : lt d[p - q]! d[q]! with
    | false =>
      simp only [S.slices_symMergeCmpFunc_int__c13_S, sort_lt hij, wh, w1, w2, i1, i2, obind, ld1_get', l1, l2, ec, asI_int, hn, hl, Bool.not_false]
      clear wh w1 w2
      refine Ev.some (.inl ⟨(q + 1, j), rfl, rfl, ⟨⟨Nat.le_succ_of_le (Nat.le_trans h1 q1), q2, h3⟩, A1, fun k r1 r2 => ?_, h5⟩, by dsimp only; omega⟩)
      cases hk : lt d[p - k]! d[k]! with
      | false => rfl
      | true => rw [mon k q r1 (Nat.le_of_lt_succ r2) (Nat.lt_of_lt_of_le q2 h3) hk] at hl; cases hl
    | true =>
      simp only [S.slices_symMergeCmpFunc_int__c13_S, sort_lt hij, wh, w2, i1, i2, obind, ld1_get', l1, l2, ec, asI_int, hn, hl, Bool.not_true]
      clear wh w1 w2
      exact Ev.some (.inl ⟨(i, q), rfl, rfl, ⟨⟨h1, q1, Nat.le_trans (Nat.le_of_lt q2) h3⟩, A1, h4, fun k r1 r2 => mon q k (Nat.le_trans h1 q1) r1 r2 hl⟩, by dsimp only; omega⟩)
  · have he' : i = j := Nat.le_antisymm h2 (Nat.le_of_not_lt hij)
    subst he'
    simp only [S.slices_symMergeCmpFunc_int__c13_S, sort_nlt hij]
    exact Ev.some (.inr ⟨by simp, i, ⟨h1, h3⟩, rfl, rfl, A, h4, h5⟩)

theorem smUp {R : Type} {kk : AX × List V × H → Option R} {Q : R → Prop} (A : Sw h0 b N h d) (hN : N ≤ 1000) {a i : Nat} (hai : a < i) (hi : i ≤ N)
    (out : ∀ g, Sw h0 b N g (shU d a (i - 1 - a)) → Ev (kk (.exit 2, S.slices_symMergeCmpFunc_int__c4_O, g)) Q) :
    Ev ((W.loop (S.slices_symMergeCmpFunc_int__c4_B W) (S.slices_symMergeCmpFunc_int__c4_E (.sl b 0 N c) (.int .i64 (i : Int)) (.int .i64 (a : Int))) h).bind kk) Q := by
  refine loop_ev (α := Nat) (fun q => S.slices_symMergeCmpFunc_int__c4_E (.sl b 0 N c) (.int .i64 (i : Int)) (.int .i64 ((a + q : Nat) : Int)))
    (fun q h => q ≤ i - 1 - a ∧ Sw h0 b N h (shU d a q)) (fun q _ => i - 1 - a - q)
    (fun z => z.1 = .exit 2 ∧ z.2.1 = S.slices_symMergeCmpFunc_int__c4_O ∧ Sw h0 b N z.2.2 (shU d a (i - 1 - a))) 0 rfl ⟨Nat.zero_le _, A⟩ ?_ ?_
  rotate_left
  · rintro ⟨_, _, g⟩ ⟨rfl, rfl, A⟩
    exact out g A
  clear A out
  rintro q g ⟨hq, A⟩
  rw [S.slices_symMergeCmpFunc_int__c4_eq]
  obtain ⟨n, hn⟩ : ∃ n, i = n + 1 := ⟨i - 1, by omega⟩
  have w0 : wr .i64 ((i : Int) - 1) = ((i - 1 : Nat) : Int) := by rw [hn]; exact sort_pred (i := n) (by omega)
  by_cases hqn : a + q < i - 1
  · have h1 : a + q < N := by clear w0; omega
    have h2 : a + q + 1 < N := by clear w0; omega
    have w1 := sort_succ (i := a + q) (by clear w0; omega)
    have i1 := sl_idx1 (b := b) (c := c) h1
    have i2 := sl_idx1 (b := b) (c := c) h2
    have l1 := A.ld h1
    have l2 := A.ld h2
    obtain ⟨g1, g2, s1, s2, A2, _⟩ := A.swap h1 h2
    simp only [S.slices_symMergeCmpFunc_int__c4_S, w0, sort_lt hqn, w1, i1, i2, obind, ld1_get', l1, l2, s1, s2]
    clear w0 w1
    exact Ev.some (.inl ⟨q + 1, rfl, rfl, ⟨by omega, A2⟩, by omega⟩)
  · have hqe : q = i - 1 - a := by clear w0; omega
    subst hqe
    simp only [S.slices_symMergeCmpFunc_int__c4_S, w0, sort_nlt hqn]
    exact Ev.some (.inr ⟨by simp, rfl, rfl, A⟩)

theorem smDown {R : Type} {kk : AX × List V × H → Option R} {Q : R → Prop} (A : Sw h0 b N h d) (hN : N ≤ 1000) {m i : Nat} (him : i ≤ m) (hm : m < N)
    (out : ∀ g, Sw h0 b N g (shD d m (m - i)) → Ev (kk (.exit 6, S.slices_symMergeCmpFunc_int__c9_O, g)) Q) :
    Ev ((W.loop (S.slices_symMergeCmpFunc_int__c9_B W) (S.slices_symMergeCmpFunc_int__c9_E (.sl b 0 N c) (.int .i64 (i : Int)) (.int .i64 (m : Int))) h).bind kk) Q := by
  refine loop_ev (α := Nat) (fun q => S.slices_symMergeCmpFunc_int__c9_E (.sl b 0 N c) (.int .i64 (i : Int)) (.int .i64 ((m - q : Nat) : Int)))
    (fun q h => q ≤ m - i ∧ Sw h0 b N h (shD d m q)) (fun q _ => m - i - q)
    (fun z => z.1 = .exit 6 ∧ z.2.1 = S.slices_symMergeCmpFunc_int__c9_O ∧ Sw h0 b N z.2.2 (shD d m (m - i))) 0 rfl ⟨Nat.zero_le _, A⟩ ?_ ?_
  rotate_left
  · rintro ⟨_, _, g⟩ ⟨rfl, rfl, A⟩
    exact out g A
  clear A out
  rintro q g ⟨hq, A⟩
  rw [S.slices_symMergeCmpFunc_int__c9_eq]
  by_cases hqn : i < m - q
  · have h1 : m - q < N := by omega
    have h2 : m - q - 1 < N := by omega
    obtain ⟨n, hn⟩ : ∃ n, m - q = n + 1 := ⟨m - q - 1, by omega⟩
    have w0 : wr .i64 (((m - q : Nat) : Int) - 1) = ((m - q - 1 : Nat) : Int) := by rw [hn]; exact sort_pred (i := n) (by omega)
    have i1 := sl_idx1 (b := b) (c := c) h1
    have i2 := sl_idx1 (b := b) (c := c) h2
    have l1 := A.ld h1
    have l2 := A.ld h2
    obtain ⟨g1, g2, s1, s2, A2, _⟩ := A.swap h1 h2
    simp only [S.slices_symMergeCmpFunc_int__c9_S, w0, sort_lt hqn, i1, i2, obind, ld1_get', l1, l2, s1, s2]
    clear w0
    exact Ev.some (.inl ⟨q + 1, rfl, rfl, ⟨by omega, A2⟩, by omega⟩)
  · have hqe : q = m - i := by omega
    subst hqe
    simp only [S.slices_symMergeCmpFunc_int__c9_S, sort_nlt hqn]
    exact Ev.some (.inr ⟨by simp, rfl, rfl, A⟩)
end
end Wm
end

section
/- symMerge, whole. -/
namespace Wm
attribute [local congr] bind_congr1
attribute [local irreducible] wr
open Go.Sort (swp PermIn SortedIn SWO permIn_trans permIn_refl permIn_mono permIn_all)

section
variable {h0 h : H} {b N f : Nat} {cs : List V} {lt : Int → Int → Bool} {d : Array Int} {c : Cap}

def SymPost (h0 : H) (b N : Nat) (lt : Int → Int → Bool) (a e : Nat) (d : Array Int) (z : V × H) : Prop :=
  ∃ R, z.1 = .tup [] ∧ PermIn a e d R ∧ SortedIn (ltS lt) a e R ∧ Sw h0 b N z.2 R
def SymIH (h0 : H) (b N : Nat) (c : Cap) (f : Nat) (cs : List V) (lt : Int → Int → Bool) (n : Nat) : Prop :=
  ∀ (a m e : Nat) (d : Array Int) (h : H), e - a < n → a < m → m < e → e ≤ N → Sw h0 b N h d → Mg lt a m e d →
    Ev (C 460 [.sl b 0 N c, .int .i64 (a : Int), .int .i64 (m : Int), .int .i64 (e : Int), .fn f cs] h) (SymPost h0 b N lt a e d)

theorem Mg.none {a m e : Nat} (M : Mg lt a m e d) (h : m ≤ a ∨ e ≤ m) : SortedIn (ltS lt) a e d := by
  intro p q h1 h2 h3
  rcases h with h | h
  · exact M.s2 p q (by omega) h2 h3
  · exact M.s1 p q h1 h2 (by omega)
theorem Mg.congr {a m e : Nat} {d' : Array Int} (M : Mg lt a m e d) (h : ∀ k, a ≤ k → k < e → d'[k]! = d[k]!) (ham : a ≤ m) (hme : m ≤ e) : Mg lt a m e d' :=
  ⟨M.s1.congr fun k h1 h2 => h k h1 (by omega), M.s2.congr fun k h1 h2 => h k (by omega) h2, fun i j h1 h2 h3 h4 => by rw [h i h1 (by omega), h j (by omega) h4]; exact M.old i j h1 h2 h3 h4⟩

theorem smLast (A : Sw h0 b N h d) {mid t e n : Nat} (ih : SymIH h0 b N c f cs lt n) (hn : e - mid < n) (M : Mg lt mid t e d) (he : e ≤ N) :
    Ev (S.slices_symMergeCmpFunc_int__c17_n W (.sl b 0 N c) (e : Int) (.fn f cs) (mid : Int) (t : Int) h) (SymPost h0 b N lt mid e d) := by
  by_cases h1 : mid < t
  · by_cases h2 : t < e
    · obtain ⟨⟨v, g⟩, e1, R, rfl, r1, r2, A1⟩ := ih mid t e d h hn h1 h2 he A M
      simp only [S.slices_symMergeCmpFunc_int__c17_n, sort_lt h1, sort_lt h2, W_call, e1, obind]
      exact Ev.some ⟨R, rfl, r1, r2, A1⟩
    · simp only [S.slices_symMergeCmpFunc_int__c17_n, sort_lt h1, sort_nlt h2]
      exact Ev.some ⟨d, rfl, permIn_refl _ _ _, M.none (.inr (Nat.le_of_not_lt h2)), A⟩
  · simp only [S.slices_symMergeCmpFunc_int__c17_n, sort_nlt h1]
    exact Ev.some ⟨d, rfl, permIn_refl _ _ _, M.none (.inl (Nat.le_of_not_lt h1)), A⟩

theorem smTwo (A : Sw h0 b N h d) {a s mid t e n : Nat} (ih : SymIH h0 b N c f cs lt n) (hn1 : mid - a < n) (hn : e - mid < n) (M1 : Mg lt a s mid d) (M2 : Mg lt mid t e d) (hx : ∀ x y, a ≤ x → x < mid → mid ≤ y → y < e → ltS lt d[y]! d[x]! = false) (ham : a ≤ mid) (hmt : mid ≤ t) (hte : t ≤ e) (he : e ≤ N) :
    Ev (S.slices_symMergeCmpFunc_int__c15_n W (.sl b 0 N c) (a : Int) (e : Int) (.fn f cs) (mid : Int) (s : Int) (t : Int) h) (SymPost h0 b N lt a e d) := by
  have hme : mid ≤ e := Nat.le_trans hmt hte
  have key : ∀ (R : Array Int) (g : H), PermIn a mid d R → SortedIn (ltS lt) a mid R → Sw h0 b N g R → Ev (S.slices_symMergeCmpFunc_int__K15 W .normal (S.slices_symMergeCmpFunc_int__c17_O (.sl b 0 N c) (.int .i64 (e : Int)) (.fn f cs) (.int .i64 (mid : Int)) (.int .i64 (t : Int))) g) (SymPost h0 b N lt a e d) := by
    intro R g r1 r2 A1
    rw [S.slices_symMergeCmpFunc_int__c17_n_eq]
    refine (smLast A1 ih hn (M2.congr (fun k h1 h2 => r1.2.1 k (.inr h1)) hmt hte) he).mono ?_
    rintro ⟨v, g2⟩ ⟨R2, rfl, q1, q2, A2⟩
    obtain ⟨z1, z2⟩ := merge_done ham hme (by rw [A.sz]; exact he) hx r1 r2 q1 q2
    exact ⟨R2, rfl, z1, z2, A2⟩
  simp only [S.slices_symMergeCmpFunc_int__c15_n]
  rw [S.slices_symMergeCmpFunc_int__c17_eq]
  by_cases h1 : a < s
  · by_cases h2 : s < mid
    · obtain ⟨⟨v, g⟩, e1, R, rfl, r1, r2, A1⟩ := ih a s mid d h hn1 h1 h2 (Nat.le_trans hme he) A M1
      dsimp only at A1
      simp only [S.slices_symMergeCmpFunc_int__c17_S, sort_lt h1, sort_lt h2, W_call, e1, obind]
      exact key R g r1 r2 A1
    · simp only [S.slices_symMergeCmpFunc_int__c17_S, sort_lt h1, sort_nlt h2, obind]
      exact key d h (permIn_refl _ _ _) (M1.none (.inr (Nat.le_of_not_lt h2))) A
  · simp only [S.slices_symMergeCmpFunc_int__c17_S, sort_nlt h1, obind]
    exact key d h (permIn_refl _ _ _) (M1.none (.inl (Nat.le_of_not_lt h1))) A

theorem rot_none1 {d : Array Int} {m t k : Nat} : rotA d m m t k = d[k]! := by
  unfold rotA
  by_cases h : k < m ∨ t ≤ k
  · rw [if_pos h]
  · rw [if_neg h, if_pos (by omega)]; congr 1; omega
theorem rot_none2 {d : Array Int} {s m k : Nat} : rotA d s m m k = d[k]! := by
  unfold rotA
  by_cases h : k < s ∨ m ≤ k
  · rw [if_pos h]
  · rw [if_neg h, if_neg (by omega)]; congr 1; omega

theorem smRot (A : Sw h0 b N h d) (hlt : SWO lt) (hN : N ≤ 1000) {a m e s t mid n : Nat} (ih : SymIH h0 b N c f cs lt n) (hn1 : mid - a < n) (hn : e - mid < n) (M : Mg lt a m e d) (has : a ≤ s) (hsm : s ≤ m) (hmt : m ≤ t) (hte : t ≤ e) (he : e ≤ N) (hmid : mid = s + (t - m))
    (c1 : a < s → t < e → lt d[t]! d[s - 1]! = false) (c2 : s < m → m < t → lt d[t - 1]! d[s]! = true) {x19 : Int} (ht : wr .i64 (x19 - (s : Int)) = (t : Int)) :
    Ev (S.slices_symMergeCmpFunc_int__c13_e8 W (.sl b 0 N c) (a : Int) (m : Int) (e : Int) (.fn f cs) (mid : Int) x19 (s : Int) h) (SymPost h0 b N lt a e d) := by
  have key : ∀ (R : Array Int) (g : H), PermIn s t d R → (∀ k, R[k]! = rotA d s m t k) → Sw h0 b N g R → Ev (S.slices_symMergeCmpFunc_int__K14 W .normal (S.slices_symMergeCmpFunc_int__c15_O (.sl b 0 N c) (.int .i64 (a : Int)) (.int .i64 (e : Int)) (.fn f cs) (.int .i64 (mid : Int)) (.int .i64 (s : Int)) (.int .i64 (t : Int))) g) (SymPost h0 b N lt a e d) := by
    intro R g r1 hR A1
    rw [S.slices_symMergeCmpFunc_int__c15_n_eq]
    obtain ⟨M1, M2, hx⟩ := split_merge hlt M has hsm hmt hte c1 c2 hR
    rw [← hmid] at M1 M2 hx
    refine (smTwo A1 ih hn1 hn M1 M2 hx (by omega) (by omega) hte he).mono ?_
    rintro ⟨v, g2⟩ ⟨R2, rfl, q1, q2, A2⟩
    exact ⟨R2, rfl, permIn_trans _ _ _ _ _ (permIn_mono _ _ s t a e has hte (by rw [A.sz]; exact he) r1) q1, q2, A2⟩
  simp only [S.slices_symMergeCmpFunc_int__c13_e8, ht]
  rw [S.slices_symMergeCmpFunc_int__c15_eq]
  by_cases h1 : s < m
  · by_cases h2 : m < t
    · obtain ⟨⟨v, g⟩, e1, R, rfl, r1, r2, A1⟩ := rotate_spec (c := c) A hN h1 h2 (Nat.le_trans hte he) (.fn f cs)
      dsimp only at A1
      simp only [S.slices_symMergeCmpFunc_int__c15_S, sort_lt h1, sort_lt h2, W_call, e1, obind]
      exact key R g r1 r2 A1
    · have : t = m := by omega
      subst this
      simp only [S.slices_symMergeCmpFunc_int__c15_S, sort_lt h1, sort_nlt h2, obind]
      exact key d h (permIn_refl _ _ _) (fun k => rot_none2.symm) A
  · have : s = m := by omega
    subst this
    simp only [S.slices_symMergeCmpFunc_int__c15_S, sort_nlt h1, obind]
    exact key d h (permIn_refl _ _ _) (fun k => rot_none1.symm) A

theorem sm_nums {a m e mid : Nat} (hmid : mid = (a + e) / 2) (h1 : a + 2 ≤ m) (h2 : m + 2 ≤ e) : a < mid ∧ mid < e ∧ mid - a < e - a ∧ e - mid < e - a ∧
    (mid < m → (e ≤ mid + m ∧ a ≤ mid + m - e ∧ mid + m - e ≤ mid ∧ mid + m - e ≤ m)) ∧ (¬ mid < m → m ≤ mid ∧ mid + m - 1 - a < e ∧ ∀ k, k < m → k ≤ mid + m - 1 ∧ m ≤ mid + m - 1 - k) := by
  refine ⟨by omega, by omega, by omega, by omega, fun h => ⟨by omega, by omega, by omega, by omega⟩, fun h => ⟨by omega, by omega, fun k hk => ⟨by omega, by omega⟩⟩⟩

theorem smSearch (A : Sw h0 b N h d) (K : Cmp h0 b N f cs lt) (hlt : SWO lt) (hN : N ≤ 1000) {a m e mid s0 r0 n : Nat} (ih : SymIH h0 b N c f cs lt n) (M : Mg lt a m e d) (he : e ≤ N) (hn1 : mid - a < n) (hn : e - mid < n)
    (z1 : a ≤ s0) (z2 : s0 ≤ r0) (z3 : r0 ≤ m) (z4 : ∀ k, s0 ≤ k → k < r0 → k ≤ mid + m - 1 ∧ m ≤ mid + m - 1 - k ∧ mid + m - 1 - k < e) (z5 : ∀ s, s0 ≤ s → s ≤ r0 → m ≤ mid + m - s ∧ mid + m - s ≤ e ∧ s ≤ mid) (z6 : s0 = a ∨ s0 + e = mid + m) (z7 : r0 = m ∨ r0 = mid) (z8 : 1 ≤ m) (z9 : mid + m ≤ 9000) :
    Ev (S.slices_symMergeCmpFunc_int__c11_n W (.sl b 0 N c) (a : Int) (m : Int) (e : Int) (.fn f cs) (mid : Int) ((mid + m : Nat) : Int) (s0 : Int) (r0 : Int) h) (SymPost h0 b N lt a e d) := by
  have hS := ltS_swo hlt
  have hme : m ≤ e := Nat.le_trans (z5 r0 z2 (Nat.le_refl _)).1 (z5 r0 z2 (Nat.le_refl _)).2.1
  obtain ⟨p, hp⟩ : ∃ p, mid + m = p + 1 := ⟨mid + m - 1, by omega⟩
  have hp' : mid + m - 1 = p := by omega
  have w1 : wr .i64 (((mid + m : Nat) : Int) - 1) = (p : Int) := by rw [hp]; exact sort_pred (i := p) (by omega)
  have cross : ∀ i j, a ≤ i → i < m → m ≤ j → j < e → lt d[j]! d[i]! = ltS lt d[j]! d[i]! := fun i j h1 h2 h3 h4 => (ltS_dn (lt := lt) (M.old i j h1 h2 h3 h4)).symm
  have ge1 : ∀ k k', a ≤ k → k ≤ k' → k' < m → ltS lt d[k']! d[k]! = false := fun k k' h1 h2 h3 => by
    rcases Nat.lt_or_eq_of_le h2 with q | q
    · exact M.s1 k k' h1 q h3
    · rw [q]; exact hS.irrefl _
  have ge2 : ∀ k k', m ≤ k → k ≤ k' → k' < e → ltS lt d[k']! d[k]! = false := fun k k' h1 h2 h3 => by
    rcases Nat.lt_or_eq_of_le h2 with q | q
    · exact M.s2 k k' h1 q h3
    · rw [q]; exact hS.irrefl _
  rw [hp'] at z4
  simp only [S.slices_symMergeCmpFunc_int__c11_n, w1]
  clear w1
  refine smFind3 A K hN z2 (by omega) (fun k h1 h2 => ⟨(z4 k h1 h2).1, Nat.lt_of_lt_of_le (z4 k h1 h2).2.2 he⟩) (by omega) ?_ ?_
  · intro k k' h1 h2 h3 hk
    obtain ⟨y1, y2, y3⟩ := z4 k h1 (Nat.lt_of_le_of_lt h2 h3)
    obtain ⟨x1, x2, x3⟩ := z4 k' (Nat.le_trans h1 h2) h3
    rw [cross k' (p - k') (by omega) (by omega) x2 x3]
    rw [cross k (p - k) (by omega) (by omega) y2 y3] at hk
    cases hq : ltS lt d[p - k']! d[k']! with
    | true => rfl
    | false =>
      have q1 := hS.ntrans _ _ _ hq (ge1 k k' (by omega) h2 (by omega))
      have q2 := hS.ntrans _ _ _ (ge2 (p - k') (p - k) x2 (by omega) y3) q1
      rw [hk] at q2; cases q2
  · intro s hs1 hs2 hlo hhi g A1
    show Ev (S.slices_symMergeCmpFunc_int__K13 W (.exit 8) _ _) _
    rw [S.slices_symMergeCmpFunc_int__c13_e8_eq]
    obtain ⟨y1, y2, y3⟩ := z5 s hs1 hs2
    have wt : wr .i64 (((mid + m : Nat) : Int) - (s : Int)) = ((mid + m - s : Nat) : Int) := sort_sub (by omega) z9
    refine smRot A1 hlt hN ih hn1 hn M (Nat.le_trans z1 hs1) (Nat.le_trans hs2 z3) y1 y2 he (by clear wt; omega) ?_ ?_ wt
    · clear wt
      intro q1 q2
      by_cases r : s0 < s
      · have := hlo (s - 1) (by omega) (by omega)
        rw [show p - (s - 1) = mid + m - s by omega] at this
        exact this
      · exfalso; rcases z6 with z | z <;> omega
    · clear wt
      intro q1 q2
      by_cases r : s < r0
      · have := hhi s (Nat.le_refl _) r
        rw [show p - s = mid + m - s - 1 by omega] at this
        exact this
      · exfalso; rcases z7 with z | z <;> omega

theorem sm_one {a m : Nat} : decide (((m - a : Nat) : Int) = 1) = decide (m - a = 1) := by rw [decide_eq_decide]; omega

theorem symMerge_all (K : Cmp h0 b N f cs lt) (hlt : SWO lt) (hN : N ≤ 1000) : ∀ n, SymIH h0 b N c f cs lt n
  | 0 => fun a m e d h hn => absurd hn (Nat.not_lt_zero _)
  | n + 1 => by
    intro a m e d h hn ham hme he A M
    have ih := symMerge_all K hlt hN n
    have hS := ltS_swo hlt
    have n9 : N ≤ 9000 := Nat.le_trans hN (by decide)
    refine call_ev (af := F.slices_symMergeCmpFunc_int_) (by kernel_rfl) rfl ?_
    rw [S.slices_symMergeCmpFunc_int__eq]
    have ge1 : ∀ k k', a ≤ k → k ≤ k' → k' < m → ltS lt d[k']! d[k]! = false := fun k k' h1 h2 h3 => by
      rcases Nat.lt_or_eq_of_le h2 with q | q
      · exact M.s1 k k' h1 q h3
      · rw [q]; exact hS.irrefl _
    have ge2 : ∀ k k', m ≤ k → k ≤ k' → k' < e → ltS lt d[k']! d[k]! = false := fun k k' h1 h2 h3 => by
      rcases Nat.lt_or_eq_of_le h2 with q | q
      · exact M.s2 k k' h1 q h3
      · rw [q]; exact hS.irrefl _
    have cross : ∀ i j, a ≤ i → i < m → m ≤ j → j < e → lt d[j]! d[i]! = ltS lt d[j]! d[i]! := fun i j h1 h2 h3 h4 => (ltS_dn (lt := lt) (M.old i j h1 h2 h3 h4)).symm
    have m9 : m ≤ 9000 := by omega
    have haN : a < N := by omega
    have hmN : m < N := by omega
    by_cases c1 : m - a = 1
    · -- one on the left
      have hm1 : m = a + 1 := by omega
      have fnd : Ev ((W.loop (S.slices_symMergeCmpFunc_int__c2_B W) (S.slices_symMergeCmpFunc_int__c2_E (.sl b 0 N c) (.int .i64 (a : Int)) (.fn f cs) (.int .i64 (m : Int)) (.int .i64 (e : Int))) h).bind fun p0 => S.slices_symMergeCmpFunc_int__K3 W p0.1 p0.2.1 p0.2.2) (SymPost h0 b N lt a e d) := by
        refine smFind1 A K hN haN (Nat.le_of_lt hme) he ?_ ?_
        · intro k k' h1 h2 h3 hk
          rw [cross a k' (Nat.le_refl _) ham (by omega) h3] at hk
          rw [cross a k (Nat.le_refl _) ham h1 (by omega)]
          cases hq : ltS lt d[k]! d[a]! with
          | true => rfl
          | false => rw [hS.ntrans _ _ _ (ge2 k k' h1 h2 h3) hq] at hk; cases hk
        · intro i h1 h2 h3 h4 g A1
          show Ev (S.slices_symMergeCmpFunc_int__K3 W (.exit 0) _ _) _
          rw [S.slices_symMergeCmpFunc_int__c2_e0_eq]
          simp only [S.slices_symMergeCmpFunc_int__c2_e0]
          have hiN : i ≤ N := Nat.le_trans h2 he
          refine smUp A1 hN (Nat.lt_of_lt_of_le ham h1) hiN ?_
          intro g2 A2
          show Ev (S.slices_symMergeCmpFunc_int__K9 W (.exit 2) _ _) _
          rw [S.slices_symMergeCmpFunc_int__c4_e2_eq]
          have hsz : i ≤ d.size := by rw [A.sz]; exact hiN
          exact Ev.some ⟨_, rfl, shU_perm (by rw [A.sz]; exact he) (Nat.le_refl _) _ (by omega), ins1_sorted hlt M hm1 h1 h2 h3 h4 fun k => by rw [shU_rot (by omega) hsz, hm1], A2⟩
      have w1 := sort_sub (i := m) (j := a) (Nat.le_of_lt ham) m9
      obtain ⟨aI, haI⟩ : ∃ x : Int, x = (a : Int) := ⟨_, rfl⟩
      obtain ⟨mI, hmI⟩ : ∃ x : Int, x = (m : Int) := ⟨_, rfl⟩
      rw [← haI] at fnd w1 ⊢; rw [← hmI] at fnd w1 ⊢
      simp only [S.slices_symMergeCmpFunc_int_, w1, sm_one, decide_eq_true c1]
      exact fnd
    by_cases c2 : e - m = 1
    · -- one on the right
      have he1 : e = m + 1 := by omega
      have fnd : Ev ((W.loop (S.slices_symMergeCmpFunc_int__c7_B W) (S.slices_symMergeCmpFunc_int__c7_E (.sl b 0 N c) (.int .i64 (m : Int)) (.fn f cs) (.int .i64 (a : Int)) (.int .i64 (m : Int))) h).bind fun p0 => S.slices_symMergeCmpFunc_int__K6 W p0.1 p0.2.1 p0.2.2) (SymPost h0 b N lt a e d) := by
        refine smFind2 A K hN hmN (Nat.le_of_lt ham) ?_ ?_
        · intro k k' h1 h2 h3 hk
          rw [cross k m h1 (by omega) (Nat.le_refl _) hme] at hk
          rw [cross k' m (by omega) h3 (Nat.le_refl _) hme]
          cases hq : ltS lt d[m]! d[k']! with
          | true => rfl
          | false => rw [hS.ntrans _ _ _ hq (ge1 k k' h1 h2 h3)] at hk; cases hk
        · intro i h1 h2 h3 h4 g A1
          show Ev (S.slices_symMergeCmpFunc_int__K6 W (.exit 4) _ _) _
          rw [S.slices_symMergeCmpFunc_int__c7_e4_eq]
          simp only [S.slices_symMergeCmpFunc_int__c7_e4]
          refine smDown A1 hN h2 hmN ?_
          intro g2 A2
          show Ev (S.slices_symMergeCmpFunc_int__K11 W (.exit 6) _ _) _
          rw [S.slices_symMergeCmpFunc_int__c9_e6_eq]
          have hsz : m < d.size := by rw [A.sz]; exact hmN
          exact Ev.some ⟨_, rfl, shD_perm (by rw [A.sz]; exact he) hme _ (by omega), ins2_sorted hlt M he1 h1 h2 h3 h4 fun k => by rw [shD_rot h2 hsz, he1], A2⟩
      have w1 := sort_sub (i := m) (j := a) (Nat.le_of_lt ham) m9
      have w2 := sort_sub (i := e) (j := m) (Nat.le_of_lt hme) (Nat.le_trans he n9)
      obtain ⟨aI, haI⟩ : ∃ x : Int, x = (a : Int) := ⟨_, rfl⟩
      obtain ⟨mI, hmI⟩ : ∃ x : Int, x = (m : Int) := ⟨_, rfl⟩
      obtain ⟨eI, heI⟩ : ∃ x : Int, x = (e : Int) := ⟨_, rfl⟩
      rw [← haI] at fnd w1 ⊢; rw [← hmI] at fnd w1 w2 ⊢; rw [← heI] at w2 ⊢
      simp only [S.slices_symMergeCmpFunc_int_, w1, w2, sm_one, decide_eq_false c1, decide_eq_true c2]
      exact fnd
    -- both longer
    obtain ⟨mid, hmid⟩ : ∃ mid, mid = (a + e) / 2 := ⟨_, rfl⟩
    obtain ⟨u1, u2, u3, u4, u5, u6⟩ := sm_nums hmid (show a + 2 ≤ m by omega) (show m + 2 ≤ e by omega)
    have hmm : mid + m ≤ 9000 := by omega
    have hml : 1 ≤ m := by omega
    have big : Ev ((S.slices_symMergeCmpFunc_int__c11_B W (S.slices_symMergeCmpFunc_int__c11_E (.sl b 0 N c) (.int .i64 (a : Int)) (.int .i64 (m : Int)) (.int .i64 (e : Int)) (.fn f cs) (.int .i64 (mid : Int)) (.int .i64 ((mid + m : Nat) : Int))) h).bind fun p0 => S.slices_symMergeCmpFunc_int__K7 W p0.1 p0.2.1 p0.2.2) (SymPost h0 b N lt a e d) := by
      rw [S.slices_symMergeCmpFunc_int__c11_eq]
      by_cases hc : mid < m
      · obtain ⟨v1, v2, v3, v4⟩ := u5 hc
        have w3 := sort_sub (i := mid + m) (j := e) v1 hmm
        simp only [S.slices_symMergeCmpFunc_int__c11_S, sort_lt hc, w3, obind]
        clear w3
        show Ev (S.slices_symMergeCmpFunc_int__K7 W .normal _ _) _
        rw [S.slices_symMergeCmpFunc_int__c11_n_eq]
        exact smSearch A K hlt hN ih M he (by omega) (by omega) v2 v3 (Nat.le_of_lt hc) (fun k h1 h2 => ⟨by omega, by omega, by omega⟩) (fun s h1 h2 => ⟨by omega, by omega, h2⟩) (.inr (by omega)) (.inr rfl) hml hmm
      · obtain ⟨v1, v2, v3⟩ := u6 hc
        simp only [S.slices_symMergeCmpFunc_int__c11_S, sort_nlt hc, obind]
        show Ev (S.slices_symMergeCmpFunc_int__K7 W .normal _ _) _
        rw [S.slices_symMergeCmpFunc_int__c11_n_eq]
        exact smSearch A K hlt hN ih M he (by omega) (by omega) (Nat.le_refl _) (Nat.le_of_lt ham) (Nat.le_refl _) (fun k h1 h2 => ⟨(v3 k h2).1, (v3 k h2).2, by omega⟩) (fun s h1 h2 => ⟨by omega, by omega, by omega⟩) (.inl rfl) (.inl rfl) hml hmm
    have ae9 : a + e ≤ 9000 := by omega
    have w1 := sort_sub (i := m) (j := a) (Nat.le_of_lt ham) m9
    have w2 := sort_sub (i := e) (j := m) (Nat.le_of_lt hme) (Nat.le_trans he n9)
    have w3 := sort_half (x := a) (y := e) ae9
    have w4 := sort_add (i := mid) (j := m) hmm
    rw [← hmid] at w3
    obtain ⟨aI, haI⟩ : ∃ x : Int, x = (a : Int) := ⟨_, rfl⟩
    obtain ⟨mI, hmI⟩ : ∃ x : Int, x = (m : Int) := ⟨_, rfl⟩
    obtain ⟨eI, heI⟩ : ∃ x : Int, x = (e : Int) := ⟨_, rfl⟩
    rw [← haI] at big w1 w3 ⊢; rw [← hmI] at big w1 w2 w4 ⊢; rw [← heI] at big w2 w3 ⊢
    simp only [S.slices_symMergeCmpFunc_int_, w1, w2, sm_one, decide_eq_false c1, decide_eq_false c2, w3, w4]
    exact big
end
end Wm
end

section
/- partialInsertionSort. -/
namespace Wm
attribute [local congr] bind_congr1
attribute [local irreducible] wr
open Go.Sort (swp scanSorted shiftDown shiftUp partialIns)

section
variable {h0 h : H} {b N f : Nat} {cs : List V} {lt : Int → Int → Bool} {d : Array Int} {c : Cap}

theorem piScan {R : Type} {kk : AX × List V × H → Option R} {Q : R → Prop} (A : Sw h0 b N h d) (K : Cmp h0 b N f cs lt) (hN : N ≤ 1000) {a e i : Nat} {x : Int} (hi1 : 1 ≤ i) (hi : i ≤ e) (he : e ≤ N)
    (out : ∀ p, i ≤ p → p ≤ e → p = scanSorted lt d e i → ∀ g, Sw h0 b N g d → Ev (kk (.exit 2, S.slices_partialInsertionSortCmpFunc_int__c4_O (.sl b 0 N c) (.int .i64 (a : Int)) (.int .i64 (e : Int)) (.fn f cs) (.int .i64 (p : Int)) (.int .i64 x), g)) Q) :
    Ev ((W.loop (S.slices_partialInsertionSortCmpFunc_int__c4_B W) (S.slices_partialInsertionSortCmpFunc_int__c4_E (.sl b 0 N c) (.int .i64 (a : Int)) (.int .i64 (e : Int)) (.fn f cs) (.int .i64 (i : Int)) (.int .i64 x)) h).bind kk) Q := by
  refine loop_ev (α := Nat) (fun q => S.slices_partialInsertionSortCmpFunc_int__c4_E (.sl b 0 N c) (.int .i64 (a : Int)) (.int .i64 (e : Int)) (.fn f cs) (.int .i64 (q : Int)) (.int .i64 x))
    (fun q h => (i ≤ q ∧ q ≤ e) ∧ Sw h0 b N h d ∧ scanSorted lt d e q = scanSorted lt d e i) (fun q _ => e - q)
    (fun z => ∃ q, (i ≤ q ∧ q ≤ e) ∧ z.1 = .exit 2 ∧ z.2.1 = S.slices_partialInsertionSortCmpFunc_int__c4_O (.sl b 0 N c) (.int .i64 (a : Int)) (.int .i64 (e : Int)) (.fn f cs) (.int .i64 (q : Int)) (.int .i64 x) ∧ Sw h0 b N z.2.2 d ∧ q = scanSorted lt d e i) i rfl ⟨⟨Nat.le_refl _, hi⟩, A, rfl⟩ ?_ ?_
  rotate_left
  · rintro ⟨_, _, g⟩ ⟨q, ⟨hq1, hq⟩, rfl, rfl, A, hqe⟩
    exact out q hq1 hq hqe g A
  rintro q g ⟨⟨hq1, hq⟩, A, hd⟩
  rw [S.slices_partialInsertionSortCmpFunc_int__c4_eq]
  rw [scanSorted] at hd
  by_cases hqe : q < e
  · have hqN : q < N := Nat.lt_of_lt_of_le hqe he
    obtain ⟨m, rfl⟩ : ∃ m, q = m + 1 := ⟨q - 1, by omega⟩
    have hmN : m < N := Nat.lt_of_succ_lt hqN
    have i1 := sl_idx1 (b := b) (c := c) hqN
    have i2 := sl_idx1 (b := b) (c := c) hmN
    have l1 := A.ld hqN
    have l2 := A.ld hmN
    have k1 := sort_lt hqe
    obtain ⟨n, g1, ec, hn, A1, _⟩ := A.cmp K hqN hmN
    have n9 : m + 1 ≤ 9000 := Nat.le_trans (Nat.le_of_lt hqN) (Nat.le_trans hN (by decide))
    have w1 := sort_pred n9
    have w2 := sort_succ n9
    rw [Nat.add_sub_cancel] at hd
    cases hl : lt d[m + 1]! d[m]! with
    | false =>
      rw [if_pos (by rw [hl]; simpa using hqe)] at hd
      simp only [S.slices_partialInsertionSortCmpFunc_int__c4_S, k1, w1, i1, i2, obind, ld1_get', l1, l2, ec, asI_int, hn, hl, w2, Bool.not_false]
      exact Ev.some (.inl ⟨m + 1 + 1, rfl, rfl, ⟨⟨Nat.le_succ_of_le hq1, hqe⟩, A1, hd⟩, Nat.sub_lt_sub_left hqe (Nat.lt_succ_self _)⟩)
    | true =>
      rw [if_neg (by rw [hl]; simp)] at hd
      simp only [S.slices_partialInsertionSortCmpFunc_int__c4_S, k1, w1, i1, i2, obind, ld1_get', l1, l2, ec, asI_int, hn, hl, Bool.not_true]
      exact Ev.some (.inr ⟨by simp, m + 1, ⟨hq1, hq⟩, rfl, rfl, A1, hd⟩)
  · rw [if_neg (by simpa using fun z => absurd z hqe)] at hd
    simp only [S.slices_partialInsertionSortCmpFunc_int__c4_S, sort_nlt hqe]
    exact Ev.some (.inr ⟨by simp, q, ⟨hq1, hq⟩, rfl, rfl, A, hd⟩)

theorem piDown {R : Type} {kk : AX × List V × H → Option R} {Q : R → Prop} (A : Sw h0 b N h d) (K : Cmp h0 b N f cs lt) (hN : N ≤ 1000) {a e i j : Nat} {x : Int} (hj : j < N)
    (out : ∀ g, Sw h0 b N g (shiftDown lt j d) → Ev (kk (.exit 4, S.slices_partialInsertionSortCmpFunc_int__c6_O (.sl b 0 N c) (.int .i64 (a : Int)) (.int .i64 (e : Int)) (.fn f cs) (.int .i64 (i : Int)) (.int .i64 x), g)) Q) :
    Ev ((W.loop (S.slices_partialInsertionSortCmpFunc_int__c6_B W) (S.slices_partialInsertionSortCmpFunc_int__c6_E (.sl b 0 N c) (.int .i64 (a : Int)) (.int .i64 (e : Int)) (.fn f cs) (.int .i64 (i : Int)) (.int .i64 x) (.int .i64 (j : Int))) h).bind kk) Q := by
  refine loop_ev (α := Nat × Array Int) (fun q => S.slices_partialInsertionSortCmpFunc_int__c6_E (.sl b 0 N c) (.int .i64 (a : Int)) (.int .i64 (e : Int)) (.fn f cs) (.int .i64 (i : Int)) (.int .i64 x) (.int .i64 (q.1 : Int)))
    (fun q h => q.1 < N ∧ Sw h0 b N h q.2 ∧ shiftDown lt q.1 q.2 = shiftDown lt j d) (fun q _ => q.1)
    (fun z => z.1 = .exit 4 ∧ z.2.1 = S.slices_partialInsertionSortCmpFunc_int__c6_O (.sl b 0 N c) (.int .i64 (a : Int)) (.int .i64 (e : Int)) (.fn f cs) (.int .i64 (i : Int)) (.int .i64 x) ∧ Sw h0 b N z.2.2 (shiftDown lt j d)) (j, d) rfl ⟨hj, A, rfl⟩ ?_ ?_
  rotate_left
  · rintro ⟨_, _, g⟩ ⟨rfl, rfl, A⟩
    exact out g A
  generalize shiftDown lt j d = D
  clear out hj A
  rintro ⟨q, d1⟩ g ⟨hq, A, hd⟩
  dsimp only at hq A hd
  rw [S.slices_partialInsertionSortCmpFunc_int__c6_eq]
  cases q with
  | zero =>
    rw [shiftDown] at hd
    have k1 : decide (1 ≤ ((0 : Nat) : Int)) = false := rfl
    simp only [S.slices_partialInsertionSortCmpFunc_int__c6_S, k1]
    exact Ev.some (.inr ⟨by simp, rfl, rfl, hd ▸ A⟩)
  | succ m =>
    have hm : m < N := Nat.lt_of_succ_lt hq
    have k1 : decide (1 ≤ ((m + 1 : Nat) : Int)) = true := decide_eq_true (by omega)
    have w1 := sort_pred (i := m) (Nat.le_trans (Nat.le_of_lt hq) (Nat.le_trans hN (by decide)))
    have i1 := sl_idx1 (b := b) (c := c) hq
    have i2 := sl_idx1 (b := b) (c := c) hm
    have l1 := A.ld hq
    have l2 := A.ld hm
    obtain ⟨n, g1, ec, hn, A1, _⟩ := A.cmp K hq hm
    have l3 := A1.ld hq
    have l4 := A1.ld hm
    obtain ⟨g2, g3, s1, s2, A3, _⟩ := A1.swap hq hm
    rw [shiftDown] at hd
    cases hl : lt d1[m + 1]! d1[m]! with
    | true =>
      rw [if_neg (by rw [hl]; simp)] at hd
      simp only [S.slices_partialInsertionSortCmpFunc_int__c6_S, k1, w1, i1, i2, obind, ld1_get', l1, l2, ec, asI_int, hn, hl, Bool.not_true, l3, l4, s1, s2]
      exact Ev.some (.inl ⟨(m, _), rfl, rfl, ⟨hm, A3, hd⟩, Nat.lt_succ_self m⟩)
    | false =>
      rw [if_pos (by rw [hl]; rfl)] at hd
      simp only [S.slices_partialInsertionSortCmpFunc_int__c6_S, k1, w1, i1, i2, obind, ld1_get', l1, l2, ec, asI_int, hn, hl, Bool.not_false]
      exact Ev.some (.inr ⟨by simp, rfl, rfl, hd ▸ A1⟩)

theorem piUp {R : Type} {kk : AX × List V × H → Option R} {Q : R → Prop} (A : Sw h0 b N h d) (K : Cmp h0 b N f cs lt) (hN : N ≤ 1000) {a e i j : Nat} {x : Int} (hj1 : 1 ≤ j) (he : e ≤ N)
    (out : ∀ g, Sw h0 b N g (shiftUp lt e j d) → Ev (kk (.exit 6, S.slices_partialInsertionSortCmpFunc_int__c7_O (.sl b 0 N c) (.int .i64 (a : Int)) (.int .i64 (e : Int)) (.fn f cs) (.int .i64 (i : Int)) (.int .i64 x), g)) Q) :
    Ev ((W.loop (S.slices_partialInsertionSortCmpFunc_int__c7_B W) (S.slices_partialInsertionSortCmpFunc_int__c7_E (.sl b 0 N c) (.int .i64 (a : Int)) (.int .i64 (e : Int)) (.fn f cs) (.int .i64 (i : Int)) (.int .i64 x) (.int .i64 (j : Int))) h).bind kk) Q := by
  refine loop_ev (α := Nat × Array Int) (fun q => S.slices_partialInsertionSortCmpFunc_int__c7_E (.sl b 0 N c) (.int .i64 (a : Int)) (.int .i64 (e : Int)) (.fn f cs) (.int .i64 (i : Int)) (.int .i64 x) (.int .i64 (q.1 : Int)))
    (fun q h => 1 ≤ q.1 ∧ Sw h0 b N h q.2 ∧ shiftUp lt e q.1 q.2 = shiftUp lt e j d) (fun q _ => e - q.1)
    (fun z => z.1 = .exit 6 ∧ z.2.1 = S.slices_partialInsertionSortCmpFunc_int__c7_O (.sl b 0 N c) (.int .i64 (a : Int)) (.int .i64 (e : Int)) (.fn f cs) (.int .i64 (i : Int)) (.int .i64 x) ∧ Sw h0 b N z.2.2 (shiftUp lt e j d)) (j, d) rfl ⟨hj1, A, rfl⟩ ?_ ?_
  rotate_left
  · rintro ⟨_, _, g⟩ ⟨rfl, rfl, A⟩
    exact out g A
  generalize shiftUp lt e j d = D
  clear out hj1 A
  rintro ⟨q, d1⟩ g ⟨hq1, A, hd⟩
  dsimp only at hq1 A hd
  rw [S.slices_partialInsertionSortCmpFunc_int__c7_eq]
  rw [shiftUp] at hd
  by_cases hqe : q < e
  · have hq : q < N := Nat.lt_of_lt_of_le hqe he
    obtain ⟨m, rfl⟩ : ∃ m, q = m + 1 := ⟨q - 1, by omega⟩
    have hm : m < N := Nat.lt_of_succ_lt hq
    have k1 := sort_lt hqe
    have n9 : m + 1 ≤ 9000 := Nat.le_trans (Nat.le_of_lt hq) (Nat.le_trans hN (by decide))
    have w1 := sort_pred n9
    have w2 := sort_succ n9
    have i1 := sl_idx1 (b := b) (c := c) hq
    have i2 := sl_idx1 (b := b) (c := c) hm
    have l1 := A.ld hq
    have l2 := A.ld hm
    obtain ⟨n, g1, ec, hn, A1, _⟩ := A.cmp K hq hm
    have l3 := A1.ld hq
    have l4 := A1.ld hm
    obtain ⟨g2, g3, s1, s2, A3, _⟩ := A1.swap hq hm
    rw [if_pos hqe, Nat.add_sub_cancel] at hd
    cases hl : lt d1[m + 1]! d1[m]! with
    | true =>
      rw [if_neg (by rw [hl]; simp)] at hd
      simp only [S.slices_partialInsertionSortCmpFunc_int__c7_S, k1, w1, w2, i1, i2, obind, ld1_get', l1, l2, ec, asI_int, hn, hl, Bool.not_true, l3, l4, s1, s2]
      exact Ev.some (.inl ⟨(m + 1 + 1, _), rfl, rfl, ⟨Nat.le_succ_of_le hq1, A3, hd⟩, Nat.sub_lt_sub_left hqe (Nat.lt_succ_self _)⟩)
    | false =>
      rw [if_pos (by rw [hl]; rfl)] at hd
      simp only [S.slices_partialInsertionSortCmpFunc_int__c7_S, k1, w1, w2, i1, i2, obind, ld1_get', l1, l2, ec, asI_int, hn, hl, Bool.not_false]
      exact Ev.some (.inr ⟨by simp, rfl, rfl, hd ▸ A1⟩)
  · rw [if_neg hqe] at hd
    simp only [S.slices_partialInsertionSortCmpFunc_int__c7_S, sort_nlt hqe]
    exact Ev.some (.inr ⟨by simp, rfl, rfl, hd ▸ A⟩)

theorem piNext {k : Nat} (hk : k ≤ 9000) : wr .i64 ((k : Int) + 1) = ((k + 1 : Nat) : Int) := sort_succ hk
theorem piSteps {k : Nat} : decide ((k : Int) < 5) = decide (k < 5) := by rw [decide_eq_decide]; omega
theorem piTwo {i a : Nat} : decide (2 ≤ ((i - a : Nat) : Int)) = decide (i - a ≥ 2) := by rw [decide_eq_decide]; omega
theorem piFifty {i a : Nat} : decide (((i - a : Nat) : Int) < 50) = decide (i - a < 50) := by rw [decide_eq_decide]; omega
theorem piEq {i a : Nat} : decide ((i : Int) = (a : Int)) = decide (i = a) := by rw [decide_eq_decide]; omega

/-- What a round comes to. -/
def PiPost (h0 : H) (b N : Nat) (c : Cap) (f : Nat) (cs : List V) (lt : Int → Int → Bool) (a e s i k : Nat) (d : Array Int) (z : AX × List V × H) : Prop :=
  (z.1 = .ret ∧ z.2.1 = S.slices_partialInsertionSortCmpFunc_int__c1_O (.bool (partialIns lt a e (s + 1) i d).2) ∧ Sw h0 b N z.2.2 (partialIns lt a e (s + 1) i d).1) ∨
  (∃ i' d', (i ≤ i' ∧ i' ≤ e) ∧ z.1 = .normal ∧ z.2.1 = S.slices_partialInsertionSortCmpFunc_int__c1_E (.sl b 0 N c) (.int .i64 (a : Int)) (.int .i64 (e : Int)) (.fn f cs) (.int .i64 (i' : Int)) (.int .i64 ((k + 1 : Nat) : Int)) ∧ Sw h0 b N z.2.2 d' ∧ partialIns lt a e (s + 1) i d = partialIns lt a e s i' d')

theorem piUp_spec (A : Sw h0 b N h d) (K : Cmp h0 b N f cs lt) (hN : N ≤ 1000) {a e i k : Nat} (hk : k ≤ 100) (hie : i < e) (he : e ≤ N) {Q : AX × List V × H → Prop}
    (out : ∀ g, Sw h0 b N g (if e - i ≥ 2 then shiftUp lt e (i + 1) d else d) → Q (.normal, S.slices_partialInsertionSortCmpFunc_int__c1_E (.sl b 0 N c) (.int .i64 (a : Int)) (.int .i64 (e : Int)) (.fn f cs) (.int .i64 (i : Int)) (.int .i64 ((k + 1 : Nat) : Int)), g)) :
    Ev (S.slices_partialInsertionSortCmpFunc_int__c6_e4 W (.sl b 0 N c) (a : Int) (e : Int) (.fn f cs) (i : Int) (k : Int) h) Q := by
  have n9 : N ≤ 9000 := Nat.le_trans hN (by decide)
  have w1 := piNext (k := k) (Nat.le_trans hk (by decide))
  have w2 := sort_sub (i := e) (j := i) (Nat.le_of_lt hie) (Nat.le_trans he n9)
  have w3 := sort_succ (i := i) (Nat.le_trans (Nat.le_of_lt (Nat.lt_of_lt_of_le hie he)) n9)
  by_cases h2 : e - i ≥ 2
  · rw [if_pos h2] at out
    simp only [S.slices_partialInsertionSortCmpFunc_int__c6_e4, w2, w3, piTwo, decide_eq_true h2]
    refine piUp A K hN (Nat.succ_le_succ (Nat.zero_le _)) he ?_
    intro g A
    show Ev (S.slices_partialInsertionSortCmpFunc_int__K10 W (.exit 6) _ _) _
    rw [S.slices_partialInsertionSortCmpFunc_int__c7_e6_eq]
    simp only [S.slices_partialInsertionSortCmpFunc_int__c7_e6, w1]
    exact Ev.some (out g A)
  · rw [if_neg h2] at out
    simp only [S.slices_partialInsertionSortCmpFunc_int__c6_e4, w2, w1, piTwo, decide_eq_false h2]
    exact Ev.some (out h A)

theorem piRound_spec (A : Sw h0 b N h d) (K : Cmp h0 b N f cs lt) (hN : N ≤ 1000) {a e i k s : Nat} (hk : k < 5) (hai : a < i) (hie : i ≤ e) (he : e ≤ N) :
    Ev (S.slices_partialInsertionSortCmpFunc_int__c1_S W (.sl b 0 N c) (a : Int) (e : Int) (.fn f cs) (i : Int) (k : Int) h) (PiPost h0 b N c f cs lt a e s i k d) := by
  have n9 : N ≤ 9000 := Nat.le_trans hN (by decide)
  have hk1 : k ≤ 100 := Nat.le_trans (Nat.le_of_lt hk) (by decide)
  simp only [S.slices_partialInsertionSortCmpFunc_int__c1_S, piSteps, decide_eq_true hk]
  refine piScan A K hN (Nat.lt_of_le_of_lt (Nat.zero_le _) hai) hie he ?_
  intro p hp1 hp hpe g A
  show Ev (S.slices_partialInsertionSortCmpFunc_int__K7 W (.exit 2) _ _) _
  rw [S.slices_partialInsertionSortCmpFunc_int__c4_e2_eq]
  unfold PiPost
  rw [partialIns]
  dsimp only
  rw [← hpe]
  clear hpe
  by_cases hpe : p = e
  · rw [if_pos hpe]
    simp only [S.slices_partialInsertionSortCmpFunc_int__c4_e2, piEq, decide_eq_true hpe]
    exact Ev.some (.inl ⟨rfl, rfl, A⟩)
  rw [if_neg hpe]
  have hlt : p < e := Nat.lt_of_le_of_ne hp hpe
  have hap : a < p := Nat.lt_of_lt_of_le hai hp1
  have hpN : p < N := Nat.lt_of_lt_of_le hlt he
  have w0 := sort_sub (i := e) (j := a) (Nat.le_trans (Nat.le_of_lt hap) hp) (Nat.le_trans he n9)
  by_cases hf : e - a < 50
  · rw [if_pos hf]
    simp only [S.slices_partialInsertionSortCmpFunc_int__c4_e2, piEq, decide_eq_false hpe, w0, piFifty, decide_eq_true hf]
    exact Ev.some (.inl ⟨rfl, rfl, A⟩)
  rw [if_neg hf]
  obtain ⟨m, rfl⟩ : ∃ m, p = m + 1 := ⟨p - 1, by omega⟩
  have hmN : m < N := Nat.lt_of_succ_lt hpN
  have w1 := sort_pred (i := m) (Nat.le_trans (Nat.le_of_lt hpN) n9)
  have w2 := sort_sub (i := m + 1) (j := a) (Nat.le_of_lt hap) (Nat.le_trans (Nat.le_of_lt hpN) n9)
  have i1 := sl_idx1 (b := b) (c := c) hpN
  have i2 := sl_idx1 (b := b) (c := c) hmN
  have l1 := A.ld hpN
  have l2 := A.ld hmN
  obtain ⟨g1, g2, s1, s2, A2, _⟩ := A.swap hpN hmN
  rw [Nat.add_sub_cancel]
  clear A
  by_cases h2 : m + 1 - a ≥ 2
  · rw [if_pos h2]
    simp only [S.slices_partialInsertionSortCmpFunc_int__c4_e2, piEq, decide_eq_false hpe, w0, piFifty, decide_eq_false hf, w1, w2, i1, i2, obind, ld1_get', l1, l2, s1, s2, piTwo, decide_eq_true h2]
    refine piDown A2 K hN hmN ?_
    intro g A
    show Ev (S.slices_partialInsertionSortCmpFunc_int__K9 W (.exit 4) _ _) _
    rw [S.slices_partialInsertionSortCmpFunc_int__c6_e4_eq]
    exact piUp_spec A K hN hk1 hlt he fun g A => .inr ⟨m + 1, _, ⟨hp1, hp⟩, rfl, rfl, A, rfl⟩
  · rw [if_neg h2]
    simp only [S.slices_partialInsertionSortCmpFunc_int__c4_e2, piEq, decide_eq_false hpe, w0, piFifty, decide_eq_false hf, w1, w2, i1, i2, obind, ld1_get', l1, l2, s1, s2, piTwo, decide_eq_false h2]
    exact piUp_spec A2 K hN hk1 hlt he fun g A => .inr ⟨m + 1, _, ⟨hp1, hp⟩, rfl, rfl, A, rfl⟩

theorem partialInsertion_spec (A : Sw h0 b N h d) (K : Cmp h0 b N f cs lt) (hN : N ≤ 1000) {a e : Nat} (hae : a < e) (he : e ≤ N) :
    Ev (C 455 [.sl b 0 N c, .int .i64 (a : Int), .int .i64 (e : Int), .fn f cs] h) fun z => z.1 = .bool (Go.Sort.partialInsertionSort lt d a e).2 ∧ Sw h0 b N z.2 (Go.Sort.partialInsertionSort lt d a e).1 := by
  refine call_ev (af := F.slices_partialInsertionSortCmpFunc_int_) (by kernel_rfl) rfl ?_
  rw [S.slices_partialInsertionSortCmpFunc_int__eq]
  have n9 : N ≤ 9000 := Nat.le_trans hN (by decide)
  have w1 := sort_succ (i := a) (Nat.le_trans (Nat.le_of_lt (Nat.lt_of_lt_of_le hae he)) n9)
  simp only [S.slices_partialInsertionSortCmpFunc_int_, w1]
  unfold Go.Sort.partialInsertionSort
  refine loop_ev (α := Nat × Nat × Array Int) (fun q => S.slices_partialInsertionSortCmpFunc_int__c1_E (.sl b 0 N c) (.int .i64 (a : Int)) (.int .i64 (e : Int)) (.fn f cs) (.int .i64 (q.2.1 : Int)) (.int .i64 ((5 - q.1 : Nat) : Int)))
    (fun q h => q.1 ≤ 5 ∧ (a < q.2.1 ∧ q.2.1 ≤ e) ∧ Sw h0 b N h q.2.2 ∧ partialIns lt a e q.1 q.2.1 q.2.2 = partialIns lt a e 5 (a + 1) d) (fun q _ => q.1)
    (fun z => ((∃ v, z.1 = .exit 0 ∧ z.2.1 = S.slices_partialInsertionSortCmpFunc_int__c1_O v ∧ (partialIns lt a e 5 (a + 1) d).2 = false) ∨ z.1 = .ret ∧ z.2.1 = S.slices_partialInsertionSortCmpFunc_int__c1_O (.bool (partialIns lt a e 5 (a + 1) d).2)) ∧ Sw h0 b N z.2.2 (partialIns lt a e 5 (a + 1) d).1) (5, a + 1, d) rfl ⟨Nat.le_refl _, ⟨Nat.lt_succ_self a, hae⟩, A, rfl⟩ ?_ ?_
  rotate_left
  · generalize partialIns lt a e 5 (a + 1) d = D
    rintro ⟨_, _, g⟩ ⟨⟨v, rfl, rfl, hD⟩ | ⟨rfl, rfl⟩, A⟩
    · show Ev (S.slices_partialInsertionSortCmpFunc_int__K2 W (.exit 0) _ _) _
      rw [S.slices_partialInsertionSortCmpFunc_int__c1_e0_eq, hD]
      exact Ev.some ⟨rfl, A⟩
    · show Ev (S.slices_partialInsertionSortCmpFunc_int__K2 W .ret _ _) _
      rw [S.slices_partialInsertionSortCmpFunc_int__c1_r_eq]
      exact Ev.some ⟨rfl, A⟩
  generalize partialIns lt a e 5 (a + 1) d = D
  clear A
  rintro ⟨s, i, d1⟩ g ⟨hs, ⟨hi1, hi⟩, A, hd⟩
  dsimp only at hs hi1 hi A hd
  rw [S.slices_partialInsertionSortCmpFunc_int__c1_eq]
  cases s with
  | zero =>
    rw [partialIns] at hd
    subst hd
    simp only [S.slices_partialInsertionSortCmpFunc_int__c1_S, piSteps, Nat.sub_zero, Nat.lt_irrefl, decide_false]
    exact Ev.some (.inr ⟨by simp, .inl ⟨_, rfl, rfl, trivial⟩, A⟩)
  | succ s =>
    have hk : 5 - (s + 1) < 5 := by omega
    refine (piRound_spec (s := s) A K hN hk hi1 hi he).mono ?_
    rintro ⟨x1, e1, g1⟩ (⟨rfl, rfl, A1⟩ | ⟨i', d', ⟨hi1', hi'⟩, rfl, rfl, A1, hp⟩)
    · rw [hd] at A1 ⊢
      exact .inr ⟨by simp, .inr ⟨rfl, rfl⟩, A1⟩
    · rw [hp] at hd
      refine .inl ⟨(s, i', d'), rfl, ?_, ⟨Nat.le_of_succ_le hs, ⟨Nat.lt_of_lt_of_le hi1 hi1', hi'⟩, A1, hd⟩, Nat.lt_succ_self s⟩
      show S.slices_partialInsertionSortCmpFunc_int__c1_E _ _ _ _ _ _ = S.slices_partialInsertionSortCmpFunc_int__c1_E _ _ _ _ _ _
      rw [show 5 - (s + 1) + 1 = 5 - s from by omega]
end
end Wm
end

section
/- breakPatterns: some elements change places. -/
namespace Wm
attribute [local congr] bind_congr1
attribute [local irreducible] wr
open Go.Sort (swp bitsLen PermIn)

theorem call_closed_runB {prog : Nat → Option AFunc} {meth : Nat → Nat → Option Nat} {r n f : Nat} {af : AFunc} (hf : prog f = some af) (hc : af.closed = true) {args : List V} {v : V} (ha : V.flats args = true) (hr : run prog meth r n f args .empty = some (v, .empty)) (h : H) : callW prog meth f args h = some (v, h) := by
  cases n with
  | zero => simp [run] at hr
  | succ n =>
    refine callW_run (r := r) (n := n + 1) ?_
    simp only [run, hf] at hr ⊢
    unfold callF at hr ⊢
    simp only [hc, ha] at hr ⊢
    simp only [Option.bind_eq_some_iff] at hr ⊢
    obtain ⟨p, hp, hr⟩ := hr
    refine ⟨p, hp, ?_⟩
    split at hr
    · cases hr; rfl
    · cases hr

set_option maxRecDepth 100000 in
theorem pows_run : (List.range 65).map (fun n : Nat => runF prog meth 20 6 488 [.int .i64 (n : Int)] .empty) = (List.range 65).map fun n : Nat => some (.int .u64 ((2 ^ bitsLen n : Nat) : Int), .empty) := by kernel_rfl

theorem pow2_spec {n : Nat} (hn : n < 65) (h : H) : C 488 [.int .i64 (n : Int)] h = some (.int .u64 ((2 ^ bitsLen n : Nat) : Int), h) := by
  refine call_closed_runB (r := 20) (n := 6) (af := F.slices_nextPowerOfTwo) (by kernel_rfl) rfl (by rfl) ?_ h
  rw [← runF_eq]
  exact (List.map_inj_left.mp pows_run) n (List.mem_range.mpr hn)

set_option maxRecDepth 100000 in
theorem lens_run : (List.range 65).map (fun n : Nat => runF prog meth 20 5 406 [.int .u64 (n : Int)] .empty) = (List.range 65).map fun n : Nat => some (.int .i64 (bitsLen n : Int), .empty) := by kernel_rfl

theorem len_eq {n : Nat} (hn : n < 65) (h : H) : C 406 [.int .u64 (n : Int)] h = some (.int .i64 (bitsLen n : Int), h) := by
  refine call_closed_runB (r := 20) (n := 5) (af := F.math_bits_Len) (by kernel_rfl) rfl (by rfl) ?_ h
  rw [← runF_eq]
  exact (List.map_inj_left.mp lens_run) n (List.mem_range.mpr hn)

theorem and64_le (x : Int) {m : Nat} (hm : m < 2 ^ 64) : ∃ o : Nat, and64 x (m : Int) = (o : Int) ∧ o ≤ m := by
  refine ⟨_, rfl, ?_⟩
  rw [BitVec.toNat_and]
  refine Nat.le_trans Nat.and_le_right ?_
  rw [BitVec.toNat_ofInt]
  omega

section
variable {h0 h : H} {b N f : Nat} {cs : List V} {lt : Int → Int → Bool} {d : Array Int} {c : Cap}

theorem xor_spec {q : Nat} {r : Int} (ok : h.ok) (hq : h.get q = some (.cells [.int .u64 r] .rw)) :
    Ev (C 489 [.ptr q 0] h) fun z => ∃ r', z.1 = .int .u64 r' ∧ z.2 = h.put q (some (.cells [.int .u64 r'] .rw)) := by
  refine call_ev (af := F.slices_xorshift_Next) (by kernel_rfl) rfl ?_
  rw [S.slices_xorshift_Next_eq]
  have ld : ∀ {g : H} {x : Int}, g.get q = some (.cells [.int .u64 x] .rw) → ldB (g.get q) 0 = some (.int .u64 x) := fun e => by rw [e]; rfl
  have l1 := ld hq
  have st : ∀ {g : H} {x : Int} (y : Int), g.get q = some (.cells [.int .u64 x] .rw) → g.st 1 (.ptr q 0) (.int .u64 y) = some (g.put q (some (.cells [.int .u64 y] .rw))) := fun y e => st1_get (o := 0) e (by simp) (one_int _ _) (by simp)
  simp only [S.slices_xorshift_Next, nilc_ptr, obind, ld1_get', l1, asI_int]
  generalize wr .u64 _ = x1
  generalize xor64 _ x1 = y1
  have s1 := st y1 hq
  have g1 : (h.put q (some (.cells [.int .u64 y1] .rw))).get q = some (.cells [.int .u64 y1] .rw) := get_put_self _ _ _
  have l2 := ld g1
  simp only [s1, obind, l2, asI_int]
  generalize y1 / _ = x2
  generalize xor64 _ x2 = y2
  have s2 := st y2 g1
  rw [put_put'] at s2
  have g2 : (h.put q (some (.cells [.int .u64 y2] .rw))).get q = some (.cells [.int .u64 y2] .rw) := get_put_self _ _ _
  have l3 := ld g2
  simp only [s2, obind, l3, asI_int]
  generalize wr .u64 _ = x3
  generalize xor64 _ x3 = y3
  have s3 := st y3 g2
  rw [put_put'] at s3
  have g3 : (h.put q (some (.cells [.int .u64 y3] .rw))).get q = some (.cells [.int .u64 y3] .rw) := get_put_self _ _ _
  have l4 := ld g3
  simp only [s3, obind, l4]
  exact Ev.some ⟨y3, rfl, rfl⟩

theorem brk_nums {a e N : Nat} (he : e ≤ N) (hN : N ≤ 64) (h8 : 8 ≤ e - a) : a + (e - a) / 4 * 2 - 1 + 3 ≤ e ∧ a ≤ a + (e - a) / 4 * 2 - 1 ∧ a + (e - a) / 4 * 2 - 1 + 2 = a + (e - a) / 4 * 2 + 1 ∧ a ≤ e ∧ e - a < 65 ∧ e - a ≤ 64 ∧ (e - a) / 4 ≤ 64 ∧ a + (e - a) / 4 * 2 ≤ 200 ∧ 1 ≤ a + (e - a) / 4 * 2 ∧ a + (e - a) / 4 * 2 ≤ 9000 ∧ 0 < e - a ∧ a + (e - a) / 4 * 2 - 1 ≤ e := by omega
theorem brk_nums2 {a e N P o i : Nat} (he : e ≤ N) (hN : N ≤ 64) (h8 : 8 ≤ e - a) (b1 : 1 ≤ P) (b2 : P ≤ 2 * (e - a)) (ho : o ≤ P - 1) : o < 2 * (e - a) ∧ o ≤ 200 ∧ o ≤ 9000 ∧ (e - a ≤ o → o - (e - a) < e - a) ∧ (¬ e - a ≤ o → o < e - a) := by omega
theorem brk_nums3 {a e N o : Nat} (he : e ≤ N) (hN : N ≤ 64) (ho : o < e - a) : a + o < N ∧ a + o ≤ 9000 ∧ a + o < e := by omega
theorem brk_nums4 {a e i : Nat} (h8 : 8 ≤ e - a) (hl : i ≤ a + (e - a) / 4 * 2 + 1) : i < e := by omega
theorem brk_pow {e a P : Nat} (h : e - a ≤ 64) (b2 : P ≤ 2 * (e - a)) : P ≤ 200 ∧ P - 1 < 2 ^ 64 := by omega
theorem brk_eight {n : Nat} : decide (8 ≤ (n : Int)) = decide (8 ≤ n) := by rw [decide_eq_decide]; omega
theorem brk_tdiv {n : Nat} (hn : n ≤ 64) : wr .i64 (Int.tdiv (n : Int) 4) = ((n / 4 : Nat) : Int) := by
  have : Int.tdiv (n : Int) 4 = ((n / 4 : Nat) : Int) := rfl
  rw [this, wr64 (by omega) (by omega)]
theorem brk_mul {n : Nat} (hn : n ≤ 64) : wr .i64 ((n : Int) * 2) = ((n * 2 : Nat) : Int) := by
  rw [wr64 (by omega) (by omega)]; omega
theorem brk_u64 {n : Nat} (hn : n ≤ 64) : wr .u64 (n : Int) = (n : Int) := wru64 (by omega) (by omega)
theorem brk_pred {n : Nat} (h1 : 1 ≤ n) (hn : n ≤ 200) : wr .u64 ((n : Int) - 1) = ((n - 1 : Nat) : Int) := by rw [wru64 (by omega) (by omega)]; omega
theorem brk_i64 {n : Nat} (hn : n ≤ 200) : wr .i64 (n : Int) = (n : Int) := wr64 (by omega) (by omega)
theorem brk_pred' {n : Nat} (h1 : 1 ≤ n) (hn : n ≤ 200) : wr .i64 ((n : Int) - 1) = ((n - 1 : Nat) : Int) := by rw [wr64 (by omega) (by omega)]; omega

theorem break_spec (A : Sw h0 b N h d) (hN : N ≤ 64) {a e : Nat} (hae : a ≤ e) (he : e ≤ N) (x3 : V) :
    Ev (C 452 [.sl b 0 N c, .int .i64 (a : Int), .int .i64 (e : Int), x3] h) fun z => ∃ d', z.1 = .tup [] ∧ PermIn a e d d' ∧ Sw h0 b N z.2 d' := by
  refine call_ev (af := F.slices_breakPatternsCmpFunc_int_) (by kernel_rfl) rfl ?_
  rw [S.slices_breakPatternsCmpFunc_int__eq]
  have n9 : e ≤ 9000 := Nat.le_trans he (Nat.le_trans hN (by decide))
  by_cases h8 : 8 ≤ e - a
  rotate_left
  · have w0 := sort_sub (i := e) (j := a) hae n9
    have k0 : decide (8 ≤ ((e - a : Nat) : Int)) = false := brk_eight.trans (decide_eq_false h8)
    obtain ⟨nI, hnI⟩ : ∃ x : Int, x = ((e - a : Nat) : Int) := ⟨_, rfl⟩
    obtain ⟨aI, haI⟩ : ∃ x : Int, x = (a : Int) := ⟨_, rfl⟩
    obtain ⟨eI, heI⟩ : ∃ x : Int, x = (e : Int) := ⟨_, rfl⟩
    rw [← haI, ← heI]
    rw [← haI, ← heI, ← hnI] at w0
    rw [← hnI] at k0
    simp only [S.slices_breakPatternsCmpFunc_int_, w0, k0]
    exact Ev.some ⟨d, rfl, Go.Sort.permIn_refl _ _ _, A⟩
  obtain ⟨m1, m2, m3, m4, hn, hn', m5, m6, m7, m8, m9, m10⟩ := brk_nums he hN h8
  have w0 := sort_sub (i := e) (j := a) hae n9
  have k0 : decide (8 ≤ ((e - a : Nat) : Int)) = true := brk_eight.trans (decide_eq_true h8)
  have wu := brk_u64 hn'
  have wd := brk_tdiv hn'
  have wm := brk_mul (n := (e - a) / 4) m5
  have wa := sort_add (i := a) (j := (e - a) / 4 * 2) m8
  have wp := brk_pred' (n := a + (e - a) / 4 * 2) m7 m6
  have ws := sort_succ (i := a + (e - a) / 4 * 2) m8
  obtain ⟨q, hq⟩ : ∃ q, q = h.next := ⟨_, rfl⟩
  have hq0 : h0.next ≤ q := hq ▸ A.fr.le
  have hqb : q ≠ b := by rw [hq]; exact fun z => absurd (A.ok.lt A.at_) (by rw [z]; exact Nat.lt_irrefl _)
  have g0 : (h.new (.cells [.int .u64 0] .rw)).get q = some (.cells [.int .u64 0] .rw) := hq ▸ get_new_self _ _
  have A0 : Sw h0 b N (h.new (.cells [.int .u64 0] .rw)) d := A.fr0 ((Fr.refl A.ok).new _)
  have s0 : (h.new (.cells [.int .u64 0] .rw)).st 1 (.ptr q 0) (.int .u64 ((e - a : Nat) : Int)) = some ((h.new (.cells [.int .u64 0] .rw)).put q (some (.cells [.int .u64 ((e - a : Nat) : Int)] .rw))) := st1_get (o := 0) g0 (by simp) (one_int _ _) (by simp)
  have A1 : Sw h0 b N ((h.new (.cells [.int .u64 0] .rw)).put q (some (.cells [.int .u64 ((e - a : Nat) : Int)] .rw))) d := A0.fr' ((Fr.refl A0.ok).put (.inl (by simp)) (A0.ok.lt g0) _) hq0 hqb
  have g1 := get_put_self (h.new (.cells [.int .u64 0] .rw)) q (some (.cells [.int .u64 ((e - a : Nat) : Int)] .rw))
  have p2 := pow2_spec hn ((h.new (.cells [.int .u64 0] .rw)).put q (some (.cells [.int .u64 ((e - a : Nat) : Int)] .rw)))
  have b1 : 1 ≤ 2 ^ bitsLen (e - a) := Nat.one_le_two_pow
  have b2 : 2 ^ bitsLen (e - a) ≤ 2 * (e - a) := Go.Sort.two_pow_bitsLen_le m9
  obtain ⟨nI, hnI⟩ : ∃ x : Int, x = ((e - a : Nat) : Int) := ⟨_, rfl⟩
  obtain ⟨aI, haI⟩ : ∃ x : Int, x = (a : Int) := ⟨_, rfl⟩
  obtain ⟨eI, heI⟩ : ∃ x : Int, x = (e : Int) := ⟨_, rfl⟩
  obtain ⟨q4, hq4⟩ : ∃ x : Int, x = (((e - a) / 4 : Nat) : Int) := ⟨_, rfl⟩
  obtain ⟨q5, hq5⟩ : ∃ x : Int, x = (((e - a) / 4 * 2 : Nat) : Int) := ⟨_, rfl⟩
  obtain ⟨q6, hq6⟩ : ∃ x : Int, x = ((a + (e - a) / 4 * 2 : Nat) : Int) := ⟨_, rfl⟩
  rw [← haI, ← heI]
  rw [← haI, ← heI, ← hnI] at w0
  rw [← hnI] at k0 wu wd s0 p2 A1 g1
  rw [← hq4] at wd wm
  rw [← hq5] at wm
  rw [← haI, ← hq5, ← hq6] at wa
  rw [← hq6] at wp ws
  simp only [S.slices_breakPatternsCmpFunc_int_, w0, k0, ← hq, wu, s0, obind, W_call, p2, wd, wm, wa, wp]
  subst haI heI hnI hq4 hq5 hq6
  generalize 2 ^ bitsLen (e - a) = P at b1 b2
  generalize (h.new (.cells [.int .u64 0] .rw)).put q (some (.cells [.int .u64 ((e - a : Nat) : Int)] .rw)) = g at A1 g1
  clear p2 s0 g0 A0
  refine loop_ev (α := Nat × Array Int) (fun z => S.slices_breakPatternsCmpFunc_int__c0_E (.sl b 0 N c) (.int .i64 (a : Int)) (.int .i64 ((e - a : Nat) : Int)) (.ptr q 0) (.int .u64 (P : Int)) (.int .i64 (z.1 : Int)))
    (fun z g => (a ≤ z.1 ∧ z.1 ≤ e) ∧ (∃ r, g.get q = some (.cells [.int .u64 r] .rw)) ∧ Sw h0 b N g z.2 ∧ PermIn a e d z.2) (fun z _ => e - z.1)
    (fun z => z.1 = .exit 0 ∧ z.2.1 = S.slices_breakPatternsCmpFunc_int__c0_O ∧ ∃ d', PermIn a e d d' ∧ Sw h0 b N z.2.2 d') (a + (e - a) / 4 * 2 - 1, d) rfl ⟨⟨m2, m10⟩, ⟨_, g1⟩, A1, Go.Sort.permIn_refl _ _ _⟩ ?_ ?_
  rotate_left
  · rintro ⟨_, _, g⟩ ⟨rfl, rfl, d', hp, A⟩
    show Ev (S.slices_breakPatternsCmpFunc_int__K1 W (.exit 0) _ _) _
    rw [S.slices_breakPatternsCmpFunc_int__c0_e0_eq]
    exact Ev.some ⟨d', rfl, hp, A⟩
  clear A A1 g1 g
  rintro ⟨i, d1⟩ g ⟨⟨hi1, hi⟩, ⟨r, gq⟩, A, hp⟩
  dsimp only at hi1 hi A hp
  rw [S.slices_breakPatternsCmpFunc_int__c0_eq]
  simp only [S.slices_breakPatternsCmpFunc_int__c0_S]
  rw [S.slices_breakPatternsCmpFunc_int__c3_eq]
  by_cases hlast : i ≤ a + (e - a) / 4 * 2 + 1
  rotate_left
  · simp only [S.slices_breakPatternsCmpFunc_int__c3_S, wd, wm, wa, ws, sort_nle hlast, obind]
    show Ev (S.slices_breakPatternsCmpFunc_int__K4 W .normal _ _) _
    rw [S.slices_breakPatternsCmpFunc_int__c3_n_eq]
    simp only [S.slices_breakPatternsCmpFunc_int__c3_n]
    exact Ev.some (.inr ⟨by simp, rfl, rfl, d1, hp, A⟩)
  have hie : i < e := brk_nums4 h8 hlast
  obtain ⟨P1, P2⟩ := brk_pow hn' b2
  obtain ⟨⟨v1, g1⟩, e1, r', rfl, rfl⟩ := xor_spec A.ok gq
  obtain ⟨o, eo, ho⟩ := and64_le r' (m := P - 1) P2
  obtain ⟨o1, o2, o3, o4, o5⟩ := brk_nums2 (i := i) he hN h8 b1 b2 ho
  have wP := brk_pred b1 P1
  have wo := brk_i64 (n := o) o2
  simp only [S.slices_breakPatternsCmpFunc_int__c3_S, wd, wm, wa, ws, sort_le hlast, obind]
  show Ev (S.slices_breakPatternsCmpFunc_int__K4 W .normal _ _) _
  rw [S.slices_breakPatternsCmpFunc_int__c3_n_eq]
  simp only [S.slices_breakPatternsCmpFunc_int__c3_n]
  rw [S.slices_breakPatternsCmpFunc_int__c6_eq]
  simp only [S.slices_breakPatternsCmpFunc_int__c6_S, W_call, e1, obind, asI_int, wP, eo, wo]
  show Ev (S.slices_breakPatternsCmpFunc_int__K7 W .normal _ _) _
  rw [S.slices_breakPatternsCmpFunc_int__c6_n_eq]
  simp only [S.slices_breakPatternsCmpFunc_int__c6_n]
  have A1 : Sw h0 b N (g.put q (some (.cells [.int .u64 r'] .rw))) d1 := A.fr' ((Fr.refl A.ok).put (.inl (by simp)) (A.ok.lt gq) _) hq0 hqb
  have g1 := get_put_self g q (some (.cells [.int .u64 r'] .rw))
  generalize g.put q (some (.cells [.int .u64 r'] .rw)) = g2 at A1 g1
  have key : ∀ o2 : Nat, o2 < e - a → Ev (S.slices_breakPatternsCmpFunc_int__c8_n W (.sl b 0 N c) (a : Int) ((e - a : Nat) : Int) (.ptr q 0) (P : Int) (i : Int) (o2 : Int) g2) fun r => (∃ a' : Nat × Array Int, r.1 = .normal ∧ r.2.1 = S.slices_breakPatternsCmpFunc_int__c0_E (.sl b 0 N c) (.int .i64 (a : Int)) (.int .i64 ((e - a : Nat) : Int)) (.ptr q 0) (.int .u64 (P : Int)) (.int .i64 (a'.1 : Int)) ∧ ((a ≤ a'.1 ∧ a'.1 ≤ e) ∧ (∃ r', r.2.2.get q = some (.cells [.int .u64 r'] .rw)) ∧ Sw h0 b N r.2.2 a'.2 ∧ PermIn a e d a'.2) ∧ e - a'.1 < e - i) ∨ (r.1 ≠ .normal ∧ (r.1 = .exit 0 ∧ r.2.1 = S.slices_breakPatternsCmpFunc_int__c0_O ∧ ∃ d', PermIn a e d d' ∧ Sw h0 b N r.2.2 d')) := by
    intro o2 ho2
    obtain ⟨hx, hx9, hxe⟩ := brk_nums3 he hN ho2
    have hiN : i < N := Nat.lt_of_lt_of_le hie he
    have w3 := sort_add (i := a) (j := o2) hx9
    have w4 := sort_succ (i := i) (Nat.le_trans hi n9)
    have i1 := sl_idx1 (b := b) (c := c) hx
    have i2 := sl_idx1 (b := b) (c := c) hiN
    have l1 := A1.ld hx
    have l2 := A1.ld hiN
    obtain ⟨h5, h6, s1, s2, A2, F2⟩ := A1.swap hiN hx
    have g3 := F2.get A1.ok g1 (by simpa using hqb)
    simp only [S.slices_breakPatternsCmpFunc_int__c8_n, w3, w4, i1, i2, obind, ld1_get', l1, l2, s1, s2]
    exact Ev.some (.inl ⟨(i + 1, _), rfl, rfl, ⟨⟨Nat.le_succ_of_le hi1, hie⟩, ⟨_, g3⟩, A2, Go.Sort.permIn_trans _ _ _ a e hp (Go.Sort.swp_permIn _ a e _ _ hi1 hie (Nat.le_add_right _ _) hxe (by rw [A1.sz]; exact he))⟩, Nat.sub_lt_sub_left hie (Nat.lt_succ_self i)⟩)
  rw [S.slices_breakPatternsCmpFunc_int__c8_eq]
  by_cases hb : e - a ≤ o
  · have w5 := sort_sub (i := o) (j := e - a) hb o3
    simp only [S.slices_breakPatternsCmpFunc_int__c8_S, sort_le hb, w5, obind]
    show Ev (S.slices_breakPatternsCmpFunc_int__K8 W .normal _ _) _
    rw [S.slices_breakPatternsCmpFunc_int__c8_n_eq]
    exact key _ (o4 hb)
  · simp only [S.slices_breakPatternsCmpFunc_int__c8_S, sort_nle hb, obind]
    show Ev (S.slices_breakPatternsCmpFunc_int__K8 W .normal _ _) _
    rw [S.slices_breakPatternsCmpFunc_int__c8_n_eq]
    exact key _ (o5 hb)
end
end Wm
end

section
/- A range reversed; the pivot. -/
namespace Wm
attribute [local congr] bind_congr1
attribute [local irreducible] wr
open Go.Sort (swp reverseLoop order2 median medianAdjacent)

section
variable {h0 h : H} {b N f : Nat} {cs : List V} {lt : Int → Int → Bool} {d : Array Int} {c : Cap}

theorem reverse_spec (A : Sw h0 b N h d) (hN : N ≤ 1000) {a e : Nat} (hae : a < e) (he : e ≤ N) (x3 : V) :
    Ev (C 454 [.sl b 0 N c, .int .i64 (a : Int), .int .i64 (e : Int), x3] h) fun z => z.1 = .tup [] ∧ Sw h0 b N z.2 (Go.Sort.reverseRange d a e) := by
  refine call_ev (af := F.slices_reverseRangeCmpFunc_int_) (by kernel_rfl) rfl ?_
  rw [S.slices_reverseRangeCmpFunc_int__eq]
  obtain ⟨m, rfl⟩ : ∃ m, e = m + 1 := ⟨e - 1, by omega⟩
  simp only [S.slices_reverseRangeCmpFunc_int_, sort_pred (i := m) (Nat.le_trans he (Nat.le_trans hN (by decide)))]
  unfold Go.Sort.reverseRange
  rw [Nat.add_sub_cancel]
  refine loop_ev (α := Nat × Nat × Array Int) (fun q => S.slices_reverseRangeCmpFunc_int__c0_E (.sl b 0 N c) (.int .i64 (q.1 : Int)) (.int .i64 (q.2.1 : Int)))
    (fun q h => q.2.1 < N ∧ Sw h0 b N h q.2.2 ∧ reverseLoop q.1 q.2.1 q.2.2 = reverseLoop a m d) (fun q _ => q.2.1)
    (fun z => z.1 = .exit 0 ∧ z.2.1 = S.slices_reverseRangeCmpFunc_int__c0_O ∧ Sw h0 b N z.2.2 (reverseLoop a m d)) (a, m, d) rfl ⟨he, A, rfl⟩ ?_ ?_
  rotate_left
  · rintro ⟨_, _, g⟩ ⟨rfl, rfl, A⟩
    show Ev (S.slices_reverseRangeCmpFunc_int__K1 W (.exit 0) _ _) _
    rw [S.slices_reverseRangeCmpFunc_int__c0_e0_eq]
    exact Ev.some ⟨rfl, A⟩
  rintro ⟨i, j, d1⟩ g ⟨hj, A, hd⟩
  dsimp only at hj A hd
  rw [S.slices_reverseRangeCmpFunc_int__c0_eq]
  rw [reverseLoop] at hd
  by_cases hij : i < j
  · rw [if_pos hij] at hd
    obtain ⟨k, rfl⟩ : ∃ k, j = k + 1 := ⟨j - 1, by omega⟩
    rw [Nat.add_sub_cancel] at hd
    have hi : i < N := Nat.lt_trans hij hj
    have k9 : k + 1 ≤ 9000 := Nat.le_trans (Nat.le_of_lt hj) (Nat.le_trans hN (by decide))
    have k1 := sort_lt hij
    have w1 := sort_succ (i := i) (Nat.le_trans (Nat.le_of_lt hij) k9)
    have w2 := sort_pred k9
    have i1 := sl_idx1 (b := b) (c := c) hi
    have i2 := sl_idx1 (b := b) (c := c) hj
    have l1 := A.ld hi
    have l2 := A.ld hj
    obtain ⟨g1, g2, s1, s2, A2, _⟩ := A.swap hi hj
    simp only [S.slices_reverseRangeCmpFunc_int__c0_S, k1, w1, w2, i1, i2, obind, ld1_get', l1, l2, s1, s2]
    exact Ev.some (.inl ⟨(i + 1, k, _), rfl, rfl, ⟨Nat.lt_of_succ_lt hj, A2, hd⟩, Nat.lt_succ_self k⟩)
  · rw [if_neg hij] at hd
    simp only [S.slices_reverseRangeCmpFunc_int__c0_S, sort_nlt hij]
    exact Ev.some (.inr ⟨by simp, rfl, rfl, hd ▸ A⟩)

/-- A counter in a block of its own. -/
structure Ct (h0 : H) (b q s : Nat) (h : H) : Prop where
  at_ : h.get q = some (.cells [.int .i64 (s : Int)] .rw)
  new : h0.next ≤ q
  ne : q ≠ b

theorem order2_spec (A : Sw h0 b N h d) (K : Cmp h0 b N f cs lt) {q s : Nat} (T : Ct h0 b q s h) (hs : s ≤ 100) {i j : Nat} (hi : i < N) (hj : j < N) :
    Ev (C 512 [.sl b 0 N c, .int .i64 (i : Int), .int .i64 (j : Int), .ptr q 0, .fn f cs] h) fun z => z.1 = .tup [.int .i64 ((order2 lt d i j s).1 : Int), .int .i64 ((order2 lt d i j s).2.1 : Int)] ∧ Sw h0 b N z.2 d ∧ Ct h0 b q (order2 lt d i j s).2.2 z.2 := by
  refine call_ev (af := F.slices_order2CmpFunc_int_) (by kernel_rfl) rfl ?_
  rw [S.slices_order2CmpFunc_int__eq]
  have i1 := sl_idx1 (b := b) (c := c) hi
  have i2 := sl_idx1 (b := b) (c := c) hj
  have l1 := A.ld hi
  have l2 := A.ld hj
  obtain ⟨n, g1, ec, hn, A1, F1⟩ := A.cmp K hj hi
  have hq1 := F1.get A.ok T.at_ (by simp)
  unfold order2
  cases hl : lt d[j]! d[i]! with
  | false =>
    simp only [S.slices_order2CmpFunc_int_, i1, i2, obind, ld1_get', l1, l2, ec, asI_int, hn, hl]
    exact Ev.some ⟨rfl, A1, hq1, T.new, T.ne⟩
  | true =>
    have lq : ldB (g1.get q) 0 = some (.int .i64 (s : Int)) := by rw [hq1]; rfl
    have w1 := sort_succ (i := s) (Nat.le_trans hs (by decide))
    have sq := st1_get (o := 0) (v := .int .i64 ((s + 1 : Nat) : Int)) hq1 (by simp) (one_int _ _) (by simp)
    have F2 : Fr [q] g1 (g1.put q (some (.cells [.int .i64 ((s + 1 : Nat) : Int)] .rw))) := (Fr.refl A1.ok).put (.inl (by simp)) (A1.ok.lt hq1) _
    have sq' : g1.st 1 (.ptr q 0) (.int .i64 ((s + 1 : Nat) : Int)) = some (g1.put q (some (.cells [.int .i64 ((s + 1 : Nat) : Int)] .rw))) := sq
    simp only [S.slices_order2CmpFunc_int_, i1, i2, obind, ld1_get', l1, l2, ec, asI_int, hn, hl, nilc_ptr, lq, w1, sq']
    exact Ev.some ⟨rfl, A1.fr' F2 T.new T.ne, get_put_self _ _ _, T.new, T.ne⟩

theorem order2_in (lt : Int → Int → Bool) (d : Array Int) {i j s N : Nat} (hi : i < N) (hj : j < N) : (order2 lt d i j s).1 < N ∧ (order2 lt d i j s).2.1 < N ∧ (order2 lt d i j s).2.2 ≤ s + 1 := by
  unfold order2
  split
  · exact ⟨hj, hi, Nat.le_refl _⟩
  · exact ⟨hi, hj, Nat.le_succ _⟩

theorem median_spec (A : Sw h0 b N h d) (K : Cmp h0 b N f cs lt) {q s : Nat} (T : Ct h0 b q s h) (hs : s ≤ 90) {i j k : Nat} (hi : i < N) (hj : j < N) (hk : k < N) :
    Ev (C 491 [.sl b 0 N c, .int .i64 (i : Int), .int .i64 (j : Int), .int .i64 (k : Int), .ptr q 0, .fn f cs] h) fun z => z.1 = .int .i64 ((median lt d i j k s).1 : Int) ∧ Sw h0 b N z.2 d ∧ Ct h0 b q (median lt d i j k s).2 z.2 := by
  refine call_ev (af := F.slices_medianCmpFunc_int_) (by kernel_rfl) rfl ?_
  rw [S.slices_medianCmpFunc_int__eq]
  unfold median
  dsimp only
  obtain ⟨⟨v1, g1⟩, e1, rfl, A1, T1⟩ := order2_spec (c := c) A K T (Nat.le_trans hs (by decide)) hi hj
  dsimp only at A1 T1
  obtain ⟨p1, p2, p3⟩ := order2_in lt d (s := s) hi hj
  generalize order2 lt d i j s = r1 at e1 T1 p1 p2 p3 ⊢
  have s1 : r1.2.2 ≤ 91 := Nat.le_trans p3 (Nat.succ_le_succ hs)
  obtain ⟨⟨v2, g2⟩, e2, rfl, A2, T2⟩ := order2_spec (c := c) A1 K T1 (Nat.le_trans s1 (by decide)) p2 hk
  dsimp only at A2 T2
  obtain ⟨q1, q2, q3⟩ := order2_in lt d (s := r1.2.2) p2 hk
  generalize order2 lt d r1.2.1 k r1.2.2 = r2 at e2 T2 q1 q2 q3 ⊢
  have s2 : r2.2.2 ≤ 92 := Nat.le_trans q3 (Nat.succ_le_succ s1)
  obtain ⟨⟨v3, g3⟩, e3, rfl, A3, T3⟩ := order2_spec (c := c) A2 K T2 (Nat.le_trans s2 (by decide)) p1 q1
  dsimp only at A3 T3
  simp only [S.slices_medianCmpFunc_int_, obind, W_call, e1, List.getElem?_cons_zero, List.getElem?_cons_succ, e2, e3]
  exact Ev.some ⟨rfl, A3, T3⟩

theorem medianAdjacent_spec (A : Sw h0 b N h d) (K : Cmp h0 b N f cs lt) (hN : N ≤ 1000) {q s : Nat} (T : Ct h0 b q s h) (hs : s ≤ 90) {i : Nat} (hi : 1 ≤ i) (hi' : i + 1 < N) :
    Ev (C 490 [.sl b 0 N c, .int .i64 (i : Int), .ptr q 0, .fn f cs] h) fun z => z.1 = .int .i64 ((medianAdjacent lt d i s).1 : Int) ∧ Sw h0 b N z.2 d ∧ Ct h0 b q (medianAdjacent lt d i s).2 z.2 := by
  refine call_ev (af := F.slices_medianAdjacentCmpFunc_int_) (by kernel_rfl) rfl ?_
  rw [S.slices_medianAdjacentCmpFunc_int__eq]
  obtain ⟨m, rfl⟩ : ∃ m, i = m + 1 := ⟨i - 1, by omega⟩
  have w1 := sort_pred (i := m) (Nat.le_trans (Nat.le_of_lt (Nat.lt_of_succ_lt hi')) (Nat.le_trans hN (by decide)))
  have w2 := sort_succ (i := m + 1) (Nat.le_trans (Nat.le_of_lt (Nat.lt_of_succ_lt hi')) (Nat.le_trans hN (by decide)))
  unfold medianAdjacent
  rw [Nat.add_sub_cancel]
  obtain ⟨⟨v1, g1⟩, e1, rfl, A1, T1⟩ := median_spec (c := c) A K T hs (i := m) (j := m + 1) (k := m + 1 + 1) (Nat.lt_of_succ_lt (Nat.lt_of_succ_lt hi')) (Nat.lt_of_succ_lt hi') hi'
  dsimp only at A1 T1
  simp only [S.slices_medianAdjacentCmpFunc_int_, w1, w2, obind, W_call, e1]
  exact Ev.some ⟨rfl, A1, T1⟩
end
end Wm
end

section
/- Which pivot. -/
namespace Wm
attribute [local congr] bind_congr1
attribute [local irreducible] wr
open Go.Sort (swp choosePivot median medianAdjacent Hint)

section
variable {h0 h : H} {b N f : Nat} {cs : List V} {lt : Int → Int → Bool} {d : Array Int} {c : Cap}

def hintI : Hint → Int
  | .unknown => 0
  | .increasing => 1
  | .decreasing => 2
def hintN (n : Nat) : Hint := if n = 0 then .increasing else if n = 12 then .decreasing else .unknown

theorem hint_cases (n : Nat) : (decide ((n : Int) = 0) = true ∧ hintN n = .increasing) ∨ (decide ((n : Int) = 0) = false ∧ decide ((n : Int) = 12) = true ∧ hintN n = .decreasing) ∨ (decide ((n : Int) = 0) = false ∧ decide ((n : Int) = 12) = false ∧ hintN n = .unknown) := by
  unfold hintN
  by_cases h1 : n = 0
  · exact .inl ⟨decide_eq_true (by omega), by rw [if_pos h1]⟩
  · by_cases h2 : n = 12
    · exact .inr (.inl ⟨decide_eq_false (by omega), decide_eq_true (by omega), by rw [if_neg h1, if_pos h2]⟩)
    · exact .inr (.inr ⟨decide_eq_false (by omega), decide_eq_false (by omega), by rw [if_neg h1, if_neg h2]⟩)

theorem cho_nums {a e N : Nat} (hae : a < e) (he : e ≤ N) (hN : N ≤ 1000) : wr .i64 ((e : Int) - (a : Int)) = ((e - a : Nat) : Int) ∧ wr .i64 (Int.tdiv ((e - a : Nat) : Int) 4) = (((e - a) / 4 : Nat) : Int) ∧
    (∀ k : Nat, k ≤ 3 → wr .i64 ((((e - a) / 4 : Nat) : Int) * (k : Int)) = (((e - a) / 4 * k : Nat) : Int) ∧ wr .i64 ((a : Int) + (((e - a) / 4 * k : Nat) : Int)) = ((a + (e - a) / 4 * k : Nat) : Int) ∧ a + (e - a) / 4 * k < e ∧ (50 ≤ e - a → 1 ≤ k → 1 ≤ a + (e - a) / 4 * k ∧ a + (e - a) / 4 * k + 1 < N)) := by
  refine ⟨sort_sub (Nat.le_of_lt hae) (by omega), ?_, fun k hk => ?_⟩
  · have e2 : Int.tdiv ((e - a : Nat) : Int) 4 = (((e - a) / 4 : Nat) : Int) := rfl
    rw [e2, wr64 (by omega) (by omega)]
  · generalize hl : e - a = l
    have h1 : l / 4 * k ≤ l / 4 * 3 := Nat.mul_le_mul_left _ hk
    have h2 : l / 4 * 3 < l := by omega
    have h4 : l / 4 * 1 ≤ l / 4 * k ∨ k = 0 := by
      cases k with
      | zero => exact .inr rfl
      | succ k => exact .inl (Nat.mul_le_mul_left _ (Nat.succ_le_succ (Nat.zero_le _)))
    generalize hm : l / 4 * k = m at *
    refine ⟨?_, sort_add (by omega), by omega, fun h50 hk1 => ?_⟩
    · rw [← Int.natCast_mul, hm, wr64 (by omega) (by omega)]
    · rcases h4 with h4 | h4
      · omega
      · omega

theorem medA_in (lt : Int → Int → Bool) (d : Array Int) {i s N : Nat} (h1 : 1 ≤ i) (h2 : i + 1 < N) : (medianAdjacent lt d i s).1 < N := by
  have h3 : i < N := Nat.lt_of_succ_lt h2
  rcases Go.Sort.medianAdjacent_mem lt d i s with q | q | q <;> rw [q]
  · exact Nat.lt_of_le_of_lt (Nat.sub_le _ _) h3
  · exact h3
  · exact h2

theorem choose_spec (A : Sw h0 b N h d) (K : Cmp h0 b N f cs lt) (hN : N ≤ 1000) {a e : Nat} (hae : a < e) (he : e ≤ N) :
    Ev (C 453 [.sl b 0 N c, .int .i64 (a : Int), .int .i64 (e : Int), .fn f cs] h) fun z => z.1 = .tup [.int .i64 ((choosePivot lt d a e).1 : Int), .int .i64 (hintI (choosePivot lt d a e).2)] ∧ Sw h0 b N z.2 d := by
  refine call_ev (af := F.slices_choosePivotCmpFunc_int_) (by kernel_rfl) rfl ?_
  rw [S.slices_choosePivotCmpFunc_int__eq]
  obtain ⟨w1, w2, ws⟩ := cho_nums hae he hN
  obtain ⟨u1, v1, o1, p1⟩ := ws 1 (by decide)
  obtain ⟨u2, v2, o2, p2⟩ := ws 2 (by decide)
  obtain ⟨u3, v3, o3, p3⟩ := ws 3 (by decide)
  clear ws
  have hb : b < h.next := A.ok.lt A.at_
  have F0 : Fr [] h (h.new (.cells [.int .i64 0] .rw)) := (Fr.refl A.ok).new _
  have A0 := A.fr0 F0
  have T0 : Ct h0 b h.next 0 (h.new (.cells [.int .i64 0] .rw)) := ⟨get_new_self _ _, A.fr.le, fun q => Nat.lt_irrefl _ (q ▸ hb)⟩
  have n1 := Nat.lt_of_lt_of_le o1 he
  have n2 := Nat.lt_of_lt_of_le o2 he
  have n3 := Nat.lt_of_lt_of_le o3 he
  have hc : choosePivot lt d a e = ((if e - a ≥ 8 then if e - a ≥ 50 then
        median lt d (medianAdjacent lt d (a + (e - a) / 4 * 1) 0).1 (medianAdjacent lt d (a + (e - a) / 4 * 2) (medianAdjacent lt d (a + (e - a) / 4 * 1) 0).2).1 (medianAdjacent lt d (a + (e - a) / 4 * 3) (medianAdjacent lt d (a + (e - a) / 4 * 2) (medianAdjacent lt d (a + (e - a) / 4 * 1) 0).2).2).1 (medianAdjacent lt d (a + (e - a) / 4 * 3) (medianAdjacent lt d (a + (e - a) / 4 * 2) (medianAdjacent lt d (a + (e - a) / 4 * 1) 0).2).2).2
      else median lt d (a + (e - a) / 4 * 1) (a + (e - a) / 4 * 2) (a + (e - a) / 4 * 3) 0 else (a + (e - a) / 4 * 2, 0) : Nat × Nat).1, hintN (if e - a ≥ 8 then if e - a ≥ 50 then
        median lt d (medianAdjacent lt d (a + (e - a) / 4 * 1) 0).1 (medianAdjacent lt d (a + (e - a) / 4 * 2) (medianAdjacent lt d (a + (e - a) / 4 * 1) 0).2).1 (medianAdjacent lt d (a + (e - a) / 4 * 3) (medianAdjacent lt d (a + (e - a) / 4 * 2) (medianAdjacent lt d (a + (e - a) / 4 * 1) 0).2).2).1 (medianAdjacent lt d (a + (e - a) / 4 * 3) (medianAdjacent lt d (a + (e - a) / 4 * 2) (medianAdjacent lt d (a + (e - a) / 4 * 1) 0).2).2).2
      else median lt d (a + (e - a) / 4 * 1) (a + (e - a) / 4 * 2) (a + (e - a) / 4 * 3) 0 else (a + (e - a) / 4 * 2, 0) : Nat × Nat).2) := rfl
  rw [hc]
  clear hc
  obtain ⟨aI, hai⟩ : ∃ x : Int, x = (a : Int) := ⟨_, rfl⟩
  obtain ⟨eI, hei⟩ : ∃ x : Int, x = (e : Int) := ⟨_, rfl⟩
  obtain ⟨lI, hli⟩ : ∃ x : Int, x = ((e - a : Nat) : Int) := ⟨_, rfl⟩
  obtain ⟨qI, hqi⟩ : ∃ x : Int, x = (((e - a) / 4 : Nat) : Int) := ⟨_, rfl⟩
  rw [← hai, ← hei]
  rw [← hai, ← hei, ← hli] at w1
  rw [← hli, ← hqi] at w2
  rw [← hqi] at u1 u2 u3
  rw [← hai] at v1 v2 v3
  have u1' : wr .i64 (qI * 1) = _ := u1
  have u2' : wr .i64 (qI * 2) = _ := u2
  have u3' : wr .i64 (qI * 3) = _ := u3
  by_cases h8 : 8 ≤ e - a
  · have k8 : decide ((8 : Int) ≤ lI) = true := by rw [hli]; exact decide_eq_true (by exact_mod_cast h8)
    by_cases h50 : 50 ≤ e - a
    · have k50 : decide ((50 : Int) ≤ lI) = true := by rw [hli]; exact decide_eq_true (by exact_mod_cast h50)
      simp only [if_pos h8, if_pos h50, ge_iff_le]
      obtain ⟨p1a, p1b⟩ := p1 h50 (by decide)
      obtain ⟨p2a, p2b⟩ := p2 h50 (by decide)
      obtain ⟨p3a, p3b⟩ := p3 h50 (by decide)
      obtain ⟨⟨x1, g1⟩, e1, rfl, A1, T1⟩ := medianAdjacent_spec (c := c) A0 K hN T0 (by decide) p1a p1b
      dsimp only at A1 T1
      have m1 := medA_in lt d (s := 0) p1a p1b
      have z1 : (medianAdjacent lt d (a + (e - a) / 4 * 1) 0).2 ≤ 3 := Go.Sort.medianAdjacent_count lt d _ 0
      generalize medianAdjacent lt d (a + (e - a) / 4 * 1) 0 = r1 at e1 T1 m1 z1 ⊢
      obtain ⟨⟨x2, g2⟩, e2, rfl, A2, T2⟩ := medianAdjacent_spec (c := c) A1 K hN T1 (Nat.le_trans z1 (by decide)) p2a p2b
      dsimp only at A2 T2
      have m2 := medA_in lt d (s := r1.2) p2a p2b
      have z2 : (medianAdjacent lt d (a + (e - a) / 4 * 2) r1.2).2 ≤ 6 := Nat.le_trans (Go.Sort.medianAdjacent_count lt d _ _) (Nat.add_le_add_right z1 3)
      generalize medianAdjacent lt d (a + (e - a) / 4 * 2) r1.2 = r2 at e2 T2 m2 z2 ⊢
      obtain ⟨⟨x3, g3⟩, e3, rfl, A3, T3⟩ := medianAdjacent_spec (c := c) A2 K hN T2 (Nat.le_trans z2 (by decide)) p3a p3b
      dsimp only at A3 T3
      have m3 := medA_in lt d (s := r2.2) p3a p3b
      have z3 : (medianAdjacent lt d (a + (e - a) / 4 * 3) r2.2).2 ≤ 9 := Nat.le_trans (Go.Sort.medianAdjacent_count lt d _ _) (Nat.add_le_add_right z2 3)
      generalize medianAdjacent lt d (a + (e - a) / 4 * 3) r2.2 = r3 at e3 T3 m3 z3 ⊢
      obtain ⟨⟨x4, g4⟩, e4, rfl, A4, T4⟩ := median_spec (c := c) A3 K T3 (Nat.le_trans z3 (by decide)) m1 m2 m3
      dsimp only at A4 T4
      have lq : ldB (g4.get h.next) 0 = some (.int .i64 ((median lt d r1.1 r2.1 r3.1 r3.2).2 : Int)) := by rw [T4.at_]; rfl
      generalize median lt d r1.1 r2.1 r3.1 r3.2 = m at e4 lq ⊢
      rcases hint_cases m.2 with ⟨c1, hh⟩ | ⟨c1, c2, hh⟩ | ⟨c1, c2, hh⟩
      · simp only [S.slices_choosePivotCmpFunc_int_, w1, w2, u1', u2', u3', v1, v2, v3, k8, k50, obind, W_call, e1, e2, e3, e4, ld1_get', lq, asI_int, c1, hh]
        exact Ev.some ⟨rfl, A4⟩
      · simp only [S.slices_choosePivotCmpFunc_int_, w1, w2, u1', u2', u3', v1, v2, v3, k8, k50, obind, W_call, e1, e2, e3, e4, ld1_get', lq, asI_int, c1, c2, hh]
        exact Ev.some ⟨rfl, A4⟩
      · simp only [S.slices_choosePivotCmpFunc_int_, w1, w2, u1', u2', u3', v1, v2, v3, k8, k50, obind, W_call, e1, e2, e3, e4, ld1_get', lq, asI_int, c1, c2, hh]
        exact Ev.some ⟨rfl, A4⟩
    · have k50 : decide ((50 : Int) ≤ lI) = false := by rw [hli]; exact decide_eq_false (by exact_mod_cast h50)
      simp only [if_pos h8, if_neg h50, ge_iff_le]
      obtain ⟨⟨x1, g1⟩, e1, rfl, A1, T1⟩ := median_spec (c := c) A0 K T0 (by decide) n1 n2 n3
      dsimp only at A1 T1
      have lq : ldB (g1.get h.next) 0 = some (.int .i64 ((median lt d (a + (e - a) / 4 * 1) (a + (e - a) / 4 * 2) (a + (e - a) / 4 * 3) 0).2 : Int)) := by rw [T1.at_]; rfl
      generalize median lt d (a + (e - a) / 4 * 1) (a + (e - a) / 4 * 2) (a + (e - a) / 4 * 3) 0 = m at e1 lq ⊢
      rcases hint_cases m.2 with ⟨c1, hh⟩ | ⟨c1, c2, hh⟩ | ⟨c1, c2, hh⟩
      · simp only [S.slices_choosePivotCmpFunc_int_, w1, w2, u1', u2', u3', v1, v2, v3, k8, k50, obind, W_call, e1, ld1_get', lq, asI_int, c1, hh]
        exact Ev.some ⟨rfl, A1⟩
      · simp only [S.slices_choosePivotCmpFunc_int_, w1, w2, u1', u2', u3', v1, v2, v3, k8, k50, obind, W_call, e1, ld1_get', lq, asI_int, c1, c2, hh]
        exact Ev.some ⟨rfl, A1⟩
      · simp only [S.slices_choosePivotCmpFunc_int_, w1, w2, u1', u2', u3', v1, v2, v3, k8, k50, obind, W_call, e1, ld1_get', lq, asI_int, c1, c2, hh]
        exact Ev.some ⟨rfl, A1⟩
  · have k8 : decide ((8 : Int) ≤ lI) = false := by rw [hli]; exact decide_eq_false (by exact_mod_cast h8)
    simp only [if_neg h8, ge_iff_le]
    have lq : ldB ((h.new (.cells [.int .i64 0] .rw)).get h.next) 0 = some (.int .i64 0) := by rw [T0.at_]; rfl
    have c1 : decide ((0 : Int) = 0) = true := rfl
    simp only [S.slices_choosePivotCmpFunc_int_, w1, w2, u2', v2, k8, obind, ld1_get', lq, asI_int]
    exact Ev.some ⟨rfl, A0⟩
end
end Wm
end

section
/- pdqsort: what stands in the slice is sorted. -/
namespace Wm
attribute [local congr] bind_congr1
attribute [local irreducible] wr
open Go.Sort (swp PermIn SortedIn Below SWO permIn_trans permIn_refl)

section
variable {h0 h : H} {b N f : Nat} {cs : List V} {lt : Int → Int → Bool} {d : Array Int} {c : Cap}

/-- What a round comes to: all is sorted, or what is left to sort is less. -/
def PdqPost (h0 : H) (b N : Nat) (c : Cap) (f : Nat) (cs : List V) (lt : Int → Int → Bool) (a e : Nat) (d : Array Int) (z : AX × List V × H) : Prop :=
  (z.1 = .ret ∧ z.2.1 = S.slices_pdqsortCmpFunc_int__c0_O ∧ ∃ R, PermIn a e d R ∧ SortedIn lt a e R ∧ Sw h0 b N z.2.2 R) ∨
  (∃ (a' e' : Nat) (L : Int) (wb wp : Bool) (d' : Array Int), z.1 = .normal ∧ z.2.1 = S.slices_pdqsortCmpFunc_int__c0_E (.sl b 0 N c) (.int .i64 (a' : Int)) (.int .i64 (e' : Int)) (.int .i64 L) (.fn f cs) (.bool wb) (.bool wp) ∧
    (a ≤ a' ∧ a' ≤ e' ∧ e' ≤ e) ∧ e' - a' < e - a ∧ Sw h0 b N z.2.2 d' ∧ Below lt a' e' d' ∧ ∀ R, PermIn a' e' d' R → SortedIn lt a' e' R → PermIn a e d R ∧ SortedIn lt a e R)

theorem PdqPost.perm {a e : Nat} {d d1 : Array Int} (hp : PermIn a e d d1) {z : AX × List V × H} (q : PdqPost h0 b N c f cs lt a e d1 z) : PdqPost h0 b N c f cs lt a e d z := by
  rcases q with ⟨q1, q2, R, q3, q4, q5⟩ | ⟨a', e', L, wb, wp, d', q1, q2, q3, q4, q5, q6, q7⟩
  · exact .inl ⟨q1, q2, R, permIn_trans _ _ _ _ _ hp q3, q4, q5⟩
  · exact .inr ⟨a', e', L, wb, wp, d', q1, q2, q3, q4, q5, q6, fun R r1 r2 => ⟨permIn_trans _ _ _ _ _ hp (q7 R r1 r2).1, (q7 R r1 r2).2⟩⟩

/-- What a call of itself comes to, on less than 'n'. -/
def PdqIH (h0 : H) (b N : Nat) (c : Cap) (f : Nat) (cs : List V) (lt : Int → Int → Bool) (n : Nat) : Prop :=
  ∀ (a e : Nat) (L : Int) (d : Array Int) (h : H), e - a < n → a ≤ e → e ≤ N → Sw h0 b N h d → Below lt a e d →
    Ev (C 405 [.sl b 0 N c, .int .i64 (a : Int), .int .i64 (e : Int), .int .i64 L, .fn f cs] h) fun z => ∃ R, z.1 = .tup [] ∧ PermIn a e d R ∧ SortedIn lt a e R ∧ Sw h0 b N z.2 R

theorem pdq_part (A : Sw h0 b N h d) (K : Cmp h0 b N f cs lt) (hlt : SWO lt) (hN : N ≤ 64) {a e pv n : Nat} {L x12 : Int} {y10 y11 : V} (hn : e - a ≤ n) (ih : PdqIH h0 b N c f cs lt n) (hp1 : a ≤ pv) (hp2 : pv < e) (he : e ≤ N) (hB : Below lt a e d) :
    Ev (S.slices_pdqsortCmpFunc_int__c10_n W (.sl b 0 N c) (a : Int) (e : Int) L (.fn f cs) y10 y11 x12 (pv : Int) h) (PdqPost h0 b N c f cs lt a e d) := by
  have n9 : N ≤ 9000 := Nat.le_trans hN (by decide)
  have hae : a < e := Nat.lt_of_le_of_lt hp1 hp2
  obtain ⟨⟨v, g⟩, e1, rfl, A1⟩ := partition_spec (c := c) A K (Nat.le_trans hN (by decide)) hae he (Nat.lt_of_lt_of_le hp2 he)
  dsimp only at A1
  obtain ⟨q1, q2, q3, q4, q5, q6, q7⟩ := Go.Sort.round_part (mid := (Go.Sort.partition lt d a e pv).1) (ap := (Go.Sort.partition lt d a e pv).2.1) (d4 := (Go.Sort.partition lt d a e pv).2.2) hlt (Go.Sort.partition_holds lt) hp1 hp2 (by rw [A.sz]; exact he) hB rfl
  generalize Go.Sort.partition lt d a e pv = P at *
  obtain ⟨mid, ap, d4⟩ := P
  dsimp only at *
  have hme : mid ≤ 9000 := Nat.le_trans (Nat.le_of_lt q2) (Nat.le_trans he n9)
  have w1 := sort_sub (i := mid) (j := a) q1 hme
  have w2 := sort_sub (i := e) (j := mid) (Nat.le_of_lt q2) (Nat.le_trans he n9)
  have w3 := sort_succ (i := mid) hme
  have z1 : mid - a < e - a := by clear w1 w2 w3; omega
  have z2 : e - (mid + 1) < e - a := by clear w1 w2 w3; omega
  by_cases hc : mid - a < e - mid
  · obtain ⟨⟨v2, g2⟩, e2, R1, rfl, r1, r2, A2⟩ := ih a mid L d4 g (Nat.lt_of_lt_of_le z1 hn) q1 (Nat.le_trans (Nat.le_of_lt q2) he) A1 q4
    dsimp only at A2
    obtain ⟨u1, u2⟩ := q6 R1 r1 r2
    obtain ⟨mI, hmI⟩ : ∃ x : Int, x = (mid : Int) := ⟨_, rfl⟩
    obtain ⟨aI, haI⟩ : ∃ x : Int, x = (a : Int) := ⟨_, rfl⟩
    obtain ⟨eI, heI⟩ : ∃ x : Int, x = (e : Int) := ⟨_, rfl⟩
    rw [← hmI] at e1 e2 w1 w2 w3; rw [← haI] at e1 e2 w1 ⊢; rw [← heI] at e1 w2 ⊢
    simp only [S.slices_pdqsortCmpFunc_int__c10_n, W_call, e1, obind, List.getElem?_cons_zero, List.getElem?_cons_succ, asI_int, w1, w2, sort_lt hc, e2, w3]
    subst hmI haI heI
    exact Ev.some (.inr ⟨mid + 1, e, L, _, ap, R1, rfl, rfl, ⟨Nat.le_succ_of_le q1, q2, Nat.le_refl _⟩, z2, A2, u1, u2⟩)
  · obtain ⟨⟨v2, g2⟩, e2, R1, rfl, r1, r2, A2⟩ := ih (mid + 1) e L d4 g (Nat.lt_of_lt_of_le z2 hn) q2 he A1 q5
    dsimp only at A2
    obtain ⟨u1, u2⟩ := q7 R1 r1 r2
    obtain ⟨mI, hmI⟩ : ∃ x : Int, x = (mid : Int) := ⟨_, rfl⟩
    obtain ⟨aI, haI⟩ : ∃ x : Int, x = (a : Int) := ⟨_, rfl⟩
    obtain ⟨eI, heI⟩ : ∃ x : Int, x = (e : Int) := ⟨_, rfl⟩
    rw [← hmI] at e1 w1 w2 w3; rw [← haI] at e1 w1 ⊢; rw [← heI] at e1 e2 w2 ⊢
    simp only [S.slices_pdqsortCmpFunc_int__c10_n, W_call, e1, obind, List.getElem?_cons_zero, List.getElem?_cons_succ, asI_int, w1, w2, sort_nlt hc, w3, e2]
    subst hmI haI heI
    exact Ev.some (.inr ⟨a, mid, L, _, ap, R1, rfl, rfl, ⟨Nat.le_refl _, q1, Nat.le_of_lt q2⟩, z1, A2, u1, u2⟩)

theorem pdq_parts (A : Sw h0 b N h d) (K : Cmp h0 b N f cs lt) (hlt : SWO lt) (hN : N ≤ 64) {a e pv n : Nat} {L x12 : Int} {wb wp : Bool} (hn : e - a ≤ n) (ih : PdqIH h0 b N c f cs lt n) (hp1 : a ≤ pv) (hp2 : pv < e) (he : e ≤ N) (hB : Below lt a e d) :
    Ev (S.slices_pdqsortCmpFunc_int__c6_n W (.sl b 0 N c) (a : Int) (e : Int) L (.fn f cs) wb wp x12 (pv : Int) h) (PdqPost h0 b N c f cs lt a e d) := by
  have n9 : N ≤ 9000 := Nat.le_trans hN (by decide)
  have hae : a < e := Nat.lt_of_le_of_lt hp1 hp2
  have hpN := Nat.lt_of_lt_of_le hp2 he
  simp only [S.slices_pdqsortCmpFunc_int__c6_n]
  rw [S.slices_pdqsortCmpFunc_int__c10_eq]
  cases a with
  | zero =>
    have k0 : decide ((0 : Int) < ((0 : Nat) : Int)) = false := rfl
    simp only [S.slices_pdqsortCmpFunc_int__c10_S, k0, obind]
    show Ev (S.slices_pdqsortCmpFunc_int__K9 W .normal _ _) _
    rw [S.slices_pdqsortCmpFunc_int__c10_n_eq]
    exact pdq_part A K hlt hN hn ih hp1 hp2 he hB
  | succ m =>
    have hm : m < N := Nat.lt_of_succ_lt (Nat.lt_of_lt_of_le hae he)
    have k0 : decide ((0 : Int) < ((m + 1 : Nat) : Int)) = true := decide_eq_true (by omega)
    have w1 := sort_pred (i := m) (Nat.le_trans (Nat.le_trans (Nat.le_of_lt hae) he) n9)
    have i1 := sl_idx1 (b := b) (c := c) hm
    have i2 := sl_idx1 (b := b) (c := c) hpN
    have l1 := A.ld hm
    have l2 := A.ld hpN
    obtain ⟨x, g1, ec, hx, A1, _⟩ := A.cmp K hm hpN
    cases hl : lt d[m]! d[pv]! with
    | true =>
      simp only [S.slices_pdqsortCmpFunc_int__c10_S, k0, w1, i1, i2, obind, ld1_get', l1, l2, ec, asI_int, hx, hl, Bool.not_true]
      show Ev (S.slices_pdqsortCmpFunc_int__K9 W .normal _ _) _
      rw [S.slices_pdqsortCmpFunc_int__c10_n_eq]
      exact pdq_part A1 K hlt hN hn ih hp1 hp2 he hB
    | false =>
      obtain ⟨⟨v, g⟩, e1, rfl, A2⟩ := partitionEqual_spec (c := c) A1 K (Nat.le_trans hN (by decide)) hae he hpN
      dsimp only at A2
      obtain ⟨q1, q2, q3, q4, q5⟩ := Go.Sort.round_eq (mid := (Go.Sort.partitionEqual lt d (m + 1) e pv).1) (d4 := (Go.Sort.partitionEqual lt d (m + 1) e pv).2) hlt (Go.Sort.partitionEqual_holds lt) (Nat.succ_pos m) hp1 hp2 (by rw [A.sz]; exact he) hB hl rfl
      generalize Go.Sort.partitionEqual lt d (m + 1) e pv = P at *
      obtain ⟨mid, d4⟩ := P
      dsimp only at *
      simp only [S.slices_pdqsortCmpFunc_int__c10_S, k0, w1, i1, i2, obind, ld1_get', l1, l2, ec, asI_int, hx, hl, Bool.not_false, W_call, e1]
      show Ev (S.slices_pdqsortCmpFunc_int__K9 W (.exit 1) _ _) _
      rw [S.slices_pdqsortCmpFunc_int__c10_e1_eq]
      simp only [S.slices_pdqsortCmpFunc_int__c10_e1]
      exact Ev.some (.inr ⟨mid, e, L, wb, wp, d4, rfl, rfl, ⟨Nat.le_of_lt q1, q2, Nat.le_refl _⟩, Nat.sub_lt_sub_left hae q1, A2, q4, q5⟩)

theorem pdq_tries (A : Sw h0 b N h d) (K : Cmp h0 b N f cs lt) (hlt : SWO lt) (hN : N ≤ 64) {a e pv n : Nat} {L x12 x14 : Int} {wb wp : Bool} (hn : e - a ≤ n) (ih : PdqIH h0 b N c f cs lt n) (hp1 : a ≤ pv) (hp2 : pv < e) (he : e ≤ N) (hB : Below lt a e d) :
    Ev (S.slices_pdqsortCmpFunc_int__c4_n W (.sl b 0 N c) (a : Int) (e : Int) L (.fn f cs) wb wp x12 (pv : Int) x14 h) (PdqPost h0 b N c f cs lt a e d) := by
  have hae : a < e := Nat.lt_of_le_of_lt hp1 hp2
  have hb : e ≤ d.size := by rw [A.sz]; exact he
  simp only [S.slices_pdqsortCmpFunc_int__c4_n]
  rw [S.slices_pdqsortCmpFunc_int__c6_eq]
  simp only [S.slices_pdqsortCmpFunc_int__c6_S]
  rw [S.slices_pdqsortCmpFunc_int__c8_eq]
  have key : ∀ t : Bool, Ev ((S.slices_pdqsortCmpFunc_int__K8 W .normal (S.slices_pdqsortCmpFunc_int__c8_O (.sl b 0 N c) (.int .i64 (a : Int)) (.int .i64 (e : Int)) (.int .i64 L) (.fn f cs) (.bool wb) (.bool wp) (.int .i64 x12) (.int .i64 (pv : Int)) (.bool t)) h).bind fun p0 => S.slices_pdqsortCmpFunc_int__K6 W p0.1 p0.2.1 p0.2.2) (PdqPost h0 b N c f cs lt a e d) := by
    intro t
    rw [S.slices_pdqsortCmpFunc_int__c8_n_eq]
    cases t with
    | false =>
      simp only [S.slices_pdqsortCmpFunc_int__c8_n, obind]
      show Ev (S.slices_pdqsortCmpFunc_int__K6 W .normal _ _) _
      rw [S.slices_pdqsortCmpFunc_int__c6_n_eq]
      exact pdq_parts A K hlt hN hn ih hp1 hp2 he hB
    | true =>
      obtain ⟨⟨v, g⟩, e1, rfl, A1⟩ := partialInsertion_spec (c := c) A K (Nat.le_trans hN (by decide)) hae he
      dsimp only at A1
      obtain ⟨q1, q2⟩ := Go.Sort.partialInsertionSort_holds hlt d a e hae hb hB
      generalize Go.Sort.partialInsertionSort lt d a e = P at *
      obtain ⟨d1, t1⟩ := P
      dsimp only at *
      cases t1 with
      | false =>
        simp only [S.slices_pdqsortCmpFunc_int__c8_n, W_call, e1, obind, asB_bool]
        show Ev (S.slices_pdqsortCmpFunc_int__K6 W .normal _ _) _
        rw [S.slices_pdqsortCmpFunc_int__c6_n_eq]
        exact (pdq_parts A1 K hlt hN hn ih hp1 hp2 he (hB.perm hb q1)).mono fun _ z => z.perm q1
      | true =>
        simp only [S.slices_pdqsortCmpFunc_int__c8_n, W_call, e1, obind, asB_bool]
        show Ev (S.slices_pdqsortCmpFunc_int__K6 W .ret _ _) _
        rw [S.slices_pdqsortCmpFunc_int__c6_r_eq]
        simp only [S.slices_pdqsortCmpFunc_int__c6_r]
        exact Ev.some (.inl ⟨rfl, rfl, d1, q1, q2 rfl, A1⟩)
  cases wb with
  | false =>
    simp only [S.slices_pdqsortCmpFunc_int__c8_S, obind]
    exact key _
  | true =>
    cases wp with
    | false =>
      simp only [S.slices_pdqsortCmpFunc_int__c8_S, obind]
      exact key _
    | true =>
      simp only [S.slices_pdqsortCmpFunc_int__c8_S, obind]
      exact key _

theorem pdq_round (A : Sw h0 b N h d) (K : Cmp h0 b N f cs lt) (hlt : SWO lt) (hN : N ≤ 64) {a e n : Nat} {L : Int} {wb wp : Bool} (hn : e - a ≤ n) (ih : PdqIH h0 b N c f cs lt n) (hae : a ≤ e) (he : e ≤ N) (hB : Below lt a e d) :
    Ev (S.slices_pdqsortCmpFunc_int__c0_S W (.sl b 0 N c) (a : Int) (e : Int) L (.fn f cs) wb wp h) (PdqPost h0 b N c f cs lt a e d) := by
  have n9 : N ≤ 9000 := Nat.le_trans hN (by decide)
  have hN' : N ≤ 1000 := Nat.le_trans hN (by decide)
  have hb : e ≤ d.size := by rw [A.sz]; exact he
  have w1 := sort_sub (i := e) (j := a) hae (Nat.le_trans he n9)
  by_cases h12 : e - a ≤ 12
  · obtain ⟨⟨v, g⟩, e1, rfl, A1⟩ := insertion_spec (c := c) A K hN' he (Nat.le_trans hae he)
    dsimp only at A1
    obtain ⟨q1, q2⟩ := Go.Sort.insertionSort_holds hlt d a e hae hb
    have k0 : decide (((e - a : Nat) : Int) ≤ 12) = true := decide_eq_true (by clear w1 e1; omega)
    obtain ⟨aI, haI⟩ : ∃ x : Int, x = (a : Int) := ⟨_, rfl⟩
    obtain ⟨eI, heI⟩ : ∃ x : Int, x = (e : Int) := ⟨_, rfl⟩
    rw [← haI] at e1 w1 ⊢; rw [← heI] at e1 w1 ⊢
    simp only [S.slices_pdqsortCmpFunc_int__c0_S, w1, k0, W_call, e1, obind]
    exact Ev.some (.inl ⟨rfl, rfl, _, q1, q2, A1⟩)
  have k0 : decide (((e - a : Nat) : Int) ≤ 12) = false := decide_eq_false (by clear w1; omega)
  have hlt' : a < e := by clear w1 k0; omega
  by_cases hL : L = 0
  · obtain ⟨⟨v, g⟩, e1, rfl, A1⟩ := heap_spec (c := c) A K hN' hae he
    dsimp only at A1
    obtain ⟨q1, q2⟩ := Go.Sort.heapSort_holds hlt d a e hae hb
    have kL : decide (L = 0) = true := decide_eq_true hL
    obtain ⟨aI, haI⟩ : ∃ x : Int, x = (a : Int) := ⟨_, rfl⟩
    obtain ⟨eI, heI⟩ : ∃ x : Int, x = (e : Int) := ⟨_, rfl⟩
    rw [← haI] at e1 w1 ⊢; rw [← heI] at e1 w1 ⊢
    simp only [S.slices_pdqsortCmpFunc_int__c0_S, w1, k0, kL, W_call, e1, obind]
    exact Ev.some (.inl ⟨rfl, rfl, _, q1, q2, A1⟩)
  have kL : decide (L = 0) = false := decide_eq_false hL
  have rev : ∀ (d1 : Array Int) (L x12 : Int) (h1 : H) (pv : Nat) (x14 : Int), PermIn a e d d1 → Sw h0 b N h1 d1 → a ≤ pv → pv < e →
      Ev ((S.slices_pdqsortCmpFunc_int__c4_B W (S.slices_pdqsortCmpFunc_int__c4_E (.sl b 0 N c) (.int .i64 (a : Int)) (.int .i64 (e : Int)) (.int .i64 L) (.fn f cs) (.bool wb) (.bool wp) (.int .i64 x12) (.int .i64 (pv : Int)) (.int .i64 x14)) h1).bind fun p5 => S.slices_pdqsortCmpFunc_int__K5 W p5.1 p5.2.1 p5.2.2) (PdqPost h0 b N c f cs lt a e d) := by
    intro d1 L x12 h1 pv x14 hp A hp1 hp2
    have B1 := hB.perm hb hp
    have hb1 : e ≤ d1.size := by rw [A.sz]; exact he
    rw [S.slices_pdqsortCmpFunc_int__c4_eq]
    by_cases h2 : x14 = 2
    · obtain ⟨⟨v, g⟩, e1, rfl, A1⟩ := reverse_spec (c := c) A hN' hlt' he (.fn f cs)
      dsimp only at A1
      have q1 := Go.Sort.reverseRange_holds d1 a e hae hb1
      have k2 : decide (x14 = 2) = true := decide_eq_true h2
      obtain ⟨m, hm⟩ : ∃ m, e = m + 1 := ⟨e - 1, by clear w1 k0; omega⟩
      have w2 : wr .i64 ((e : Int) - 1) = ((e - 1 : Nat) : Int) := by rw [hm]; exact sort_pred (i := m) (hm ▸ Nat.le_trans he n9)
      have w3 := sort_sub (i := pv) (j := a) hp1 (Nat.le_trans (Nat.le_of_lt hp2) (Nat.le_trans he n9))
      have z1 : pv - a ≤ e - 1 := by clear w1 k0 w2 w3; omega
      have w4 := sort_sub (i := e - 1) (j := pv - a) z1 (by clear w1 k0 w2 w3; omega)
      simp only [S.slices_pdqsortCmpFunc_int__c4_S, k2, W_call, e1, obind, w2, w3, w4]
      show Ev (S.slices_pdqsortCmpFunc_int__K5 W .normal _ _) _
      rw [S.slices_pdqsortCmpFunc_int__c4_n_eq]
      exact (pdq_tries A1 K hlt hN hn ih (by clear w1 k0 w2 w3 w4; omega) (by clear w1 k0 w2 w3 w4; omega) he (B1.perm hb1 q1)).mono fun _ z => (z.perm q1).perm hp
    · have k2 : decide (x14 = 2) = false := decide_eq_false h2
      simp only [S.slices_pdqsortCmpFunc_int__c4_S, k2, obind]
      show Ev (S.slices_pdqsortCmpFunc_int__K5 W .normal _ _) _
      rw [S.slices_pdqsortCmpFunc_int__c4_n_eq]
      exact (pdq_tries A K hlt hN hn ih hp1 hp2 he B1).mono fun _ z => z.perm hp
  have cho : ∀ (d1 : Array Int) (L x12 : Int) (h1 : H), PermIn a e d d1 → Sw h0 b N h1 d1 →
      Ev (S.slices_pdqsortCmpFunc_int__c2_n W (.sl b 0 N c) (a : Int) (e : Int) L (.fn f cs) wb wp x12 h1) (PdqPost h0 b N c f cs lt a e d) := by
    intro d1 L x12 h1 hp A
    obtain ⟨⟨v, g⟩, e1, rfl, A1⟩ := choose_spec (c := c) A K hN' hlt' he
    dsimp only at A1
    obtain ⟨q1, q2⟩ := Go.Sort.choosePivot_holds lt d1 a e hlt'
    simp only [S.slices_pdqsortCmpFunc_int__c2_n, W_call, e1, obind, List.getElem?_cons_zero, List.getElem?_cons_succ]
    exact rev _ _ _ _ _ _ hp A1 q1 q2
  have fst : Ev ((S.slices_pdqsortCmpFunc_int__c2_B W (S.slices_pdqsortCmpFunc_int__c2_E (.sl b 0 N c) (.int .i64 (a : Int)) (.int .i64 (e : Int)) (.int .i64 L) (.fn f cs) (.bool wb) (.bool wp) (.int .i64 ((e - a : Nat) : Int))) h).bind fun p0 => S.slices_pdqsortCmpFunc_int__K4 W p0.1 p0.2.1 p0.2.2) (PdqPost h0 b N c f cs lt a e d) := by
    rw [S.slices_pdqsortCmpFunc_int__c2_eq]
    cases wb with
    | true =>
      simp only [S.slices_pdqsortCmpFunc_int__c2_S, Bool.not_true, obind]
      show Ev (S.slices_pdqsortCmpFunc_int__K4 W .normal _ _) _
      rw [S.slices_pdqsortCmpFunc_int__c2_n_eq]
      exact cho _ _ _ _ (permIn_refl _ _ _) A
    | false =>
      obtain ⟨⟨v, g⟩, e1, d1, rfl, q1, A1⟩ := break_spec (c := c) A hN hae he (.fn f cs)
      dsimp only at A1
      simp only [S.slices_pdqsortCmpFunc_int__c2_S, Bool.not_false, W_call, e1, obind]
      show Ev (S.slices_pdqsortCmpFunc_int__K4 W .normal _ _) _
      rw [S.slices_pdqsortCmpFunc_int__c2_n_eq]
      exact cho _ _ _ _ q1 A1
  clear rev cho
  obtain ⟨aI, haI⟩ : ∃ x : Int, x = (a : Int) := ⟨_, rfl⟩
  obtain ⟨eI, heI⟩ : ∃ x : Int, x = (e : Int) := ⟨_, rfl⟩
  rw [← haI] at fst w1 ⊢; rw [← heI] at fst w1 ⊢
  simp only [S.slices_pdqsortCmpFunc_int__c0_S, w1, k0, kL]
  exact fst

theorem pdq_all (K : Cmp h0 b N f cs lt) (hlt : SWO lt) (hN : N ≤ 64) : ∀ n, PdqIH h0 b N c f cs lt n
  | 0 => fun a e L d h hn => absurd hn (Nat.not_lt_zero _)
  | n + 1 => by
    intro a e L d h hn hae he A hB
    have ih := pdq_all K hlt hN n
    refine call_ev (af := F.slices_pdqsortCmpFunc_int_) (by kernel_rfl) rfl ?_
    rw [S.slices_pdqsortCmpFunc_int__eq]
    simp only [S.slices_pdqsortCmpFunc_int_]
    refine loop_ev (α := Nat × Nat × Int × Bool × Bool × Array Int) (fun q => S.slices_pdqsortCmpFunc_int__c0_E (.sl b 0 N c) (.int .i64 (q.1 : Int)) (.int .i64 (q.2.1 : Int)) (.int .i64 q.2.2.1) (.fn f cs) (.bool q.2.2.2.1) (.bool q.2.2.2.2.1))
      (fun q h => q.2.1 - q.1 ≤ n ∧ (q.1 ≤ q.2.1 ∧ q.2.1 ≤ e) ∧ Sw h0 b N h q.2.2.2.2.2 ∧ Below lt q.1 q.2.1 q.2.2.2.2.2 ∧ ∀ R, PermIn q.1 q.2.1 q.2.2.2.2.2 R → SortedIn lt q.1 q.2.1 R → PermIn a e d R ∧ SortedIn lt a e R) (fun q _ => q.2.1 - q.1)
      (fun z => z.1 = .ret ∧ z.2.1 = S.slices_pdqsortCmpFunc_int__c0_O ∧ ∃ R, PermIn a e d R ∧ SortedIn lt a e R ∧ Sw h0 b N z.2.2 R) (a, e, L, true, true, d) rfl ⟨Nat.le_of_lt_succ hn, ⟨hae, Nat.le_refl _⟩, A, hB, fun R r1 r2 => ⟨r1, r2⟩⟩ ?_ ?_
    rotate_left
    · rintro ⟨_, _, g⟩ ⟨rfl, rfl, R, r1, r2, A⟩
      show Ev (S.slices_pdqsortCmpFunc_int__K1 W .ret _ _) _
      rw [S.slices_pdqsortCmpFunc_int__c0_r_eq]
      exact Ev.some ⟨R, rfl, r1, r2, A⟩
    clear A hB hn
    rintro ⟨i, j, L, wb, wp, d1⟩ g ⟨hn, ⟨hij, hj⟩, A, hB, hf⟩
    dsimp only at hn hij hj A hB hf
    rw [S.slices_pdqsortCmpFunc_int__c0_eq]
    refine (pdq_round A K hlt hN hn ih hij (Nat.le_trans hj he) hB).mono ?_
    rintro ⟨x, y, g1⟩ (⟨rfl, rfl, R, r1, r2, A1⟩ | ⟨a', e', L', wb', wp', d', rfl, rfl, ⟨m1, m2, m3⟩, m4, A1, B1, hf1⟩)
    · exact .inr ⟨by simp, rfl, rfl, R, (hf R r1 r2).1, (hf R r1 r2).2, A1⟩
    · exact .inl ⟨(a', e', L', wb', wp', d'), rfl, rfl, ⟨Nat.le_trans (Nat.le_of_lt m4) hn, ⟨m2, Nat.le_trans m3 hj⟩, A1, B1, fun R r1 r2 => hf R (hf1 R r1 r2).1 (hf1 R r1 r2).2⟩, m4⟩
end
end Wm
end

section
/- Slices that grow: what is appended, one element at a time. -/
namespace Wm
attribute [local congr] bind_congr1
attribute [local irreducible] wr

/-- The block of a slice. -/
def V.blk : V → List Nat
  | .sl b _ _ _ => [b]
  | _ => []

/-- A slice that grew: elements of 'e' cells. -/
def Grown (g : Nat → Option Blk) (x : V) (e : Nat) (l : List V) : Prop :=
  (x = .nilsl ∧ l = []) ∨ ∃ b n, x = .sl b 0 n (.op e) ∧ l.length = n * e ∧ g b = some (.cells l (.gr e))

theorem Grown.nil (g : Nat → Option Blk) (e : Nat) : Grown g .nilsl e [] := .inl ⟨rfl, rfl⟩
theorem Grown.fr {g g' : H} {L : List Nat} {x : V} {e : Nat} {l : List V} (G : Grown g.get x e l) (ok : g.ok) (F : Fr L g g') (h : ∀ b ∈ x.blk, b ∉ L) : Grown g'.get x e l := by
  obtain h1 | ⟨b, n, rfl, hl, hb⟩ := G
  · exact .inl h1
  · exact .inr ⟨b, n, rfl, hl, F.get ok hb (h b (by simp [V.blk]))⟩
theorem Grown.push {g : H} (ok : g.ok) {x : V} {e : Nat} {l new : List V} {nb : Nat} {k : Bk} {bytes : Nat} (G : Grown g.get x e l) (hn : g.get nb = some (.cells new k)) (hlen : new.length = e) (h1 : new.all V.one = true) (he : 0 < e) (hb : 0 < bytes ∧ bytes ≤ 1000) (hs : l.length ≤ 1000000) :
    ∃ x' g', g.append e bytes x (.sl nb 0 1 (.ex 1)) = some (x', g') ∧ Fr x.blk g g' ∧ Grown g'.get x' e (l ++ new) ∧ (∀ b ∈ x'.blk, g.next ≤ b) ∧ x'.blk ≠ [] := by
  have hslc : g.slc e (.sl nb 0 1 (.ex 1)) = some new := by
    rw [slc_get hn (by omega), List.drop_zero, List.take_of_length_le (by omega)]
  obtain ⟨rfl, rfl⟩ | ⟨b, n, rfl, hl, hbk⟩ := G
  · refine ⟨_, _, append_nil (n := 1) rfl hslc (by omega) h1 (by omega) he hb.1, (Fr.refl ok).new _, .inr ⟨_, _, rfl, by simp; omega, ?_⟩, by simp [V.blk], by simp [V.blk]⟩
    rw [List.nil_append]; exact get_new_self _ _
  · have hnn : n ≤ 1000000 := by
      have : n * 1 ≤ n * e := Nat.mul_le_mul_left _ he
      omega
    have hold : g.slc e (.sl b 0 n (.op e)) = some l := by rw [slc_get hbk (by omega), List.drop_zero, List.take_of_length_le (by omega)]
    have hsz : (n + 1 + (n + 1) / 2 + 1000) * bytes ≤ 281474976710656 := by
      have : (n + 1 + (n + 1) / 2 + 1000) * bytes ≤ 2000000 * 1000 := Nat.mul_le_mul (by omega) hb.2
      omega
    refine ⟨_, _, append_op (n := 1) rfl hslc hold hbk h1 hsz he hb.1, ?_, .inr ⟨_, _, rfl, by rw [List.length_append, hl, hlen, Nat.add_mul, Nat.one_mul], get_new_self _ _⟩, by simp [V.blk], by simp [V.blk]⟩
    exact ((Fr.refl ok).put (.inl (by simp [V.blk])) (ok.lt hbk) _).new _

/-- A row of numbers of a kind that is only read, or nil. -/
def RowN (kd : Go.IntKind) (g : Nat → Option Blk) (x : V) (ws : List Int) : Prop := (x = .nilsl ∧ ws = []) ∨ ∃ b c k, x = .sl b 0 ws.length c ∧ g b = some (.cells (ws.map (.int kd)) k)
theorem RowN.len {kd : Go.IntKind} {g : Nat → Option Blk} {x : V} {ws : List Int} (h : RowN kd g x ws) : lenSl x = some ws.length := by
  obtain ⟨rfl, rfl⟩ | ⟨b, c, k, rfl, _⟩ := h <;> rfl
theorem RowN.at {kd : Go.IntKind} {g : H} {x : V} {ws : List Int} (h : RowN kd g.get x ws) {i : Nat} {w : Int} (hw : ws[i]? = some w) : ∃ b, indexAV 1 x (.int .i64 (i : Int)) = some (.ptr b i) ∧ g.ld1 (.ptr b i) = some (.int kd w) := by
  have hi := lt_of_get hw
  obtain ⟨rfl, rfl⟩ | ⟨b, c, k, rfl, hb⟩ := h
  · simp at hw
  · refine ⟨b, sl_idx1 hi, ?_⟩
    rw [ld1_get', hb, ldB_cells, List.getElem?_map, hw]; rfl
theorem RowN.fr {kd : Go.IntKind} {g g' : H} {L : List Nat} {x : V} {ws : List Int} (h : RowN kd g.get x ws) (ok : g.ok) (F : Fr L g g') (hL : ∀ b ∈ x.blk, b ∉ L) : RowN kd g'.get x ws := by
  obtain h1 | ⟨b, c, k, rfl, hb⟩ := h
  · exact .inl h1
  · exact .inr ⟨b, c, k, rfl, F.get ok hb (hL b (by simp [V.blk]))⟩
end Wm
end

section
/- What arguments are, as lists of typed things. -/
namespace Wm

theorem chunks {α : Type} {P : List V → Prop} {enc : α → List V} {Q : α → Prop} {z : Nat} (hP : ∀ c, P c → ∃ y, c = enc y ∧ Q y) :
    ∀ (n : Nat) (cs : List V), cs.length = n * z → (∀ i, i < n → P ((cs.drop (i * z)).take z)) → ∃ ys : List α, cs = (ys.map enc).flatten ∧ ys.length = n ∧ ∀ y ∈ ys, Q y
  | 0, cs, hl, _ => ⟨[], by simpa using hl, rfl, by simp⟩
  | n + 1, cs, hl, h => by
    obtain ⟨y, hy, qy⟩ := hP _ (h 0 (by omega))
    have hl2 : (cs.drop z).length = n * z := by rw [List.length_drop, hl, Nat.add_mul]; omega
    obtain ⟨ys, h1, h2, h3⟩ := chunks hP n (cs.drop z) hl2 (fun i hi => by
      have := h (i + 1) (by omega)
      rw [Nat.add_mul, Nat.one_mul, Nat.add_comm (i * z) z, ← List.drop_drop] at this
      exact this)
    refine ⟨y :: ys, ?_, by simp [h2], fun x hx => ?_⟩
    · rw [List.map_cons, List.flatten_cons, ← h1, ← hy, Nat.zero_mul, List.drop_zero, List.take_append_drop]
    · rcases List.mem_cons.mp hx with rfl | hx
      · exact qy
      · exact h3 x hx

theorem wf_i64 {n : Int} (h : (Go.Lit.int .i64 n).wf = true) : -9223372036854775808 ≤ n ∧ n ≤ 9223372036854775807 := by
  simpa [Go.Lit.wf, Go.IntKind.min, Go.IntKind.max, Go.IntKind.signed, Go.IntKind.bits] using h
end Wm
end

section
/- Events: rows of them, rows of truths. -/
namespace Wm
attribute [local congr] bind_congr1
attribute [local irreducible] wr

structure Evt where
  client : Int
  op : Int
  begun : Int
  point : Int
  ended : Int
  behind : Bool
  kind : Int
  n : Int
  h : Int
  x : Int
  y : Int
  err : Int
  ah : Int
  yes : Bool
def Evt.cs (e : Evt) : List V := [.int .i64 e.client, .int .i64 e.op, .int .i64 e.begun, .int .i64 e.point, .int .i64 e.ended, .bool e.behind, .int .i64 e.kind, .int .i64 e.n, .int .u64 e.h, .int .u64 e.x, .int .u64 e.y, .int .i64 e.err, .int .u64 e.ah, .bool e.yes]
def I64 (n : Int) : Prop := -9223372036854775808 ≤ n ∧ n ≤ 9223372036854775807
structure Evt.i64 (e : Evt) : Prop where
  client : I64 e.client
  op : I64 e.op
  begun : I64 e.begun
  point : I64 e.point
  ended : I64 e.ended
def evtSh : List CSh := [.int .i64, .int .i64, .int .i64, .int .i64, .int .i64, .bool, .int .i64, .int .i64, .int .u64, .int .u64, .int .u64, .int .i64, .int .u64, .bool]

/-- A row of events. -/
def RowE (g : Nat → Option Blk) (x : V) (l : List Evt) : Prop := (x = .nilsl ∧ l = []) ∨ ∃ b c k, x = .sl b 0 l.length c ∧ g b = some (.cells (l.map Evt.cs).flatten k)
theorem evt14 (l : List Evt) : ∀ x ∈ l.map Evt.cs, x.length = 14 := fun x hx => by
  obtain ⟨_, _, rfl⟩ := List.mem_map.mp hx; rfl
theorem RowE.len {g : Nat → Option Blk} {x : V} {l : List Evt} (h : RowE g x l) : lenSl x = some l.length := by
  obtain ⟨rfl, rfl⟩ | ⟨b, c, k, rfl, _⟩ := h <;> rfl
theorem RowE.fr {g g' : H} {L : List Nat} {x : V} {l : List Evt} (h : RowE g.get x l) (ok : g.ok) (F : Fr L g g') (hL : ∀ b ∈ x.blk, b ∉ L) : RowE g'.get x l := by
  obtain h1 | ⟨b, c, k, rfl, hb⟩ := h
  · exact .inl h1
  · exact .inr ⟨b, c, k, rfl, F.get ok hb (hL b (by simp [V.blk]))⟩
theorem RowE.lt {g : H} {x : V} {l : List Evt} (h : RowE g.get x l) (ok : g.ok) : ∀ b ∈ x.blk, b < g.next := by
  obtain ⟨rfl, rfl⟩ | ⟨b, c, k, rfl, hb⟩ := h
  · simp [V.blk]
  · intro c' hc; simp only [V.blk, List.mem_singleton] at hc; subst hc; exact ok.lt hb
theorem RowE.at {g : H} {x : V} {l : List Evt} (h : RowE g.get x l) {i : Nat} {y : Evt} (hy : l[i]? = some y) :
    ∃ b, indexAV 14 x (.int .i64 (i : Int)) = some (.ptr b (i * 14)) ∧ ldNB (g.get b) (i * 14) 14 = some (.agg y.cs) ∧ ldB (g.get b) (i * 14 + 2) = some (.int .i64 y.begun) ∧ ldB (g.get b) (i * 14 + 4) = some (.int .i64 y.ended) ∧ ldB (g.get b) (i * 14 + 1) = some (.int .i64 y.op) ∧ b ∈ x.blk := by
  have hi := lt_of_get hy
  obtain ⟨rfl, rfl⟩ | ⟨b, c, k, rfl, hb⟩ := h
  · simp at hy
  · have hn : (l.map Evt.cs).flatten.length = l.length * 14 := by rw [flat_length (evt14 l), List.length_map]
    have hp := flat_part (evt14 l) i y.cs (by rw [List.getElem?_map, hy]; rfl)
    have at' : ∀ j, j < 14 → (l.map Evt.cs).flatten[i * 14 + j]? = y.cs[j]? := fun j hj => by
      rw [← hp, List.getElem?_take, if_pos hj, List.getElem?_drop]
    refine ⟨b, sl_idx hi, ?_, ?_, ?_, ?_, by simp [V.blk]⟩
    · rw [hb, ldNB_cells, decide_eq_true (by rw [hn]; omega), hp]
    · rw [hb, ldB_cells, at' 2 (by decide)]; rfl
    · rw [hb, ldB_cells, at' 4 (by decide)]; rfl
    · rw [hb, ldB_cells, at' 1 (by decide)]; rfl
theorem rowE_of {g : Nat → Option Blk} {by' : Nat} {v : V} (h : CellOk g (.sl by' evtSh) v) :
    ∃ l, RowE g v l ∧ (∀ y ∈ l, y.i64) ∧ l.length * by' ≤ 140737488351232 ∧ l.length ≤ Go.maxLen := by
  unfold CellOk at h
  rcases h with rfl | ⟨b, n, cs, rfl, ⟨h1, h2⟩, h3, h4, h5⟩
  · exact ⟨[], .inl ⟨rfl, rfl⟩, by simp, by simp, by simp⟩
  · obtain ⟨ws, e1, e2, e3⟩ := chunks (α := Evt) (enc := Evt.cs) (Q := Evt.i64) (P := CellsOk g evtSh) (fun c hc => by
      obtain ⟨_, _, rfl, ⟨y0, rfl, b0⟩, _, _, rfl, ⟨y1, rfl, b1⟩, _, _, rfl, ⟨y2, rfl, b2⟩, _, _, rfl, ⟨y3, rfl, b3⟩, _, _, rfl, ⟨y4, rfl, b4⟩, _, _, rfl, ⟨y5, rfl⟩, _, _, rfl, ⟨y6, rfl, b6⟩, _, _, rfl, ⟨y7, rfl, b7⟩, _, _, rfl, ⟨y8, rfl, b8⟩, _, _, rfl, ⟨y9, rfl, b9⟩, _, _, rfl, ⟨y10, rfl, b10⟩, _, _, rfl, ⟨y11, rfl, b11⟩, _, _, rfl, ⟨y12, rfl, b12⟩, _, _, rfl, ⟨y13, rfl⟩, rfl⟩ := hc
      exact ⟨⟨y0, y1, y2, y3, y4, y5, y6, y7, y8, y9, y10, y11, y12, y13⟩, rfl, ⟨wf_i64 b0, wf_i64 b1, wf_i64 b2, wf_i64 b3, wf_i64 b4⟩⟩) n cs h4 h5
    subst e2
    exact ⟨ws, .inr ⟨b, _, .ro, rfl, by rw [h3, e1]⟩, e3, h2, h1⟩

/-! ### Ahead -/
theorem ahead_spec (a b : Evt) (h : H) : C 183 [.agg a.cs, .agg b.cs] h = some (.bool (decide (a.ended < b.begun)), h) := by
  refine call_closed (af := F.hist_Ahead) (by kernel_rfl) rfl (by rfl) (by rfl) h ?_
  unfold Evt.cs
  rw [S.hist_Ahead_eq]
  have h0 : H.empty.next = 0 := rfl
  simp only [S.hist_Ahead, Option.bind_some, ld1_get', get_new', ldB_cells, H.next_new, List.getElem?_cons_zero, List.getElem?_cons_succ, Nat.zero_add, V.one, asI_int, if_true, if_false, reduceCtorEq, h0]
  exact Ev.some rfl
/-! ### Rows of truths -/
def bools (l : List Bool) : List V := l.map .bool
theorem bools_len (l : List Bool) : (bools l).length = l.length := List.length_map _
theorem bools_at {l : List Bool} {i : Nat} {v : Bool} (h : l[i]? = some v) : (bools l)[i]? = some (.bool v) := by unfold bools; rw [List.getElem?_map, h]; rfl
theorem bools_set (l : List Bool) (i : Nat) (v : Bool) : (bools l).set i (.bool v) = bools (l.set i v) := by unfold bools; rw [List.map_set]
theorem repl_bool (n : Nat) : repl [V.bool false] n = bools (List.replicate n false) := by
  unfold bools
  induction n with
  | zero => rfl
  | succ n ih => simp only [repl, ih, List.replicate_succ, List.map_cons, List.cons_append, List.nil_append]
/-- A made slice. -/
theorem mkBools {h : H} {n : Nat} (hn : n ≤ 1000000) : h.mkSl 1 1 [(.bool false)] (n : Int) (n : Int) = some (.sl h.next 0 n (.ex n), h.new (.cells (bools (List.replicate n false)) .rw)) := by
  have h0 : (0 : Int) ≤ (n : Int) := Int.natCast_nonneg n
  have h1 : (n : Int) * ((1 : Nat) : Int) ≤ 140737488355328 := by omega
  have h2 : (n : Int) ≤ 9223372036854775807 := by omega
  rw [mkSl_ok (e := 1) (z := [.bool false]) h0 (Int.le_refl _) h1 h2 rfl (by decide), Int.toNat_natCast, repl_bool]
end Wm
end

section
/- Orders that respect a history: by the code, and by the document. -/
namespace Wm
attribute [local congr] bind_congr1
attribute [local irreducible] wr

/-! ### What it is -/
def AtO (l : List Evt) (o : List Int) (a : Nat) (y : Evt) : Prop := ∃ i : Nat, o[a]? = some (i : Int) ∧ l[i]? = some y
def GoodAt (l : List Evt) (o : List Int) (b : Nat) : Prop := ∃ (i : Nat) (x : Evt), o[b]? = some (i : Int) ∧ l[i]? = some x ∧ (∀ a, a < b → o[a]? ≠ some (i : Int)) ∧ ∀ a y, a < b → AtO l o a y → ¬ x.ended < y.begun
def GoodO (l : List Evt) (o : List Int) (k : Nat) : Prop := ∀ b, b < k → GoodAt l o b
def Resp (l : List Evt) (o : List Int) : Prop := o.length = l.length ∧ GoodO l o l.length
theorem GoodO.succ {l : List Evt} {o : List Int} {k : Nat} (h : GoodO l o k) (g : GoodAt l o k) : GoodO l o (k + 1) := fun b hb => by
  rcases Nat.lt_succ_iff_lt_or_eq.mp hb with h1 | h1
  · exact h b h1
  · exact h1 ▸ g
theorem notResp {l : List Evt} {o : List Int} {k : Nat} (hk : k < l.length) (h : ¬ GoodAt l o k) : ¬ Resp l o := fun r => h (r.2 k hk)
theorem GoodAt.of {l : List Evt} {o : List Int} {k i : Nat} (hi : o[k]? = some (i : Int)) (g : GoodAt l o k) : ∃ x, l[i]? = some x ∧ (∀ a, a < k → o[a]? ≠ some (i : Int)) ∧ ∀ a y, a < k → AtO l o a y → ¬ x.ended < y.begun := by
  obtain ⟨j, x, h1, h2, h3, h4⟩ := g
  rw [hi] at h1
  have : i = j := Int.ofNat.inj (Option.some.inj h1)
  subst this
  exact ⟨x, h2, h3, h4⟩
theorem GoodAt.pos {l : List Evt} {o : List Int} {k : Nat} {n : Int} (hi : o[k]? = some n) (g : GoodAt l o k) : 0 ≤ n ∧ n < l.length := by
  obtain ⟨j, x, h1, h2, _⟩ := g
  rw [hi] at h1
  have e : n = (j : Int) := Option.some.inj h1
  have := lt_of_get h2
  omega

/-- Which were met. -/
structure Met (n : Nat) (o : List Int) (k : Nat) (ms : List Bool) : Prop where
  len : ms.length = n
  met : ∀ i, i < n → (ms[i]? = some true ↔ ∃ a, a < k ∧ o[a]? = some (i : Int))
theorem Met.zero (n : Nat) (o : List Int) : Met n o 0 (List.replicate n false) :=
  ⟨List.length_replicate, fun i hi => by
    rw [List.getElem?_replicate, if_pos hi]
    constructor
    · intro h; simp at h
    · rintro ⟨a, h, _⟩; omega⟩
theorem Met.step {n : Nat} {o : List Int} {k i : Nat} {ms : List Bool} (M : Met n o k ms) (hi : i < n) (ho : o[k]? = some (i : Int)) : Met n o (k + 1) (ms.set i true) := by
  refine ⟨by rw [List.length_set]; exact M.len, fun j hj => ?_⟩
  by_cases h : i = j
  · subst h
    rw [List.getElem?_set_self (by rw [M.len]; exact hj)]
    exact ⟨fun _ => ⟨k, Nat.lt_succ_self k, ho⟩, fun _ => rfl⟩
  · rw [List.getElem?_set_ne h, M.met j hj]
    constructor
    · rintro ⟨a, h1, h2⟩; exact ⟨a, Nat.lt_succ_of_lt h1, h2⟩
    · rintro ⟨a, h1, h2⟩
      rcases Nat.lt_succ_iff_lt_or_eq.mp h1 with h3 | h3
      · exact ⟨a, h3, h2⟩
      · subst h3
        rw [ho] at h2
        exact absurd (Int.ofNat.inj (Option.some.inj h2)) h

theorem bools_splice {ms : List Bool} {p : Nat} (hp : p < ms.length) {v : Bool} : (bools ms).take p ++ [V.bool v] ++ (bools ms).drop (p + 1) = bools (ms.set p v) := by
  rw [← bools_set, List.set_eq_take_append_cons_drop, if_pos (by rw [bools_len]; exact hp), List.append_assoc]; rfl

/-- What stands where. -/
structure RespAt (h g : H) (mb : Nat) (ms : List Bool) : Prop where
  fr : Fr [] h g
  nb : h.next ≤ mb
  met : g.get mb = some (.cells (bools ms) .rw)
theorem RespAt.set {h g : H} {mb : Nat} {ms : List Bool} (Z : RespAt h g mb ms) {i : Nat} (hi : i < ms.length) {cs : List V} (hcs : cs = (bools ms).take i ++ [V.bool true] ++ (bools ms).drop (i + 1)) : RespAt h (g.put mb (some (.cells cs .rw))) mb (ms.set i true) :=
  ⟨Z.fr.put (.inr Z.nb) (Z.fr.ok.lt Z.met) _, Z.nb, by rw [get_put_self, hcs, bools_splice hi]⟩

/-- The latest beginning. -/
def Latest (l : List Evt) (o : List Int) (k : Nat) (t : Int) : Prop := 0 < k → (∃ a y, a < k ∧ AtO l o a y ∧ y.begun = t) ∧ ∀ a y, a < k → AtO l o a y → y.begun ≤ t

theorem rs_k {k : Nat} (h : k < 60) : wr .i64 ((k : Int) + 1) = ((k + 1 : Nat) : Int) := by rw [wr64 (by omega) (by omega)]; rfl
/-- One step of the code's loop. -/
theorem resp_step {h : H} (ok : h.ok) {x0 : V} {l : List Evt} (hx : RowE h.get x0 l) {x1 : V} {o : List Int} (ho : RowN .i64 h.get x1 o) (hlen : o.length = l.length) (hl : l.length ≤ 60) {mb : Nat} {ms : List Bool} {g : H} (Z : RespAt h g mb ms) {k : Nat} (hk : k < l.length)
    (G : GoodO l o k) (M : Met l.length o k ms) {t : Int} (T : Latest l o k t) :
    Ev (S.hist_Respects_c1_S W x0 (.sl mb 0 l.length (.ex l.length)) t x1 (l.length : Nat) (k : Nat) g) fun r =>
      (r.1 = .ret ∧ r.2.1 = S.hist_Respects_c1_O (.bool false) ∧ Fr [] h r.2.2 ∧ ¬ Resp l o) ∨
      ∃ t' ms', r.1 = .normal ∧ r.2.1 = S.hist_Respects_c1_E x0 (.sl mb 0 l.length (.ex l.length)) (.int .i64 t') x1 (.int .i64 (l.length : Nat)) (.int .i64 (k + 1 : Nat)) ∧ RespAt h r.2.2 mb ms' ∧ GoodO l o (k + 1) ∧ Met l.length o (k + 1) ms' ∧ Latest l o (k + 1) t' := by
  obtain ⟨q, hq⟩ : ∃ q, o[k]? = some q := ⟨_, List.getElem?_eq_getElem (hlen ▸ hk)⟩
  obtain ⟨ob, hix, hld⟩ := (ho.fr ok Z.fr (by simp)).at hq
  have hdk : decide ((k : Int) < (l.length : Int)) = true := decide_eq_true (by omega)
  have wk := rs_k (Nat.lt_of_lt_of_le hk hl)
  have hxl := hx.len
  have bad : ∀ {g' : H}, Fr [] h g' → ¬ GoodAt l o k → Ev (some (AX.ret, S.hist_Respects_c1_O (.bool false), g')) fun r =>
      (r.1 = .ret ∧ r.2.1 = S.hist_Respects_c1_O (.bool false) ∧ Fr [] h r.2.2 ∧ ¬ Resp l o) ∨
      ∃ t' ms', r.1 = .normal ∧ r.2.1 = S.hist_Respects_c1_E x0 (.sl mb 0 l.length (.ex l.length)) (.int .i64 t') x1 (.int .i64 (l.length : Nat)) (.int .i64 (k + 1 : Nat)) ∧ RespAt h r.2.2 mb ms' ∧ GoodO l o (k + 1) ∧ Met l.length o (k + 1) ms' ∧ Latest l o (k + 1) t' :=
    fun F hb => Ev.some (.inl ⟨rfl, rfl, F, notResp hk hb⟩)
  by_cases hq0 : q < 0
  · have d : decide (q < 0) = true := decide_eq_true hq0
    simp only [S.hist_Respects_c1_S, Option.bind_some, asI_int, hdk, hix, hld, d]
    exact bad Z.fr fun g => by have := (g.pos hq).1; omega
  have d0 : decide (q < 0) = false := decide_eq_false hq0
  by_cases hqn : (l.length : Int) ≤ q
  · have d : decide ((l.length : Int) ≤ q) = true := decide_eq_true hqn
    simp only [S.hist_Respects_c1_S, Option.bind_some, asI_int, hdk, hix, hld, d0, hxl, d]
    exact bad Z.fr fun g => by have := (g.pos hq).2; omega
  obtain ⟨i, rfl, hi⟩ : ∃ i : Nat, q = (i : Int) ∧ i < l.length := ⟨q.toNat, by omega, by omega⟩
  have d1 : decide ((l.length : Int) ≤ (i : Int)) = false := decide_eq_false hqn
  have him : indexAV 1 (.sl mb 0 l.length (.ex l.length)) (.int .i64 (i : Int)) = some (.ptr mb i) := sl_idx1 hi
  obtain ⟨m, hm⟩ : ∃ m, ms[i]? = some m := ⟨_, List.getElem?_eq_getElem (M.len ▸ hi)⟩
  have hmb := bools_at hm
  have hmet := Z.met
  cases m with
  | true =>
    simp only [S.hist_Respects_c1_S, Option.bind_some, ld1_get', st_get', ldB_cells, stB_cells, Nat.zero_add, V.one, V.cells, asI_int, asB_bool, List.length_cons, List.length_nil, Nat.beq_refl, List.all_cons, List.all_nil, Bool.not_true, Bool.false_or, Bool.or_self, Bool.and_self, decide_false, splice, reduceCtorEq, hdk, hix, hld, d0, hxl, d1, him, hmet, hmb]
    refine bad Z.fr fun g => ?_
    obtain ⟨x, _, h3, _⟩ := g.of hq
    obtain ⟨a, ha, hb⟩ := (M.met i hi).mp hm
    exact h3 a ha hb
  | false =>
    have hfresh : ∀ a, a < k → o[a]? ≠ some (i : Int) := fun a ha hb => by
      have := (M.met i hi).mpr ⟨a, ha, hb⟩
      rw [hm] at this; cases this
    have him2 : i < ms.length := M.len ▸ hi
    have hle : decide (i + 1 ≤ (bools ms).length) = true := decide_eq_true (by rw [bools_len]; exact him2)
    have hne0 : decide (Bk.rw = Bk.ro) = false := rfl
    obtain ⟨x, hxi⟩ : ∃ x, l[i]? = some x := ⟨_, List.getElem?_eq_getElem hi⟩
    have Z1 := Z.set him2 rfl
    have M1 := M.step hi hq
    generalize hcs : (bools ms).take i ++ [V.bool true] ++ (bools ms).drop (i + 1) = cs at Z1
    obtain ⟨eb, e1, _, e3, e4, _, hebm⟩ := (hx.fr ok Z.fr (by simp)).at hxi
    have hne : eb ≠ mb := fun q => absurd (hx.lt ok eb hebm) (Nat.not_lt_of_le (q ▸ Z.nb))
    have atk : AtO l o k x := ⟨i, hq, hxi⟩
    have good : (∀ a y, a < k → AtO l o a y → ¬ x.ended < y.begun) → GoodO l o (k + 1) := fun h4 => G.succ ⟨i, x, hq, hxi, hfresh, h4⟩
    by_cases hk0 : 0 < k
    · obtain ⟨⟨a0, y0, ha0, hy0, ht0⟩, hmax⟩ := T hk0
      have dk0 : decide ((0 : Int) < (k : Int)) = true := decide_eq_true (by omega)
      have dkz : decide ((k : Int) = 0) = false := decide_eq_false (by omega)
      by_cases hlt : x.ended < t
      · have d2 : decide (x.ended < t) = true := decide_eq_true hlt
        simp only [S.hist_Respects_c1_S, ptrAt_ptr, Option.bind_some, Option.map_some, ld1_get', st_get', get_put', ldB_cells, stB_cells, Nat.zero_add, V.one, V.cells, asI_int, asB_bool, List.length_cons, List.length_nil, Nat.beq_refl, List.all_cons, List.all_nil, Bool.not_true, Bool.or_self, Bool.and_self, decide_false, if_false, splice, reduceCtorEq, hdk, hix, hld, d0, hxl, d1, him, hmet, hmb, hle, hcs, hne, dk0, e1, e4, d2]
        refine bad Z1.fr fun g => ?_
        obtain ⟨x', h2, _, h4⟩ := g.of hq
        rw [hxi] at h2; cases h2
        exact h4 a0 y0 ha0 hy0 (by rw [ht0]; exact hlt)
      · have d2 : decide (x.ended < t) = false := decide_eq_false hlt
        have G1 := good fun a y ha hy hlt2 => hlt (Int.lt_of_lt_of_le hlt2 (hmax a y ha hy))
        by_cases htx : t < x.begun
        · have d3 : decide (t < x.begun) = true := decide_eq_true htx
          simp only [S.hist_Respects_c1_S, ptrAt_ptr, Option.bind_some, Option.map_some, ld1_get', st_get', get_put', ldB_cells, stB_cells, Nat.zero_add, V.one, V.cells, asI_int, asB_bool, List.length_cons, List.length_nil, Nat.beq_refl, List.all_cons, List.all_nil, Bool.not_true, Bool.or_self, Bool.and_self, decide_false, if_false, splice, reduceCtorEq, hdk, hix, hld, d0, hxl, d1, him, hmet, hmb, hle, hcs, hne, dk0, dkz, e1, e3, e4, d2, d3, wk]
          refine Ev.some (.inr ⟨x.begun, _, rfl, rfl, Z1, G1, M1, fun _ => ⟨⟨k, x, Nat.lt_succ_self k, atk, rfl⟩, fun a y ha hy => ?_⟩⟩)
          rcases Nat.lt_succ_iff_lt_or_eq.mp ha with h1 | h1
          · exact Int.le_trans (hmax a y h1 hy) (Int.le_of_lt htx)
          · subst h1
            obtain ⟨j, hj1, hj2⟩ := hy
            rw [hq] at hj1
            have : i = j := Int.ofNat.inj (Option.some.inj hj1)
            subst this
            rw [hxi] at hj2; cases hj2; exact Int.le_refl _
        · have d3 : decide (t < x.begun) = false := decide_eq_false htx
          simp only [S.hist_Respects_c1_S, ptrAt_ptr, Option.bind_some, Option.map_some, ld1_get', st_get', get_put', ldB_cells, stB_cells, Nat.zero_add, V.one, V.cells, asI_int, asB_bool, List.length_cons, List.length_nil, Nat.beq_refl, List.all_cons, List.all_nil, Bool.not_true, Bool.or_self, Bool.and_self, decide_false, if_false, splice, reduceCtorEq, hdk, hix, hld, d0, hxl, d1, him, hmet, hmb, hle, hcs, hne, dk0, dkz, e1, e3, e4, d2, d3, wk]
          refine Ev.some (.inr ⟨t, _, rfl, rfl, Z1, G1, M1, fun _ => ⟨⟨a0, y0, Nat.lt_succ_of_lt ha0, hy0, ht0⟩, fun a y ha hy => ?_⟩⟩)
          rcases Nat.lt_succ_iff_lt_or_eq.mp ha with h1 | h1
          · exact hmax a y h1 hy
          · subst h1
            obtain ⟨j, hj1, hj2⟩ := hy
            rw [hq] at hj1
            have : i = j := Int.ofNat.inj (Option.some.inj hj1)
            subst this
            rw [hxi] at hj2; cases hj2; exact Int.not_lt.mp htx
    · have hkz : k = 0 := Nat.le_zero.mp (Nat.le_of_not_lt hk0)
      subst hkz
      have dk0 : decide ((0 : Int) < ((0 : Nat) : Int)) = false := rfl
      have dkz : decide (((0 : Nat) : Int) = 0) = true := rfl
      simp only [S.hist_Respects_c1_S, ptrAt_ptr, Option.bind_some, Option.map_some, ld1_get', st_get', get_put', ldB_cells, stB_cells, Nat.zero_add, V.one, V.cells, asI_int, asB_bool, List.length_cons, List.length_nil, Nat.beq_refl, List.all_cons, List.all_nil, Bool.not_true, Bool.or_self, Bool.and_self, decide_false, if_false, splice, reduceCtorEq, hdk, hix, hld, d0, hxl, d1, him, hmet, hmb, hle, hcs, hne, dk0, dkz, e1, e3, wk]
      refine Ev.some (.inr ⟨x.begun, _, rfl, rfl, Z1, good (fun a y ha => absurd ha (Nat.not_lt_zero a)), M1, fun _ => ⟨⟨0, x, Nat.lt_succ_self 0, atk, rfl⟩, fun a y ha hy => ?_⟩⟩)
      have h1 : a = 0 := by omega
      subst h1
      obtain ⟨j, hj1, hj2⟩ := hy
      rw [hq] at hj1
      have : i = j := Int.ofNat.inj (Option.some.inj hj1)
      subst this
      rw [hxi] at hj2; cases hj2; exact Int.le_refl _

theorem rs_eq {a b : Nat} : decide ((a : Int) = (b : Int)) = decide (a = b) := by congr 1; apply propext; omega
theorem respects_spec {h : H} (ok : h.ok) {x0 : V} {l : List Evt} (hx : RowE h.get x0 l) {x1 : V} {o : List Int} (ho : RowN .i64 h.get x1 o) (hl : l.length ≤ 60) : Ev (C 185 [x0, x1] h) fun r => ∃ b, r.1 = .bool b ∧ (b = true ↔ Resp l o) ∧ Fr [] h r.2 := by
  refine call_ev (af := F.hist_Respects) (by kernel_rfl) rfl ?_
  rw [S.hist_Respects_eq]
  have hxl := hx.len
  have hol := ho.len
  have he := rs_eq (a := o.length) (b := l.length)
  by_cases hlen : o.length = l.length
  rotate_left
  · rw [decide_eq_false hlen] at he
    simp only [S.hist_Respects, Option.bind_some, Bool.not_false, hxl, hol, he]
    exact Ev.some ⟨false, rfl, ⟨fun h => (absurd h (by decide)), fun h => absurd h.1 hlen⟩, .refl ok⟩
  rw [decide_eq_true hlen] at he
  have hmk := mkBools (h := h) (n := l.length) (Nat.le_trans hl (by decide))
  simp only [S.hist_Respects, Option.bind_some, Bool.not_true, hxl, hol, he, hmk]
  rw [hlen]
  have Z0 : RespAt h (h.new (.cells (bools (List.replicate l.length false)) .rw)) h.next (List.replicate l.length false) := ⟨(Fr.refl ok).new _, Nat.le_refl _, get_new_self _ _⟩
  refine loop_ev (α := Nat × Int × List Bool) (fun y => S.hist_Respects_c1_E x0 (.sl h.next 0 l.length (.ex l.length)) (.int .i64 y.2.1) x1 (.int .i64 (l.length : Nat)) (.int .i64 (y.1 : Nat)))
    (fun y g => y.1 ≤ l.length ∧ RespAt h g h.next y.2.2 ∧ GoodO l o y.1 ∧ Met l.length o y.1 y.2.2 ∧ Latest l o y.1 y.2.1) (fun y _ => l.length - y.1)
    (fun r => Fr [] h r.2.2 ∧ ((r.1 = .ret ∧ r.2.1 = S.hist_Respects_c1_O (.bool false) ∧ ¬ Resp l o) ∨ (r.1 = .exit 0 ∧ r.2.1 = S.hist_Respects_c1_O .dead ∧ Resp l o)))
    (0, 0, List.replicate l.length false) rfl ⟨Nat.zero_le _, Z0, fun b hb => absurd hb (Nat.not_lt_zero b), Met.zero _ _, fun h => absurd h (Nat.lt_irrefl 0)⟩ ?_ ?_
  · rintro ⟨k, t, ms⟩ g ⟨hk, Z, G, M, T⟩
    dsimp only at hk Z G M T ⊢
    rw [S.hist_Respects_c1_eq]
    by_cases hkl : k < l.length
    · refine (resp_step ok hx ho hlen hl Z hkl G M T).mono ?_
      rintro ⟨_, _, g'⟩ (⟨rfl, rfl, F, hb⟩ | ⟨t', ms', rfl, rfl, Z', G', M', T'⟩)
      · exact .inr ⟨by simp, F, .inl ⟨rfl, rfl, hb⟩⟩
      · exact .inl ⟨(k + 1, t', ms'), rfl, rfl, ⟨hkl, Z', G', M', T'⟩, Nat.sub_lt_sub_left hkl (Nat.lt_succ_self k)⟩
    · have hke : k = l.length := Nat.le_antisymm hk (Nat.le_of_not_lt hkl)
      subst hke
      have hd : decide ((l.length : Int) < (l.length : Int)) = false := decide_eq_false (Int.lt_irrefl _)
      simp only [S.hist_Respects_c1_S, hd]
      exact Ev.some (.inr ⟨by simp, Z.fr, .inr ⟨rfl, rfl, hlen, G⟩⟩)
  rintro ⟨_, _, g⟩ ⟨F, (⟨rfl, rfl, hb⟩ | ⟨rfl, rfl, hb⟩)⟩
  · show Ev (S.hist_Respects_K2 W .ret _ g) _
    rw [S.hist_Respects_c1_r_eq]
    exact Ev.some ⟨false, rfl, ⟨fun h => (absurd h (by decide)), fun h => absurd h hb⟩, F⟩
  · show Ev (S.hist_Respects_K2 W (.exit 0) _ g) _
    rw [S.hist_Respects_c1_e0_eq]
    exact Ev.some ⟨true, rfl, ⟨fun _ => hb, fun _ => rfl⟩, F⟩

end Wm
end

section
/- Maps with numbers as keys. -/
namespace Wm

def KV (kd : Go.IntKind) (l : List (Int × V)) : List (V × V) := l.map fun p => (.int kd p.1, p.2)
def kfind : List (Int × V) → Int → Option V
  | [], _ => none
  | (a, v) :: l, k => if k = a then some v else kfind l k
def kset : List (Int × V) → Int → V → List (Int × V)
  | [], k, x => [(k, x)]
  | (a, v) :: l, k, x => if k = a then (k, x) :: l else (a, v) :: kset l k x

theorem findKey_KV (kd : Go.IntKind) (k : Int) : ∀ l : List (Int × V), findKey .int (.int kd k) (KV kd l) = some (kfind l k)
  | [] => rfl
  | (a, v) :: l => by
    simp only [KV, List.map_cons, findKey, eqCell, decide_true, kfind]
    by_cases h : k = a
    · simp only [h, decide_true, if_true]
    · simp only [h, decide_false, if_false]
      exact findKey_KV kd k l
theorem setKey_KV (kd : Go.IntKind) (k : Int) (x : V) : ∀ l : List (Int × V), setKey .int (.int kd k) x (KV kd l) = some (KV kd (kset l k x))
  | [] => rfl
  | (a, v) :: l => by
    have ih := setKey_KV kd k x l
    unfold KV at ih
    simp only [KV, List.map_cons, setKey, eqCell, decide_true, kset]
    by_cases h : k = a
    · simp only [h, decide_true, if_true, List.map_cons]
    · simp only [h, decide_false, if_false, ih, List.map_cons]
theorem kfind_kset (k : Int) (x : V) (j : Int) : ∀ l : List (Int × V), kfind (kset l k x) j = if j = k then some x else kfind l j
  | [] => by simp only [kset, kfind]
  | (a, v) :: l => by
    have ih := kfind_kset k x j l
    by_cases h : k = a
    · subst h
      simp only [kset, if_true, kfind]
      by_cases hj : j = k
      · simp only [hj, if_true]
      · simp only [hj, if_false]
    · simp only [kset, h, if_false, kfind]
      by_cases hj : j = a
      · subst hj
        have hk : ¬ j = k := fun e => h e.symm
        simp only [if_true, hk, if_false]
      · simp only [hj, if_false, ih]

theorem look_KV {h : H} {mb : Nat} {kd : Go.IntKind} {l : List (Int × V)} (hm : h.get mb = some (.map (KV kd l))) (z : V) (k : Int) :
    h.look .int z true (.map mb) (.int kd k) = some (match kfind l k with | some v => .tup [v, .bool true] | none => .tup [z, .bool false]) := by
  simp only [H.look, isKey, H.entries, hm, findKey_KV]
  cases kfind l k <;> rfl
theorem mapSet_KV {h : H} {mb : Nat} {kd : Go.IntKind} {l : List (Int × V)} (hm : h.get mb = some (.map (KV kd l))) (k : Int) (x : V) :
    h.mapSet .int (.map mb) (.int kd k) x = some (h.put mb (some (.map (KV kd (kset l k x))))) := by
  simp only [H.mapSet, isKey, hm, setKey_KV]
end Wm
end

section
/- hist.Right: whether a history is right. -/
namespace Wm
attribute [local congr] bind_congr1
attribute [local irreducible] wr
open Go.Sort (swp PermIn SortedIn Below SWO)

/-! ### cmp.Compare -/
def cmp3 (a b : Int) : Int := if a < b then -1 else if b < a then 1 else 0
theorem nan_spec (a : Int) (h : H) : C 407 [.int .i64 a] h = some (.bool false, h) := by
  refine call_closed (af := F.cmp_isNaN_int_) (by kernel_rfl) rfl (by rfl) (by rfl) h ?_
  rw [S.cmp_isNaN_int__eq]
  simp only [S.cmp_isNaN_int_, decide_true, Bool.not_true]
  exact Ev.some rfl
theorem cmp_spec (a b : Int) (h : H) : C 334 [.int .i64 a, .int .i64 b] h = some (.int .i64 (cmp3 a b), h) := by
  refine call_closed (af := F.cmp_Compare_int_) (by kernel_rfl) rfl (by rfl) (by rfl) h ?_
  rw [S.cmp_Compare_int__eq]
  unfold cmp3
  simp only [S.cmp_Compare_int_, W_call, nan_spec, obind, asB_bool]
  by_cases h1 : a < b
  · simp only [h1, decide_true, if_true]
    exact Ev.some rfl
  · by_cases h2 : b < a
    · simp only [h1, h2, decide_true, decide_false, if_true, if_false]
      exact Ev.some rfl
    · simp only [h1, h2, decide_false, if_false]
      exact Ev.some rfl
theorem cmp3_neg (a b : Int) : decide (cmp3 a b < 0) = decide (a < b) := by
  unfold cmp3
  by_cases h1 : a < b
  · simp [h1]
  · by_cases h2 : b < a
    · simp [h1, h2]
    · simp [h1, h2]

section
variable {h0 h : H} {b N f : Nat} {cs : List V} {lt : Int → Int → Bool} {d : Array Int} {c : Cap}

/-! ### SortFunc -/
theorem sortFunc_spec (A : Sw h0 b N h d) (K : Cmp h0 b N f cs lt) (hlt : SWO lt) (hN : N ≤ 64) :
    Ev (C 332 [.sl b 0 N c, .fn f cs] h) fun z => ∃ R, z.1 = .tup [] ∧ PermIn 0 N d R ∧ SortedIn lt 0 N R ∧ Sw h0 b N z.2 R := by
  refine call_ev (af := F.slices_SortFunc___int_int_) (by kernel_rfl) rfl ?_
  rw [S.slices_SortFunc___int_int__eq]
  have w1 : wr .u64 ((N : Nat) : Int) = (N : Int) := brk_u64 hN
  have e1 := len_eq (n := N) (by omega) h
  obtain ⟨⟨v, g⟩, e2, R, rfl, r1, r2, A2⟩ := pdq_all (c := c) K hlt hN (N + 1) 0 N (Go.Sort.bitsLen N : Int) d h (by omega) (Nat.zero_le _) (Nat.le_refl _) A (.inl rfl)
  have e2 : C 405 [.sl b 0 N c, .int .i64 0, .int .i64 (N : Int), .int .i64 (Go.Sort.bitsLen N : Int), .fn f cs] h = some (.tup [], g) := e2
  simp only [S.slices_SortFunc___int_int_, lenSl_sl, obind, w1, W_call, e1, e2]
  exact Ev.some ⟨R, rfl, r1, r2, A2⟩
end

/-! ### The numbers of events, in order -/
def idA (n : Nat) : Array Int := ((List.range n).map (fun i : Nat => (i : Int))).toArray
theorem idA_size (n : Nat) : (idA n).size = n := by simp [idA]
theorem idA_get {n i : Nat} (hi : i < n) : (idA n)[i]! = (i : Int) := by
  rw [getElem!_pos (idA n) i (by rw [idA_size]; exact hi)]
  simp [idA]

/-- A list of all numbers below n, in some order. -/
structure AllNums (n : Nat) (o : List Int) : Prop where
  len : o.length = n
  perm : o.Perm ((List.range n).map (fun i : Nat => (i : Int)))
theorem AllNums.at {n : Nat} {o : List Int} (P : AllNums n o) {k : Nat} (hk : k < n) : ∃ i : Nat, i < n ∧ o[k]? = some (i : Int) := by
  have hm : o[k]'(by rw [P.len]; exact hk) ∈ o := List.getElem_mem _
  have := P.perm.mem_iff.mp hm
  rw [List.mem_map] at this
  obtain ⟨i, hi, he⟩ := this
  exact ⟨i, List.mem_range.mp hi, by rw [List.getElem?_eq_getElem (by rw [P.len]; exact hk), he]⟩
theorem AllNums.has {n : Nat} {o : List Int} (P : AllNums n o) {i : Nat} (hi : i < n) : ∃ k, k < n ∧ o[k]? = some (i : Int) := by
  have hm : (i : Int) ∈ o := P.perm.mem_iff.mpr (List.mem_map.mpr ⟨i, List.mem_range.mpr hi, rfl⟩)
  obtain ⟨k, hk, he⟩ := List.getElem_of_mem hm
  exact ⟨k, P.len ▸ hk, by rw [List.getElem?_eq_getElem hk, he]⟩
theorem AllNums.inj {n : Nat} {o : List Int} (P : AllNums n o) {a b : Nat} {v : Int} (ha : o[a]? = some v) (hb : o[b]? = some v) : a = b := by
  have nd : o.Nodup := by
    rw [P.perm.nodup_iff]
    exact List.pairwise_map.mpr (List.nodup_range.imp fun h e => h (Int.ofNat.inj e))
  have h1 := lt_of_get ha
  have h2 := lt_of_get hb
  rw [List.getElem?_eq_getElem h1] at ha
  rw [List.getElem?_eq_getElem h2] at hb
  have nd := List.pairwise_iff_getElem.mp nd
  have he := (Option.some.inj ha).trans (Option.some.inj hb).symm
  rcases Nat.lt_trichotomy a b with q | q | q
  · exact absurd he (nd a b h1 h2 q)
  · exact q
  · exact absurd he.symm (nd b a h2 h1 q)
theorem AllNums.of {n : Nat} {d : Array Int} (hd : d.size = n) (hp : PermIn 0 n (idA n) d) : AllNums n d.toList := by
  refine ⟨by rw [Array.length_toList]; exact hd, ?_⟩
  have h := hp.2.2
  have e1 : (d.extract 0 n) = d := by rw [← hd]; exact Array.extract_size
  have e2 : (idA n).extract 0 n = idA n := by
    have := idA_size n
    conv => lhs; rw [← this]
    rw [this]
    exact (congrArg (fun k => (idA n).extract 0 k) this.symm).trans Array.extract_size
  rw [e1, e2] at h
  simpa [idA] using h
theorem get_toList {d : Array Int} {k : Nat} (hk : k < d.size) : d.toList[k]? = some d[k]! := by
  rw [Array.getElem?_toList, Array.getElem?_eq_getElem hk, getElem!_pos d k hk]

/-! ### What a right history is -/
structure Evt.bd (x : Evt) (clients : Int) : Prop where
  c0 : 0 ≤ x.client
  c1 : x.client < clients
  p0 : x.begun ≤ x.point
  p1 : x.point ≤ x.ended
def RightH (l : List Evt) (clients : Int) : Prop :=
  (∀ (i : Nat) (x : Evt), l[i]? = some x → x.bd clients) ∧
  ∀ (i k : Nat) (x y : Evt), l[i]? = some x → l[k]? = some y → k ≠ i → x.client = y.client → ¬ (x.op = y.op ∨ x.op < y.op ∧ ¬ x.ended < y.begun)

/-- So far all is right. -/
def RightTo (l : List Evt) (clients : Int) (o : List Int) (k : Nat) : Prop :=
  (∀ a y, a < k → AtO l o a y → y.bd clients) ∧
  ∀ a b x y, a < b → b < k → AtO l o a x → AtO l o b y → x.client = y.client → x.op < y.op ∧ x.ended < y.begun
def SortedO (l : List Evt) (o : List Int) : Prop := ∀ a b x y, a < b → AtO l o a x → AtO l o b y → ¬ y.op < x.op

theorem AtO.same {l : List Evt} {o : List Int} {a : Nat} {x y : Evt} (h1 : AtO l o a x) (h2 : AtO l o a y) : x = y := by
  obtain ⟨i, p1, p2⟩ := h1
  obtain ⟨j, q1, q2⟩ := h2
  rw [p1] at q1
  have := Int.ofNat.inj (Option.some.inj q1)
  subst this
  rw [p2] at q2; exact Option.some.inj q2
theorem rightTo_iff {l : List Evt} {clients : Int} {o : List Int} (P : AllNums l.length o) (hs : SortedO l o) : RightTo l clients o l.length ↔ RightH l clients := by
  constructor
  · rintro ⟨h1, h2⟩
    refine ⟨fun i x hx => ?_, fun i k x y hx hy hki hc hbad => ?_⟩
    · obtain ⟨a, ha, he⟩ := P.has (lt_of_get hx)
      exact h1 a x ha ⟨i, he, hx⟩
    · obtain ⟨a, ha, hea⟩ := P.has (lt_of_get hx)
      obtain ⟨b, hb, heb⟩ := P.has (lt_of_get hy)
      rcases Nat.lt_trichotomy a b with q | q | q
      · obtain ⟨z1, z2⟩ := h2 a b x y q hb ⟨i, hea, hx⟩ ⟨k, heb, hy⟩ hc
        rcases hbad with z | ⟨_, z⟩
        · omega
        · exact z z2
      · subst q
        rw [hea] at heb
        exact hki (Int.ofNat.inj (Option.some.inj heb)).symm
      · obtain ⟨z1, z2⟩ := h2 b a y x q ha ⟨k, heb, hy⟩ ⟨i, hea, hx⟩ hc.symm
        rcases hbad with z | ⟨z, _⟩ <;> omega
  · rintro ⟨h1, h2⟩
    refine ⟨fun a y ha ⟨i, _, hi⟩ => h1 i y hi, fun a b x y hab hb hx hy hc => ?_⟩
    have hss := hs a b x y hab hx hy
    obtain ⟨i, p1, p2⟩ := hx
    obtain ⟨k, q1, q2⟩ := hy
    have hne : k ≠ i := fun e => by
      subst e
      exact absurd (P.inj p1 q1) (by omega)
    have := h2 i k x y p2 q2 hne hc
    have hop : ¬ x.op = y.op := fun z => this (.inl z)
    have hlt : x.op < y.op := by omega
    refine ⟨hlt, ?_⟩
    by_cases q : x.ended < y.begun
    · exact q
    · exact absurd (.inr ⟨hlt, q⟩) this

/-- The last event of each client. -/
def LastM (l : List Evt) (o : List Int) (k : Nat) (m : List (Int × V)) : Prop :=
  ∀ c : Int, match kfind m c with
    | none => ∀ a y, a < k → AtO l o a y → y.client ≠ c
    | some v => ∃ a y, a < k ∧ AtO l o a y ∧ y.client = c ∧ v = .agg y.cs ∧ ∀ a' y', a' < k → AtO l o a' y' → y'.client = c → a' ≤ a
theorem LastM.zero (l : List Evt) (o : List Int) : LastM l o 0 [] := fun _ _ _ ha => absurd ha (Nat.not_lt_zero _)
theorem LastM.step {l : List Evt} {o : List Int} {k : Nat} {m : List (Int × V)} (M : LastM l o k m) {x : Evt} (hx : AtO l o k x) : LastM l o (k + 1) (kset m x.client (.agg x.cs)) := by
  intro c
  rw [kfind_kset]
  by_cases hc : c = x.client
  · rw [if_pos hc]
    exact ⟨k, x, Nat.lt_succ_self k, hx, hc.symm, rfl, fun a' _ ha' _ _ => Nat.le_of_lt_succ ha'⟩
  · rw [if_neg hc]
    have := M c
    cases hf : kfind m c with
    | none =>
      rw [hf] at this
      intro a y ha hy
      rcases Nat.lt_succ_iff_lt_or_eq.mp ha with q | q
      · exact this a y q hy
      · subst q; rw [AtO.same hy hx]; exact fun e => hc e.symm
    | some v =>
      rw [hf] at this
      obtain ⟨a, y, h1, h2, h3, h4, h5⟩ := this
      refine ⟨a, y, Nat.lt_succ_of_lt h1, h2, h3, h4, fun a' y' ha' hy' hc' => ?_⟩
      rcases Nat.lt_succ_iff_lt_or_eq.mp ha' with q | q
      · exact h5 a' y' q hy' hc'
      · subst q; rw [AtO.same hy' hx] at hc'; exact absurd hc'.symm hc
theorem RightTo.step {l : List Evt} {clients : Int} {o : List Int} {k : Nat} (G : RightTo l clients o k) {x : Evt} (hx : AtO l o k x) (hb : x.bd clients) (hl : ∀ a y, a < k → AtO l o a y → y.client = x.client → (∀ a' y', a' < k → AtO l o a' y' → y'.client = x.client → a' ≤ a) → y.op < x.op ∧ y.ended < x.begun) (hlast : (∃ a y, a < k ∧ AtO l o a y ∧ y.client = x.client) → ∃ a y, a < k ∧ AtO l o a y ∧ y.client = x.client ∧ ∀ a' y', a' < k → AtO l o a' y' → y'.client = x.client → a' ≤ a) : RightTo l clients o (k + 1) := by
  refine ⟨fun a y ha hy => ?_, fun a b u v hab hbk hu hv hc => ?_⟩
  · rcases Nat.lt_succ_iff_lt_or_eq.mp ha with q | q
    · exact G.1 a y q hy
    · subst q; rw [AtO.same hy hx]; exact hb
  · rcases Nat.lt_succ_iff_lt_or_eq.mp hbk with q | q
    · exact G.2 a b u v hab q hu hv hc
    · subst q
      have := AtO.same hv hx
      subst this
      obtain ⟨a2, y2, z1, z2, z3, z4⟩ := hlast ⟨a, u, hab, hu, hc⟩
      have z5 := hl a2 y2 z1 z2 z3 z4
      have z6 := z4 a u hab hu hc
      rcases Nat.lt_or_eq_of_le z6 with q | q
      · have w1 := G.2 a a2 u y2 q z1 hu z2 (hc.trans z3.symm)
        have w2 := G.1 a2 y2 z1 z2
        have w3 := w2.p0
        have w4 := w2.p1
        exact ⟨by omega, by omega⟩
      · subst q
        rw [AtO.same hu z2]; exact z5
end Wm
end

