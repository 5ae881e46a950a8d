/- What the functions come to, and the law: of my machine. -/
import Derived.Test.YtjcppjbepndjcaaWmEv
import Derived.Test.YtjcppjbepndjcaaWmProgHistRespects
import Derived.Test.YtjcppjbepndjcaaWmTxtHistRespectsA
import Derived.Test.YtjcppjbepndjcaaWmHeap
import Derived.Test.YtjcppjbepndjcaaWmPOp0
import Derived.Test.YtjcppjbepndjcaaWmOpen
import Derived.Test.YtjcppjbepndjcaaWmFast
set_option linter.all false
section
/- What was there is as it was. -/
namespace Wm
end Wm
end

section
/- What the functions of plan come to. -/
namespace Wm

end Wm
end

section
/- A config that is right. -/
namespace Wm
end Wm
end

section
/- Where everything stands in the memory: what the functions of plan come to. -/
namespace Wm

end Wm
end

section
/- Slices that grow, and loops. -/
namespace Wm
theorem mkSl_ok {h : H} {e b : Nat} {z : List V} {l c : Int} (h1 : 0 ≤ l) (h2 : l ≤ c) (h3 : c * b ≤ 140737488355328) (h4 : c ≤ 9223372036854775807) (h5 : z.length = e) (h6 : 0 < e) :
    h.mkSl e b z l c = some (.sl h.next 0 l.toNat (.ex c.toNat), h.new (.cells (repl z c.toNat) .rw)) := by
  subst h5
  simp [H.mkSl, h1, h2, h3, h4, h6]

theorem loop_ev {α : Type} {call : Nat → List V → H → Option (V × H)} {meth : Nat → Nat → Option Nat} {b : List V → H → Option (AX × List V × H)} {R : Type} {k : AX × List V × H → Option R} {Q : R → Prop} {e : List V} {h : H} (enc : α → List V) (I : α → H → Prop) (μ : α → H → Nat) (P : AX × List V × H → Prop) (a : α) (he : e = enc a) (h0 : I a h)
    (step : ∀ a h, I a h → Ev (b (enc a) h) fun r => (∃ a', r.1 = .normal ∧ r.2.1 = enc a' ∧ I a' r.2.2 ∧ μ a' r.2.2 < μ a h) ∨ (r.1 ≠ .normal ∧ P r)) (out : ∀ r, P r → Ev (k r) Q) : Ev (((envW meth call).loop b e h).bind k) Q := by
  subst he
  exact Ev.bind (loopW_ev enc I μ step a h h0) out

end Wm
end

section
/- A slice that one element is appended to, among blocks that came. -/
namespace Wm

section
variable {h : H} {P : List (Option Blk)} {e b : Nat} {new : List V}

end
end Wm
end

section
/- A header's word: what the functions of word, head and withyref04 come to. -/
namespace Wm

def U64 (w : Int) : Prop := 0 ≤ w ∧ w < 18446744073709551616

end Wm
end

section
/- Frames: what of a heap stays; known blocks are read and written. -/
namespace Wm

theorem bind_congr1 {α β : Type} {x y : Option α} {f : α → Option β} (h : x = y) : x.bind f = y.bind f := by rw [h]

/-- Blocks of 'h' outside of 'L' are as they were; more may have come. -/
structure Fr (L : List Nat) (h h' : H) : Prop where
  le : h.next ≤ h'.next
  ok : h'.ok
  same : ∀ b, b < h.next → b ∉ L → h'.get b = h.get b

theorem Fr.refl {L : List Nat} {h : H} (ok : h.ok) : Fr L h h := ⟨Nat.le_refl _, ok, fun _ _ _ => rfl⟩
theorem Fr.new {L : List Nat} {h h' : H} (f : Fr L h h') (x : Blk) : Fr L h (h'.new x) :=
  ⟨by have := f.le; simp only [H.next_new]; omega, f.ok.new x, fun b hb hL => by rw [get_new_ne (by have := f.le; omega)]; exact f.same b hb hL⟩
theorem Fr.put {L : List Nat} {h h' : H} (f : Fr L h h') {b : Nat} (hb : b ∈ L ∨ h.next ≤ b) (hl : b < h'.next) (x : Option Blk) : Fr L h (h'.put b x) :=
  ⟨f.le, f.ok.put hl x, fun c hc hL => by
    rw [get_put_ne (by rintro rfl; rcases hb with q | q; exact hL q; omega)]; exact f.same c hc hL⟩
theorem Fr.trans {L L' : List Nat} {h h1 h2 : H} (f : Fr L h h1) (g : Fr L' h1 h2) (hL : ∀ b ∈ L', b ∈ L ∨ h.next ≤ b) : Fr L h h2 :=
  ⟨Nat.le_trans f.le g.le, g.ok, fun b hb hn => by
    rw [g.same b (by have := f.le; omega) (fun q => by rcases hL b q with q | q; exact hn q; omega)]; exact f.same b hb hn⟩
theorem Fr.trans' {L : List Nat} {h h1 h2 : H} (f : Fr L h h1) (g : Fr L h1 h2) : Fr L h h2 := f.trans g fun _ q => .inl q
theorem Fr.get {L : List Nat} {h h' : H} (f : Fr L h h') (ok : h.ok) {b : Nat} {x : Blk} (hb : h.get b = some x) (hL : b ∉ L) : h'.get b = some x := by
  rw [f.same b (ok.lt hb) hL]; exact hb
/-! ### Reads and writes of blocks that are known -/
section
variable {h : H} {n b o : Nat}
theorem ld1_get' : h.ld1 (.ptr b o) = ldB (h.get b) o := H.ld1_eq
theorem ldN_get' : h.ldN (n + 1) (.ptr b o) = ldNB (h.get b) o (n + 1) := H.ldN_eq (Nat.succ_ne_zero n)
theorem st_get' {x : V} : h.st n (.ptr b o) x = match Nat.beq x.cells.length n with
    | true => (stB (h.get b) o x.cells).map fun y => h.put b (some y)
    | false => none := by
  simp only [H.st]
  split
  · rename_i hb; simp only [hb, H.stc_eq]
  · rename_i hb; simp only [hb]
theorem get_put' {x : Option Blk} {c : Nat} : (h.put b x).get c = if c = b then x else h.get c := H.get_put _ _ _ _
theorem get_new' {x : Blk} {c : Nat} : (h.new x).get c = if c = h.next then some x else h.get c := H.get_new _ _ _
end
/-! ### Configs -/
structure Cfg where
  s : Int
  a : Int
  c : Int
  hd : Int
  g : Int
  st : Int
/-! ### Words of a memory -/
structure Touch where
  kind : Int
  at' : Int
  was : Int
  now : Int
structure Mem where
  ws : List Int
  n : Int
  last : Touch

/-- A memory stands in these two blocks. -/
structure MemAt (h : H) (b bw : Nat) (m : Mem) : Prop where
  ne : b ≠ bw
  own : ∃ c, h.get b = some (.cells [.sl bw 0 m.ws.length c, .int .i64 m.n, .int .i64 m.last.kind, .int .i64 m.last.at', .int .u64 m.last.was, .int .u64 m.last.now] .rw)
  row : ∃ k, k ≠ Bk.ro ∧ h.get bw = some (.cells (m.ws.map (.int .u64)) k)
  u64 : ∀ w ∈ m.ws, U64 w
  small : m.ws.length ≤ 65536

end Wm
end

section
/- A slice that grows among blocks that came: what it holds. -/
namespace Wm

theorem lt_of_get {α : Type} {l : List α} {j : Nat} {x : α} (h : l[j]? = some x) : j < l.length := by
  rcases Nat.lt_or_ge j l.length with q | q
  · exact q
  · rw [List.getElem?_eq_none q] at h; cases h

end Wm
end

section
/- All words of a config, in their order: withyref06.Words. -/
namespace Wm

section
variable {h : H} (ok : h.ok) (s a g st : Int) (c hd : Nat) (hc : c ≤ 8) (hhd : hd ≤ 16)
include ok hc hhd

omit hc hhd in
end

end Wm
end

section
/- Where a word stands: withyref06.At, and that it is where plan says. -/
namespace Wm

end Wm
end

section
/- A slice of words. -/
namespace Wm

end Wm
end

section
/- How many slots are gray: shade.Grays and withylaw09.grays. -/
namespace Wm

end Wm
end

section
/- The words of a memory in which nothing was done: withyref06.Memory. -/
namespace Wm

end Wm
end

section
/- Words of a memory by what they are: all of a config, in their order, and where each stands. -/
namespace Wm

inductive Wd
  | clock | epoch | grays | top
  | pin (k : Nat)
  | entry (k i : Nat)
  | view (k : Nat)
  | start (k : Nat)
  | header (s : Nat)
  | link (s : Nat)
  | body (s i : Nat)
  deriving DecidableEq

def Cfg.S (k : Cfg) : Nat := k.s.toNat
def Cfg.room (k : Cfg) : Nat := (if k.a < 3 then 3 else k.a).toNat
def Cfg.C (k : Cfg) : Nat := k.c.toNat
def Cfg.H (k : Cfg) : Nat := k.hd.toNat
def Wd.ok (k : Cfg) : Wd → Prop
  | .clock | .epoch | .grays | .top => True
  | .pin q | .view q | .start q => q < k.C
  | .entry q i => q < k.C ∧ i < k.H
  | .header s | .link s => s < k.S
  | .body s i => s < k.S ∧ i < k.room
instance (k : Cfg) (l : Wd) : Decidable (l.ok k) := by cases l <;> (unfold Wd.ok; infer_instance)

end Wm
end

section
/- The program's machines as plain functions: headers, shades. -/
namespace Wm

structure Hdr where
  kind : Int
  mark : Int
  gray : Bool
  arity : Int
  gen : Int
  stamp : Int
def black (e : Int) : Int := (e / 4 + 1) % 2
/-- A shade. -/
structure Shade where
  grew : Bool
  at' : Int
  e : Int
  next : Int
  was : Int
end Wm
end

section
/- What the memory's functions come to. -/
namespace Wm
attribute [local congr] bind_congr1

section
variable {h : H} {b bw : Nat} {m : Mem}

end
end Wm
end

section
/- Words of parts, and headers' words: word.Pack, head.Pack. -/
namespace Wm
attribute [local congr] bind_congr1

end Wm
end

section
/- Headers and their words: what the functions of head come to. -/
namespace Wm
attribute [local congr] bind_congr1

def born (e : Int) : Int := if e % 4 = 0 then 1 - black e else black e
end Wm
end

section
/- What the references' functions of the first layers come to. -/
namespace Wm
attribute [local congr] bind_congr1

end Wm
end

section
/- All words of a config, and those of a memory in which nothing was done: withyref06.Words, Memory. -/
namespace Wm
attribute [local congr] bind_congr1
attribute [local irreducible] wr

theorem sl_idx {b n i e : Nat} {c : Cap} (hi : i < n) : indexAV e (.sl b 0 n c) (.int .i64 (i : Int)) = some (.ptr b (i * e)) := by
  simp only [indexAV, indexOf, asIAny, show decide ((0 : Int) ≤ (i : Int)) = true from decide_eq_true (by omega), show decide ((i : Int) < (n : Int)) = true from decide_eq_true (by omega), Bool.and_self, Nat.zero_add, Int.toNat_natCast]
theorem sl_idx1 {b n i : Nat} {c : Cap} (hi : i < n) : indexAV 1 (.sl b 0 n c) (.int .i64 (i : Int)) = some (.ptr b i) := by rw [sl_idx hi, Nat.mul_one]

end Wm
end

section
/- The machine that makes a slot gray: shade.NewShade, Step. -/
namespace Wm
attribute [local congr] bind_congr1
attribute [local irreducible] wr

end Wm
end

section
/- Rows of numbers, and memories of them: slices.Clone, mem.Of, mem.Words. -/
namespace Wm
attribute [local congr] bind_congr1
attribute [local irreducible] wr

end Wm
end

section
/- Slices that grow: what is appended, one element at a time. -/
namespace Wm
attribute [local congr] bind_congr1
attribute [local irreducible] wr

/-- The block of a slice. -/
def V.blk : V → List Nat
  | .sl b _ _ _ => [b]
  | _ => []

/-- A row of numbers of a kind that is only read, or nil. -/
def RowN (kd : Go.IntKind) (g : Nat → Option Blk) (x : V) (ws : List Int) : Prop := (x = .nilsl ∧ ws = []) ∨ ∃ b c k, x = .sl b 0 ws.length c ∧ g b = some (.cells (ws.map (.int kd)) k)
theorem RowN.len {kd : Go.IntKind} {g : Nat → Option Blk} {x : V} {ws : List Int} (h : RowN kd g x ws) : lenSl x = some ws.length := by
  obtain ⟨rfl, rfl⟩ | ⟨b, c, k, rfl, _⟩ := h <;> rfl
theorem RowN.at {kd : Go.IntKind} {g : H} {x : V} {ws : List Int} (h : RowN kd g.get x ws) {i : Nat} {w : Int} (hw : ws[i]? = some w) : ∃ b, indexAV 1 x (.int .i64 (i : Int)) = some (.ptr b i) ∧ g.ld1 (.ptr b i) = some (.int kd w) := by
  have hi := lt_of_get hw
  obtain ⟨rfl, rfl⟩ | ⟨b, c, k, rfl, hb⟩ := h
  · simp at hw
  · refine ⟨b, sl_idx1 hi, ?_⟩
    rw [ld1_get', hb, ldB_cells, List.getElem?_map, hw]; rfl
theorem RowN.fr {kd : Go.IntKind} {g g' : H} {L : List Nat} {x : V} {ws : List Int} (h : RowN kd g.get x ws) (ok : g.ok) (F : Fr L g g') (hL : ∀ b ∈ x.blk, b ∉ L) : RowN kd g'.get x ws := by
  obtain h1 | ⟨b, c, k, rfl, hb⟩ := h
  · exact .inl h1
  · exact .inr ⟨b, c, k, rfl, F.get ok hb (hL b (by simp [V.blk]))⟩
end Wm
end

section
/- The memory that the laws of layer 9 begin with: withylaw09.filled. -/
namespace Wm
attribute [local congr] bind_congr1
attribute [local irreducible] wr

end Wm
end

section
/- What arguments are, as lists of typed things. -/
namespace Wm

theorem chunks {α : Type} {P : List V → Prop} {enc : α → List V} {Q : α → Prop} {z : Nat} (hP : ∀ c, P c → ∃ y, c = enc y ∧ Q y) :
    ∀ (n : Nat) (cs : List V), cs.length = n * z → (∀ i, i < n → P ((cs.drop (i * z)).take z)) → ∃ ys : List α, cs = (ys.map enc).flatten ∧ ys.length = n ∧ ∀ y ∈ ys, Q y
  | 0, cs, hl, _ => ⟨[], by simpa using hl, rfl, by simp⟩
  | n + 1, cs, hl, h => by
    obtain ⟨y, hy, qy⟩ := hP _ (h 0 (by omega))
    have hl2 : (cs.drop z).length = n * z := by rw [List.length_drop, hl, Nat.add_mul]; omega
    obtain ⟨ys, h1, h2, h3⟩ := chunks hP n (cs.drop z) hl2 (fun i hi => by
      have := h (i + 1) (by omega)
      rw [Nat.add_mul, Nat.one_mul, Nat.add_comm (i * z) z, ← List.drop_drop] at this
      exact this)
    refine ⟨y :: ys, ?_, by simp [h2], fun x hx => ?_⟩
    · rw [List.map_cons, List.flatten_cons, ← h1, ← hy, Nat.zero_mul, List.drop_zero, List.take_append_drop]
    · rcases List.mem_cons.mp hx with rfl | hx
      · exact qy
      · exact h3 x hx

theorem flat_ones {α β : Type} (f : α → β) (l : List α) : (l.map fun m => [f m]).flatten = l.map f := by
  induction l with
  | nil => rfl
  | cons x l ih => simp only [List.map_cons, List.flatten_cons, ih, List.cons_append, List.nil_append]

theorem rowN_of {g : Nat → Option Blk} {kd : Go.IntKind} {by' : Nat} {v : V} (h : CellOk g (.sl by' [.int kd]) v) :
    ∃ ws, RowN kd g v ws ∧ (∀ w ∈ ws, (Go.Lit.int kd w).wf = true) ∧ ws.length * by' ≤ 140737488351232 ∧ ws.length ≤ Go.maxLen := by
  unfold CellOk at h
  rcases h with rfl | ⟨b, n, cs, rfl, ⟨h1, h2⟩, h3, h4, h5⟩
  · exact ⟨[], .inl ⟨rfl, rfl⟩, by simp, by simp, by simp⟩
  · obtain ⟨ws, e1, e2, e3⟩ := chunks (α := Int) (enc := fun m => [V.int kd m]) (Q := fun w => (Go.Lit.int kd w).wf = true) (P := CellsOk g [.int kd]) (fun c hc => by
      obtain ⟨v, vs, rfl, ⟨m, rfl, hm⟩, h⟩ := hc
      unfold CellsOk at h
      subst h
      exact ⟨m, rfl, hm⟩) n cs h4 h5
    have e4 : cs = ws.map (.int kd) := by
      rw [e1]; exact flat_ones _ ws
    subst e2
    exact ⟨ws, .inr ⟨b, _, .ro, rfl, by rw [h3, e4]⟩, e3, h2, h1⟩

theorem wf_i64 {n : Int} (h : (Go.Lit.int .i64 n).wf = true) : -9223372036854775808 ≤ n ∧ n ≤ 9223372036854775807 := by
  simpa [Go.Lit.wf, Go.IntKind.min, Go.IntKind.max, Go.IntKind.signed, Go.IntKind.bits] using h
end Wm
end

section
/- Events: rows of them, rows of truths. -/
namespace Wm
attribute [local congr] bind_congr1
attribute [local irreducible] wr

structure Evt where
  client : Int
  op : Int
  begun : Int
  point : Int
  ended : Int
  behind : Bool
  kind : Int
  n : Int
  h : Int
  x : Int
  y : Int
  err : Int
  ah : Int
  yes : Bool
def Evt.cs (e : Evt) : List V := [.int .i64 e.client, .int .i64 e.op, .int .i64 e.begun, .int .i64 e.point, .int .i64 e.ended, .bool e.behind, .int .i64 e.kind, .int .i64 e.n, .int .u64 e.h, .int .u64 e.x, .int .u64 e.y, .int .i64 e.err, .int .u64 e.ah, .bool e.yes]
def I64 (n : Int) : Prop := -9223372036854775808 ≤ n ∧ n ≤ 9223372036854775807
structure Evt.i64 (e : Evt) : Prop where
  client : I64 e.client
  op : I64 e.op
  begun : I64 e.begun
  point : I64 e.point
  ended : I64 e.ended
def evtSh : List CSh := [.int .i64, .int .i64, .int .i64, .int .i64, .int .i64, .bool, .int .i64, .int .i64, .int .u64, .int .u64, .int .u64, .int .i64, .int .u64, .bool]

/-- A row of events. -/
def RowE (g : Nat → Option Blk) (x : V) (l : List Evt) : Prop := (x = .nilsl ∧ l = []) ∨ ∃ b c k, x = .sl b 0 l.length c ∧ g b = some (.cells (l.map Evt.cs).flatten k)
theorem evt14 (l : List Evt) : ∀ x ∈ l.map Evt.cs, x.length = 14 := fun x hx => by
  obtain ⟨_, _, rfl⟩ := List.mem_map.mp hx; rfl
theorem RowE.len {g : Nat → Option Blk} {x : V} {l : List Evt} (h : RowE g x l) : lenSl x = some l.length := by
  obtain ⟨rfl, rfl⟩ | ⟨b, c, k, rfl, _⟩ := h <;> rfl
theorem RowE.fr {g g' : H} {L : List Nat} {x : V} {l : List Evt} (h : RowE g.get x l) (ok : g.ok) (F : Fr L g g') (hL : ∀ b ∈ x.blk, b ∉ L) : RowE g'.get x l := by
  obtain h1 | ⟨b, c, k, rfl, hb⟩ := h
  · exact .inl h1
  · exact .inr ⟨b, c, k, rfl, F.get ok hb (hL b (by simp [V.blk]))⟩
theorem RowE.lt {g : H} {x : V} {l : List Evt} (h : RowE g.get x l) (ok : g.ok) : ∀ b ∈ x.blk, b < g.next := by
  obtain ⟨rfl, rfl⟩ | ⟨b, c, k, rfl, hb⟩ := h
  · simp [V.blk]
  · intro c' hc; simp only [V.blk, List.mem_singleton] at hc; subst hc; exact ok.lt hb
theorem RowE.at {g : H} {x : V} {l : List Evt} (h : RowE g.get x l) {i : Nat} {y : Evt} (hy : l[i]? = some y) :
    ∃ b, indexAV 14 x (.int .i64 (i : Int)) = some (.ptr b (i * 14)) ∧ ldNB (g.get b) (i * 14) 14 = some (.agg y.cs) ∧ ldB (g.get b) (i * 14 + 2) = some (.int .i64 y.begun) ∧ ldB (g.get b) (i * 14 + 4) = some (.int .i64 y.ended) ∧ ldB (g.get b) (i * 14 + 1) = some (.int .i64 y.op) ∧ b ∈ x.blk := by
  have hi := lt_of_get hy
  obtain ⟨rfl, rfl⟩ | ⟨b, c, k, rfl, hb⟩ := h
  · simp at hy
  · have hn : (l.map Evt.cs).flatten.length = l.length * 14 := by rw [flat_length (evt14 l), List.length_map]
    have hp := flat_part (evt14 l) i y.cs (by rw [List.getElem?_map, hy]; rfl)
    have at' : ∀ j, j < 14 → (l.map Evt.cs).flatten[i * 14 + j]? = y.cs[j]? := fun j hj => by
      rw [← hp, List.getElem?_take, if_pos hj, List.getElem?_drop]
    refine ⟨b, sl_idx hi, ?_, ?_, ?_, ?_, by simp [V.blk]⟩
    · rw [hb, ldNB_cells, decide_eq_true (by rw [hn]; omega), hp]
    · rw [hb, ldB_cells, at' 2 (by decide)]; rfl
    · rw [hb, ldB_cells, at' 4 (by decide)]; rfl
    · rw [hb, ldB_cells, at' 1 (by decide)]; rfl
theorem rowE_of {g : Nat → Option Blk} {by' : Nat} {v : V} (h : CellOk g (.sl by' evtSh) v) :
    ∃ l, RowE g v l ∧ (∀ y ∈ l, y.i64) ∧ l.length * by' ≤ 140737488351232 ∧ l.length ≤ Go.maxLen := by
  unfold CellOk at h
  rcases h with rfl | ⟨b, n, cs, rfl, ⟨h1, h2⟩, h3, h4, h5⟩
  · exact ⟨[], .inl ⟨rfl, rfl⟩, by simp, by simp, by simp⟩
  · obtain ⟨ws, e1, e2, e3⟩ := chunks (α := Evt) (enc := Evt.cs) (Q := Evt.i64) (P := CellsOk g evtSh) (fun c hc => by
      obtain ⟨_, _, rfl, ⟨y0, rfl, b0⟩, _, _, rfl, ⟨y1, rfl, b1⟩, _, _, rfl, ⟨y2, rfl, b2⟩, _, _, rfl, ⟨y3, rfl, b3⟩, _, _, rfl, ⟨y4, rfl, b4⟩, _, _, rfl, ⟨y5, rfl⟩, _, _, rfl, ⟨y6, rfl, b6⟩, _, _, rfl, ⟨y7, rfl, b7⟩, _, _, rfl, ⟨y8, rfl, b8⟩, _, _, rfl, ⟨y9, rfl, b9⟩, _, _, rfl, ⟨y10, rfl, b10⟩, _, _, rfl, ⟨y11, rfl, b11⟩, _, _, rfl, ⟨y12, rfl, b12⟩, _, _, rfl, ⟨y13, rfl⟩, rfl⟩ := hc
      exact ⟨⟨y0, y1, y2, y3, y4, y5, y6, y7, y8, y9, y10, y11, y12, y13⟩, rfl, ⟨wf_i64 b0, wf_i64 b1, wf_i64 b2, wf_i64 b3, wf_i64 b4⟩⟩) n cs h4 h5
    subst e2
    exact ⟨ws, .inr ⟨b, _, .ro, rfl, by rw [h3, e1]⟩, e3, h2, h1⟩

/-! ### Ahead -/
theorem ahead_spec (a b : Evt) (h : H) : C 183 [.agg a.cs, .agg b.cs] h = some (.bool (decide (a.ended < b.begun)), h) := by
  refine call_closed (af := F.hist_Ahead) (by kernel_rfl) rfl (by rfl) (by rfl) h ?_
  unfold Evt.cs
  rw [S.hist_Ahead_eq]
  have h0 : H.empty.next = 0 := rfl
  simp only [S.hist_Ahead, Option.bind_some, ld1_get', get_new', ldB_cells, H.next_new, List.getElem?_cons_zero, List.getElem?_cons_succ, Nat.zero_add, V.one, asI_int, if_true, if_false, reduceCtorEq, h0]
  exact Ev.some rfl
theorem refAhead_spec (a b : Evt) (h : H) : C 184 [.agg a.cs, .agg b.cs] h = some (.bool (decide (a.ended < b.begun)), h) := by
  refine call_closed (af := F.withyref18_Ahead) (by kernel_rfl) rfl (by rfl) (by rfl) h ?_
  unfold Evt.cs
  rw [S.withyref18_Ahead_eq]
  have h0 : H.empty.next = 0 := rfl
  simp only [S.withyref18_Ahead, Option.bind_some, ld1_get', get_new', ldB_cells, H.next_new, List.getElem?_cons_zero, List.getElem?_cons_succ, Nat.zero_add, V.one, asI_int, if_true, if_false, reduceCtorEq, h0]
  exact Ev.some rfl

/-! ### Rows of truths -/
def bools (l : List Bool) : List V := l.map .bool
theorem bools_len (l : List Bool) : (bools l).length = l.length := List.length_map _
theorem bools_at {l : List Bool} {i : Nat} {v : Bool} (h : l[i]? = some v) : (bools l)[i]? = some (.bool v) := by unfold bools; rw [List.getElem?_map, h]; rfl
theorem bools_set (l : List Bool) (i : Nat) (v : Bool) : (bools l).set i (.bool v) = bools (l.set i v) := by unfold bools; rw [List.map_set]
theorem repl_bool (n : Nat) : repl [V.bool false] n = bools (List.replicate n false) := by
  unfold bools
  induction n with
  | zero => rfl
  | succ n ih => simp only [repl, ih, List.replicate_succ, List.map_cons, List.cons_append, List.nil_append]
/-- A made slice. -/
theorem mkBools {h : H} {n : Nat} (hn : n ≤ 1000000) : h.mkSl 1 1 [(.bool false)] (n : Int) (n : Int) = some (.sl h.next 0 n (.ex n), h.new (.cells (bools (List.replicate n false)) .rw)) := by
  have h0 : (0 : Int) ≤ (n : Int) := Int.natCast_nonneg n
  have h1 : (n : Int) * ((1 : Nat) : Int) ≤ 140737488355328 := by omega
  have h2 : (n : Int) ≤ 9223372036854775807 := by omega
  rw [mkSl_ok (e := 1) (z := [.bool false]) h0 (Int.le_refl _) h1 h2 rfl (by decide), Int.toNat_natCast, repl_bool]
end Wm
end

section
/- Orders that respect a history: by the code, and by the document. -/
namespace Wm
attribute [local congr] bind_congr1
attribute [local irreducible] wr

/-! ### What it is -/
def AtO (l : List Evt) (o : List Int) (a : Nat) (y : Evt) : Prop := ∃ i : Nat, o[a]? = some (i : Int) ∧ l[i]? = some y
def GoodAt (l : List Evt) (o : List Int) (b : Nat) : Prop := ∃ (i : Nat) (x : Evt), o[b]? = some (i : Int) ∧ l[i]? = some x ∧ (∀ a, a < b → o[a]? ≠ some (i : Int)) ∧ ∀ a y, a < b → AtO l o a y → ¬ x.ended < y.begun
def GoodO (l : List Evt) (o : List Int) (k : Nat) : Prop := ∀ b, b < k → GoodAt l o b
def Resp (l : List Evt) (o : List Int) : Prop := o.length = l.length ∧ GoodO l o l.length
theorem GoodO.succ {l : List Evt} {o : List Int} {k : Nat} (h : GoodO l o k) (g : GoodAt l o k) : GoodO l o (k + 1) := fun b hb => by
  rcases Nat.lt_succ_iff_lt_or_eq.mp hb with h1 | h1
  · exact h b h1
  · exact h1 ▸ g
theorem notResp {l : List Evt} {o : List Int} {k : Nat} (hk : k < l.length) (h : ¬ GoodAt l o k) : ¬ Resp l o := fun r => h (r.2 k hk)
theorem GoodAt.of {l : List Evt} {o : List Int} {k i : Nat} (hi : o[k]? = some (i : Int)) (g : GoodAt l o k) : ∃ x, l[i]? = some x ∧ (∀ a, a < k → o[a]? ≠ some (i : Int)) ∧ ∀ a y, a < k → AtO l o a y → ¬ x.ended < y.begun := by
  obtain ⟨j, x, h1, h2, h3, h4⟩ := g
  rw [hi] at h1
  have : i = j := Int.ofNat.inj (Option.some.inj h1)
  subst this
  exact ⟨x, h2, h3, h4⟩
theorem GoodAt.pos {l : List Evt} {o : List Int} {k : Nat} {n : Int} (hi : o[k]? = some n) (g : GoodAt l o k) : 0 ≤ n ∧ n < l.length := by
  obtain ⟨j, x, h1, h2, _⟩ := g
  rw [hi] at h1
  have e : n = (j : Int) := Option.some.inj h1
  have := lt_of_get h2
  omega

/-- Which were met. -/
structure Met (n : Nat) (o : List Int) (k : Nat) (ms : List Bool) : Prop where
  len : ms.length = n
  met : ∀ i, i < n → (ms[i]? = some true ↔ ∃ a, a < k ∧ o[a]? = some (i : Int))
theorem Met.zero (n : Nat) (o : List Int) : Met n o 0 (List.replicate n false) :=
  ⟨List.length_replicate, fun i hi => by
    rw [List.getElem?_replicate, if_pos hi]
    constructor
    · intro h; simp at h
    · rintro ⟨a, h, _⟩; omega⟩
theorem Met.step {n : Nat} {o : List Int} {k i : Nat} {ms : List Bool} (M : Met n o k ms) (hi : i < n) (ho : o[k]? = some (i : Int)) : Met n o (k + 1) (ms.set i true) := by
  refine ⟨by rw [List.length_set]; exact M.len, fun j hj => ?_⟩
  by_cases h : i = j
  · subst h
    rw [List.getElem?_set_self (by rw [M.len]; exact hj)]
    exact ⟨fun _ => ⟨k, Nat.lt_succ_self k, ho⟩, fun _ => rfl⟩
  · rw [List.getElem?_set_ne h, M.met j hj]
    constructor
    · rintro ⟨a, h1, h2⟩; exact ⟨a, Nat.lt_succ_of_lt h1, h2⟩
    · rintro ⟨a, h1, h2⟩
      rcases Nat.lt_succ_iff_lt_or_eq.mp h1 with h3 | h3
      · exact ⟨a, h3, h2⟩
      · subst h3
        rw [ho] at h2
        exact absurd (Int.ofNat.inj (Option.some.inj h2)) h

theorem bools_splice {ms : List Bool} {p : Nat} (hp : p < ms.length) {v : Bool} : (bools ms).take p ++ [V.bool v] ++ (bools ms).drop (p + 1) = bools (ms.set p v) := by
  rw [← bools_set, List.set_eq_take_append_cons_drop, if_pos (by rw [bools_len]; exact hp), List.append_assoc]; rfl

/-- What stands where. -/
structure RespAt (h g : H) (mb : Nat) (ms : List Bool) : Prop where
  fr : Fr [] h g
  nb : h.next ≤ mb
  met : g.get mb = some (.cells (bools ms) .rw)
theorem RespAt.set {h g : H} {mb : Nat} {ms : List Bool} (Z : RespAt h g mb ms) {i : Nat} (hi : i < ms.length) {cs : List V} (hcs : cs = (bools ms).take i ++ [V.bool true] ++ (bools ms).drop (i + 1)) : RespAt h (g.put mb (some (.cells cs .rw))) mb (ms.set i true) :=
  ⟨Z.fr.put (.inr Z.nb) (Z.fr.ok.lt Z.met) _, Z.nb, by rw [get_put_self, hcs, bools_splice hi]⟩

/-- The latest beginning. -/
def Latest (l : List Evt) (o : List Int) (k : Nat) (t : Int) : Prop := 0 < k → (∃ a y, a < k ∧ AtO l o a y ∧ y.begun = t) ∧ ∀ a y, a < k → AtO l o a y → y.begun ≤ t

theorem rs_k {k : Nat} (h : k < 60) : wr .i64 ((k : Int) + 1) = ((k + 1 : Nat) : Int) := by rw [wr64 (by omega) (by omega)]; rfl
/-- One step of the code's loop. -/
theorem resp_step {h : H} (ok : h.ok) {x0 : V} {l : List Evt} (hx : RowE h.get x0 l) {x1 : V} {o : List Int} (ho : RowN .i64 h.get x1 o) (hlen : o.length = l.length) (hl : l.length ≤ 60) {mb : Nat} {ms : List Bool} {g : H} (Z : RespAt h g mb ms) {k : Nat} (hk : k < l.length)
    (G : GoodO l o k) (M : Met l.length o k ms) {t : Int} (T : Latest l o k t) :
    Ev (S.hist_Respects_c1_S W x0 (.sl mb 0 l.length (.ex l.length)) t x1 (l.length : Nat) (k : Nat) g) fun r =>
      (r.1 = .ret ∧ r.2.1 = S.hist_Respects_c1_O (.bool false) ∧ Fr [] h r.2.2 ∧ ¬ Resp l o) ∨
      ∃ t' ms', r.1 = .normal ∧ r.2.1 = S.hist_Respects_c1_E x0 (.sl mb 0 l.length (.ex l.length)) (.int .i64 t') x1 (.int .i64 (l.length : Nat)) (.int .i64 (k + 1 : Nat)) ∧ RespAt h r.2.2 mb ms' ∧ GoodO l o (k + 1) ∧ Met l.length o (k + 1) ms' ∧ Latest l o (k + 1) t' := by
  obtain ⟨q, hq⟩ : ∃ q, o[k]? = some q := ⟨_, List.getElem?_eq_getElem (hlen ▸ hk)⟩
  obtain ⟨ob, hix, hld⟩ := (ho.fr ok Z.fr (by simp)).at hq
  have hdk : decide ((k : Int) < (l.length : Int)) = true := decide_eq_true (by omega)
  have wk := rs_k (Nat.lt_of_lt_of_le hk hl)
  have hxl := hx.len
  have bad : ∀ {g' : H}, Fr [] h g' → ¬ GoodAt l o k → Ev (some (AX.ret, S.hist_Respects_c1_O (.bool false), g')) fun r =>
      (r.1 = .ret ∧ r.2.1 = S.hist_Respects_c1_O (.bool false) ∧ Fr [] h r.2.2 ∧ ¬ Resp l o) ∨
      ∃ t' ms', r.1 = .normal ∧ r.2.1 = S.hist_Respects_c1_E x0 (.sl mb 0 l.length (.ex l.length)) (.int .i64 t') x1 (.int .i64 (l.length : Nat)) (.int .i64 (k + 1 : Nat)) ∧ RespAt h r.2.2 mb ms' ∧ GoodO l o (k + 1) ∧ Met l.length o (k + 1) ms' ∧ Latest l o (k + 1) t' :=
    fun F hb => Ev.some (.inl ⟨rfl, rfl, F, notResp hk hb⟩)
  by_cases hq0 : q < 0
  · have d : decide (q < 0) = true := decide_eq_true hq0
    simp only [S.hist_Respects_c1_S, Option.bind_some, asI_int, hdk, hix, hld, d]
    exact bad Z.fr fun g => by have := (g.pos hq).1; omega
  have d0 : decide (q < 0) = false := decide_eq_false hq0
  by_cases hqn : (l.length : Int) ≤ q
  · have d : decide ((l.length : Int) ≤ q) = true := decide_eq_true hqn
    simp only [S.hist_Respects_c1_S, Option.bind_some, asI_int, hdk, hix, hld, d0, hxl, d]
    exact bad Z.fr fun g => by have := (g.pos hq).2; omega
  obtain ⟨i, rfl, hi⟩ : ∃ i : Nat, q = (i : Int) ∧ i < l.length := ⟨q.toNat, by omega, by omega⟩
  have d1 : decide ((l.length : Int) ≤ (i : Int)) = false := decide_eq_false hqn
  have him : indexAV 1 (.sl mb 0 l.length (.ex l.length)) (.int .i64 (i : Int)) = some (.ptr mb i) := sl_idx1 hi
  obtain ⟨m, hm⟩ : ∃ m, ms[i]? = some m := ⟨_, List.getElem?_eq_getElem (M.len ▸ hi)⟩
  have hmb := bools_at hm
  have hmet := Z.met
  cases m with
  | true =>
    simp only [S.hist_Respects_c1_S, Option.bind_some, ld1_get', st_get', ldB_cells, stB_cells, Nat.zero_add, V.one, V.cells, asI_int, asB_bool, List.length_cons, List.length_nil, Nat.beq_refl, List.all_cons, List.all_nil, Bool.not_true, Bool.false_or, Bool.or_self, Bool.and_self, decide_false, splice, reduceCtorEq, hdk, hix, hld, d0, hxl, d1, him, hmet, hmb]
    refine bad Z.fr fun g => ?_
    obtain ⟨x, _, h3, _⟩ := g.of hq
    obtain ⟨a, ha, hb⟩ := (M.met i hi).mp hm
    exact h3 a ha hb
  | false =>
    have hfresh : ∀ a, a < k → o[a]? ≠ some (i : Int) := fun a ha hb => by
      have := (M.met i hi).mpr ⟨a, ha, hb⟩
      rw [hm] at this; cases this
    have him2 : i < ms.length := M.len ▸ hi
    have hle : decide (i + 1 ≤ (bools ms).length) = true := decide_eq_true (by rw [bools_len]; exact him2)
    have hne0 : decide (Bk.rw = Bk.ro) = false := rfl
    obtain ⟨x, hxi⟩ : ∃ x, l[i]? = some x := ⟨_, List.getElem?_eq_getElem hi⟩
    have Z1 := Z.set him2 rfl
    have M1 := M.step hi hq
    generalize hcs : (bools ms).take i ++ [V.bool true] ++ (bools ms).drop (i + 1) = cs at Z1
    obtain ⟨eb, e1, _, e3, e4, _, hebm⟩ := (hx.fr ok Z.fr (by simp)).at hxi
    have hne : eb ≠ mb := fun q => absurd (hx.lt ok eb hebm) (Nat.not_lt_of_le (q ▸ Z.nb))
    have atk : AtO l o k x := ⟨i, hq, hxi⟩
    have good : (∀ a y, a < k → AtO l o a y → ¬ x.ended < y.begun) → GoodO l o (k + 1) := fun h4 => G.succ ⟨i, x, hq, hxi, hfresh, h4⟩
    by_cases hk0 : 0 < k
    · obtain ⟨⟨a0, y0, ha0, hy0, ht0⟩, hmax⟩ := T hk0
      have dk0 : decide ((0 : Int) < (k : Int)) = true := decide_eq_true (by omega)
      have dkz : decide ((k : Int) = 0) = false := decide_eq_false (by omega)
      by_cases hlt : x.ended < t
      · have d2 : decide (x.ended < t) = true := decide_eq_true hlt
        simp only [S.hist_Respects_c1_S, ptrAt_ptr, Option.bind_some, Option.map_some, ld1_get', st_get', get_put', ldB_cells, stB_cells, Nat.zero_add, V.one, V.cells, asI_int, asB_bool, List.length_cons, List.length_nil, Nat.beq_refl, List.all_cons, List.all_nil, Bool.not_true, Bool.or_self, Bool.and_self, decide_false, if_false, splice, reduceCtorEq, hdk, hix, hld, d0, hxl, d1, him, hmet, hmb, hle, hcs, hne, dk0, e1, e4, d2]
        refine bad Z1.fr fun g => ?_
        obtain ⟨x', h2, _, h4⟩ := g.of hq
        rw [hxi] at h2; cases h2
        exact h4 a0 y0 ha0 hy0 (by rw [ht0]; exact hlt)
      · have d2 : decide (x.ended < t) = false := decide_eq_false hlt
        have G1 := good fun a y ha hy hlt2 => hlt (Int.lt_of_lt_of_le hlt2 (hmax a y ha hy))
        by_cases htx : t < x.begun
        · have d3 : decide (t < x.begun) = true := decide_eq_true htx
          simp only [S.hist_Respects_c1_S, ptrAt_ptr, Option.bind_some, Option.map_some, ld1_get', st_get', get_put', ldB_cells, stB_cells, Nat.zero_add, V.one, V.cells, asI_int, asB_bool, List.length_cons, List.length_nil, Nat.beq_refl, List.all_cons, List.all_nil, Bool.not_true, Bool.or_self, Bool.and_self, decide_false, if_false, splice, reduceCtorEq, hdk, hix, hld, d0, hxl, d1, him, hmet, hmb, hle, hcs, hne, dk0, dkz, e1, e3, e4, d2, d3, wk]
          refine Ev.some (.inr ⟨x.begun, _, rfl, rfl, Z1, G1, M1, fun _ => ⟨⟨k, x, Nat.lt_succ_self k, atk, rfl⟩, fun a y ha hy => ?_⟩⟩)
          rcases Nat.lt_succ_iff_lt_or_eq.mp ha with h1 | h1
          · exact Int.le_trans (hmax a y h1 hy) (Int.le_of_lt htx)
          · subst h1
            obtain ⟨j, hj1, hj2⟩ := hy
            rw [hq] at hj1
            have : i = j := Int.ofNat.inj (Option.some.inj hj1)
            subst this
            rw [hxi] at hj2; cases hj2; exact Int.le_refl _
        · have d3 : decide (t < x.begun) = false := decide_eq_false htx
          simp only [S.hist_Respects_c1_S, ptrAt_ptr, Option.bind_some, Option.map_some, ld1_get', st_get', get_put', ldB_cells, stB_cells, Nat.zero_add, V.one, V.cells, asI_int, asB_bool, List.length_cons, List.length_nil, Nat.beq_refl, List.all_cons, List.all_nil, Bool.not_true, Bool.or_self, Bool.and_self, decide_false, if_false, splice, reduceCtorEq, hdk, hix, hld, d0, hxl, d1, him, hmet, hmb, hle, hcs, hne, dk0, dkz, e1, e3, e4, d2, d3, wk]
          refine Ev.some (.inr ⟨t, _, rfl, rfl, Z1, G1, M1, fun _ => ⟨⟨a0, y0, Nat.lt_succ_of_lt ha0, hy0, ht0⟩, fun a y ha hy => ?_⟩⟩)
          rcases Nat.lt_succ_iff_lt_or_eq.mp ha with h1 | h1
          · exact hmax a y h1 hy
          · subst h1
            obtain ⟨j, hj1, hj2⟩ := hy
            rw [hq] at hj1
            have : i = j := Int.ofNat.inj (Option.some.inj hj1)
            subst this
            rw [hxi] at hj2; cases hj2; exact Int.not_lt.mp htx
    · have hkz : k = 0 := Nat.le_zero.mp (Nat.le_of_not_lt hk0)
      subst hkz
      have dk0 : decide ((0 : Int) < ((0 : Nat) : Int)) = false := rfl
      have dkz : decide (((0 : Nat) : Int) = 0) = true := rfl
      simp only [S.hist_Respects_c1_S, ptrAt_ptr, Option.bind_some, Option.map_some, ld1_get', st_get', get_put', ldB_cells, stB_cells, Nat.zero_add, V.one, V.cells, asI_int, asB_bool, List.length_cons, List.length_nil, Nat.beq_refl, List.all_cons, List.all_nil, Bool.not_true, Bool.or_self, Bool.and_self, decide_false, if_false, splice, reduceCtorEq, hdk, hix, hld, d0, hxl, d1, him, hmet, hmb, hle, hcs, hne, dk0, dkz, e1, e3, wk]
      refine Ev.some (.inr ⟨x.begun, _, rfl, rfl, Z1, good (fun a y ha => absurd ha (Nat.not_lt_zero a)), M1, fun _ => ⟨⟨0, x, Nat.lt_succ_self 0, atk, rfl⟩, fun a y ha hy => ?_⟩⟩)
      have h1 : a = 0 := by omega
      subst h1
      obtain ⟨j, hj1, hj2⟩ := hy
      rw [hq] at hj1
      have : i = j := Int.ofNat.inj (Option.some.inj hj1)
      subst this
      rw [hxi] at hj2; cases hj2; exact Int.le_refl _

theorem rs_eq {a b : Nat} : decide ((a : Int) = (b : Int)) = decide (a = b) := by congr 1; apply propext; omega
theorem respects_spec {h : H} (ok : h.ok) {x0 : V} {l : List Evt} (hx : RowE h.get x0 l) {x1 : V} {o : List Int} (ho : RowN .i64 h.get x1 o) (hl : l.length ≤ 60) : Ev (C 185 [x0, x1] h) fun r => ∃ b, r.1 = .bool b ∧ (b = true ↔ Resp l o) ∧ Fr [] h r.2 := by
  refine call_ev (af := F.hist_Respects) (by kernel_rfl) rfl ?_
  rw [S.hist_Respects_eq]
  have hxl := hx.len
  have hol := ho.len
  have he := rs_eq (a := o.length) (b := l.length)
  by_cases hlen : o.length = l.length
  rotate_left
  · rw [decide_eq_false hlen] at he
    simp only [S.hist_Respects, Option.bind_some, Bool.not_false, hxl, hol, he]
    exact Ev.some ⟨false, rfl, ⟨fun h => (absurd h (by decide)), fun h => absurd h.1 hlen⟩, .refl ok⟩
  rw [decide_eq_true hlen] at he
  have hmk := mkBools (h := h) (n := l.length) (Nat.le_trans hl (by decide))
  simp only [S.hist_Respects, Option.bind_some, Bool.not_true, hxl, hol, he, hmk]
  rw [hlen]
  have Z0 : RespAt h (h.new (.cells (bools (List.replicate l.length false)) .rw)) h.next (List.replicate l.length false) := ⟨(Fr.refl ok).new _, Nat.le_refl _, get_new_self _ _⟩
  refine loop_ev (α := Nat × Int × List Bool) (fun y => S.hist_Respects_c1_E x0 (.sl h.next 0 l.length (.ex l.length)) (.int .i64 y.2.1) x1 (.int .i64 (l.length : Nat)) (.int .i64 (y.1 : Nat)))
    (fun y g => y.1 ≤ l.length ∧ RespAt h g h.next y.2.2 ∧ GoodO l o y.1 ∧ Met l.length o y.1 y.2.2 ∧ Latest l o y.1 y.2.1) (fun y _ => l.length - y.1)
    (fun r => Fr [] h r.2.2 ∧ ((r.1 = .ret ∧ r.2.1 = S.hist_Respects_c1_O (.bool false) ∧ ¬ Resp l o) ∨ (r.1 = .exit 0 ∧ r.2.1 = S.hist_Respects_c1_O .dead ∧ Resp l o)))
    (0, 0, List.replicate l.length false) rfl ⟨Nat.zero_le _, Z0, fun b hb => absurd hb (Nat.not_lt_zero b), Met.zero _ _, fun h => absurd h (Nat.lt_irrefl 0)⟩ ?_ ?_
  · rintro ⟨k, t, ms⟩ g ⟨hk, Z, G, M, T⟩
    dsimp only at hk Z G M T ⊢
    rw [S.hist_Respects_c1_eq]
    by_cases hkl : k < l.length
    · refine (resp_step ok hx ho hlen hl Z hkl G M T).mono ?_
      rintro ⟨_, _, g'⟩ (⟨rfl, rfl, F, hb⟩ | ⟨t', ms', rfl, rfl, Z', G', M', T'⟩)
      · exact .inr ⟨by simp, F, .inl ⟨rfl, rfl, hb⟩⟩
      · exact .inl ⟨(k + 1, t', ms'), rfl, rfl, ⟨hkl, Z', G', M', T'⟩, Nat.sub_lt_sub_left hkl (Nat.lt_succ_self k)⟩
    · have hke : k = l.length := Nat.le_antisymm hk (Nat.le_of_not_lt hkl)
      subst hke
      have hd : decide ((l.length : Int) < (l.length : Int)) = false := decide_eq_false (Int.lt_irrefl _)
      simp only [S.hist_Respects_c1_S, hd]
      exact Ev.some (.inr ⟨by simp, Z.fr, .inr ⟨rfl, rfl, hlen, G⟩⟩)
  rintro ⟨_, _, g⟩ ⟨F, (⟨rfl, rfl, hb⟩ | ⟨rfl, rfl, hb⟩)⟩
  · show Ev (S.hist_Respects_K2 W .ret _ g) _
    rw [S.hist_Respects_c1_r_eq]
    exact Ev.some ⟨false, rfl, ⟨fun h => (absurd h (by decide)), fun h => absurd h hb⟩, F⟩
  · show Ev (S.hist_Respects_K2 W (.exit 0) _ g) _
    rw [S.hist_Respects_c1_e0_eq]
    exact Ev.some ⟨true, rfl, ⟨fun _ => hb, fun _ => rfl⟩, F⟩

/-! ### The document's -/
/-- One event among those that stand ahead. -/
theorem refResp_in {h : H} (ok : h.ok) {x0 : V} {l : List Evt} (hx : RowE h.get x0 l) {x1 : V} {o : List Int} (ho : RowN .i64 h.get x1 o) (hl : l.length ≤ 60) {mb : Nat} {ms : List Bool} {g : H} (Z : RespAt h g mb ms) {k : Nat} (hk : k < l.length)
    (G : GoodO l o k) {i : Nat} {x : Evt} (hxi : l[i]? = some x) (x5 : V) (K : AX × List V × H → Option (AX × List V × H)) (R : AX × List V × H → Prop)
    (hbad : (∃ a y, a < k ∧ AtO l o a y ∧ x.ended < y.begun) → Ev (K (.ret, S.withyref18_Respects_c3_O x0 x1 (.bool false) x5 (.int .i64 (k : Nat)), g)) R)
    (hgood : (∀ a y, a < k → AtO l o a y → ¬ x.ended < y.begun) → Ev (K (.exit 2, S.withyref18_Respects_c3_O x0 x1 .dead x5 (.int .i64 (k : Nat)), g)) R) :
    Ev ((W.loop (S.withyref18_Respects_c3_B W) (S.withyref18_Respects_c3_E x0 x1 x5 (.int .i64 (k : Nat)) (.int .i64 (i : Nat)) (.int .i64 0)) g).bind K) R := by
  refine loop_ev (α := Nat) (fun y => S.withyref18_Respects_c3_E x0 x1 x5 (.int .i64 (k : Nat)) (.int .i64 (i : Nat)) (.int .i64 (y : Nat)))
    (fun y g' => y ≤ k ∧ g' = g ∧ ∀ a z, a < y → AtO l o a z → ¬ x.ended < z.begun) (fun y _ => k - y)
    (fun r => r.2.2 = g ∧ ((r.1 = .ret ∧ r.2.1 = S.withyref18_Respects_c3_O x0 x1 (.bool false) x5 (.int .i64 (k : Nat)) ∧ ∃ a y, a < k ∧ AtO l o a y ∧ x.ended < y.begun) ∨ (r.1 = .exit 2 ∧ r.2.1 = S.withyref18_Respects_c3_O x0 x1 .dead x5 (.int .i64 (k : Nat)) ∧ ∀ a y, a < k → AtO l o a y → ¬ x.ended < y.begun)))
    0 rfl ⟨Nat.zero_le _, rfl, fun a z ha => absurd ha (Nat.not_lt_zero a)⟩ ?_ ?_
  rotate_left
  · rintro ⟨_, _, g'⟩ ⟨rfl, (⟨rfl, rfl, hb⟩ | ⟨rfl, rfl, hb⟩)⟩
    · exact hbad hb
    · exact hgood hb
  rintro j g' ⟨hj, rfl, hN⟩
  rw [S.withyref18_Respects_c3_eq]
  by_cases hjk : j < k
  · have hd : decide ((j : Int) < (k : Int)) = true := decide_eq_true (by omega)
    obtain ⟨i2, y, hq, hyi, _⟩ := G j hjk
    obtain ⟨ob, hix, hld⟩ := (ho.fr ok Z.fr (by simp)).at hq
    obtain ⟨eb, e1, e2, _⟩ := (hx.fr ok Z.fr (by simp)).at hxi
    obtain ⟨fb, f1, f2, _⟩ := (hx.fr ok Z.fr (by simp)).at hyi
    have wj := rs_k (Nat.lt_trans hjk (Nat.lt_of_lt_of_le hk hl))
    have ha := fun h => refAhead_spec x y h
    have aty : AtO l o j y := ⟨i2, hq, hyi⟩
    by_cases hlt : x.ended < y.begun
    · have d2 : decide (x.ended < y.begun) = true := decide_eq_true hlt
      simp only [S.withyref18_Respects_c3_S, Option.bind_some, ldN_get', Nat.reduceAdd, asB_bool, W_call, hd, hix, hld, e1, e2, f1, f2, ha, d2]
      exact Ev.some (.inr ⟨by simp, rfl, .inl ⟨rfl, rfl, j, y, hjk, aty, hlt⟩⟩)
    · have d2 : decide (x.ended < y.begun) = false := decide_eq_false hlt
      simp only [S.withyref18_Respects_c3_S, Option.bind_some, ldN_get', Nat.reduceAdd, asB_bool, W_call, hd, hix, hld, e1, e2, f1, f2, ha, d2, wj]
      refine Ev.some (.inl ⟨j + 1, rfl, rfl, ⟨hjk, rfl, fun a z ha hz => ?_⟩, Nat.sub_lt_sub_left hjk (Nat.lt_succ_self j)⟩)
      rcases Nat.lt_succ_iff_lt_or_eq.mp ha with h1 | h1
      · exact hN a z h1 hz
      · subst h1
        obtain ⟨j2, hj1, hj2⟩ := hz
        rw [hq] at hj1
        have : i2 = j2 := Int.ofNat.inj (Option.some.inj hj1)
        subst this
        rw [hyi] at hj2; cases hj2; exact hlt
  · have he : j = k := Nat.le_antisymm hj (Nat.le_of_not_lt hjk)
    subst he
    have hd : decide ((j : Int) < (j : Int)) = false := decide_eq_false (Int.lt_irrefl _)
    simp only [S.withyref18_Respects_c3_S, hd]
    exact Ev.some (.inr ⟨by simp, rfl, .inr ⟨rfl, rfl, hN⟩⟩)

theorem refResp_step {h : H} (ok : h.ok) {x0 : V} {l : List Evt} (hx : RowE h.get x0 l) {x1 : V} {o : List Int} (ho : RowN .i64 h.get x1 o) (hlen : o.length = l.length) (hl : l.length ≤ 60) {mb : Nat} {ms : List Bool} {g : H} (Z : RespAt h g mb ms) {k : Nat} (hk : k < l.length)
    (G : GoodO l o k) (M : Met l.length o k ms) :
    Ev (S.withyref18_Respects_c1_S W x0 x1 (.sl mb 0 l.length (.ex l.length)) (k : Nat) g) fun r =>
      (r.1 = .ret ∧ r.2.1 = S.withyref18_Respects_c1_O (.bool false) ∧ Fr [] h r.2.2 ∧ ¬ Resp l o) ∨
      ∃ ms', r.1 = .normal ∧ r.2.1 = S.withyref18_Respects_c1_E x0 x1 (.sl mb 0 l.length (.ex l.length)) (.int .i64 (k + 1 : Nat)) ∧ RespAt h r.2.2 mb ms' ∧ GoodO l o (k + 1) ∧ Met l.length o (k + 1) ms' := by
  obtain ⟨q, hq⟩ : ∃ q, o[k]? = some q := ⟨_, List.getElem?_eq_getElem (hlen ▸ hk)⟩
  obtain ⟨ob, hix, hld⟩ := (ho.fr ok Z.fr (by simp)).at hq
  have hol := ho.len
  rw [hlen] at hol
  have hdk : decide ((k : Int) < (l.length : Int)) = true := decide_eq_true (by omega)
  have wk := rs_k (Nat.lt_of_lt_of_le hk hl)
  have hxl := hx.len
  have bad : ∀ {g' : H}, Fr [] h g' → ¬ GoodAt l o k → Ev (some (AX.ret, S.withyref18_Respects_c1_O (.bool false), g')) fun r =>
      (r.1 = .ret ∧ r.2.1 = S.withyref18_Respects_c1_O (.bool false) ∧ Fr [] h r.2.2 ∧ ¬ Resp l o) ∨
      ∃ ms', r.1 = .normal ∧ r.2.1 = S.withyref18_Respects_c1_E x0 x1 (.sl mb 0 l.length (.ex l.length)) (.int .i64 (k + 1 : Nat)) ∧ RespAt h r.2.2 mb ms' ∧ GoodO l o (k + 1) ∧ Met l.length o (k + 1) ms' :=
    fun F hb => Ev.some (.inl ⟨rfl, rfl, F, notResp hk hb⟩)
  by_cases hq0 : q < 0
  · have d : decide (q < 0) = true := decide_eq_true hq0
    simp only [S.withyref18_Respects_c1_S, Option.bind_some, asI_int, hol, hdk, hix, hld, d]
    exact bad Z.fr fun g => by have := (g.pos hq).1; omega
  have d0 : decide (q < 0) = false := decide_eq_false hq0
  by_cases hqn : (l.length : Int) ≤ q
  · have d : decide ((l.length : Int) ≤ q) = true := decide_eq_true hqn
    simp only [S.withyref18_Respects_c1_S, Option.bind_some, asI_int, hol, hdk, hix, hld, d0, hxl, d]
    exact bad Z.fr fun g => by have := (g.pos hq).2; omega
  obtain ⟨i, rfl, hi⟩ : ∃ i : Nat, q = (i : Int) ∧ i < l.length := ⟨q.toNat, by omega, by omega⟩
  have d1 : decide ((l.length : Int) ≤ (i : Int)) = false := decide_eq_false hqn
  have him : indexAV 1 (.sl mb 0 l.length (.ex l.length)) (.int .i64 (i : Int)) = some (.ptr mb i) := sl_idx1 hi
  obtain ⟨m, hm⟩ : ∃ m, ms[i]? = some m := ⟨_, List.getElem?_eq_getElem (M.len ▸ hi)⟩
  have hmb := bools_at hm
  have hmet := Z.met
  cases m with
  | true =>
    simp only [S.withyref18_Respects_c1_S, Option.bind_some, ld1_get', st_get', ldB_cells, stB_cells, Nat.zero_add, V.one, V.cells, asI_int, asB_bool, List.length_cons, List.length_nil, Nat.beq_refl, List.all_cons, List.all_nil, Bool.not_true, Bool.false_or, Bool.or_self, Bool.and_self, decide_false, splice, reduceCtorEq, hol, hdk, hix, hld, d0, hxl, d1, him, hmet, hmb]
    refine bad Z.fr fun g => ?_
    obtain ⟨x, _, h3, _⟩ := g.of hq
    obtain ⟨a, ha, hb⟩ := (M.met i hi).mp hm
    exact h3 a ha hb
  | false =>
    have hfresh : ∀ a, a < k → o[a]? ≠ some (i : Int) := fun a ha hb => by
      have := (M.met i hi).mpr ⟨a, ha, hb⟩
      rw [hm] at this; cases this
    have him2 : i < ms.length := M.len ▸ hi
    have hle : decide (i + 1 ≤ (bools ms).length) = true := decide_eq_true (by rw [bools_len]; exact him2)
    have hne0 : decide (Bk.rw = Bk.ro) = false := rfl
    obtain ⟨x, hxi⟩ : ∃ x, l[i]? = some x := ⟨_, List.getElem?_eq_getElem hi⟩
    have Z1 := Z.set him2 rfl
    have M1 := M.step hi hq
    generalize hcs : (bools ms).take i ++ [V.bool true] ++ (bools ms).drop (i + 1) = cs at Z1
    simp only [S.withyref18_Respects_c1_S, Option.bind_some, Option.map_some, ld1_get', st_get', ldB_cells, stB_cells, Nat.zero_add, V.one, V.cells, asI_int, asB_bool, List.length_cons, List.length_nil, Nat.beq_refl, List.all_cons, List.all_nil, Bool.not_true, Bool.or_self, Bool.and_self, decide_false, splice, reduceCtorEq, hol, hdk, hix, hld, d0, hxl, d1, him, hmet, hmb, hle, hcs]
    refine refResp_in ok hx ho hl Z1 hk G hxi _ _ _ ?_ ?_
    · rintro ⟨a, y, ha, hy, hlt⟩
      show Ev (S.withyref18_Respects_K6 W .ret _ _) _
      rw [S.withyref18_Respects_c3_r_eq]
      refine bad Z1.fr fun g => ?_
      obtain ⟨x', h2, _, h4⟩ := g.of hq
      rw [hxi] at h2; cases h2
      exact h4 a y ha hy hlt
    · intro h4
      show Ev (S.withyref18_Respects_K6 W (.exit 2) _ _) _
      rw [S.withyref18_Respects_c3_e2_eq]
      simp only [S.withyref18_Respects_c3_e2, wk]
      exact Ev.some (.inr ⟨_, rfl, rfl, Z1, G.succ ⟨i, x, hq, hxi, hfresh, h4⟩, M1⟩)

theorem refRespects_spec {h : H} (ok : h.ok) {x0 : V} {l : List Evt} (hx : RowE h.get x0 l) {x1 : V} {o : List Int} (ho : RowN .i64 h.get x1 o) (hl : l.length ≤ 60) : Ev (C 186 [x0, x1] h) fun r => ∃ b, r.1 = .bool b ∧ (b = true ↔ Resp l o) ∧ Fr [] h r.2 := by
  refine call_ev (af := F.withyref18_Respects) (by kernel_rfl) rfl ?_
  rw [S.withyref18_Respects_eq]
  have hxl := hx.len
  have hol := ho.len
  have he := rs_eq (a := o.length) (b := l.length)
  by_cases hlen : o.length = l.length
  rotate_left
  · rw [decide_eq_false hlen] at he
    simp only [S.withyref18_Respects, Option.bind_some, Bool.not_false, hxl, hol, he]
    exact Ev.some ⟨false, rfl, ⟨fun h => (absurd h (by decide)), fun h => absurd h.1 hlen⟩, .refl ok⟩
  rw [decide_eq_true hlen] at he
  have hmk := mkBools (h := h) (n := l.length) (Nat.le_trans hl (by decide))
  simp only [S.withyref18_Respects, Option.bind_some, Bool.not_true, hxl, hol, he, hmk]
  have Z0 : RespAt h (h.new (.cells (bools (List.replicate l.length false)) .rw)) h.next (List.replicate l.length false) := ⟨(Fr.refl ok).new _, Nat.le_refl _, get_new_self _ _⟩
  refine loop_ev (α := Nat × List Bool) (fun y => S.withyref18_Respects_c1_E x0 x1 (.sl h.next 0 l.length (.ex l.length)) (.int .i64 (y.1 : Nat)))
    (fun y g => y.1 ≤ l.length ∧ RespAt h g h.next y.2 ∧ GoodO l o y.1 ∧ Met l.length o y.1 y.2) (fun y _ => l.length - y.1)
    (fun r => Fr [] h r.2.2 ∧ ((r.1 = .ret ∧ r.2.1 = S.withyref18_Respects_c1_O (.bool false) ∧ ¬ Resp l o) ∨ (r.1 = .exit 0 ∧ r.2.1 = S.withyref18_Respects_c1_O .dead ∧ Resp l o)))
    (0, List.replicate l.length false) rfl ⟨Nat.zero_le _, Z0, fun b hb => absurd hb (Nat.not_lt_zero b), Met.zero _ _⟩ ?_ ?_
  · rintro ⟨k, ms⟩ g ⟨hk, Z, G, M⟩
    dsimp only at hk Z G M ⊢
    rw [S.withyref18_Respects_c1_eq]
    by_cases hkl : k < l.length
    · refine (refResp_step ok hx ho hlen hl Z hkl G M).mono ?_
      rintro ⟨_, _, g'⟩ (⟨rfl, rfl, F, hb⟩ | ⟨ms', rfl, rfl, Z', G', M'⟩)
      · exact .inr ⟨by simp, F, .inl ⟨rfl, rfl, hb⟩⟩
      · exact .inl ⟨(k + 1, ms'), rfl, rfl, ⟨hkl, Z', G', M'⟩, Nat.sub_lt_sub_left hkl (Nat.lt_succ_self k)⟩
    · have hke : k = l.length := Nat.le_antisymm hk (Nat.le_of_not_lt hkl)
      subst hke
      have hd : decide ((l.length : Int) < (o.length : Int)) = false := decide_eq_false (by omega)
      simp only [S.withyref18_Respects_c1_S, hol, Option.bind_some, hd]
      exact Ev.some (.inr ⟨by simp, Z.fr, .inr ⟨rfl, rfl, hlen, G⟩⟩)
  rintro ⟨_, _, g⟩ ⟨F, (⟨rfl, rfl, hb⟩ | ⟨rfl, rfl, hb⟩)⟩
  · show Ev (S.withyref18_Respects_K2 W .ret _ g) _
    rw [S.withyref18_Respects_c1_r_eq]
    exact Ev.some ⟨false, rfl, ⟨fun h => (absurd h (by decide)), fun h => absurd h hb⟩, F⟩
  · show Ev (S.withyref18_Respects_K2 W (.exit 0) _ g) _
    rw [S.withyref18_Respects_c1_e0_eq]
    exact Ev.some ⟨true, rfl, ⟨fun _ => hb, fun _ => rfl⟩, F⟩
end Wm
end

section
/- The document's example of a layer, run by the kernel. -/
namespace Wm
set_option maxRecDepth 100000 in
theorem awake18_run : runF prog meth 2000 200 180 [] .empty = some (.bool true, .empty) := by kernel_rfl
theorem awake18 (h : H) : C 180 [] h = some (.bool true, h) := call_closed_run (af := F.withylaw18_awake) (by kernel_rfl) rfl (by rw [← runF_eq]; exact awake18_run) h
end Wm
end

section
/- The law HistRespects, of my machine. -/
namespace Wm
attribute [local congr] bind_congr1
attribute [local irreducible] wr

theorem evt_beq (e : Evt) : V.beqs e.cs e.cs = true := by
  unfold Evt.cs; simp [V.beqs, V.beq]

def shHistRespects : List (Bool × List CSh) := [(false, [.sl 112 [.int .i64, .int .i64, .int .i64, .int .i64, .int .i64, .bool, .int .i64, .int .i64, .int .u64, .int .u64, .int .u64, .int .i64, .int .u64, .bool]]), (false, [.sl 8 [.int .i64]])]

theorem lawHistRespects (h : H) (us : List V) (ok : h.ok) (ha : ArgsOk h.get shHistRespects us) : Ev (C 35 us h) fun r => r.1 = .bool true := by
  obtain ⟨_, _, rfl, ⟨_, _, hx, hxc, rfl⟩, _, _, rfl, ⟨_, _, hy, hyc, rfl⟩, rfl⟩ := ha
  cases hx; cases hy
  rename_i x0 x1
  obtain ⟨l, hx, _, _, _⟩ := rowE_of hxc
  obtain ⟨o, ho, _, _, _⟩ := rowN_of hyc
  refine call_ev (af := F.withylaw18_HistRespects) (by kernel_rfl) rfl ?_
  rw [S.withylaw18_HistRespects_eq]
  have hxl := hx.len
  have hol := ho.len
  by_cases h60 : 60 < l.length
  · have d : decide ((60 : Int) < (l.length : Int)) = true := decide_eq_true (by omega)
    simp only [S.withylaw18_HistRespects, Option.bind_some, W_call, hxl, d, awake18]
    exact Ev.some rfl
  have d : decide ((60 : Int) < (l.length : Int)) = false := decide_eq_false (by omega)
  by_cases o60 : 60 < o.length
  · have d2 : decide ((60 : Int) < (o.length : Int)) = true := decide_eq_true (by omega)
    simp only [S.withylaw18_HistRespects, Option.bind_some, W_call, hxl, hol, d, d2, awake18]
    exact Ev.some rfl
  have d2 : decide ((60 : Int) < (o.length : Int)) = false := decide_eq_false (by omega)
  have hl : l.length ≤ 60 := Nat.le_of_not_lt h60
  have both : ∀ {g : H}, Fr [] h g → ∃ b g', C 185 [x0, x1] g = some (.bool b, g') ∧ (b = true ↔ Resp l o) ∧ Fr [] h g' := fun F => by
    obtain ⟨⟨v, g'⟩, e, b, rfl, hb, F'⟩ := respects_spec F.ok (hx.fr ok F (by simp)) (ho.fr ok F (by simp)) hl
    exact ⟨b, g', e, hb, F.trans' F'⟩
  have ref : ∀ {g : H}, Fr [] h g → ∃ b g', C 186 [x0, x1] g = some (.bool b, g') ∧ (b = true ↔ Resp l o) ∧ Fr [] h g' := fun F => by
    obtain ⟨⟨v, g'⟩, e, b, rfl, hb, F'⟩ := refRespects_spec F.ok (hx.fr ok F (by simp)) (ho.fr ok F (by simp)) hl
    exact ⟨b, g', e, hb, F.trans' F'⟩
  obtain ⟨b1, g1, e1, hb1, F1⟩ := both (Fr.refl ok)
  obtain ⟨b2, g2, e2, hb2, F2⟩ := ref F1
  have hb : b1 = b2 := Bool.eq_iff_iff.mpr (hb1.trans hb2.symm)
  subst hb
  by_cases h2 : l.length < 2
  · have d3 : decide ((l.length : Int) < 2) = true := decide_eq_true (by omega)
    simp only [S.withylaw18_HistRespects, Option.bind_some, eqV, W_call, hxl, hol, d, d2, d3, e1, e2, BEq.rfl, awake18]
    exact Ev.some rfl
  · have d3 : decide ((l.length : Int) < 2) = false := decide_eq_false (by omega)
    obtain ⟨x, hxi⟩ : ∃ x, l[0]? = some x := ⟨_, List.getElem?_eq_getElem (by omega)⟩
    obtain ⟨y, hyi⟩ : ∃ y, l[1]? = some y := ⟨_, List.getElem?_eq_getElem (by omega)⟩
    obtain ⟨eb, i1, i2, _⟩ := hx.at hxi
    obtain ⟨fb, j1, j2, _⟩ := hx.at hyi
    have i1 : indexAV 14 x0 (.int .i64 0) = some (.ptr eb (0 * 14)) := i1
    have j1 : indexAV 14 x0 (.int .i64 1) = some (.ptr fb (1 * 14)) := j1
    have a1 := fun h => ahead_spec x y h
    have a2 := fun h => refAhead_spec x y h
    simp only [S.withylaw18_HistRespects, Option.bind_some, ldN_get', Nat.reduceAdd, Nat.reduceMul, V.beq, ckB_some, eqV, W_call, hxl, hol, d, d2, d3, i1, i2, j1, j2, a1, a2, e1, e2, BEq.rfl, evt_beq, awake18]
    exact Ev.some rfl
end Wm
end

