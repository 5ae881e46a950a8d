/- What the functions come to, and the law: of my machine. -/
import Derived.Test.YtjcppjbepndjcaaWmOwnModelRefusesB
import Derived.Test.YtjcppjbepndjcaaWmOwnModelRefusesA
import Derived.Test.YtjcppjbepndjcaaWmTxtModelRefusesA
import Derived.KernelRfl
import Derived.Test.YtjcppjbepndjcaaWmShal
import Derived.Test.YtjcppjbepndjcaaWmCore
set_option linter.all false
section
/- Acts: the calls that they are, how they are answered. -/
namespace Wm
attribute [local congr] bind_congr1
attribute [local irreducible] wr

structure ActR where
  c : Int
  kind : Int
  n : Int
  h : Int
  x : Int
  y : Int
  how : Int
  raw : AnsR
def ActR.cs (a : ActR) : List V := [.int .i64 a.c, .int .i64 a.kind, .int .i64 a.n, .int .i64 a.h, .int .i64 a.x, .int .i64 a.y, .int .i64 a.how, .int .i64 a.raw.err, .int .u64 a.raw.h, .bool a.raw.yes]
def actSh : List CSh := [.int .i64, .int .i64, .int .i64, .int .i64, .int .i64, .int .i64, .int .i64, .int .i64, .int .u64, .bool]
/-- A row of acts. -/
def RowA (g : Nat → Option Blk) (x : V) (l : List ActR) : Prop := (x = .nilsl ∧ l = []) ∨ ∃ b c k, x = .sl b 0 l.length c ∧ g b = some (.cells (l.map ActR.cs).flatten k)
theorem act10 (l : List ActR) : ∀ x ∈ l.map ActR.cs, x.length = 10 := fun x hx => by
  obtain ⟨_, _, rfl⟩ := List.mem_map.mp hx; rfl
theorem RowA.len {g : Nat → Option Blk} {x : V} {l : List ActR} (h : RowA g x l) : lenSl x = some l.length := by
  obtain ⟨rfl, rfl⟩ | ⟨b, c, k, rfl, _⟩ := h <;> rfl
theorem RowA.sub {g g' : Nat → Option Blk} {x : V} {l : List ActR} (h : RowA g x l) (s : Sub g g') : RowA g' x l := by
  obtain h1 | ⟨b, c, k, e, hb⟩ := h
  · exact .inl h1
  · exact .inr ⟨b, c, k, e, s _ _ hb⟩
theorem RowA.at {g : Nat → Option Blk} {x : V} {l : List ActR} (h : RowA g x l) {i : Nat} {y : ActR} (hy : l[i]? = some y) :
    ∃ b, indexAV 10 x (.int .i64 (i : Int)) = some (.ptr b (i * 10)) ∧ ldNB (g b) (i * 10) 10 = some (.agg y.cs) ∧ ldB (g b) (i * 10) = some (.int .i64 y.c) ∧ b ∈ x.blk := by
  have hi := lt_of_get hy
  obtain ⟨rfl, rfl⟩ | ⟨b, c, k, rfl, hb⟩ := h
  · simp at hy
  · have hn : (l.map ActR.cs).flatten.length = l.length * 10 := by rw [flat_length (act10 l), List.length_map]
    have hp := flat_part (act10 l) i y.cs (by rw [List.getElem?_map, hy]; rfl)
    have at' : (l.map ActR.cs).flatten[i * 10]? = y.cs[0]? := by
      rw [← hp, List.getElem?_take, if_pos (by decide), List.getElem?_drop, Nat.add_zero]
    refine ⟨b, sl_idx hi, ?_, ?_, by simp [V.blk]⟩
    · rw [hb, ldNB_cells, decide_eq_true (by rw [hn]; omega), hp]
    · rw [hb, ldB_cells, at']; rfl
theorem rowA_of {g : Nat → Option Blk} {by' : Nat} {v : V} (h : CellOk g (.sl by' actSh) v) :
    ∃ l, RowA g v l ∧ (∀ y ∈ l, U64 y.raw.h) := by
  unfold CellOk at h
  rcases h with rfl | ⟨b, n, cs, rfl, ⟨h1, h2⟩, h3, h4, h5⟩
  · exact ⟨[], .inl ⟨rfl, rfl⟩, by simp⟩
  · obtain ⟨ws, e1, e2, e3⟩ := chunks (α := ActR) (enc := ActR.cs) (Q := fun y => U64 y.raw.h) (P := CellsOk g actSh) (fun c hc => by
      obtain ⟨_, _, rfl, ⟨y0, rfl, b0⟩, _, _, rfl, ⟨y1, rfl, b1⟩, _, _, rfl, ⟨y2, rfl, b2⟩, _, _, rfl, ⟨y3, rfl, b3⟩, _, _, rfl, ⟨y4, rfl, b4⟩, _, _, rfl, ⟨y5, rfl, b5⟩, _, _, rfl, ⟨y6, rfl, b6⟩, _, _, rfl, ⟨y7, rfl, b7⟩, _, _, rfl, ⟨y8, rfl, b8⟩, _, _, rfl, ⟨y9, rfl⟩, rfl⟩ := hc
      exact ⟨⟨y0, y1, y2, y3, y4, y5, y6, ⟨y7, y8, y9⟩⟩, rfl, wf_u64 b8⟩) n cs h4 h5
    subst e2
    exact ⟨ws, .inr ⟨b, _, .ro, rfl, by rw [h3, e1]⟩, e3⟩

/-! ### What an act is -/
def givenR (l : List Int) (n : Int) : Int := if n < 0 ∨ l.length = 0 then 0 else (l[(l.length : Int).toNat - 1 - (n % (l.length : Int)).toNat]?).getD 0
def callR (r : RSt) (a : ActR) : CallR := ⟨a.kind, a.n, givenR r.Gv a.h, givenR r.Gv a.x, givenR r.Gv a.y⟩
def wholeR (k : Cfg) (r : RSt) (w : Int) (c : CallR) (hh : Int) : AnsR := if errR k r w c ≠ 0 then ⟨errR k r w c, 0, false⟩ else ⟨0, if givesR r w c then hh else 0, yesR r w c⟩
def answerR (k : Cfg) (r : RSt) (a : ActR) (c : CallR) (i : Nat) : AnsR :=
  if a.how = 1 then ⟨4, 0, false⟩ else if a.how = 2 ∨ a.c < 0 ∨ k.c ≤ a.c then a.raw else wholeR k r a.c c (wr .u64 (wr .i64 (1000 + (i : Int))))
theorem answerR_u64 {k : Cfg} {r : RSt} {a : ActR} (h : U64 a.raw.h) (c : CallR) (i : Nat) : U64 (answerR k r a c i).h := by
  have h0 : U64 0 := ⟨by decide, by decide⟩
  unfold answerR
  split
  · exact h0
  split
  · exact h
  unfold wholeR
  split
  · exact h0
  show U64 (if _ then _ else _)
  split
  · exact wru64_U64 _
  · exact h0

theorem given_spec {h : H} {x : V} {l : List Int} (R : RowO .u64 h.get x l) (hl : l.length ≤ 100000) (n : Int) : C 272 [x, .int .i64 n] h = some (.int .u64 (givenR l n), h) := by
  refine call_open (af := F.withylaw17_given) (by kernel_rfl) rfl ?_
  rw [S.withylaw17_given_eq]
  have hlen := R.len
  unfold givenR
  by_cases h0 : n < 0
  · have d0 : decide (n < 0) = true := decide_eq_true h0
    rw [if_pos (.inl h0)]
    simp only [S.withylaw17_given, d0]
  have d0 : decide (n < 0) = false := decide_eq_false h0
  by_cases h1 : l.length = 0
  · have d1 : decide ((l.length : Int) = 0) = true := decide_eq_true (by omega)
    rw [if_pos (.inr h1)]
    simp only [S.withylaw17_given, obind, d0, hlen, d1]
  have d1 : decide ((l.length : Int) = 0) = false := decide_eq_false (by omega)
  rw [if_neg (fun q => q.elim h0 h1)]
  have hm : n.tmod (l.length : Int) = n % (l.length : Int) := Int.tmod_eq_emod_of_nonneg (by omega)
  have m0 := Int.emod_nonneg n (show (l.length : Int) ≠ 0 by omega)
  have m1 := Int.emod_lt_of_pos n (show (0 : Int) < (l.length : Int) by omega)
  have harith : arith .rem .i64 n (l.length : Int) = some (n % (l.length : Int)) := by
    show (match decide ((l.length : Int) = 0) with | true => none | false => some (n.tmod (l.length : Int))) = _
    rw [d1, hm]
  have w1 : wr .i64 ((l.length : Int) - 1) = (l.length : Int) - 1 := wr64 (by omega) (by omega)
  have w2 : wr .i64 ((l.length : Int) - 1 - n % (l.length : Int)) = (((l.length : Int).toNat - 1 - (n % (l.length : Int)).toNat : Nat) : Int) := by
    rw [wr64 (by omega) (by omega)]; omega
  obtain ⟨u, hu⟩ : ∃ u, l[(l.length : Int).toNat - 1 - (n % (l.length : Int)).toNat]? = some u := ⟨_, List.getElem?_eq_getElem (by omega)⟩
  obtain ⟨b, o, ix, lv⟩ := R.at hu
  rw [hu]
  simp only [S.withylaw17_given, obind, ld1_get', d0, hlen, d1, harith, w1, w2, ix, lv, Option.getD_some]

section
variable {k : Cfg} {s : StV} {r : RSt}

theorem call17_spec {h : H} (ok : h.ok) (Z : StAt h.get s r) (hB : r.Gv.length ≤ 100000) (a : ActR) :
    Ev (C 100 [s.v k, .agg a.cs] h) fun z => z.1 = .agg (callR r a).cs ∧ Fr [] h z.2 := by
  refine call_ev (af := F.withylaw17_call) (by kernel_rfl) rfl ?_
  have hv : s.v k = .agg [.int .i64 k.s, .int .i64 k.a, .int .i64 k.c, .int .i64 k.hd, .int .i64 k.g, .int .i64 k.st, s.f, s.h, s.w, s.c, s.g] := rfl
  have ha : V.agg a.cs = .agg [.int .i64 a.c, .int .i64 a.kind, .int .i64 a.n, .int .i64 a.h, .int .i64 a.x, .int .i64 a.y, .int .i64 a.how, .int .i64 a.raw.err, .int .u64 a.raw.h, .bool a.raw.yes] := rfl
  rw [hv, ha, S.withylaw17_call_eq]
  simp only [S.withylaw17_call]
  have hn0 : ∀ x : Blk, (h.new x).next = h.next + 1 := fun _ => rfl
  have hn1 : ∀ x y : Blk, ((h.new x).new y).next = h.next + 2 := fun _ _ => rfl
  have F0 : Fr [] h (((h.new (.cells [.int .i64 k.s, .int .i64 k.a, .int .i64 k.c, .int .i64 k.hd, .int .i64 k.g, .int .i64 k.st, s.f, s.h, s.w, s.c, s.g] .rw)).new (.cells [.int .i64 a.c, .int .i64 a.kind, .int .i64 a.n, .int .i64 a.h, .int .i64 a.x, .int .i64 a.y, .int .i64 a.how, .int .i64 a.raw.err, .int .u64 a.raw.h, .bool a.raw.yes] .rw)).new (.cells [.int .i64 0, .int .i64 0, .int .u64 0, .int .u64 0, .int .u64 0] .rw)) := (((Fr.refl ok).new _).new _).new _
  have hp : (((h.new (.cells [.int .i64 k.s, .int .i64 k.a, .int .i64 k.c, .int .i64 k.hd, .int .i64 k.g, .int .i64 k.st, s.f, s.h, s.w, s.c, s.g] .rw)).new (.cells [.int .i64 a.c, .int .i64 a.kind, .int .i64 a.n, .int .i64 a.h, .int .i64 a.x, .int .i64 a.y, .int .i64 a.how, .int .i64 a.raw.err, .int .u64 a.raw.h, .bool a.raw.yes] .rw)).new (.cells [.int .i64 0, .int .i64 0, .int .u64 0, .int .u64 0, .int .u64 0] .rw)).get h.next = some (.cells [.int .i64 k.s, .int .i64 k.a, .int .i64 k.c, .int .i64 k.hd, .int .i64 k.g, .int .i64 k.st, s.f, s.h, s.w, s.c, s.g] .rw) := by
    rw [get_new_ne (by rw [hn1]; omega), get_new_ne (by rw [hn0]; omega), get_new_self]
  have hq : (((h.new (.cells [.int .i64 k.s, .int .i64 k.a, .int .i64 k.c, .int .i64 k.hd, .int .i64 k.g, .int .i64 k.st, s.f, s.h, s.w, s.c, s.g] .rw)).new (.cells [.int .i64 a.c, .int .i64 a.kind, .int .i64 a.n, .int .i64 a.h, .int .i64 a.x, .int .i64 a.y, .int .i64 a.how, .int .i64 a.raw.err, .int .u64 a.raw.h, .bool a.raw.yes] .rw)).new (.cells [.int .i64 0, .int .i64 0, .int .u64 0, .int .u64 0, .int .u64 0] .rw)).get (h.next + 1) = some (.cells [.int .i64 a.c, .int .i64 a.kind, .int .i64 a.n, .int .i64 a.h, .int .i64 a.x, .int .i64 a.y, .int .i64 a.how, .int .i64 a.raw.err, .int .u64 a.raw.h, .bool a.raw.yes] .rw) := by
    rw [get_new_ne (by rw [hn1]; omega), ← hn0 (.cells [.int .i64 k.s, .int .i64 k.a, .int .i64 k.c, .int .i64 k.hd, .int .i64 k.g, .int .i64 k.st, s.f, s.h, s.w, s.c, s.g] .rw), get_new_self]
  have hz : (((h.new (.cells [.int .i64 k.s, .int .i64 k.a, .int .i64 k.c, .int .i64 k.hd, .int .i64 k.g, .int .i64 k.st, s.f, s.h, s.w, s.c, s.g] .rw)).new (.cells [.int .i64 a.c, .int .i64 a.kind, .int .i64 a.n, .int .i64 a.h, .int .i64 a.x, .int .i64 a.y, .int .i64 a.how, .int .i64 a.raw.err, .int .u64 a.raw.h, .bool a.raw.yes] .rw)).new (.cells [.int .i64 0, .int .i64 0, .int .u64 0, .int .u64 0, .int .u64 0] .rw)).get (h.next + 2) = some (.cells [.int .i64 0, .int .i64 0, .int .u64 0, .int .u64 0, .int .u64 0] .rw) := by
    rw [← hn1 (.cells [.int .i64 k.s, .int .i64 k.a, .int .i64 k.c, .int .i64 k.hd, .int .i64 k.g, .int .i64 k.st, s.f, s.h, s.w, s.c, s.g] .rw) (.cells [.int .i64 a.c, .int .i64 a.kind, .int .i64 a.n, .int .i64 a.h, .int .i64 a.x, .int .i64 a.y, .int .i64 a.how, .int .i64 a.raw.err, .int .u64 a.raw.h, .bool a.raw.yes] .rw), get_new_self]
  rw [hn0, hn1]
  generalize (((h.new (.cells [.int .i64 k.s, .int .i64 k.a, .int .i64 k.c, .int .i64 k.hd, .int .i64 k.g, .int .i64 k.st, s.f, s.h, s.w, s.c, s.g] .rw)).new (.cells [.int .i64 a.c, .int .i64 a.kind, .int .i64 a.n, .int .i64 a.h, .int .i64 a.x, .int .i64 a.y, .int .i64 a.how, .int .i64 a.raw.err, .int .u64 a.raw.h, .bool a.raw.yes] .rw)).new (.cells [.int .i64 0, .int .i64 0, .int .u64 0, .int .u64 0, .int .u64 0] .rw)) = g at F0 hp hq hz ⊢
  have hpz : h.next ≤ h.next + 2 := Nat.le_add_right _ _
  generalize h.next + 2 = pz at hz hpz ⊢
  generalize h.next + 1 = q at hq ⊢
  generalize hpe : h.next = p at hp hpz ⊢
  have Zg := Z.sub ((Sub.refl _).fr0 ok F0)
  have og := Zg.g.slv
  have l10 : ldB (g.get p) 10 = some s.g := by rw [hp, ldB_cells]; simp only [List.getElem?_cons_succ, List.getElem?_cons_zero, og.one]
  have g1 := given_spec Zg.g hB a.h
  have g2 := given_spec Zg.g hB a.x
  have g3 := given_spec Zg.g hB a.y
  have hb := og.beq
  have hlz := F0.ok.lt hz
  simp only [obind, Option.map_some, ld1_get', ldN_get', st_get', get_put', ldB_cells, ldNB_cells, stB_cells, List.getElem?_cons_zero, List.getElem?_cons_succ, Nat.zero_add, Nat.reduceAdd, Nat.reduceLeDiff, one_int, cells_agg, V.beq, ckB_some, List.length_cons, List.length_nil, Nat.beq_refl, List.all_cons, List.all_nil, Bool.and_true, Bool.true_and, Bool.not_true, Bool.false_or, Bool.or_self, Bool.and_self, decide_true, decide_false, if_true, splice, List.take_succ_cons, List.take_zero, List.drop_succ_cons, List.drop_zero, List.cons_append, List.nil_append, reduceCtorEq, fill, opd, box_int, finV, resAllV, resOfV, result, W_call, l10, hq, g1, g2, g3, hb, hz]
  exact Ev.some ⟨rfl, F0.put (.inr (by rw [hpe]; exact hpz)) hlz _⟩

/-! ### Whole -/
/-- A state, a call, and where the answer goes. -/
structure WhAt (k : Cfg) (s : StV) (r : RSt) (c : CallR) (h g : H) (p q po : Nat) : Prop where
  E : ErrAt k s r c g p q
  F : Fr [] h g
  ou : ∃ cs, g.get po = some (.cells cs .rw) ∧ cs.length = 3
  lo : h.next ≤ po
theorem WhAt.fr {c : CallR} {h g g' : H} {p q po : Nat} (X : WhAt k s r c h g p q po) (F : Fr [] g g') : WhAt k s r c h g' p q po := by
  obtain ⟨cs, h1, h2⟩ := X.ou
  exact ⟨X.E.fr F, X.F.trans' F, ⟨cs, F.get X.E.ok h1 (by simp), h2⟩, X.lo⟩

/-- From the answer's Yes on. -/
theorem whole4_spec {c : CallR} {h g : H} {p q po pa : Nat} (X : WhAt k s r c h g p q po) (I : RIn k r) {w : Int} (he : errR k r w c = 0) (hh : Int) (y : Bool) (hpa : g.get pa = some (.cells [.int .i64 0, .int .u64 0, .bool y] .rw)) (hne : ¬ po = pa) (hlo : h.next ≤ pa) :
    Ev ((S.withyref17_State_Whole_c4_B W (S.withyref17_State_Whole_c4_E (.int .u64 hh) (.ptr p 0) (.ptr q 0) (.ptr po 0) (.int .i64 (r.node w c.h)) (.ptr pa 0)) g).bind fun z => S.withyref17_State_Whole_K3 W z.1 z.2.1 z.2.2) fun z => z.1 = .agg (AnsR.cs ⟨0, if givesR r w c then hh else 0, y⟩) ∧ Fr [] h z.2 := by
  have hcl := X.E.cl
  have l6 := X.E.l6
  have E := errOk he
  obtain ⟨cs, u1, u2⟩ := X.ou
  have lpa := X.E.ok.lt hpa
  have lpo := X.E.ok.lt u1
  have fin : ∀ b, givesR r w c = b → Ev (S.withyref17_State_Whole_c4_n W hh (.ptr po 0) (.ptr pa 0) b g) fun z => z.1 = .agg (AnsR.cs ⟨0, if givesR r w c then hh else 0, y⟩) ∧ Fr [] h z.2 := fun b e => by
    rw [e]
    cases b with
    | true =>
      have hst : stB (g.get po) 0 [V.int .i64 0, .int .u64 hh, .bool y] = some (.cells [.int .i64 0, .int .u64 hh, .bool y] .rw) := by
        rw [u1]; exact stB_all (by rw [u2]; rfl) rfl
      simp only [S.withyref17_State_Whole_c4_n, ptrAt_ptr, obind, Option.map_some, ldN_get', st_get', get_put', ldNB_cells, stB_cells, Nat.zero_add, Nat.reduceAdd, Nat.reduceLeDiff, one_int, cells_int, cells_agg, List.length_cons, List.length_nil, Nat.beq_refl, List.all_cons, List.all_nil, Bool.not_true, Bool.or_self, Bool.and_self, decide_true, decide_false, if_true, if_false, splice, List.take_succ_cons, List.take_zero, List.drop_succ_cons, List.drop_zero, List.cons_append, List.nil_append, reduceCtorEq, finV, resAllV, resOfV, result, hpa, hne, hst]
      exact Ev.some ⟨rfl, (X.F.put (.inr hlo) lpa _).put (.inr X.lo) lpo _⟩
    | false =>
      have hst : stB (g.get po) 0 [V.int .i64 0, .int .u64 0, .bool y] = some (.cells [.int .i64 0, .int .u64 0, .bool y] .rw) := by
        rw [u1]; exact stB_all (by rw [u2]; rfl) rfl
      simp only [S.withyref17_State_Whole_c4_n, obind, Option.map_some, ldN_get', st_get', get_put', ldNB_cells, Nat.zero_add, Nat.reduceAdd, Nat.reduceLeDiff, cells_agg, List.length_cons, List.length_nil, Nat.beq_refl, decide_true, if_true, if_false, List.take_succ_cons, List.take_zero, List.drop_zero, reduceCtorEq, finV, resAllV, resOfV, result, hpa, hst]
      exact Ev.some ⟨rfl, X.F.put (.inr X.lo) lpo _⟩
  have gv : givesR r w c = (decide (c.kind = 1) || decide (c.kind = 8) || decide (c.kind = 9) || (decide (c.kind = 2) && decide (0 ≤ r.fat (r.node w c.h) c.n))) := rfl
  cases d1 : decide (c.kind = 1) with
  | true =>
    simp only [S.withyref17_State_Whole_c4_eq, S.withyref17_State_Whole_c4_S, S.withyref17_State_Whole_c4_n_eq, ptrAt_ptr, obind, ld1_get', ldB_cells, List.getElem?_cons_zero, List.getElem?_cons_succ, Nat.zero_add, Nat.add_zero, one_int, asI_int, hcl, d1]
    exact fin true (by rw [gv, d1]; rfl)
  | false =>
  cases d8 : decide (c.kind = 8) with
  | true =>
    simp only [S.withyref17_State_Whole_c4_eq, S.withyref17_State_Whole_c4_S, S.withyref17_State_Whole_c4_n_eq, ptrAt_ptr, obind, ld1_get', ldB_cells, List.getElem?_cons_zero, List.getElem?_cons_succ, Nat.zero_add, Nat.add_zero, one_int, asI_int, hcl, d1, d8]
    exact fin true (by rw [gv, d1, d8]; rfl)
  | false =>
  cases d9 : decide (c.kind = 9) with
  | true =>
    simp only [S.withyref17_State_Whole_c4_eq, S.withyref17_State_Whole_c4_S, S.withyref17_State_Whole_c4_n_eq, ptrAt_ptr, obind, ld1_get', ldB_cells, List.getElem?_cons_zero, List.getElem?_cons_succ, Nat.zero_add, Nat.add_zero, one_int, asI_int, hcl, d1, d8, d9]
    exact fin true (by rw [gv, d1, d8, d9]; rfl)
  | false =>
  cases d2 : decide (c.kind = 2) with
  | false =>
    simp only [S.withyref17_State_Whole_c4_eq, S.withyref17_State_Whole_c4_S, S.withyref17_State_Whole_c4_n_eq, ptrAt_ptr, obind, ld1_get', ldB_cells, List.getElem?_cons_zero, List.getElem?_cons_succ, Nat.zero_add, Nat.add_zero, one_int, asI_int, hcl, d1, d8, d9, d2]
    exact fin false (by rw [gv, d1, d8, d9, d2]; rfl)
  | true =>
    have k2 : c.kind = 2 := of_decide_eq_true d2
    obtain ⟨nn, en, hF⟩ := I.flAt (E.node (by omega) (by omega))
    obtain ⟨h0, h1⟩ := E.fld (by omega) (by omega)
    obtain ⟨j, ej, hj⟩ := RSt.fatAt h0 h1
    obtain ⟨b, y', ix, ly, Y⟩ := X.E.Z.f.at hF
    obtain ⟨b3, o3, i3, l3⟩ := Y.at hj
    rw [← ej] at i3
    rw [← en] at ix
    simp only [S.withyref17_State_Whole_c4_eq, S.withyref17_State_Whole_c4_S, S.withyref17_State_Whole_c4_n_eq, ptrAt_ptr, obind, ld1_get', ldB_cells, List.getElem?_cons_zero, List.getElem?_cons_succ, Nat.zero_add, Nat.add_zero, one_int, asI_int, hcl, l6, ix, ly, i3, l3, d1, d8, d9, d2]
    exact fin _ (by rw [gv, d1, d8, d9, d2]; rfl)

theorem whole1_spec {c : CallR} {h g : H} {p q po : Nat} (X : WhAt k s r c h g p q po) (I : RIn k r) (B : r.Hs.length ≤ 100000) {w : Int} (he : errR k r w c = 0) (hh : Int) :
    Ev ((S.withyref17_State_Whole_c1_B W (S.withyref17_State_Whole_c1_E (.int .i64 w) (.int .u64 hh) (.ptr p 0) (.ptr q 0) (.ptr po 0) (.int .i64 (r.node w c.h))) g).bind fun z => S.withyref17_State_Whole_K1 W z.1 z.2.1 z.2.2) fun z => z.1 = .agg (AnsR.cs ⟨0, if givesR r w c then hh else 0, yesR r w c⟩) ∧ Fr [] h z.2 := by
  have hcl := X.E.cl
  have l6 := X.E.l6
  have lN := X.E.lN
  have E := errOk he
  have ys : yesR r w c = ((decide (c.kind = 5) && matchR r w c) || (decide (c.kind = 7) && decide (r.node w c.h = r.node w c.x))) := rfl
  obtain ⟨⟨v, g1⟩, e1, rfl, F1⟩ := refNode_spec (k := k) X.E.ok X.E.Z.h B w c.y
  dsimp only at F1
  obtain ⟨⟨v, g2⟩, e2, rfl, F2⟩ := refNode_spec (k := k) X.E.ok X.E.Z.h B w c.x
  dsimp only at F2
  -- the answer's block
  have fin : ∀ {g' : H}, Fr [] g g' → ∀ y, yesR r w c = y → Ev (S.withyref17_State_Whole_c1_n W hh (.ptr p 0) (.ptr q 0) (.ptr po 0) (r.node w c.h) (.ptr g'.next 0) ((g'.new (.cells [.int .i64 0, .int .u64 0, .bool false] .rw)).put g'.next (some (.cells [.int .i64 0, .int .u64 0, .bool y] .rw)))) fun z => z.1 = .agg (AnsR.cs ⟨0, if givesR r w c then hh else 0, yesR r w c⟩) ∧ Fr [] h z.2 := fun {g'} F y e => by
    have Fn : Fr [] g' ((g'.new (.cells [.int .i64 0, .int .u64 0, .bool false] .rw)).put g'.next (some (.cells [.int .i64 0, .int .u64 0, .bool y] .rw))) := ((Fr.refl F.ok).new _).put (.inr (Nat.le_refl _)) (Nat.lt_succ_self _) _
    have X1 := (X.fr F).fr Fn
    obtain ⟨cs, u1, _⟩ := X.ou
    have hpo := X.E.ok.lt u1
    have hge := F.le
    have hhe := X.F.le
    simp only [S.withyref17_State_Whole_c1_n]
    rw [e]
    exact whole4_spec X1 I he hh y (get_put_self _ _ _) (by omega) (by omega)
  have hst : ∀ (g' : H) (y : Bool), stB ((g'.new (.cells [.int .i64 0, .int .u64 0, .bool false] .rw)).get g'.next) 0 [V.int .i64 0, .int .u64 0, .bool y] = some (.cells [.int .i64 0, .int .u64 0, .bool y] .rw) := fun g' y => by
    rw [get_new_self]; rfl
  cases d5 : decide (c.kind = 5) with
  | true =>
    have k5 : c.kind = 5 := of_decide_eq_true d5
    have d7 : decide (c.kind = 7) = false := decide_eq_false (by omega)
    obtain ⟨nn, en, hF⟩ := I.flAt (E.node (by omega) (by omega))
    obtain ⟨h0, h1⟩ := E.fld (by omega) (by omega)
    obtain ⟨j, ej, hj⟩ := RSt.fatAt h0 h1
    have X1 := X.fr F1
    have hcl1 := X1.E.cl
    have l61 := X1.E.l6
    have lN1 := X1.E.lN
    obtain ⟨b, y', ix, ly, Y⟩ := X.E.Z.f.at hF
    obtain ⟨b3, o3, i3, l3⟩ := Y.at hj
    rw [← ej] at i3
    rw [← en] at ix
    have sb1 := (Sub.refl g.get).fr0 X.E.ok F1
    have ly1 := sb1.ldB ly
    have l31 := sb1.ldB l3
    have by1 := Y.slv.beq
    have by2 := X.E.Z.f.slv.beq
    cases dm : decide (r.fat (r.node w c.h) c.n = r.node w c.y) with
    | true =>
      simp only [S.withyref17_State_Whole_c1_eq, S.withyref17_State_Whole_c1_S, S.withyref17_State_Whole_c1_n_eq, ptrAt_ptr, obind, Option.map_some, ld1_get', ldN_get', st_get', get_new', ldB_cells, stB_cells, List.getElem?_cons_zero, List.getElem?_cons_succ, Nat.zero_add, Nat.add_zero, Nat.reduceAdd, Nat.reduceLeDiff, one_bool, one_int, cells_agg, V.beq, ckB_some, asI_int, List.length_cons, List.length_nil, Nat.beq_refl, List.all_cons, List.all_nil, Bool.not_true, Bool.or_self, Bool.and_self, decide_true, decide_false, if_true, splice, List.take_zero, List.drop_succ_cons, List.drop_zero, List.cons_append, List.nil_append, reduceCtorEq, W_call, hcl, l6, ix, ly, i3, l3, lN, e1, hcl1, l61, ly1, l31, by1, by2, d5, dm]
      exact fin F1 true (by rw [ys, d5, d7]; unfold matchR; rw [dm]; rfl)
    | false =>
      simp only [S.withyref17_State_Whole_c1_eq, S.withyref17_State_Whole_c1_S, S.withyref17_State_Whole_c1_n_eq, ptrAt_ptr, obind, Option.map_some, ld1_get', ldN_get', st_get', get_new', ldB_cells, stB_cells, List.getElem?_cons_zero, List.getElem?_cons_succ, Nat.zero_add, Nat.add_zero, Nat.reduceAdd, Nat.reduceLeDiff, one_bool, one_int, cells_agg, V.beq, ckB_some, asI_int, List.length_cons, List.length_nil, Nat.beq_refl, List.all_cons, List.all_nil, Bool.not_true, Bool.or_self, Bool.and_self, decide_true, decide_false, if_true, splice, List.take_zero, List.drop_succ_cons, List.drop_zero, List.cons_append, List.nil_append, reduceCtorEq, W_call, hcl, l6, ix, ly, i3, l3, lN, e1, hcl1, l61, ly1, l31, by1, by2, d5, d7, dm]
      exact fin F1 false (by rw [ys, d5, d7]; unfold matchR; rw [dm]; rfl)
  | false =>
    cases d7 : decide (c.kind = 7) with
    | true =>
      simp only [S.withyref17_State_Whole_c1_eq, S.withyref17_State_Whole_c1_S, S.withyref17_State_Whole_c1_n_eq, ptrAt_ptr, obind, Option.map_some, ld1_get', ldN_get', st_get', get_new', ldB_cells, stB_cells, List.getElem?_cons_zero, List.getElem?_cons_succ, Nat.zero_add, Nat.add_zero, Nat.reduceAdd, Nat.reduceLeDiff, one_bool, one_int, cells_agg, asI_int, List.length_cons, List.length_nil, Nat.beq_refl, List.all_cons, List.all_nil, Bool.not_true, Bool.or_self, Bool.and_self, decide_true, decide_false, if_true, splice, List.take_zero, List.drop_succ_cons, List.drop_zero, List.cons_append, List.nil_append, reduceCtorEq, W_call, hcl, lN, e2, d5, d7]
      exact fin F2 _ (by rw [ys, d5, d7]; rfl)
    | false =>
      simp only [S.withyref17_State_Whole_c1_eq, S.withyref17_State_Whole_c1_S, S.withyref17_State_Whole_c1_n_eq, ptrAt_ptr, obind, Option.map_some, ld1_get', ldN_get', st_get', get_new', ldB_cells, stB_cells, List.getElem?_cons_zero, List.getElem?_cons_succ, Nat.zero_add, Nat.add_zero, Nat.reduceAdd, Nat.reduceLeDiff, one_bool, one_int, cells_agg, asI_int, List.length_cons, List.length_nil, Nat.beq_refl, List.all_cons, List.all_nil, Bool.not_true, Bool.or_self, Bool.and_self, decide_true, decide_false, if_true, splice, List.take_zero, List.drop_succ_cons, List.drop_zero, List.cons_append, List.nil_append, reduceCtorEq, W_call, hcl, d5, d7]
      exact fin (.refl X.E.ok) false (by rw [ys, d5, d7]; rfl)

theorem whole_spec {h : H} (ok : h.ok) (Z : StAt h.get s r) (I : RIn k r) (B : r.Hs.length ≤ 100000) {w : Int} (w0 : 0 ≤ w) (w1 : w < k.c) (c : CallR) (hh : Int) :
    Ev (C 273 [s.v k, .int .i64 w, .agg c.cs, .int .u64 hh] h) fun z => z.1 = .agg (wholeR k r w c hh).cs ∧ Fr [] h z.2 := by
  refine call_ev (af := F.withyref17_State_Whole) (by kernel_rfl) rfl ?_
  have hv : s.v k = .agg [.int .i64 k.s, .int .i64 k.a, .int .i64 k.c, .int .i64 k.hd, .int .i64 k.g, .int .i64 k.st, s.f, s.h, s.w, s.c, s.g] := rfl
  have hcs : V.agg c.cs = .agg [.int .i64 c.kind, .int .i64 c.n, .int .u64 c.h, .int .u64 c.x, .int .u64 c.y] := rfl
  rw [hv, hcs, S.withyref17_State_Whole_eq]
  simp only [S.withyref17_State_Whole, H.next_new]
  have hn0 : ∀ x : Blk, (h.new x).next = h.next + 1 := fun _ => rfl
  have hn1 : ∀ x y : Blk, ((h.new x).new y).next = h.next + 1 + 1 := fun _ _ => rfl
  have F0 : Fr [] h (((h.new (.cells [.int .i64 k.s, .int .i64 k.a, .int .i64 k.c, .int .i64 k.hd, .int .i64 k.g, .int .i64 k.st, s.f, s.h, s.w, s.c, s.g] .rw)).new (.cells [.int .i64 c.kind, .int .i64 c.n, .int .u64 c.h, .int .u64 c.x, .int .u64 c.y] .rw)).new (.cells [.int .i64 0, .int .u64 0, .bool false] .rw)) := (((Fr.refl ok).new _).new _).new _
  have X : WhAt k s r c h (((h.new (.cells [.int .i64 k.s, .int .i64 k.a, .int .i64 k.c, .int .i64 k.hd, .int .i64 k.g, .int .i64 k.st, s.f, s.h, s.w, s.c, s.g] .rw)).new (.cells [.int .i64 c.kind, .int .i64 c.n, .int .u64 c.h, .int .u64 c.x, .int .u64 c.y] .rw)).new (.cells [.int .i64 0, .int .u64 0, .bool false] .rw)) h.next (h.next + 1) (h.next + 1 + 1) := by
    refine ⟨⟨F0.ok, ?_, ?_, Z.sub ((Sub.refl _).fr0 ok F0)⟩, F0, ⟨_, get_new_self _ _, rfl⟩, by omega⟩
    · rw [get_new_ne (by rw [hn1]; omega), get_new_ne (by rw [hn0]; omega), get_new_self]
    · rw [get_new_ne (by rw [hn1]; omega), ← hn0 (.cells [.int .i64 k.s, .int .i64 k.a, .int .i64 k.c, .int .i64 k.hd, .int .i64 k.g, .int .i64 k.st, s.f, s.h, s.w, s.c, s.g] .rw), get_new_self]
  generalize (((h.new (.cells [.int .i64 k.s, .int .i64 k.a, .int .i64 k.c, .int .i64 k.hd, .int .i64 k.g, .int .i64 k.st, s.f, s.h, s.w, s.c, s.g] .rw)).new (.cells [.int .i64 c.kind, .int .i64 c.n, .int .u64 c.h, .int .u64 c.x, .int .u64 c.y] .rw)).new (.cells [.int .i64 0, .int .u64 0, .bool false] .rw)) = g at X F0 ⊢
  generalize h.next + 1 + 1 = po at X ⊢
  generalize h.next + 1 = q at X ⊢
  generalize h.next = p at X ⊢
  have lN := X.E.lN
  have hcl := X.E.cl
  obtain ⟨⟨v, g1⟩, e1, rfl, F1⟩ := refError_spec (k := k) X.E.ok X.E.Z I B w0 w1 c
  dsimp only at F1
  have X1 := X.fr F1
  have lN1 := X1.E.lN
  have hcl1 := X1.E.cl
  unfold CallR.cs at e1
  unfold wholeR
  by_cases he : errR k r w c = 0
  rotate_left
  · have de : decide (errR k r w c = 0) = false := decide_eq_false he
    rw [if_pos he]
    obtain ⟨cs, u1, u2⟩ := X1.ou
    have hst : stB (g1.get po) 0 [V.int .i64 (errR k r w c), .int .u64 0, .bool false] = some (.cells [.int .i64 (errR k r w c), .int .u64 0, .bool false] .rw) := by
      rw [u1]; exact stB_all (by rw [u2]; rfl) rfl
    simp only [obind, Option.map_some, ld1_get', ldN_get', st_get', get_put', ldNB_cells, Nat.zero_add, Nat.reduceAdd, Nat.reduceLeDiff, cells_agg, asI_int, List.length_cons, List.length_nil, Nat.beq_refl, Bool.and_true, Bool.not_false, decide_true, if_true, splice, List.take_succ_cons, List.take_zero, List.drop_succ_cons, List.drop_zero, List.cons_append, List.nil_append, fill, opd, box_int, finV, resAllV, resOfV, result, W_call, lN, hcl, e1, de, hst]
    exact Ev.some ⟨rfl, X1.F.put (.inr X.lo) (X1.E.ok.lt u1) _⟩
  · rw [if_neg (fun q => q he)]
    have dz : decide ((0 : Int) = 0) = true := rfl
    rw [he] at e1
    obtain ⟨⟨v2, g2⟩, e2, rfl, F2⟩ := refNode_spec (k := k) X1.E.ok X1.E.Z.h B w c.h
    dsimp only at F2
    have X2 := X1.fr F2
    simp only [obind, ld1_get', ldN_get', st_get', ldB_cells, ldNB_cells, List.getElem?_cons_zero, List.getElem?_cons_succ, Nat.zero_add, Nat.reduceAdd, Nat.reduceLeDiff, one_int, cells_agg, asI_int, List.length_cons, List.length_nil, Bool.and_true, Bool.not_true, decide_true, splice, List.take_succ_cons, List.take_zero, List.drop_zero, List.nil_append, fill, opd, finV, resAllV, resOfV, result, W_call, lN, hcl, e1, lN1, hcl1, e2]
    exact whole1_spec X2 I B he hh

theorem answer17_spec {h : H} (ok : h.ok) (Z : StAt h.get s r) (I : RIn k r) (B : r.Hs.length ≤ 100000) (a : ActR) (c : CallR) (i : Nat) :
    Ev (C 101 [s.v k, .agg a.cs, .agg c.cs, .int .i64 (i : Int)] h) fun z => z.1 = .agg (answerR k r a c i).cs ∧ Fr [] h z.2 := by
  refine call_ev (af := F.withylaw17_answer) (by kernel_rfl) rfl ?_
  have hv : s.v k = .agg [.int .i64 k.s, .int .i64 k.a, .int .i64 k.c, .int .i64 k.hd, .int .i64 k.g, .int .i64 k.st, s.f, s.h, s.w, s.c, s.g] := rfl
  have ha : V.agg a.cs = .agg [.int .i64 a.c, .int .i64 a.kind, .int .i64 a.n, .int .i64 a.h, .int .i64 a.x, .int .i64 a.y, .int .i64 a.how, .int .i64 a.raw.err, .int .u64 a.raw.h, .bool a.raw.yes] := rfl
  have hcs : V.agg c.cs = .agg [.int .i64 c.kind, .int .i64 c.n, .int .u64 c.h, .int .u64 c.x, .int .u64 c.y] := rfl
  rw [hv, ha, hcs, S.withylaw17_answer_eq]
  simp only [S.withylaw17_answer, H.next_new]
  have hn0 : ∀ x : Blk, (h.new x).next = h.next + 1 := fun _ => rfl
  have hn1 : ∀ x y : Blk, ((h.new x).new y).next = h.next + 1 + 1 := fun _ _ => rfl
  have hn2 : ∀ x y z : Blk, (((h.new x).new y).new z).next = h.next + 1 + 1 + 1 := fun _ _ _ => rfl
  have F0 : Fr [] h ((((h.new (.cells [.int .i64 k.s, .int .i64 k.a, .int .i64 k.c, .int .i64 k.hd, .int .i64 k.g, .int .i64 k.st, s.f, s.h, s.w, s.c, s.g] .rw)).new (.cells [.int .i64 a.c, .int .i64 a.kind, .int .i64 a.n, .int .i64 a.h, .int .i64 a.x, .int .i64 a.y, .int .i64 a.how, .int .i64 a.raw.err, .int .u64 a.raw.h, .bool a.raw.yes] .rw)).new (.cells [.int .i64 c.kind, .int .i64 c.n, .int .u64 c.h, .int .u64 c.x, .int .u64 c.y] .rw)).new (.cells [.int .i64 0, .int .u64 0, .bool false] .rw)) := ((((Fr.refl ok).new _).new _).new _).new _
  have hq : ((((h.new (.cells [.int .i64 k.s, .int .i64 k.a, .int .i64 k.c, .int .i64 k.hd, .int .i64 k.g, .int .i64 k.st, s.f, s.h, s.w, s.c, s.g] .rw)).new (.cells [.int .i64 a.c, .int .i64 a.kind, .int .i64 a.n, .int .i64 a.h, .int .i64 a.x, .int .i64 a.y, .int .i64 a.how, .int .i64 a.raw.err, .int .u64 a.raw.h, .bool a.raw.yes] .rw)).new (.cells [.int .i64 c.kind, .int .i64 c.n, .int .u64 c.h, .int .u64 c.x, .int .u64 c.y] .rw)).new (.cells [.int .i64 0, .int .u64 0, .bool false] .rw)).get (h.next + 1) = some (.cells [.int .i64 a.c, .int .i64 a.kind, .int .i64 a.n, .int .i64 a.h, .int .i64 a.x, .int .i64 a.y, .int .i64 a.how, .int .i64 a.raw.err, .int .u64 a.raw.h, .bool a.raw.yes] .rw) := by
    rw [get_new_ne (by rw [hn2]; omega), get_new_ne (by rw [hn1]; omega), ← hn0 (.cells [.int .i64 k.s, .int .i64 k.a, .int .i64 k.c, .int .i64 k.hd, .int .i64 k.g, .int .i64 k.st, s.f, s.h, s.w, s.c, s.g] .rw), get_new_self]
  have X : WhAt k s r c h ((((h.new (.cells [.int .i64 k.s, .int .i64 k.a, .int .i64 k.c, .int .i64 k.hd, .int .i64 k.g, .int .i64 k.st, s.f, s.h, s.w, s.c, s.g] .rw)).new (.cells [.int .i64 a.c, .int .i64 a.kind, .int .i64 a.n, .int .i64 a.h, .int .i64 a.x, .int .i64 a.y, .int .i64 a.how, .int .i64 a.raw.err, .int .u64 a.raw.h, .bool a.raw.yes] .rw)).new (.cells [.int .i64 c.kind, .int .i64 c.n, .int .u64 c.h, .int .u64 c.x, .int .u64 c.y] .rw)).new (.cells [.int .i64 0, .int .u64 0, .bool false] .rw)) h.next (h.next + 1 + 1) (h.next + 1 + 1 + 1) := by
    refine ⟨⟨F0.ok, ?_, ?_, Z.sub ((Sub.refl _).fr0 ok F0)⟩, F0, ⟨_, get_new_self _ _, rfl⟩, by omega⟩
    · rw [get_new_ne (by rw [hn2]; omega), get_new_ne (by rw [hn1]; omega), get_new_ne (by rw [hn0]; omega), get_new_self]
    · rw [get_new_ne (by rw [hn2]; omega), ← hn1 (.cells [.int .i64 k.s, .int .i64 k.a, .int .i64 k.c, .int .i64 k.hd, .int .i64 k.g, .int .i64 k.st, s.f, s.h, s.w, s.c, s.g] .rw) (.cells [.int .i64 a.c, .int .i64 a.kind, .int .i64 a.n, .int .i64 a.h, .int .i64 a.x, .int .i64 a.y, .int .i64 a.how, .int .i64 a.raw.err, .int .u64 a.raw.h, .bool a.raw.yes] .rw), get_new_self]
  generalize ((((h.new (.cells [.int .i64 k.s, .int .i64 k.a, .int .i64 k.c, .int .i64 k.hd, .int .i64 k.g, .int .i64 k.st, s.f, s.h, s.w, s.c, s.g] .rw)).new (.cells [.int .i64 a.c, .int .i64 a.kind, .int .i64 a.n, .int .i64 a.h, .int .i64 a.x, .int .i64 a.y, .int .i64 a.how, .int .i64 a.raw.err, .int .u64 a.raw.h, .bool a.raw.yes] .rw)).new (.cells [.int .i64 c.kind, .int .i64 c.n, .int .u64 c.h, .int .u64 c.x, .int .u64 c.y] .rw)).new (.cells [.int .i64 0, .int .u64 0, .bool false] .rw)) = g at X F0 hq ⊢
  have hne : ¬ h.next + 1 + 1 + 1 = h.next + 1 := by omega
  generalize h.next + 1 + 1 + 1 = po at X hne ⊢
  generalize h.next + 1 + 1 = pc at X ⊢
  generalize h.next + 1 = q at hq hne ⊢
  generalize h.next = p at X ⊢
  obtain ⟨cs, u1, u2⟩ := X.ou
  have lpo := X.E.ok.lt u1
  have hst : ∀ (e hh : Int) (y : Bool), stB (g.get po) 0 [V.int .i64 e, .int .u64 hh, .bool y] = some (.cells [.int .i64 e, .int .u64 hh, .bool y] .rw) := fun e hh y => by
    rw [u1]; exact stB_all (by rw [u2]; rfl) rfl
  have l2 := X.E.l2
  have lN := X.E.lN
  have hcl := X.E.cl
  unfold answerR
  by_cases h1 : a.how = 1
  · have d1 : decide (a.how = 1) = true := decide_eq_true h1
    rw [if_pos h1]
    simp only [obind, Option.map_some, ld1_get', ldN_get', st_get', get_put', ldB_cells, ldNB_cells, List.getElem?_cons_zero, List.getElem?_cons_succ, Nat.zero_add, Nat.reduceAdd, Nat.reduceLeDiff, one_int, cells_agg, asI_int, List.length_cons, List.length_nil, Nat.beq_refl, decide_true, if_true, List.take_succ_cons, List.take_zero, List.drop_succ_cons, List.drop_zero, finV, resAllV, resOfV, result, W_call, hq, d1, hst]
    exact Ev.some ⟨rfl, F0.put (.inr X.lo) lpo _⟩
  have d1 : decide (a.how = 1) = false := decide_eq_false h1
  rw [if_neg h1]
  by_cases h2 : a.how = 2
  · have d2 : decide (a.how = 2) = true := decide_eq_true h2
    rw [if_pos (.inl h2)]
    simp only [obind, Option.map_some, ld1_get', ldN_get', st_get', get_put', ldB_cells, ldNB_cells, List.getElem?_cons_zero, List.getElem?_cons_succ, Nat.zero_add, Nat.reduceAdd, Nat.reduceLeDiff, one_int, cells_agg, asI_int, List.length_cons, List.length_nil, Nat.beq_refl, decide_true, if_true, List.take_succ_cons, List.take_zero, List.drop_succ_cons, List.drop_zero, finV, resAllV, resOfV, result, W_call, hq, d1, d2, hst]
    exact Ev.some ⟨rfl, F0.put (.inr X.lo) lpo _⟩
  have d2 : decide (a.how = 2) = false := decide_eq_false h2
  by_cases h3 : a.c < 0
  · have d3 : decide (a.c < 0) = true := decide_eq_true h3
    rw [if_pos (.inr (.inl h3))]
    simp only [obind, Option.map_some, ld1_get', ldN_get', st_get', get_put', ldB_cells, ldNB_cells, List.getElem?_cons_zero, List.getElem?_cons_succ, Nat.zero_add, Nat.reduceAdd, Nat.reduceLeDiff, one_int, cells_agg, asI_int, List.length_cons, List.length_nil, Nat.beq_refl, decide_true, if_true, List.take_succ_cons, List.take_zero, List.drop_succ_cons, List.drop_zero, finV, resAllV, resOfV, result, W_call, hq, d1, d2, d3, hst]
    exact Ev.some ⟨rfl, F0.put (.inr X.lo) lpo _⟩
  have d3 : decide (a.c < 0) = false := decide_eq_false h3
  by_cases h4 : k.c ≤ a.c
  · have d4 : decide (k.c ≤ a.c) = true := decide_eq_true h4
    rw [if_pos (.inr (.inr h4))]
    simp only [obind, Option.map_some, ld1_get', ldN_get', st_get', get_put', ldB_cells, ldNB_cells, List.getElem?_cons_zero, List.getElem?_cons_succ, Nat.zero_add, Nat.reduceAdd, Nat.reduceLeDiff, one_int, cells_agg, asI_int, List.length_cons, List.length_nil, Nat.beq_refl, decide_true, if_true, List.take_succ_cons, List.take_zero, List.drop_succ_cons, List.drop_zero, finV, resAllV, resOfV, result, W_call, hq, l2, d1, d2, d3, d4, hst]
    exact Ev.some ⟨rfl, F0.put (.inr X.lo) lpo _⟩
  have d4 : decide (k.c ≤ a.c) = false := decide_eq_false h4
  rw [if_neg (fun q => q.elim h2 fun q => q.elim h3 h4)]
  obtain ⟨⟨v, g1⟩, e1, rfl, F1⟩ := whole_spec (k := k) X.E.ok X.E.Z I B (w := a.c) (by omega) (by omega) c (wr .u64 (wr .i64 (1000 + (i : Int))))
  dsimp only at F1
  have X1 := X.fr F1
  obtain ⟨cs1, v1, v2⟩ := X1.ou
  have hst1 : stB (g1.get po) 0 (wholeR k r a.c c (wr .u64 (wr .i64 (1000 + (i : Int))))).cs = some (.cells (wholeR k r a.c c (wr .u64 (wr .i64 (1000 + (i : Int))))).cs .rw) := by
    rw [v1]; exact stB_all (by rw [v2]; rfl) rfl
  unfold CallR.cs at e1
  generalize wholeR k r a.c c (wr .u64 (wr .i64 (1000 + (i : Int)))) = wr at e1 hst1 ⊢
  unfold AnsR.cs at e1 hst1 ⊢
  simp only [obind, Option.map_some, ld1_get', ldN_get', st_get', get_put', ldB_cells, ldNB_cells, List.getElem?_cons_zero, List.getElem?_cons_succ, Nat.zero_add, Nat.reduceAdd, Nat.reduceLeDiff, one_int, cells_agg, asI_int, List.length_cons, List.length_nil, Nat.beq_refl, decide_true, if_true, List.take_succ_cons, List.take_zero, List.drop_succ_cons, List.drop_zero, finV, resAllV, resOfV, result, W_call, hq, l2, lN, hcl, d1, d2, d3, d4, e1, hst1]
  exact Ev.some ⟨rfl, X1.F.put (.inr X.lo) (X1.E.ok.lt v1) _⟩
end
end Wm
end

section
/- How many handles a client holds: never more than it may. -/
namespace Wm
attribute [local irreducible] wr

theorem doR_hs (k : Cfg) (r : RSt) (w : Int) (c : CallR) (a : AnsR) (I : RIn k r) :
    (doR k r w c a).Hs = r.Hs ∨ (∃ n, (doR k r w c a).Hs = r.Hs ++ [⟨w, a.h, n⟩] ∧ 0 ≤ n ∧ (r.held w : Int) < k.hd ∧ r.fresh a.h = true ∧ okR k r w c a = true) ∨ ((doR k r w c a).Hs = r.Hs.filter (fun x => !(x.is w c.h)) ∧ okR k r w c a = true) := by
  unfold doR
  by_cases ha : actsR k r w c a = true
  rotate_left
  · rw [if_neg ha]; exact .inl rfl
  rw [if_pos ha]
  unfold actsR at ha
  simp only [Bool.and_eq_true, decide_eq_true_eq] at ha
  obtain ⟨⟨hok, he⟩, ha0⟩ := ha
  have E := errOk he
  obtain ⟨hf, _, w0, w1⟩ := okR_fresh hok he ha0
  unfold doneR
  split
  · rename_i k1
    exact .inr (.inl ⟨_, rfl, by omega, (E.new k1).2.2, hf (by unfold givesR; rw [decide_eq_true k1]; rfl), hok⟩)
  split
  · rename_i k2
    split
    · rename_i hg
      have hfat : 0 ≤ r.fat (r.node w c.h) c.n := by unfold givesR at hg; rw [k2] at hg; simpa using hg
      exact .inr (.inl ⟨_, rfl, hfat, E.load k2 hfat, hf hg, hok⟩)
    · exact .inl rfl
  split
  · exact .inl rfl
  split
  · exact .inl rfl
  split
  · split
    · exact .inl rfl
    · exact .inl rfl
  split
  · exact .inr (.inr ⟨rfl, hok⟩)
  split
  · exact .inl rfl
  split
  · rename_i k9
    obtain ⟨hc, hr⟩ := E.next k9
    have hcm := I.come_mem w
    cases hcc : r.come w with
    | nil => exact absurd hcc hc
    | cons x xs =>
      rw [hcc] at hcm
      refine .inr (.inl ⟨x, ?_, (hcm x List.mem_cons_self).1, hr, hf (by unfold givesR; rw [k9]; simp), hok⟩)
      rfl
  split
  · exact .inl rfl
  · exact .inl rfl

theorem heldL_append (l : List HoldR) (x : HoldR) (w : Int) : heldL (l ++ [x]) w = heldL l w + if x.c = w then 1 else 0 := by
  induction l with
  | nil => rw [List.nil_append, heldL_cons]; simp [heldL]
  | cons y l ih => rw [List.cons_append, heldL_cons, heldL_cons, ih]; omega
theorem heldL_filter : ∀ (l : List HoldR) (w w' q : Int), l.Pairwise (fun x y => ¬ (x.c = y.c ∧ x.h = y.h)) → heldL (l.filter fun x => !(x.is w q)) w' ≤ heldL l w' ∧ heldL l w' ≤ heldL (l.filter fun x => !(x.is w q)) w' + 1
  | [], _, _, _, _ => ⟨Nat.le_refl _, Nat.le_succ _⟩
  | x :: l, w, w', q, hp => by
    rw [List.pairwise_cons] at hp
    have ih := heldL_filter l w w' q hp.2
    rw [List.filter_cons]
    by_cases hx : x.is w q = true
    · rw [if_neg (by rw [hx]; simp)]
      have hall : l.filter (fun y => !(y.is w q)) = l := by
        rw [List.filter_eq_self]
        intro y hy
        have := hp.1 y hy
        cases hyi : y.is w q with
        | false => rfl
        | true =>
          unfold HoldR.is at hyi hx
          simp only [Bool.and_eq_true, decide_eq_true_eq] at hyi hx
          exact absurd ⟨hx.1.trans hyi.1.symm, hx.2.trans hyi.2.symm⟩ this
      rw [hall, heldL_cons]
      split <;> omega
    · rw [if_pos (by cases h : x.is w q with | false => rfl | true => exact absurd h hx), heldL_cons, heldL_cons]
      omega
/-- No client holds more than it may. -/
def RHd (k : Cfg) (r : RSt) : Prop := ∀ w, (r.held w : Int) ≤ k.hd
theorem RHd.do {k : Cfg} {r : RSt} (H : RHd k r) (I : RIn k r) (w : Int) (c : CallR) (a : AnsR) : RHd k (doR k r w c a) := by
  intro w'
  have h0 := H w'
  unfold RSt.held at h0 ⊢
  rcases doR_hs k r w c a I with e | ⟨n, e, _, hr, _⟩ | ⟨e, _⟩
  · rw [e]; exact h0
  · rw [e, heldL_append]
    unfold RSt.held at hr
    split
    · rename_i he
      have : w = w' := he
      subst this; omega
    · omega
  · rw [e]
    have := (heldL_filter r.Hs w w' c.h I.nd).1
    omega
/-- There is no client out of the row. -/
theorem RIn.out {k : Cfg} {r : RSt} (I : RIn k r) {w : Int} (h : ¬ (0 ≤ w ∧ w < k.c)) : r.held w = 0 ∧ ∀ q, r.node w q = -1 := by
  constructor
  · unfold RSt.held heldL
    rw [List.length_eq_zero_iff, List.filter_eq_nil_iff]
    intro x hx
    have := (I.hs x hx).1
    simp only [decide_eq_true_eq]
    intro e; rw [e] at this; exact h this
  · intro q
    unfold RSt.node
    rcases nodeL_mem r.Hs w q with e | ⟨x, hx, hc, _, _⟩
    · exact e
    · have := (I.hs x hx).1
      rw [hc] at this; exact absurd this h
end Wm
end

section
/- The laws of layer 17: what stands while acts are played. -/
namespace Wm
attribute [local congr] bind_congr1
attribute [local irreducible] wr

/-- The law's heap: arguments below 'h0', a state in 'pS', a model. -/
structure PlAt (h0 : H) (k : Cfg) (g : H) (pS : Nat) (B : MdB) (s : StV) (r : RSt) (g0 : Nat → Option Blk) (n : Nat) : Prop where
  fr : Fr [] h0 g
  M : MdAt k g.get B r
  st : g.get pS = some (.cells [.int .i64 k.s, .int .i64 k.a, .int .i64 k.c, .int .i64 k.hd, .int .i64 k.g, .int .i64 k.st, s.f, s.h, s.w, s.c, s.g] .rw)
  Z : StAt g0 s r
  sb : Sub g0 g.get
  dj : ∀ b ∈ B.l, g0 b = none ∧ h0.next ≤ b
  ps : pS ∉ B.l ∧ pS ∉ B.nb ∧ g0 pS = none ∧ h0.next ≤ pS
  I : RIn k r
  sz : RSz k n r
  hd : RHd k r
section
variable {h0 : H} {k : Cfg} {g : H} {pS : Nat} {B : MdB} {s : StV} {r : RSt} {g0 : Nat → Option Blk} {n : Nat}
theorem PlAt.ok (P : PlAt h0 k g pS B s r g0 n) : g.ok := P.fr.ok
theorem PlAt.fr0 (P : PlAt h0 k g pS B s r g0 n) {g' : H} (F : Fr [] g g') : PlAt h0 k g' pS B s r g0 n :=
  ⟨P.fr.trans' F, P.M.fr0 P.ok F, F.get P.ok P.st (by simp), P.Z, P.sb.fr0 P.ok F, P.dj, P.ps, P.I, P.sz, P.hd⟩
theorem PlAt.Zg (P : PlAt h0 k g pS B s r g0 n) : StAt g.get s r := P.Z.sub P.sb
theorem PlAt.lN (P : PlAt h0 k g pS B s r g0 n) : ldNB (g.get pS) 0 11 = some (s.v k) := by rw [P.st]; rfl

theorem newSt {cs l : List V} (g : H) (ok : g.ok) (h : l.length = cs.length) (h1 : l.all V.one = true) : ∃ g', (g.new (.cells cs .rw)).st cs.length (.ptr g.next 0) (.agg l) = some g' ∧ Fr [] g g' ∧ g'.get g.next = some (.cells l .rw) ∧ g'.next = g.next + 1 := by
  refine ⟨(g.new (.cells cs .rw)).put g.next (some (.cells l .rw)), ?_, ((Fr.refl ok).new _).put (.inr (Nat.le_refl _)) (Nat.lt_succ_self _) _, get_put_self _ _ _, rfl⟩
  have hb : Nat.beq (V.agg l).cells.length cs.length = true := by
    show Nat.beq l.length cs.length = true
    rw [h]; exact Nat.beq_refl _
  rw [st_get', hb, get_new_self]
  show Option.map _ (stB (some (.cells cs .rw)) 0 l) = _
  rw [stB_all h h1]; rfl

theorem mdHeld' (M : MdAt k g.get B r) (I : RIn k r) (w : Int) : C 105 [.ptr B.b 0, .int .i64 w] g = some (.int .i64 (r.held w : Nat), g) := by
  rw [mdHeld_spec M w]
  by_cases h : 0 ≤ w ∧ w < k.c
  · rw [if_pos h]
  · rw [if_neg h, (I.out h).1]; rfl
theorem mdNode' (M : MdAt k g.get B r) (I : RIn k r) (w q : Int) : C 106 [.ptr B.b 0, .int .i64 w, .int .u64 q] g = some (.int .i64 (r.node w q), g) := by
  rw [mdNode_spec M w]
  by_cases h : 0 ≤ w ∧ w < k.c
  · rw [if_pos h]
  · rw [if_neg h, (I.out h).2 q]

end
end Wm
end

section
/- A model is as a state. -/
namespace Wm
attribute [local congr] bind_congr1
attribute [local irreducible] wr

structure SmAt (k : Cfg) (B : MdB) (s : StV) (r : RSt) (g : H) (p : Nat) : Prop where
  ok : g.ok
  M : MdAt k g.get B r
  st : g.get p = some (.cells [.int .i64 k.s, .int .i64 k.a, .int .i64 k.c, .int .i64 k.hd, .int .i64 k.g, .int .i64 k.st, s.f, s.h, s.w, s.c, s.g] .rw)
  Z : StAt g.get s r
section
variable {k : Cfg} {B : MdB} {s : StV} {r : RSt} {g : H} {p : Nat}
theorem SmAt.fr (A : SmAt k B s r g p) {g' : H} (F : Fr [] g g') : SmAt k B s r g' p := ⟨F.ok, A.M.fr0 A.ok F, F.get A.ok A.st (by simp), A.Z.sub ((Sub.refl _).fr0 A.ok F)⟩
theorem SmAt.l2 (A : SmAt k B s r g p) : ldB (g.get p) 2 = some (.int .i64 k.c) := by rw [A.st]; rfl
theorem SmAt.lN (A : SmAt k B s r g p) : ldNB (g.get p) 0 11 = some (s.v k) := by rw [A.st]; rfl
theorem SmAt.l6 (A : SmAt k B s r g p) : ldB (g.get p) 6 = some s.f := by
  rw [A.st, ldB_cells]; simp only [List.getElem?_cons_succ, List.getElem?_cons_zero, A.Z.f.slv.one]
theorem SmAt.l10 (A : SmAt k B s r g p) : ldB (g.get p) 10 = some s.g := by
  rw [A.st, ldB_cells]; simp only [List.getElem?_cons_succ, List.getElem?_cons_zero, A.Z.g.slv.one]
theorem SmAt.vb (A : SmAt k B s r g p) : V.beq (s.v k) (s.v k) = true := by
  unfold StV.v
  simp only [V.beq, V.beqs, A.Z.f.slv.beq, A.Z.h.slv.beq, A.Z.w.slv.beq, A.Z.c.slv.beq, A.Z.g.slv.beq, decide_true, Bool.and_self]

theorem sm_i {i : Nat} (h : i ≤ 100000) : wr .i64 ((i : Int) - 1 + 1) = ((i + 1 : Nat) : Int) - 1 := by rw [wr64 (by omega) (by omega)]; omega
/-- The nodes of a client. -/
theorem same3_spec (A : SmAt k B s r g p) (I : RIn k r) (Bs : r.small) (i : Nat) (hi : i ≤ 1000) :
    Ev ((W.loop (S.withylaw17_same_c3_B W) (S.withylaw17_same_c3_E (.ptr B.b 0) (.ptr p 0) (.int .i64 ((i : Int) - 1)) (.int .i64 0)) g).bind fun z => S.withylaw17_same_K6 W z.1 z.2.1 z.2.2) fun z => z.1 = .normal ∧ z.2.1 = S.withylaw17_same_c1_E (.ptr B.b 0) (.ptr p 0) (.int .i64 (((i + 1 : Nat) : Int) - 1)) ∧ Fr [] g z.2.2 := by
  refine loop_ev (α := Nat) (fun j => S.withylaw17_same_c3_E (.ptr B.b 0) (.ptr p 0) (.int .i64 ((i : Int) - 1)) (.int .i64 (j : Nat)))
    (fun j g' => j ≤ r.Gv.length ∧ Fr [] g g') (fun j _ => r.Gv.length - j)
    (fun z => z.1 = .exit 2 ∧ z.2.1 = S.withylaw17_same_c3_O (.ptr B.b 0) (.ptr p 0) .dead (.int .i64 ((i : Int) - 1)) ∧ Fr [] g z.2.2) 0 rfl ⟨Nat.zero_le _, .refl A.ok⟩ ?_ ?_
  rotate_left
  · rintro ⟨_, _, g'⟩ ⟨rfl, rfl, F⟩
    show Ev (S.withylaw17_same_K6 W (.exit 2) _ _) _
    rw [S.withylaw17_same_c3_e2_eq]
    have wi := sm_i (i := i) (Nat.le_trans hi (by decide))
    simp only [S.withylaw17_same_c3_e2, wi]
    exact Ev.some ⟨rfl, rfl, F⟩
  rintro j g' ⟨hj, F⟩
  rw [S.withylaw17_same_c3_eq]
  have A' := A.fr F
  have l10 := A'.l10
  have hlen := A'.Z.g.len
  by_cases hjl : j < r.Gv.length
  rotate_left
  · have d : decide ((j : Int) < (r.Gv.length : Int)) = false := decide_eq_false (by omega)
    simp only [S.withylaw17_same_c3_S, ptrAt_ptr, obind, ld1_get', ldN_get', Nat.zero_add, Nat.reduceAdd, W_call, l10, hlen, d]
    exact Ev.some (.inr ⟨by simp, rfl, rfl, F⟩)
  have d : decide ((j : Int) < (r.Gv.length : Int)) = true := natlt hjl
  obtain ⟨q, hq⟩ : ∃ q, r.Gv[j]? = some q := ⟨_, List.getElem?_eq_getElem hjl⟩
  obtain ⟨b, o, ix, lv⟩ := A'.Z.g.at hq
  have hn := mdNode' A'.M I ((i : Int) - 1) q
  have lN := A'.lN
  have vb := A'.vb
  have gb := A'.Z.g.slv.beq
  obtain ⟨⟨v, g2⟩, e2, rfl, F2⟩ := refNode_spec (k := k) A'.ok A'.Z.h Bs.h ((i : Int) - 1) q
  dsimp only at F2
  have wj := mdl_i (i := j) (Nat.le_trans (Nat.le_of_lt hjl) Bs.g)
  have dn : decide (r.node ((i : Int) - 1) q = r.node ((i : Int) - 1) q) = true := decide_eq_true rfl
  simp only [S.withylaw17_same_c3_S, ptrAt_ptr, obind, ld1_get', ldN_get', Nat.zero_add, Nat.reduceAdd, V.beq, ckB_some, asI_int, Bool.not_true, Bool.and_self, decide_true, W_call, l10, hlen, d, ix, lv, lN, hn, vb, gb, e2, wj]
  exact Ev.some (.inl ⟨j + 1, rfl, rfl, ⟨hjl, F.trans' F2⟩, Nat.sub_lt_sub_left hjl (Nat.lt_succ_self j)⟩)

/-- A node's fields. -/
theorem same7_spec (A : SmAt k B s r g p) (n : Nat) (hn : n ≤ r.F.length) (Bs : r.small) :
    Ev ((W.loop (S.withylaw17_same_c7_B W) (S.withylaw17_same_c7_E (.ptr B.b 0) (.ptr p 0) (.int .i64 (n : Nat)) (.int .i64 (-1))) g).bind fun z => S.withylaw17_same_K12 W z.1 z.2.1 z.2.2) fun z => z.1 = .normal ∧ z.2.1 = S.withylaw17_same_c5_E (.ptr B.b 0) (.ptr p 0) (.int .i64 (n + 1 : Nat)) ∧ z.2.2 = g := by
  refine loop_ev (α := Nat) (fun j => S.withylaw17_same_c7_E (.ptr B.b 0) (.ptr p 0) (.int .i64 (n : Nat)) (.int .i64 ((j : Int) - 1)))
    (fun j g' => j ≤ 4 ∧ g' = g) (fun j _ => 4 - j)
    (fun z => z.1 = .exit 6 ∧ z.2.1 = S.withylaw17_same_c7_O (.ptr B.b 0) (.ptr p 0) .dead (.int .i64 (n : Nat)) ∧ z.2.2 = g) 0 rfl ⟨Nat.zero_le _, rfl⟩ ?_ ?_
  rotate_left
  · rintro ⟨_, _, g'⟩ ⟨rfl, rfl, rfl⟩
    show Ev (S.withylaw17_same_K12 W (.exit 6) _ _) _
    rw [S.withylaw17_same_c7_e6_eq]
    have wn := mdl_i (i := n) (Nat.le_trans hn Bs.f)
    simp only [S.withylaw17_same_c7_e6, wn]
    exact Ev.some ⟨rfl, rfl, rfl⟩
  rintro j g' ⟨hj, rfl⟩
  rw [S.withylaw17_same_c7_eq]
  by_cases hj4 : j < 4
  rotate_left
  · have d : decide ((j : Int) - 1 ≤ 2) = false := decide_eq_false (by omega)
    simp only [S.withylaw17_same_c7_S, d]
    exact Ev.some (.inr ⟨by simp, rfl, rfl, rfl⟩)
  have d : decide ((j : Int) - 1 ≤ 2) = true := decide_eq_true (by omega)
  have wj := sm_i (i := j) (Nat.le_trans hj (by decide))
  have hfl := mdField_spec A.M (n : Int) ((j : Int) - 1)
  have l6 := A.l6
  have hlen := A.Z.f.len
  have neg : ∀ e : Int, r.field (n : Int) ((j : Int) - 1) = -1 → e = -1 → (decide (r.field (n : Int) ((j : Int) - 1) = -1)) = true := fun e h _ => decide_eq_true h
  have next : (∃ a' : Nat, AX.normal = .normal ∧ S.withylaw17_same_c7_E (.ptr B.b 0) (.ptr p 0) (.int .i64 (n : Nat)) (.int .i64 (((j + 1 : Nat) : Int) - 1)) = S.withylaw17_same_c7_E (.ptr B.b 0) (.ptr p 0) (.int .i64 (n : Nat)) (.int .i64 ((a' : Int) - 1)) ∧ (a' ≤ 4 ∧ g' = g') ∧ 4 - a' < 4 - j) := ⟨j + 1, rfl, rfl, ⟨hj4, rfl⟩, by omega⟩
  by_cases hnl : n < r.F.length
  rotate_left
  · have d1 : decide ((n : Int) < (r.F.length : Int)) = false := decide_eq_false (by omega)
    have hf : r.field (n : Int) ((j : Int) - 1) = -1 := by unfold RSt.field; rw [if_neg (fun q => by have := q.2.1; omega)]
    rw [hf] at hfl
    have dm : decide ((-1 : Int) = -1) = true := rfl
    simp only [S.withylaw17_same_c7_S, ptrAt_ptr, obind, ld1_get', Nat.zero_add, Int.reduceNeg, asI_int, Bool.not_true, decide_true, W_call, d, l6, hlen, d1, hfl, wj]
    exact Ev.some (.inl next)
  have d1 : decide ((n : Int) < (r.F.length : Int)) = true := natlt hnl
  by_cases hj0 : (0 : Int) ≤ (j : Int) - 1
  rotate_left
  · have d2 : decide ((0 : Int) ≤ (j : Int) - 1) = false := decide_eq_false hj0
    have hf : r.field (n : Int) ((j : Int) - 1) = -1 := by unfold RSt.field; rw [if_neg (fun q => hj0 q.2.2.1)]
    rw [hf] at hfl
    have dm : decide ((-1 : Int) = -1) = true := rfl
    simp only [S.withylaw17_same_c7_S, ptrAt_ptr, obind, ld1_get', Nat.zero_add, Int.reduceNeg, asI_int, Bool.not_true, decide_true, W_call, d, l6, hlen, d1, d2, hfl, wj]
    exact Ev.some (.inl next)
  have d2 : decide ((0 : Int) ≤ (j : Int) - 1) = true := decide_eq_true hj0
  have hF : r.F[n]? = some (r.fl (n : Int)) := by
    unfold RSt.fl
    rw [Int.toNat_natCast, List.getElem?_eq_getElem hnl]; rfl
  obtain ⟨b, y, ix, ly, Y⟩ := A.Z.f.at hF
  have hyl := Y.len
  by_cases hjl : (j : Int) - 1 < ((r.fl (n : Int)).length : Int)
  · have d3 : decide ((j : Int) - 1 < ((r.fl (n : Int)).length : Int)) = true := decide_eq_true hjl
    have hf : r.field (n : Int) ((j : Int) - 1) = r.fat (n : Int) ((j : Int) - 1) := by unfold RSt.field; rw [if_pos ⟨by omega, by omega, hj0, hjl⟩]
    rw [hf] at hfl
    obtain ⟨q, eq, hq⟩ := RSt.fatAt (r := r) (n := (n : Int)) hj0 hjl
    obtain ⟨b3, o3, i3, l3⟩ := Y.at hq
    rw [← eq] at i3
    have dm : decide (r.fat (n : Int) ((j : Int) - 1) = r.fat (n : Int) ((j : Int) - 1)) = true := decide_eq_true rfl
    simp only [S.withylaw17_same_c7_S, ptrAt_ptr, obind, ld1_get', Nat.zero_add, Int.reduceNeg, asI_int, Bool.not_true, decide_true, W_call, d, l6, hlen, d1, d2, ix, ly, hyl, d3, i3, l3, hfl, wj]
    exact Ev.some (.inl next)
  · have d3 : decide ((j : Int) - 1 < ((r.fl (n : Int)).length : Int)) = false := decide_eq_false hjl
    have hf : r.field (n : Int) ((j : Int) - 1) = -1 := by unfold RSt.field; rw [if_neg (fun q => hjl q.2.2.2)]
    rw [hf] at hfl
    have dm : decide ((-1 : Int) = -1) = true := rfl
    simp only [S.withylaw17_same_c7_S, ptrAt_ptr, obind, ld1_get', Nat.zero_add, Int.reduceNeg, asI_int, Bool.not_true, decide_true, W_call, d, l6, hlen, d1, d2, ix, ly, hyl, d3, hfl, wj]
    exact Ev.some (.inl next)

theorem same17_spec {h : H} (ok : h.ok) (M : MdAt k h.get B r) (Z : StAt h.get s r) (I : RIn k r) (Bs : r.small) (kc : 0 ≤ k.c ∧ k.c ≤ 100) :
    Ev (C 104 [.ptr B.b 0, s.v k] h) fun z => z.1 = .bool true ∧ Fr [] h z.2 := by
  refine call_ev (af := F.withylaw17_same) (by kernel_rfl) rfl ?_
  have hv : s.v k = .agg [.int .i64 k.s, .int .i64 k.a, .int .i64 k.c, .int .i64 k.hd, .int .i64 k.g, .int .i64 k.st, s.f, s.h, s.w, s.c, s.g] := rfl
  rw [hv, S.withylaw17_same_eq]
  simp only [S.withylaw17_same]
  have F0 : Fr [] h (h.new (.cells [.int .i64 k.s, .int .i64 k.a, .int .i64 k.c, .int .i64 k.hd, .int .i64 k.g, .int .i64 k.st, s.f, s.h, s.w, s.c, s.g] .rw)) := (Fr.refl ok).new _
  have A : SmAt k B s r (h.new (.cells [.int .i64 k.s, .int .i64 k.a, .int .i64 k.c, .int .i64 k.hd, .int .i64 k.g, .int .i64 k.st, s.f, s.h, s.w, s.c, s.g] .rw)) h.next := ⟨F0.ok, M.fr0 ok F0, get_new_self _ _, Z.sub ((Sub.refl _).fr0 ok F0)⟩
  generalize (h.new (.cells [.int .i64 k.s, .int .i64 k.a, .int .i64 k.c, .int .i64 k.hd, .int .i64 k.g, .int .i64 k.st, s.f, s.h, s.w, s.c, s.g] .rw)) = g at F0 A ⊢
  generalize h.next = p at A ⊢
  have hC : (k.C : Int) = k.c := by unfold Cfg.C; omega
  refine loop_ev (α := Nat) (fun i => S.withylaw17_same_c1_E (.ptr B.b 0) (.ptr p 0) (.int .i64 ((i : Int) - 1)))
    (fun i g' => i ≤ k.C + 2 ∧ Fr [] g g') (fun i _ => k.C + 2 - i)
    (fun z => z.1 = .exit 0 ∧ z.2.1 = S.withylaw17_same_c1_O (.ptr B.b 0) (.ptr p 0) .dead ∧ Fr [] g z.2.2) 0 rfl ⟨Nat.zero_le _, .refl A.ok⟩ ?_ ?_
  rotate_left
  · rintro ⟨_, _, g'⟩ ⟨rfl, rfl, F⟩
    show Ev (S.withylaw17_same_K2 W (.exit 0) _ _) _
    rw [S.withylaw17_same_c1_e0_eq]
    have A' := A.fr F
    have F' := F0.trans' F
    dsimp only at A' F'
    simp only [S.withylaw17_same_c1_e0]
    refine loop_ev (α := Nat) (fun n => S.withylaw17_same_c5_E (.ptr B.b 0) (.ptr p 0) (.int .i64 (n : Nat)))
      (fun n g2 => n ≤ r.F.length + 1 ∧ g2 = g') (fun n _ => r.F.length + 1 - n)
      (fun z => z.1 = .exit 4 ∧ z.2.1 = S.withylaw17_same_c5_O (.ptr B.b 0) .dead ∧ z.2.2 = g') 0 rfl ⟨Nat.zero_le _, rfl⟩ ?_ ?_
    rotate_left
    · rintro ⟨_, _, g2⟩ ⟨rfl, rfl, rfl⟩
      show Ev (S.withylaw17_same_K8 W (.exit 4) _ _) _
      rw [S.withylaw17_same_c5_e4_eq]
      have hfl := mdField_spec A'.M (-1) 0
      have hf : r.field (-1) 0 = -1 := by unfold RSt.field; rw [if_neg (fun q => by have := q.1; omega)]
      rw [hf] at hfl
      have dm : decide ((-1 : Int) = -1) = true := rfl
      simp only [S.withylaw17_same_c5_e4, obind, Int.reduceNeg, asI_int, decide_true, W_call, hfl]
      exact Ev.some ⟨rfl, F'⟩
    rintro n g2 ⟨hn, rfl⟩
    rw [S.withylaw17_same_c5_eq]
    have l6 := A'.l6
    have hlen := A'.Z.f.len
    by_cases hnl : n ≤ r.F.length
    · have d : decide ((n : Int) ≤ (r.F.length : Int)) = true := decide_eq_true (by omega)
      simp only [S.withylaw17_same_c5_S, ptrAt_ptr, obind, ld1_get', Nat.zero_add, Int.reduceNeg, l6, hlen, d]
      refine (same7_spec A' n hnl Bs).mono ?_
      rintro ⟨_, _, g3⟩ ⟨rfl, rfl, rfl⟩
      exact .inl ⟨n + 1, rfl, rfl, ⟨Nat.succ_le_succ hnl, rfl⟩, by omega⟩
    · have d : decide ((n : Int) ≤ (r.F.length : Int)) = false := decide_eq_false (by omega)
      simp only [S.withylaw17_same_c5_S, ptrAt_ptr, obind, ld1_get', Nat.zero_add, Int.reduceNeg, l6, hlen, d]
      exact Ev.some (.inr ⟨by simp, rfl, rfl, rfl⟩)
  rintro i g' ⟨hi, F⟩
  rw [S.withylaw17_same_c1_eq]
  have A' := A.fr F
  have l2 := A'.l2
  by_cases hic : i ≤ k.C + 1
  rotate_left
  · have d : decide ((i : Int) - 1 ≤ k.c) = false := decide_eq_false (by omega)
    simp only [S.withylaw17_same_c1_S, ptrAt_ptr, obind, ld1_get', ldN_get', Nat.zero_add, Nat.add_zero, Nat.reduceAdd, asI_int, W_call, l2, d]
    exact Ev.some (.inr ⟨by simp, rfl, rfl, F⟩)
  have d : decide ((i : Int) - 1 ≤ k.c) = true := decide_eq_true (by omega)
  have hh := mdHeld' A'.M I ((i : Int) - 1)
  have lN := A'.lN
  have vb := A'.vb
  obtain ⟨⟨v, g2⟩, e2, rfl, F2⟩ := refHeld_spec (k := k) A'.ok A'.Z.h Bs.h ((i : Int) - 1)
  dsimp only at F2
  have A2 := A'.fr F2
  have dn : decide (((r.held ((i : Int) - 1) : Nat) : Int) = ((r.held ((i : Int) - 1) : Nat) : Int)) = true := decide_eq_true rfl
  simp only [S.withylaw17_same_c1_S, ptrAt_ptr, obind, ld1_get', ldN_get', Nat.zero_add, Nat.add_zero, Nat.reduceAdd, ckB_some, asI_int, Bool.not_true, decide_true, W_call, l2, d, lN, hh, vb, e2]
  refine (same3_spec A2 I Bs i (by omega)).mono ?_
  rintro ⟨_, _, g3⟩ ⟨rfl, rfl, F3⟩
  exact .inl ⟨i + 1, rfl, rfl, ⟨Nat.succ_le_succ hic, F.trans' (F2.trans' F3)⟩, by omega⟩
end
end Wm
end

section
/- The laws of layer 17: a call that the state does first, then the model. -/
namespace Wm
attribute [local congr] bind_congr1
attribute [local irreducible] wr
section
variable {h0 : H} {k : Cfg} {g : H} {pS : Nat} {B : MdB} {s : StV} {r : RSt} {g0 : Nat → Option Blk} {n : Nat}

/-- The model's part: behind it. -/
theorem PlAt.model (P : PlAt h0 k g pS B s r g0 n) (hr : k.R = true) (hn : n ≤ 1000) {c : CallR} {a : AnsR} (hu : U64 a.h) (w : Int) :
    ∃ g' B', C 103 [.ptr B.b 0, .int .i64 w, .agg c.cs, .agg a.cs] g = some (.bool (okR k r w c a), g') ∧ Fr [] h0 g' ∧ Fr B.l g g' ∧ MdAt k g'.get B' (doR k r w c a) ∧ B.ext B' g ∧ g'.get pS = g.get pS := by
  have hB := Cfg.R_iff.mp hr
  have hC := (Cfg.bounds hr).2.2.1
  obtain ⟨⟨v, g'⟩, e, hv, F, B', M', E⟩ := mdDoes_spec (c := c) (a := a) P.ok P.M P.I (P.sz.small P.I (by omega) (by omega) (by omega)) (by omega) hu w
  dsimp only at hv F M'
  subst hv
  exact ⟨g', B', e, P.fr.trans F (fun b hb => .inr (P.dj b hb).2), F, M', E, F.same pS (P.ok.lt P.st) P.ps.1⟩
theorem ext_dj (P : PlAt h0 k g pS B s r g0 n) {B' : MdB} (E : B.ext B' g) : (∀ b ∈ B'.l, g0 b = none ∧ h0.next ≤ b) ∧ pS ∉ B'.l ∧ pS ∉ B'.nb := by
  have hlp : pS < g.next := P.ok.lt P.st
  refine ⟨fun b hb => ?_, fun q => ?_, fun q => ?_⟩
  · rcases E.l b hb with q | q
    · exact P.dj b q
    · exact ⟨P.sb.none P.ok q, Nat.le_trans P.fr.le q⟩
  · rcases E.l pS q with q | q
    · exact P.ps.1 q
    · omega
  · rcases E.n pS q with q | q
    · exact P.ps.2.1 q
    · omega

/-- Nothing changed. -/
theorem PlAt.stays (P : PlAt h0 k g pS B s r g0 n) {g7 : H} {B' : MdB} {c : CallR} {a : AnsR} {w : Int} (F7 : Fr [] h0 g7) (Fl : Fr B.l g g7) (M7 : MdAt k g7.get B' (doR k r w c a)) (E : B.ext B' g) (hd : doR k r w c a = r) : PlAt h0 k g7 pS B' s r g0 (n + 1) := by
  obtain ⟨dj, p1, p2⟩ := ext_dj P E
  rw [hd] at M7
  exact ⟨F7, M7, (Fl.same pS (P.ok.lt P.st) P.ps.1).trans P.st, P.Z, P.sb.fr P.ok Fl (fun b hb => (P.dj b hb).1), dj, ⟨p1, p2, P.ps.2.2.1, P.ps.2.2.2⟩, P.I, P.sz.mono (Nat.le_succ n), P.hd⟩

/-- The state did it first; then the model. -/
theorem PlAt.both (P : PlAt h0 k g pS B s r g0 n) {g5 g6 g7 : H} {B' : MdB} {t : StV} {c : CallR} {a : AnsR} (hu : U64 a.h) (w : Int) (F5 : Fr [] g g5) (Z5 : StAt (ug g0 g g5) t (doR k r w c a)) (F6 : Fr [] g5 g6)
    (F7 : Fr [] h0 g7) (Fl : Fr B.l g6 g7) (M7 : MdAt k g7.get B' (doR k r w c a)) (E : B.ext B' g6) :
    PlAt h0 k (g7.put pS (some (.cells (tCs k t) .rw))) pS B' t (doR k r w c a) (ug g0 g g5) (n + 1) := by
  have F56 := F5.trans' F6
  have P6 := P.fr0 F56
  obtain ⟨dj, p1, p2⟩ := ext_dj P6 E
  have hlp : pS < g.next := P.ok.lt P.st
  have hu0 : ug g0 g g5 pS = none := by rw [ug_old hlp]; exact P.ps.2.2.1
  have hl6 : pS < g6.next := F56.lt hlp
  have hl7 : pS < g7.next := Fl.lt hl6
  have Fp : Fr [pS] g7 (g7.put pS (some (.cells (tCs k t) .rw))) := (Fr.refl F7.ok).put (.inl (by simp)) hl7 _
  have hul : ∀ b ∈ B.l, ug g0 g g5 b = none := fun b hb => by rw [ug_old (P.M.lt P.ok b hb)]; exact (P.dj b hb).1
  refine ⟨F7.put (.inr P.ps.2.2.2) hl7 _, M7.fr' F7.ok Fp (fun b hb q => by simp only [List.mem_singleton] at q; exact p1 (q ▸ hb)) (fun b hb q => by simp only [List.mem_singleton] at q; exact p2 (q ▸ hb)), get_put_self _ _ _, Z5, ?_, fun b hb => ⟨?_, (dj b hb).2⟩, ⟨p1, p2, hu0, P.ps.2.2.2⟩, P.I.do w c hu, P.sz.do w c a, P.hd.do P.I w c a⟩
  · exact (((ug_get P.sb P.ok F5).fr0 F5.ok F6).fr F6.ok Fl hul).fr F7.ok Fp (by simpa using hu0)
  · rcases E.l b hb with q | q
    · exact hul b q
    · have h5 := F6.le
      rw [ug_new (Nat.le_trans F56.le q)]
      exact F5.ok b (Nat.le_trans h5 q)
end
end Wm
end

section
/- The law ModelRoom, of my machine. -/
namespace Wm
attribute [local congr] bind_congr1
attribute [local irreducible] wr

theorem room_ne {a b c : Nat} (h1 : a < b) (h2 : b ≤ c) : ¬ a = c := by omega

theorem model_begin {h g : H} (F : Fr [] h g) {pS : Nat} {B : MdB} {s : StV} (M : MdAt cfg17 g.get B (rst0 cfg17)) (hB : ∀ x ∈ B.l, h.next ≤ x) (hN : B.nb = []) {g1 g2 : H} (F1 : Fr [] g g1) (Z : StAt (ug (fun _ => none) g g1) s (rst0 cfg17)) (F2 : Fr [] g1 g2) (hS : g2.get pS = some (.cells (tCs cfg17 s) .rw)) (hp : g1.next ≤ pS) :
    PlAt h cfg17 g2 pS B s (rst0 cfg17) (ug (fun _ => none) g g1) 0 := by
  have F12 := F1.trans' F2
  have hlt := M.lt F.ok
  have hge := F1.le
  have hgh := F.le
  have sb0 : Sub (fun _ => none) g.get := fun b x hb => by cases hb
  have hps : ug (fun _ => none) g g1 pS = none ∨ True := .inr trivial
  refine ⟨F.trans' F12, M.fr0 F.ok F12, hS, Z, (ug_get sb0 F.ok F1).fr0 F1.ok F2, fun b hb => ⟨by rw [ug_old (hlt b hb)], hB b hb⟩, ⟨fun q => ?_, by rw [hN]; simp, ?_, Nat.le_trans hgh (Nat.le_trans hge hp)⟩, rst0_in _, rst0_sz _, fun w => ?_⟩
  · exact absurd (hlt _ q) (Nat.not_lt.mpr (Nat.le_trans hge hp))
  · rw [ug_new (Nat.le_trans hge hp)]
    exact F1.ok pS hp
  · show ((heldL [] w : Nat) : Int) ≤ 3
    exact (by decide : (0 : Int) ≤ 3)

end Wm
end

section
/- The law ModelRefuses, of my machine. -/
namespace Wm
attribute [local congr] bind_congr1
attribute [local irreducible] wr

def shModelRefuses : List (Bool × List CSh) := [(false, [.sl 80 [.int .i64, .int .i64, .int .i64, .int .i64, .int .i64, .int .i64, .int .i64, .int .i64, .int .u64, .bool]]), (true, [.int .i64, .int .i64, .int .i64, .int .i64, .int .i64, .int .i64, .int .i64, .int .i64, .int .u64, .bool])]

theorem PlAt.up {h0 : H} {k : Cfg} {g : H} {pS : Nat} {B : MdB} {s : StV} {r : RSt} {g0 : Nat → Option Blk} {n : Nat} (P : PlAt h0 k g pS B s r g0 n) {m : Nat} (h : n ≤ m) : PlAt h0 k g pS B s r g0 m :=
  ⟨P.fr, P.M, P.st, P.Z, P.sb, P.dj, P.ps, P.I, P.sz.mono h, P.hd⟩

theorem refuses_step {h0 g : H} {pS : Nat} {B : MdB} {s : StV} {r : RSt} {g0 : Nat → Option Blk} {i : Nat} (P : PlAt h0 cfg17 g pS B s r g0 i) {x0 x3 : V} {l : List ActR} (hx : RowA h0.get x0 l) (ok0 : h0.ok) (hu : ∀ y ∈ l, U64 y.raw.h) (hl : l.length ≤ 80) (hi : i < l.length) :
    Ev (S.withylaw17_ModelRefuses_c1_S W x0 x3 (.ptr B.b 0) (.ptr pS 0) (i : Nat) g) fun z => z.1 = .normal ∧ ∃ B' s' r' g0', B'.b = B.b ∧ z.2.1 = S.withylaw17_ModelRefuses_c1_E x0 x3 (.ptr B.b 0) (.ptr pS 0) (.int .i64 (i + 1 : Nat)) ∧ PlAt h0 cfg17 z.2.2 pS B' s' r' g0' (i + 1) := by
  obtain ⟨y, hy⟩ : ∃ y, l[i]? = some y := ⟨_, List.getElem?_eq_getElem hi⟩
  have huy := hu y (List.mem_of_getElem? hy)
  have d : decide ((i : Int) < (l.length : Int)) = true := natlt hi
  have hlen := hx.len
  have hi80 : i ≤ 80 := Nat.le_trans (Nat.le_of_lt hi) hl
  have hi1000 : i ≤ 1000 := Nat.le_trans hi80 (by decide)
  have hi99 : i ≤ 100000 := Nat.le_trans hi80 (by decide)
  obtain ⟨b, ix, ly, l0, hbx⟩ := hx.at hy
  have hbl : b < h0.next := by
    cases hb : h0.get b with
    | none => rw [hb] at ly; cases ly
    | some blk => exact ok0.lt hb
  have rd : ∀ {gg : H}, Fr [] h0 gg → ldNB (gg.get b) (i * 10) 10 = some (.agg y.cs) ∧ ldB (gg.get b) (i * 10) = some (.int .i64 y.c) := fun F => by
    rw [F.same b hbl (by simp)]; exact ⟨ly, l0⟩
  have hSz := P.sz.small P.I hi99 (by decide) (by decide)
  obtain ⟨⟨v1, g1⟩, e1, rfl, F1⟩ := call17_spec (k := cfg17) P.ok P.Zg hSz.g y
  dsimp only at F1
  have P1 := P.fr0 F1
  obtain ⟨g2, e2, F2, hc2, n2⟩ := newSt (cs := [.int .i64 0, .int .i64 0, .int .u64 0, .int .u64 0, .int .u64 0]) (l := (callR r y).cs) g1 P1.ok rfl rfl
  have P2 := P1.fr0 F2
  obtain ⟨⟨v3, g3⟩, e3, rfl, F3⟩ := answer17_spec (k := cfg17) P2.ok P2.Zg P2.I hSz.h y (callR r y) i
  dsimp only at F3
  have P3 := P2.fr0 F3
  obtain ⟨g4, e4, F4, ha4, n4⟩ := newSt (cs := [.int .i64 0, .int .u64 0, .bool false]) (l := (answerR cfg17 r y (callR r y) i).cs) g3 P3.ok rfl rfl
  have P4 := P3.fr0 F4
  have hua : U64 (answerR cfg17 r y (callR r y) i).h := answerR_u64 huy _ _
  have hc4 := F4.get P3.ok (F3.get P2.ok hc2 (by simp)) (by simp)
  generalize hca : callR r y = c at e1 e2 hc2 e3 e4 hc4 ha4 hua
  generalize haa : answerR cfg17 r y c i = a at e3 e4 ha4 hua
  -- the state
  have B4 := P4.sz.small P4.I hi99 (by decide) (by decide)
  obtain ⟨⟨v5, g5⟩, e5, t, hv5, F5, Z5⟩ := refDoes_spec (k := cfg17) (c := c) (a := a) P4.ok P4.sb P4.Z P4.I B4 (by decide) y.c
  dsimp only at hv5 F5 Z5
  subst hv5
  have tl : (tCs cfg17 t).all V.one = true := stv_ones cfg17 Z5
  obtain ⟨g6, e6, F6, ht6, n6⟩ := newSt (cs := [.int .i64 0, .int .i64 0, .int .i64 0, .int .i64 0, .int .i64 0, .int .i64 0, .nilsl, .nilsl, .nilsl, .nilsl, .nilsl]) (l := tCs cfg17 t) g5 F5.ok rfl tl
  have P6 := P4.fr0 (F5.trans' F6)
  have hc6 := F6.get F5.ok (F5.get P4.ok hc4 (by simp)) (by simp)
  have ha6 := F6.get F5.ok (F5.get P4.ok ha4 (by simp)) (by simp)
  obtain ⟨r1, _⟩ := rd P.fr
  obtain ⟨r2, _⟩ := rd P2.fr
  obtain ⟨_, r4⟩ := rd P4.fr
  obtain ⟨_, r6⟩ := rd P6.fr
  have hS := P.lN
  have hS2 := P2.lN
  have hS4 := P4.lN
  have lc2 : ldNB (g2.get g1.next) 0 5 = some (.agg c.cs) := by rw [hc2]; rfl
  have lc4 : ldNB (g4.get g1.next) 0 5 = some (.agg c.cs) := by rw [hc4]; rfl
  have la4 : ldNB (g4.get g3.next) 0 3 = some (.agg a.cs) := by rw [ha4]; rfl
  have lc6 : ldNB (g6.get g1.next) 0 5 = some (.agg c.cs) := by rw [hc6]; rfl
  have la6 : ldNB (g6.get g3.next) 0 3 = some (.agg a.cs) := by rw [ha6]; rfl
  simp only [List.length_cons, List.length_nil, Nat.zero_add, Nat.reduceAdd] at e2 e4 e6
  have hvt : t.v cfg17 = .agg (tCs cfg17 t) := rfl
  have hbS : ¬ b = pS := room_ne hbl P.ps.2.2.2
  have wi := mdl_i (i := i) hi99
  have eqb : ∀ b : Bool, eqV .bool (.bool b) (.bool b) = some true := fun b => by cases b <;> rfl
  cases hok : okR cfg17 r y.c c a with
  | false =>
    rw [hok] at e5
    simp only [S.withylaw17_ModelRefuses_c1_S, ptrAt_ptr, obind, ld1_get', ldN_get', Nat.add_zero, W_call, asB_bool, List.getElem?_cons_zero, List.getElem?_cons_succ, Nat.reduceAdd, hlen, d, hS, ix, r1, e1, e2, hS2, r2, lc2, e3, e4, hS4, r4, lc4, la4, e5, hvt, e6, wi]
    exact Ev.some ⟨rfl, B, s, r, g0, rfl, rfl, P6.up (Nat.le_succ i)⟩
  | true =>
    obtain ⟨g7, B', e7, F07, Fl, M7, E, hS7⟩ := P6.model cfg17_R hi1000 (c := c) (a := a) hua y.c
    have hnl5 : g5.next ∉ B.l := fun q => Nat.lt_irrefl _ (Nat.lt_of_lt_of_le (P4.M.lt P4.ok _ q) F5.le)
    have ht7 := Fl.get P6.ok ht6 hnl5
    have lt7 : ldNB (g7.get g5.next) 0 11 = some (.agg (tCs cfg17 t)) := by rw [ht7]; rfl
    have hB' := E.b
    rw [hok] at e5 e7
    have P8 := P4.both hua y.c F5 Z5 F6 F07 Fl M7 E
    have hS7' : g7.get pS = some (.cells [.int .i64 cfg17.s, .int .i64 cfg17.a, .int .i64 cfg17.c, .int .i64 cfg17.hd, .int .i64 cfg17.g, .int .i64 cfg17.st, s.f, s.h, s.w, s.c, s.g] .rw) := hS7.trans P6.st
    have hst8 : stB (g7.get pS) 0 (tCs cfg17 t) = some (.cells (tCs cfg17 t) .rw) := by rw [hS7']; exact stB_all rfl tl
    have hstp : g7.st 11 (.ptr pS 0) (.agg (tCs cfg17 t)) = some (g7.put pS (some (.cells (tCs cfg17 t) .rw))) := by
      rw [st_get']
      show Option.map _ (stB (g7.get pS) 0 (tCs cfg17 t)) = _
      rw [hst8]; rfl
    simp only [S.withylaw17_ModelRefuses_c1_S, ptrAt_ptr, obind, ld1_get', ldN_get', Nat.add_zero, W_call, asB_bool, List.getElem?_cons_zero, List.getElem?_cons_succ, Nat.reduceAdd, hlen, d, hS, ix, r1, e1, e2, hS2, r2, lc2, e3, e4, hS4, r4, lc4, la4, e5, hvt, e6, r6, lc6, la6, e7, lt7, hstp, wi]
    exact Ev.some ⟨rfl, B', t, _, _, hB', rfl, P8⟩

/-- The last call. -/
theorem refuses_end {h0 g : H} {pS : Nat} {B : MdB} {s : StV} {r : RSt} {g0 : Nat → Option Blk} {i b : Nat} (P : PlAt h0 cfg17 g pS B s r g0 i) (hi : i ≤ 80) {y : ActR} (hy : h0.get b = some (.cells y.cs .rw)) (ok0 : h0.ok) (hu : U64 y.raw.h) :
    Ev (S.withylaw17_ModelRefuses_c1_e0 W (.ptr b 0) (.ptr B.b 0) (.ptr pS 0) g) fun z => z.1 = .bool true := by
  have hi1000 : i ≤ 1000 := Nat.le_trans hi (by decide)
  have hi99 : i ≤ 100000 := Nat.le_trans hi (by decide)
  have hbl : b < h0.next := ok0.lt hy
  have rd : ∀ {gg : H}, Fr [] h0 gg → ldNB (gg.get b) 0 10 = some (.agg y.cs) ∧ ldB (gg.get b) 0 = some (.int .i64 y.c) := fun F => by
    rw [F.same b hbl (by simp), hy]; exact ⟨rfl, rfl⟩
  have hSz := P.sz.small P.I hi99 (by decide) (by decide)
  obtain ⟨⟨v1, g1⟩, e1, rfl, F1⟩ := call17_spec (k := cfg17) P.ok P.Zg hSz.g y
  dsimp only at F1
  have P1 := P.fr0 F1
  obtain ⟨g2, e2, F2, hc2, n2⟩ := newSt (cs := [.int .i64 0, .int .i64 0, .int .u64 0, .int .u64 0, .int .u64 0]) (l := (callR r y).cs) g1 P1.ok rfl rfl
  have P2 := P1.fr0 F2
  obtain ⟨⟨v3, g3⟩, e3, rfl, F3⟩ := answer17_spec (k := cfg17) P2.ok P2.Zg P2.I hSz.h y (callR r y) 999
  dsimp only at F3
  have P3 := P2.fr0 F3
  obtain ⟨g4, e4, F4, ha4, n4⟩ := newSt (cs := [.int .i64 0, .int .u64 0, .bool false]) (l := (answerR cfg17 r y (callR r y) 999).cs) g3 P3.ok rfl rfl
  have P4 := P3.fr0 F4
  have hua : U64 (answerR cfg17 r y (callR r y) 999).h := answerR_u64 hu _ _
  have hc4 := F4.get P3.ok (F3.get P2.ok hc2 (by simp)) (by simp)
  generalize hca : callR r y = c at e1 e2 hc2 e3 e4 hc4 ha4 hua
  generalize haa : answerR cfg17 r y c 999 = a at e3 e4 ha4 hua
  obtain ⟨g7, B', e7, F07, Fl, M7, E, hS7⟩ := P4.model cfg17_R hi1000 (c := c) (a := a) hua y.c
  have hnl1 : g1.next ∉ B.l := fun q => Nat.lt_irrefl _ (P1.M.lt P1.ok _ q)
  have hnl3 : g3.next ∉ B.l := fun q => Nat.lt_irrefl _ (P3.M.lt P3.ok _ q)
  have hc7 := Fl.get P4.ok hc4 hnl1
  have ha7 := Fl.get P4.ok ha4 hnl3
  obtain ⟨r1, _⟩ := rd P.fr
  obtain ⟨r2, _⟩ := rd P2.fr
  obtain ⟨_, r4⟩ := rd P4.fr
  have hS := P.lN
  have hS2 := P2.lN
  have lc2 : ldNB (g2.get g1.next) 0 5 = some (.agg c.cs) := by rw [hc2]; rfl
  have lc4 : ldNB (g4.get g1.next) 0 5 = some (.agg c.cs) := by rw [hc4]; rfl
  have la4 : ldNB (g4.get g3.next) 0 3 = some (.agg a.cs) := by rw [ha4]; rfl
  have lk7 : ldB (g7.get g1.next) 0 = some (.int .i64 c.kind) := by rw [hc7]; rfl
  have lr7 : ldB (g7.get g3.next) 0 = some (.int .i64 a.err) := by rw [ha7]; rfl
  simp only [List.length_cons, List.length_nil, Nat.zero_add, Nat.reduceAdd] at e2 e4
  have hB' := E.b
  have fini : doR cfg17 r y.c c a = r → ∃ g8, ldNB (g7.get pS) 0 11 = some (s.v cfg17) ∧ C 104 [.ptr B.b 0, s.v cfg17] g7 = some (.bool true, g8) := fun hd => by
    have P7 := P4.stays F07 Fl M7 E hd
    have B7 := P7.sz.small P7.I (Nat.le_trans (Nat.succ_le_succ hi) (by decide)) (by decide) (by decide)
    obtain ⟨⟨v8, g8⟩, e8, rfl, F8⟩ := same17_spec P7.ok P7.M P7.Zg P7.I B7 (by decide)
    rw [hB'] at e8
    exact ⟨g8, P7.lN, e8⟩
  have e3' : C 101 [s.v cfg17, .agg y.cs, .agg c.cs, .int .i64 999] g2 = some (.agg a.cs, g3) := e3
  cases hok : okR cfg17 r y.c c a with
  | false =>
    rw [hok] at e7
    obtain ⟨g8, hS7', e8⟩ := fini (by unfold doR actsR; rw [hok]; rfl)
    simp only [S.withylaw17_ModelRefuses_c1_e0, ptrAt_ptr, obind, ld1_get', ldN_get', Nat.add_zero, W_call, hS, r1, e1, e2, hS2, r2, lc2, e3', e4, r4, lc4, la4, e7, hS7', e8]
    exact Ev.some rfl
  | true =>
    rw [hok] at e7
    by_cases her : a.err = 0
    · have d1 : decide (a.err = 0) = true := decide_eq_true her
      by_cases hk : c.kind = 7
      · have d2 : decide (c.kind = 7) = true := decide_eq_true hk
        obtain ⟨g8, hS7', e8⟩ := fini (by
          unfold doR
          split
          · unfold doneR; simp only [hk]; rfl
          · rfl)
        simp only [S.withylaw17_ModelRefuses_c1_e0, ptrAt_ptr, obind, ld1_get', ldN_get', Nat.add_zero, W_call, asI_int, Bool.not_true, hS, r1, e1, e2, hS2, r2, lc2, e3', e4, r4, lc4, la4, e7, lk7, lr7, d1, d2, hS7', e8]
        exact Ev.some rfl
      · have d2 : decide (c.kind = 7) = false := decide_eq_false hk
        simp only [S.withylaw17_ModelRefuses_c1_e0, ptrAt_ptr, obind, ld1_get', ldN_get', Nat.add_zero, W_call, asI_int, Bool.not_false, hS, r1, e1, e2, hS2, r2, lc2, e3', e4, r4, lc4, la4, e7, lk7, lr7, d1, d2]
        exact Ev.some rfl
    · have d1 : decide (a.err = 0) = false := decide_eq_false her
      obtain ⟨g8, hS7', e8⟩ := fini (by unfold doR actsR; rw [d1, Bool.and_false]; rfl)
      simp only [S.withylaw17_ModelRefuses_c1_e0, ptrAt_ptr, obind, ld1_get', ldN_get', Nat.add_zero, W_call, asI_int, hS, r1, e1, e2, hS2, r2, lc2, e3', e4, r4, lc4, la4, e7, lr7, d1, hS7', e8]
      exact Ev.some rfl

theorem lawModelRefuses (h : H) (us : List V) (ok : h.ok) (ha : ArgsOk h.get shModelRefuses us) : Ev (C 12 us h) fun r => r.1 = .bool true := by
  obtain ⟨x0, _, rfl, ⟨x0', _, hx, hxc, rfl⟩, _, _, rfl, ⟨_, rfl, _, _, rfl, ⟨y0, rfl, _⟩, _, _, rfl, ⟨y1, rfl, _⟩, _, _, rfl, ⟨y2, rfl, _⟩, _, _, rfl, ⟨y3, rfl, _⟩, _, _, rfl, ⟨y4, rfl, _⟩, _, _, rfl, ⟨y5, rfl, _⟩, _, _, rfl, ⟨y6, rfl, _⟩, _, _, rfl, ⟨y7, rfl, _⟩, _, _, rfl, ⟨y8, rfl, b8⟩, _, _, rfl, ⟨y9, rfl⟩, rfl⟩, rfl⟩ := ha
  injection hx with hx0 _
  subst hx0
  obtain ⟨l, hx, hu⟩ := rowA_of hxc
  refine call_ev (af := F.withylaw17_ModelRefuses) (by kernel_rfl) rfl ?_
  rw [S.withylaw17_ModelRefuses_eq]
  have hlen := hx.len
  generalize hY : (⟨y0, y1, y2, y3, y4, y5, y6, ⟨y7, y8, y9⟩⟩ : ActR) = Y
  have hYc : [V.int .i64 y0, .int .i64 y1, .int .i64 y2, .int .i64 y3, .int .i64 y4, .int .i64 y5, .int .i64 y6, .int .i64 y7, .int .u64 y8, .bool y9] = Y.cs := by rw [← hY]; rfl
  have hYu : U64 Y.raw.h := by rw [← hY]; exact wf_u64 b8
  have F0 : Fr [] h (h.new (.cells Y.cs .rw)) := (Fr.refl ok).new _
  have hx1 : RowA (h.new (.cells Y.cs .rw)).get x0 l := hx.sub ((Sub.refl _).fr0 ok F0)
  have hact : (h.new (.cells Y.cs .rw)).get h.next = some (.cells Y.cs .rw) := get_new_self _ _
  obtain ⟨⟨v1, g1⟩, e1, B, rfl, F1, M1, hB, hN⟩ := mdNew_spec cfg17_R F0.ok
  dsimp only at F1 M1
  by_cases h80 : 80 < l.length
  · have d : decide ((80 : Int) < (l.length : Int)) = true := decide_eq_true (by omega)
    simp only [S.withylaw17_ModelRefuses, obind, W_call, hYc, config17_spec, e1, hlen, d, awake17]
    exact Ev.some rfl
  have d : decide ((80 : Int) < (l.length : Int)) = false := decide_eq_false (by omega)
  obtain ⟨⟨v2, g2⟩, e2, s, rfl, F2, Z2⟩ := refNew_spec cfg17_R F1.ok (fun _ => none)
  dsimp only at F2 Z2
  have tl : (tCs cfg17 s).all V.one = true := stv_ones cfg17 Z2
  obtain ⟨g3, e3, F3, hS3, n3⟩ := newSt (cs := [.int .i64 0, .int .i64 0, .int .i64 0, .int .i64 0, .int .i64 0, .int .i64 0, .nilsl, .nilsl, .nilsl, .nilsl, .nilsl]) (l := tCs cfg17 s) g2 F2.ok rfl tl
  simp only [List.length_cons, List.length_nil, Nat.zero_add, Nat.reduceAdd] at e3
  have hvt : s.v cfg17 = .agg (tCs cfg17 s) := rfl
  have P := model_begin F1 M1 hB hN F2 Z2 F3 hS3 (Nat.le_refl _)
  simp only [S.withylaw17_ModelRefuses, hYc, obind, W_call, asB_bool, eqV, eqPtr_ptr, Bool.not_true, config17_spec, e1, hlen, d, awake17, e2, hvt, e3]
  refine loop_ev (α := Nat) (fun i => S.withylaw17_ModelRefuses_c1_E x0 (.ptr h.next 0) (.ptr B.b 0) (.ptr g2.next 0) (.int .i64 (i : Nat)))
    (fun i g => i ≤ l.length ∧ ∃ B' s' r' g0', B'.b = B.b ∧ PlAt (h.new (.cells Y.cs .rw)) cfg17 g g2.next B' s' r' g0' i) (fun i _ => l.length - i)
    (fun z => z.1 = .exit 0 ∧ ∃ i B' s' r' g0', i ≤ l.length ∧ B'.b = B.b ∧ z.2.1 = S.withylaw17_ModelRefuses_c1_O (.ptr h.next 0) (.ptr B.b 0) (.ptr g2.next 0) ∧ PlAt (h.new (.cells Y.cs .rw)) cfg17 z.2.2 g2.next B' s' r' g0' i) 0 rfl ⟨Nat.zero_le _, B, s, _, _, rfl, P⟩ ?_ ?_
  rotate_left
  · rintro ⟨_, _, g⟩ ⟨rfl, i, B', s', r', g0', hi, hb, rfl, P⟩
    show Ev (S.withylaw17_ModelRefuses_K2 W (.exit 0) _ _) _
    rw [S.withylaw17_ModelRefuses_c1_e0_eq, ← hb]
    exact refuses_end P (Nat.le_trans hi (Nat.not_lt.mp h80)) hact F0.ok hYu
  rintro i g ⟨hi, B', s', r', g0', hb, P⟩
  rw [S.withylaw17_ModelRefuses_c1_eq]
  by_cases hil : i < l.length
  · rw [← hb]
    refine (refuses_step P hx1 F0.ok hu (Nat.not_lt.mp h80) hil).mono ?_
    rintro ⟨_, _, g'⟩ ⟨rfl, B2, s2, r2, g02, hb2, rfl, P2⟩
    exact .inl ⟨i + 1, rfl, rfl, ⟨hil, B2, s2, r2, g02, hb2, P2⟩, Nat.sub_lt_sub_left hil (Nat.lt_succ_self i)⟩
  · have d2 : decide ((i : Int) < (l.length : Int)) = false := decide_eq_false (by omega)
    simp only [S.withylaw17_ModelRefuses_c1_S, obind, hlen, d2]
    exact Ev.some (.inr ⟨by simp, rfl, i, B', s', r', g0', hi, hb, rfl, P⟩)
end Wm
end

