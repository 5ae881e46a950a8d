/- What the functions come to, and the law: of my machine. -/
import Derived.Test.YthkimcdeejjmbaaWmOwnLinFrontsA
import Derived.Test.YthkimcdeejjmbaaWmTxtLinFrontsA
import Derived.Test.YthkimcdeejjmbaaWmEv
import Derived.Test.YthkimcdeejjmbaaWmOpen
import Derived.Test.YthkimcdeejjmbaaWmPOp0
import Derived.KernelRfl
import Derived.Test.YthkimcdeejjmbaaWmShal
import Derived.Test.YthkimcdeejjmbaaWmCore
import Derived.Test.YthkimcdeejjmbaaWmFnsLinFrontsA
import Derived.Test.YthkimcdeejjmbaaWmFnc
import Derived.Test.YthkimcdeejjmbaaWmProgLinFronts
import Derived.Sort.LotA
import Derived.Sort.LotC
import Derived.Sort.Lot0
import Derived.Sort.LotD3
import Derived.Test.YthkimcdeejjmbaaWmFast
import Derived.Sort.LotD1
import Derived.Sort.LotD4
import Derived.Sort.LotB
import Derived.Test.YthkimcdeejjmbaaWmHeap
set_option linter.all false
section
/- The program's model: done, Does. -/
namespace Wm
attribute [local congr] bind_congr1
attribute [local irreducible] wr

section
variable {k : Cfg} {B : MdB} {r : RSt} {c : CallR} {a : AnsR}

def MdOut (k : Cfg) (B : MdB) (h : H) (b : Bool) (r' : RSt) (z : V × H) : Prop := z.1 = .bool b ∧ Fr B.l h z.2 ∧ ∃ B', MdAt k z.2.get B' r' ∧ B.ext B' h
theorem MdOut.same {h g : H} (ok : h.ok) (M : MdAt k h.get B r) (F : Fr [] h g) (b : Bool) : MdOut k B h b r (.bool b, g) := ⟨rfl, F.mono (by simp), B, M.fr0 ok F, .refl B h⟩
theorem MdOut.up {h g : H} {b : Bool} {r' : RSt} {z : V × H} (F : Fr [] h g) (O : MdOut k B g b r' z) : MdOut k B h b r' z := by
  obtain ⟨h1, h2, B', h3, h4⟩ := O
  exact ⟨h1, (F.mono (by simp)).trans h2 (fun b hb => .inl hb), B', h3, h4.up F.le⟩

theorem fresh_not {q : Int} (h : r.fresh q = true) : r.Gv.contains q = false := by
  unfold RSt.fresh at h
  cases hc : r.Gv.contains q with
  | false => rfl
  | true => rw [hc] at h; cases h

/-- From the switch on. -/
theorem done8_spec {g : H} {q pa : Nat} (D : DnAt k B r c a g q pa) (I : RIn k r) (Bs : r.small) (ka : k.a ≤ 8) (hu : U64 a.h) {w : Int} (w0 : 0 ≤ w) (w1 : w < k.c) (he : errR k r w c = 0) (hfr : givesR r w c = true → r.fresh a.h = true) :
    Ev ((S.model_Model_done_c8_B W (S.model_Model_done_c8_E (.ptr B.b 0) (.int .i64 w) (.ptr q 0) (.ptr pa 0) (.int .i64 (r.node w c.h)) (.bool (givesR r w c)) (.bool (yesR r w c))) g).bind fun p0 => S.model_Model_done_K7 W p0.1 p0.2.1 p0.2.2) (MdOut k B g true (doneR r w c a)) := by
  have E := errOk he
  have hr := E.rng
  have hf : givesR r w c = true → r.Gv.contains a.h = false := fun hg => fresh_not (hfr hg)
  rw [S.model_Model_done_c8_eq]
  have key : Ev (S.model_Model_done_c8_S W (.ptr B.b 0) w (.ptr q 0) (.ptr pa 0) (r.node w c.h) (givesR r w c) (yesR r w c) g) (SwM k B g (doneR r w c a)) := by
    by_cases k1 : c.kind = 1
    · obtain ⟨h1, h2, _⟩ := E.new k1
      exact dm1_spec D I Bs.f k1 w0 w1 (n := c.n.toNat) (by omega) (by omega) (hf (by unfold givesR; rw [decide_eq_true k1]; rfl)) _ _
    by_cases kf : c.kind = 2 ∨ c.kind = 3 ∨ c.kind = 4 ∨ c.kind = 5
    · obtain ⟨n, hn, hF⟩ := I.flAt (E.node (by omega) (by omega))
      obtain ⟨h1, h2⟩ := E.fld (by omega) (by omega)
      exact dmF_spec D I w0 w1 hF (i := c.n.toNat) (by omega) hn (by omega) _ _ rfl rfl hf kf
    · refine dmW_spec D I Bs w0 w1 _ _ (fun k8 => ?_) (fun h => hf ?_) (fun h9 => (E.next h9).1) hu (by omega)
      · obtain ⟨n, hn, hF⟩ := I.flAt (E.node (by omega) (by omega))
        exact ⟨n, hn, lt_of_get hF⟩
      · unfold givesR
        rcases h with h | h
        · rw [h]; simp
        · rw [h]; simp
  refine Ev.bind key ?_
  rintro ⟨_, _, g'⟩ ⟨rfl, rfl, F', B', M', E'⟩
  dsimp only at F' M' E' ⊢
  rw [S.model_Model_done_c8_n_eq]
  exact Ev.some ⟨rfl, F', B', M', E'⟩

theorem done6_spec {g : H} {q pa : Nat} (D : DnAt k B r c a g q pa) (I : RIn k r) (Bs : r.small) (ka : k.a ≤ 8) (hu : U64 a.h) {w : Int} (w0 : 0 ≤ w) (w1 : w < k.c) (he : errR k r w c = 0) (ha : a.err = 0) :
    Ev ((S.model_Model_done_c6_B W (S.model_Model_done_c6_E (.ptr B.b 0) (.int .i64 w) (.ptr q 0) (.ptr pa 0) (.int .i64 (r.node w c.h)) (.bool (givesR r w c)) (.bool (yesR r w c))) g).bind fun p0 => S.model_Model_done_K6 W p0.1 p0.2.1 p0.2.2) (MdOut k B g (okR k r w c a) (doR k r w c a)) := by
  have hok : okR k r w c a = ok13 r w c a := by
    unfold okR ok13
    rw [if_neg (by omega), if_neg (by rw [he]; simp), if_neg (by omega)]
    have : (a.yes == yesR r w c) = decide (a.yes = yesR r w c) := by cases a.yes <;> cases yesR r w c <;> rfl
    rw [this]
  have hS : S.model_Model_done_c6_S W (.ptr B.b 0) w (.ptr q 0) (.ptr pa 0) (r.node w c.h) (givesR r w c) (yesR r w c) g = some (.normal, S.model_Model_done_c6_O (.ptr B.b 0) (.int .i64 w) (.ptr q 0) (.ptr pa 0) (.int .i64 (r.node w c.h)) (.bool (givesR r w c)) (.bool (yesR r w c)) (.bool (!ok13 r w c a)), g) := by
    have han := D.an
    have hfs := mdFresh_spec D.A.M a.h
    unfold ok13
    rw [decide_eq_true ha]
    cases dy : (a.yes == yesR r w c) with
    | false => simp only [S.model_Model_done_c6_S, ptrAt_ptr, obind, ld1_get', ldB_cells, List.getElem?_cons_zero, List.getElem?_cons_succ, Nat.zero_add, one_bool, one_int, asI_int, Bool.and_false, Bool.false_and, Bool.not_false, eqV, W_call, han, dy]
    | true =>
      cases dg : givesR r w c with
      | false => simp only [S.model_Model_done_c6_S, ptrAt_ptr, obind, ld1_get', ldB_cells, List.getElem?_cons_zero, List.getElem?_cons_succ, Nat.zero_add, one_bool, one_int, asI_int, Bool.true_and, Bool.not_true, Bool.not_false, Bool.and_self, if_false, eqV, han, dy, Bool.false_eq_true]
      | true =>
        cases df : r.fresh a.h with
        | true =>
          rw [df] at hfs
          simp only [S.model_Model_done_c6_S, ptrAt_ptr, obind, ld1_get', ldB_cells, List.getElem?_cons_zero, List.getElem?_cons_succ, Nat.zero_add, one_bool, one_int, asB_bool, Bool.not_true, Bool.and_self, if_true, eqV, W_call, han, dy, hfs]
        | false =>
          rw [df] at hfs
          simp only [S.model_Model_done_c6_S, ptrAt_ptr, obind, ld1_get', ldB_cells, List.getElem?_cons_zero, List.getElem?_cons_succ, Nat.zero_add, one_bool, one_int, asB_bool, Bool.and_false, Bool.not_true, Bool.not_false, Bool.and_self, if_true, eqV, W_call, han, dy, hfs]
  rw [S.model_Model_done_c6_eq, hS, obind, S.model_Model_done_c6_n_eq]
  cases ho : ok13 r w c a with
  | true =>
    have hd : doR k r w c a = doneR r w c a := by
      unfold doR actsR
      rw [hok, ho, he, ha]; rfl
    rw [hd, hok, ho]
    simp only [S.model_Model_done_c6_n, Bool.not_true]
    refine done8_spec D I Bs ka hu w0 w1 he fun hg => ?_
    unfold ok13 at ho
    rw [if_pos hg] at ho
    simp only [Bool.and_eq_true] at ho
    exact ho.2
  | false =>
    have hd : doR k r w c a = r := by
      unfold doR actsR
      rw [hok, ho]; rfl
    rw [hd, hok, ho]
    simp only [S.model_Model_done_c6_n, Bool.not_false]
    exact Ev.some (MdOut.same D.A.ok D.A.M (.refl D.A.ok) false)

theorem mdDone_spec {h : H} (ok : h.ok) (M : MdAt k h.get B r) (I : RIn k r) (Bs : r.small) (ka : k.a ≤ 8) (hu : U64 a.h) {w : Int} (w0 : 0 ≤ w) (w1 : w < k.c) (he : errR k r w c = 0) (ha : a.err = 0) :
    Ev (C 284 [.ptr B.b 0, .int .i64 w, .agg c.cs, .agg a.cs] h) (MdOut k B h (okR k r w c a) (doR k r w c a)) := by
  refine call_ev (af := F.model_Model_done) (by kernel_rfl) rfl ?_
  have hcs : V.agg c.cs = .agg [.int .i64 c.kind, .int .i64 c.n, .int .u64 c.h, .int .u64 c.x, .int .u64 c.y] := rfl
  have has : V.agg a.cs = .agg [.int .i64 a.err, .int .u64 a.h, .bool a.yes] := rfl
  rw [hcs, has, S.model_Model_done_eq]
  simp only [S.model_Model_done]
  have F0 : Fr [] h ((h.new (.cells [.int .i64 c.kind, .int .i64 c.n, .int .u64 c.h, .int .u64 c.x, .int .u64 c.y] .rw)).new (.cells [.int .i64 a.err, .int .u64 a.h, .bool a.yes] .rw)) := ((Fr.refl ok).new _).new _
  have hlt := M.lt ok
  have D : DnAt k B r c a ((h.new (.cells [.int .i64 c.kind, .int .i64 c.n, .int .u64 c.h, .int .u64 c.x, .int .u64 c.y] .rw)).new (.cells [.int .i64 a.err, .int .u64 a.h, .bool a.yes] .rw)) h.next (h.next + 1) :=
    ⟨⟨F0.ok, M.fr0 ok F0, by rw [get_new_ne (Nat.ne_of_lt (Nat.lt_succ_self _)), get_new_self]⟩, get_new_self _ _, fun q => by have := hlt _ q; omega, fun q => by have := hlt _ q; omega⟩
  have hn1 : (h.new (.cells [.int .i64 c.kind, .int .i64 c.n, .int .u64 c.h, .int .u64 c.x, .int .u64 c.y] .rw)).next = h.next + 1 := rfl
  rw [hn1]
  generalize ((h.new (.cells [.int .i64 c.kind, .int .i64 c.n, .int .u64 c.h, .int .u64 c.x, .int .u64 c.y] .rw)).new (.cells [.int .i64 a.err, .int .u64 a.h, .bool a.yes] .rw)) = g at D F0 ⊢
  generalize h.next + 1 = pa at D ⊢
  generalize h.next = q at D ⊢
  have E := errOk he
  have hcl := D.A.cl
  have n1 := mdNode_spec D.A.M w c.h
  have n2 := mdNode_spec D.A.M w c.x
  rw [if_pos ⟨w0, w1⟩] at n1 n2
  have l6 := D.A.M.l6
  -- the switch: does it give a handle, and what is answered
  have fin : ∀ {g1 : H}, Fr [] g g1 → ∀ b1 b2, givesR r w c = b1 → yesR r w c = b2 → Ev (S.model_Model_done_c1_n W (.ptr B.b 0) w (.ptr q 0) (.ptr pa 0) (r.node w c.h) b1 b2 g1) (MdOut k B h (okR k r w c a) (doR k r w c a)) := fun F1 b1 b2 e1 e2 => by
    subst e1; subst e2
    simp only [S.model_Model_done_c1_n]
    exact (done6_spec (D.fr F1) I Bs ka hu w0 w1 he ha).mono fun z hz => hz.up (F0.trans' F1)
  have Fg : Fr [] g g := .refl D.A.ok
  simp only [obind, ld1_get', ldB_cells, List.getElem?_cons_zero, List.getElem?_cons_succ, one_int, W_call, hcl, n1]
  have gv : givesR r w c = (decide (c.kind = 1) || decide (c.kind = 8) || decide (c.kind = 9) || (decide (c.kind = 2) && decide (0 ≤ r.fat (r.node w c.h) c.n))) := rfl
  have ys : yesR r w c = ((decide (c.kind = 5) && matchR r w c) || (decide (c.kind = 7) && decide (r.node w c.h = r.node w c.x))) := rfl
  by_cases k1 : c.kind = 1
  · have d1 : decide (c.kind = 1) = true := decide_eq_true k1
    simp only [S.model_Model_done_c1_eq, S.model_Model_done_c1_S, S.model_Model_done_c1_n_eq, S.model_Model_done_c3_eq, S.model_Model_done_c3_S, S.model_Model_done_c3_n_eq, S.model_Model_done_c3_n, ptrAt_ptr, obind, ld1_get', ldB_cells, List.getElem?_cons_zero, Nat.add_zero, one_int, hcl, d1]
    exact fin Fg true false (by rw [gv, d1]; rfl) (by rw [ys, k1]; simp)
  have d1 : decide (c.kind = 1) = false := decide_eq_false k1
  by_cases k8 : c.kind = 8
  · have d8 : decide (c.kind = 8) = true := decide_eq_true k8
    simp only [S.model_Model_done_c1_eq, S.model_Model_done_c1_S, S.model_Model_done_c1_n_eq, S.model_Model_done_c3_eq, S.model_Model_done_c3_S, S.model_Model_done_c3_n_eq, S.model_Model_done_c3_n, ptrAt_ptr, obind, ld1_get', ldB_cells, List.getElem?_cons_zero, Nat.add_zero, one_int, hcl, d1, d8]
    exact fin Fg true false (by rw [gv, d1, d8]; rfl) (by rw [ys, k8]; simp)
  have d8 : decide (c.kind = 8) = false := decide_eq_false k8
  by_cases k9 : c.kind = 9
  · have d9 : decide (c.kind = 9) = true := decide_eq_true k9
    simp only [S.model_Model_done_c1_eq, S.model_Model_done_c1_S, S.model_Model_done_c1_n_eq, S.model_Model_done_c3_eq, S.model_Model_done_c3_S, S.model_Model_done_c3_n_eq, S.model_Model_done_c3_n, ptrAt_ptr, obind, ld1_get', ldB_cells, List.getElem?_cons_zero, Nat.add_zero, one_int, hcl, d1, d8, d9]
    exact fin Fg true false (by rw [gv, d1, d8, d9]; rfl) (by rw [ys, k9]; simp)
  have d9 : decide (c.kind = 9) = false := decide_eq_false k9
  by_cases k2 : c.kind = 2
  · have d2 : decide (c.kind = 2) = true := decide_eq_true k2
    obtain ⟨nn, en, hF⟩ := I.flAt (E.node (by omega) (by omega))
    obtain ⟨h0, h1⟩ := E.fld (by omega) (by omega)
    obtain ⟨j, ej, hj⟩ := RSt.fatAt h0 h1
    obtain ⟨b, y, ix, ly, Y⟩ := D.A.M.rows.at hF
    obtain ⟨b3, o3, i3, l3⟩ := Y.at hj
    rw [← ej] at i3
    rw [← en] at ix
    simp only [S.model_Model_done_c1_eq, S.model_Model_done_c1_S, S.model_Model_done_c1_n_eq, S.model_Model_done_c3_eq, S.model_Model_done_c3_S, S.model_Model_done_c3_n_eq, S.model_Model_done_c3_n, nilc_ptr, ptrAt_ptr, obind, ld1_get', ldB_cells, List.getElem?_cons_zero, List.getElem?_cons_succ, Nat.zero_add, Nat.add_zero, one_int, asI_int, nilc_ptr, hcl, d1, d8, d9, d2, l6, ix, ly, i3, l3]
    exact fin Fg _ false (by rw [gv, d1, d8, d9, d2]; rfl) (by rw [ys, k2]; simp)
  have d2 : decide (c.kind = 2) = false := decide_eq_false k2
  have gv0 : givesR r w c = false := by rw [gv, d1, d8, d9, d2]; rfl
  by_cases k5 : c.kind = 5
  · have d5 : decide (c.kind = 5) = true := decide_eq_true k5
    obtain ⟨h0, h1⟩ := E.fld (by omega) (by omega)
    obtain ⟨⟨v, g1⟩, e1, rfl, F1⟩ := mdMatches_spec D.A.ok D.A.M I (c := c) w0 w1 (E.node (by omega) (by omega)) ⟨h0, h1⟩
    dsimp only at F1
    unfold CallR.cs at e1
    simp only [S.model_Model_done_c1_eq, S.model_Model_done_c1_S, S.model_Model_done_c1_n_eq, S.model_Model_done_c3_eq, S.model_Model_done_c3_S, S.model_Model_done_c3_n_eq, S.model_Model_done_c3_n, ptrAt_ptr, obind, ld1_get', ldN_get', ldB_cells, ldNB_cells, List.getElem?_cons_zero, Nat.zero_add, Nat.add_zero, Nat.reduceAdd, Nat.reduceLeDiff, one_int, List.length_cons, List.length_nil, decide_true, List.take_succ_cons, List.take_zero, List.drop_zero, W_call, hcl, d1, d8, d9, d2, d5, e1]
    exact fin F1 false _ gv0 (by rw [ys, d5, k5]; simp)
  have d5 : decide (c.kind = 5) = false := decide_eq_false k5
  by_cases k7 : c.kind = 7
  · have d7 : decide (c.kind = 7) = true := decide_eq_true k7
    simp only [S.model_Model_done_c1_eq, S.model_Model_done_c1_S, S.model_Model_done_c1_n_eq, S.model_Model_done_c3_eq, S.model_Model_done_c3_S, S.model_Model_done_c3_n_eq, S.model_Model_done_c3_n, ptrAt_ptr, obind, ld1_get', ldB_cells, List.getElem?_cons_zero, List.getElem?_cons_succ, Nat.zero_add, Nat.add_zero, one_int, asI_int, W_call, hcl, d1, d8, d9, d2, d5, d7, n2]
    exact fin Fg false _ gv0 (by rw [ys, d5, d7]; rfl)
  · have d7 : decide (c.kind = 7) = false := decide_eq_false k7
    simp only [S.model_Model_done_c1_eq, S.model_Model_done_c1_S, S.model_Model_done_c1_n_eq, S.model_Model_done_c3_eq, S.model_Model_done_c3_S, S.model_Model_done_c3_n_eq, S.model_Model_done_c3_n, ptrAt_ptr, obind, ld1_get', ldB_cells, List.getElem?_cons_zero, Nat.add_zero, one_int, hcl, d1, d8, d9, d2, d5, d7]
    exact fin Fg false false gv0 (by rw [ys, d5, d7]; rfl)

theorem eqV_ans (e h e' h' : Int) (y y' : Bool) : eqV (.agg [(0, .int), (1, .int), (2, .bool)]) (.agg [.int .i64 e, .int .u64 h, .bool y]) (.agg [.int .i64 e', .int .u64 h', .bool y']) = some (decide (e = e') && decide (h = h') && (y == y')) := by
  simp only [eqV, eqOffs, List.getElem?_cons_zero, List.getElem?_cons_succ, eqCell, decide_true]
  cases decide (e = e') <;> cases decide (h = h') <;> cases (y == y') <;> rfl

theorem mdDoes1_spec {h g : H} {q pa : Nat} (F0 : Fr [] h g) (D : DnAt k B r c a g q pa) (I : RIn k r) (Bs : r.small) (ka : k.a ≤ 8) (hu : U64 a.h) {w : Int} (w0 : 0 ≤ w) (w1 : w < k.c) (fl : Bool) (hfl : errR k r w c = 0 → fl = (decide (c.kind = 1) || (decide (3 ≤ c.kind) && decide (c.kind ≤ 5)))) :
    Ev (S.model_Model_Does_c1_n W (.ptr B.b 0) w (.ptr q 0) (.ptr pa 0) (errR k r w c) fl g) (MdOut k B h (okR k r w c a) (doR k r w c a)) := by
  have hcl := D.A.cl
  have han := D.an
  have keep : ∀ {g1 : H}, Fr [] g g1 → ∀ b, okR k r w c a = b → doR k r w c a = r → MdOut k B h (okR k r w c a) (doR k r w c a) (.bool b, g1) := fun F b e1 e2 => by
    rw [e1, e2]
    exact (MdOut.same D.A.ok D.A.M F b).up F0
  have Fg : Fr [] g g := .refl D.A.ok
  by_cases he : errR k r w c = 0
  rotate_left
  · have de : decide (errR k r w c = 0) = false := decide_eq_false he
    have hok : okR k r w c a = (decide (a.err = errR k r w c) && decide (a.h = 0) && (a.yes == false)) := by
      unfold okR
      rw [if_neg (by omega), if_pos he]
      cases a.yes <;> rfl
    have hd : doR k r w c a = r := by
      unfold doR actsR
      rw [de]; simp
    have hq := eqV_ans a.err a.h (errR k r w c) 0 a.yes false
    simp only [S.model_Model_Does_c1_n, de, Bool.not_false, ldN_get', han, ldNB_cells, List.length_cons, List.length_nil, Nat.zero_add, Nat.reduceAdd, Nat.le_refl, decide_true, List.drop_zero, List.take_succ_cons, List.take_zero, obind, hq]
    exact Ev.some (keep Fg _ hok hd)
  have de : decide (errR k r w c = 0) = true := decide_eq_true he
  have hfl := hfl he
  have E := errOk he
  have dz : decide ((0 : Int) = 0) = true := rfl
  rw [he]
  by_cases h4 : a.err = 4
  · have d4 : decide (a.err = 4) = true := decide_eq_true h4
    have hok : okR k r w c a = (mayFullR r w c && decide (a.h = 0) && !a.yes) := by
      unfold okR
      rw [if_neg (by omega), if_neg (by rw [he]; simp), if_pos h4]
    have hd : doR k r w c a = r := by
      unfold doR actsR
      rw [h4]; simp
    have hm : mayFullR r w c = (decide (c.kind = 1) || decide (c.kind = 3) || decide (c.kind = 4) || (decide (c.kind = 5) && matchR r w c)) := rfl
    have hq := eqV_ans a.err a.h 4 0 a.yes false
    rw [d4, Bool.true_and] at hq
    have hyy : (a.yes == false) = !a.yes := by cases a.yes <;> rfl
    rw [hyy] at hq
    simp only [eqV] at hq
    have hq1 : (decide (a.h = 0) && !a.yes) = true ∨ (decide (a.h = 0) && !a.yes) = false := by cases (decide (a.h = 0) && !a.yes) <;> simp
    cases hf : fl with
    | false =>
      have hm0 : mayFullR r w c = false := by
        rw [hf] at hfl
        have h1 : decide (c.kind = 1) = false := by
          cases h : decide (c.kind = 1) with
          | false => rfl
          | true => rw [h] at hfl; cases hfl
        have hn1 := of_decide_eq_false h1
        rw [h1, Bool.false_or] at hfl
        have h2 : ¬ (3 ≤ c.kind ∧ c.kind ≤ 5) := fun q => by
          rw [decide_eq_true q.1, decide_eq_true q.2] at hfl; cases hfl
        rw [hm, h1, decide_eq_false (show ¬ c.kind = 3 by omega), decide_eq_false (show ¬ c.kind = 4 by omega), decide_eq_false (show ¬ c.kind = 5 by omega)]; rfl
      simp only [S.model_Model_Does_c1_n, ptrAt_ptr, obind, ld1_get', ldN_get', ldB_cells, ldNB_cells, List.getElem?_cons_zero, Nat.zero_add, Nat.add_zero, Nat.reduceAdd, Nat.reduceLeDiff, one_int, asI_int, List.length_cons, List.length_nil, Bool.not_true, decide_true, List.take_succ_cons, List.take_zero, List.drop_zero, W_call, han, d4]
      exact Ev.some (keep Fg false (by rw [hok, hm0]; rfl) hd)
    | true =>
      rcases hq1 with e | e
      rotate_left
      · rw [e] at hq
        simp only [S.model_Model_Does_c1_n, ptrAt_ptr, obind, ld1_get', ldN_get', ldB_cells, ldNB_cells, List.getElem?_cons_zero, Nat.zero_add, Nat.add_zero, Nat.reduceAdd, Nat.reduceLeDiff, one_int, asI_int, List.length_cons, List.length_nil, Bool.not_true, decide_true, List.take_succ_cons, List.take_zero, List.drop_zero, eqV, W_call, han, d4]
        rw [bind_congr1 hq, obind]
        exact Ev.some (keep Fg false (by rw [hok, Bool.and_assoc, e, Bool.and_false]) hd)
      · rw [e] at hq
        by_cases k5 : c.kind = 5
        · have d5 : decide (c.kind = 5) = true := decide_eq_true k5
          obtain ⟨h0, h1⟩ := E.fld (by omega) (by omega)
          obtain ⟨⟨v, g1⟩, e1, rfl, F1⟩ := mdMatches_spec D.A.ok D.A.M I (c := c) w0 w1 (E.node (by omega) (by omega)) ⟨h0, h1⟩
          dsimp only at F1
          unfold CallR.cs at e1
          simp only [S.model_Model_Does_c1_n, ptrAt_ptr, obind, ld1_get', ldN_get', ldB_cells, ldNB_cells, List.getElem?_cons_zero, Nat.zero_add, Nat.add_zero, Nat.reduceAdd, Nat.reduceLeDiff, one_int, asI_int, List.length_cons, List.length_nil, Bool.not_true, decide_true, List.take_succ_cons, List.take_zero, List.drop_zero, eqV, W_call, han, d4]
          rw [bind_congr1 hq, obind]
          simp only [obind, ldB_cells, ldNB_cells, List.getElem?_cons_zero, Nat.zero_add, Nat.reduceAdd, Nat.reduceLeDiff, one_int, asI_int, asB_bool, List.length_cons, List.length_nil, decide_true, List.take_succ_cons, List.take_zero, List.drop_zero, hcl, d5, e1, Bool.not_not]
          exact Ev.some (keep F1 _ (by rw [hok, Bool.and_assoc, e, Bool.and_true, hm, k5]; simp) hd)
        · have d5 : decide (c.kind = 5) = false := decide_eq_false k5
          have hm1 : mayFullR r w c = true := by
            rw [hf] at hfl
            by_cases k1 : c.kind = 1
            · rw [hm, decide_eq_true k1]; rfl
            · rw [decide_eq_false k1, Bool.false_or] at hfl
              have h2 : 3 ≤ c.kind ∧ c.kind ≤ 5 := by simpa using hfl.symm
              by_cases k3 : c.kind = 3
              · rw [hm, decide_eq_true k3]; simp
              · have k4 : c.kind = 4 := by omega
                rw [hm, decide_eq_true k4]; simp
          simp only [S.model_Model_Does_c1_n, ptrAt_ptr, obind, ld1_get', ldN_get', ldB_cells, ldNB_cells, List.getElem?_cons_zero, Nat.zero_add, Nat.add_zero, Nat.reduceAdd, Nat.reduceLeDiff, one_int, asI_int, List.length_cons, List.length_nil, Bool.not_true, decide_true, List.take_succ_cons, List.take_zero, List.drop_zero, eqV, W_call, han, d4]
          rw [bind_congr1 hq, obind]
          simp only [obind, ldB_cells, ldNB_cells, List.getElem?_cons_zero, Nat.zero_add, Nat.reduceAdd, Nat.reduceLeDiff, one_int, asI_int, List.length_cons, List.length_nil, decide_true, List.take_succ_cons, List.take_zero, List.drop_zero, hcl, d5]
          exact Ev.some (keep Fg true (by rw [hok, Bool.and_assoc, e, hm1]; rfl) hd)
  · have d4 : decide (a.err = 4) = false := decide_eq_false h4
    by_cases h0 : a.err = 0
    · have d0 : decide (a.err = 0) = true := decide_eq_true h0
      obtain ⟨⟨v, g1⟩, e1, O⟩ := mdDone_spec D.A.ok D.A.M I Bs ka hu (c := c) w0 w1 he h0
      obtain ⟨hv, F1, B', M', E'⟩ := O
      dsimp only at hv F1 M'
      subst hv
      unfold CallR.cs AnsR.cs at e1
      simp only [S.model_Model_Does_c1_n, ptrAt_ptr, obind, ld1_get', ldN_get', ldB_cells, ldNB_cells, List.getElem?_cons_zero, Nat.zero_add, Nat.add_zero, Nat.reduceAdd, Nat.reduceLeDiff, one_int, asI_int, List.length_cons, List.length_nil, Bool.not_true, decide_true, List.take_succ_cons, List.take_zero, List.drop_zero, eqV, W_call, han, hcl, d4, d0, e1]
      exact Ev.some (MdOut.up F0 ⟨rfl, F1, B', M', E'⟩)
    · have d0 : decide (a.err = 0) = false := decide_eq_false h0
      have hok : okR k r w c a = false := by
        unfold okR
        rw [if_neg (by omega), if_neg (by rw [he]; simp), if_neg h4, d0]; rfl
      have hd : doR k r w c a = r := by unfold doR actsR; rw [hok]; rfl
      simp only [S.model_Model_Does_c1_n, ptrAt_ptr, obind, ld1_get', ldN_get', ldB_cells, ldNB_cells, List.getElem?_cons_zero, Nat.zero_add, Nat.add_zero, Nat.reduceAdd, Nat.reduceLeDiff, one_int, asI_int, List.length_cons, List.length_nil, Bool.not_true, decide_true, List.take_succ_cons, List.take_zero, List.drop_zero, eqV, W_call, han, d4, d0]
      exact Ev.some (keep Fg false hok hd)

theorem mdDoes_spec {h : H} (ok : h.ok) (M : MdAt k h.get B r) (I : RIn k r) (Bs : r.small) (ka : k.a ≤ 8) (hu : U64 a.h) (w : Int) :
    Ev (C 103 [.ptr B.b 0, .int .i64 w, .agg c.cs, .agg a.cs] h) (MdOut k B h (okR k r w c a) (doR k r w c a)) := by
  refine call_ev (af := F.model_Model_Does) (by kernel_rfl) rfl ?_
  have hcs : V.agg c.cs = .agg [.int .i64 c.kind, .int .i64 c.n, .int .u64 c.h, .int .u64 c.x, .int .u64 c.y] := rfl
  have has : V.agg a.cs = .agg [.int .i64 a.err, .int .u64 a.h, .bool a.yes] := rfl
  rw [hcs, has, S.model_Model_Does_eq]
  simp only [S.model_Model_Does]
  have F0 : Fr [] h ((h.new (.cells [.int .i64 c.kind, .int .i64 c.n, .int .u64 c.h, .int .u64 c.x, .int .u64 c.y] .rw)).new (.cells [.int .i64 a.err, .int .u64 a.h, .bool a.yes] .rw)) := ((Fr.refl ok).new _).new _
  have hlt := M.lt ok
  have D : DnAt k B r c a ((h.new (.cells [.int .i64 c.kind, .int .i64 c.n, .int .u64 c.h, .int .u64 c.x, .int .u64 c.y] .rw)).new (.cells [.int .i64 a.err, .int .u64 a.h, .bool a.yes] .rw)) h.next (h.next + 1) :=
    ⟨⟨F0.ok, M.fr0 ok F0, by rw [get_new_ne (Nat.ne_of_lt (Nat.lt_succ_self _)), get_new_self]⟩, get_new_self _ _, fun q => by have := hlt _ q; omega, fun q => by have := hlt _ q; omega⟩
  have hn1 : (h.new (.cells [.int .i64 c.kind, .int .i64 c.n, .int .u64 c.h, .int .u64 c.x, .int .u64 c.y] .rw)).next = h.next + 1 := rfl
  rw [hn1]
  generalize ((h.new (.cells [.int .i64 c.kind, .int .i64 c.n, .int .u64 c.h, .int .u64 c.x, .int .u64 c.y] .rw)).new (.cells [.int .i64 a.err, .int .u64 a.h, .bool a.yes] .rw)) = g at D F0 ⊢
  generalize h.next + 1 = pa at D ⊢
  generalize h.next = q at D ⊢
  have hc := mdClient_spec D.A.M w
  by_cases hw : 0 ≤ w ∧ w < k.c
  rotate_left
  · have hcf : (decide (0 ≤ w) && decide (w < k.c)) = false := by
      rcases Classical.em (0 ≤ w) with h | h
      · rw [decide_eq_false (fun q => hw ⟨h, q⟩), Bool.and_false]
      · rw [decide_eq_false h, Bool.false_and]
    rw [hcf] at hc
    have hok : okR k r w c a = false := by unfold okR; rw [if_pos (by omega)]
    have hd : doR k r w c a = r := by unfold doR actsR; rw [hok]; rfl
    rw [hok, hd]
    simp only [obind, asB_bool, Bool.not_false, W_call, hc]
    exact Ev.some (MdOut.same ok M F0 false)
  obtain ⟨w0, w1⟩ := hw
  rw [decide_eq_true w0, decide_eq_true w1] at hc
  have hcl := D.A.cl
  simp only [obind, asB_bool, Bool.not_true, Bool.and_self, W_call, hc]
  rw [S.model_Model_Does_c1_eq]
  simp only [S.model_Model_Does_c1_S]
  have rest : ∀ {g1 : H}, Fr [] g g1 → ∀ (e : Int) (fl : Bool), errR k r w c = e → (errR k r w c = 0 → fl = (decide (c.kind = 1) || (decide (3 ≤ c.kind) && decide (c.kind ≤ 5)))) → Ev (S.model_Model_Does_c1_n W (.ptr B.b 0) w (.ptr q 0) (.ptr pa 0) e fl g1) (MdOut k B h (okR k r w c a) (doR k r w c a)) := fun F1 e fl he hfl => by
    subst he
    exact mdDoes1_spec (F0.trans' F1) (D.fr F1) I Bs ka hu w0 w1 fl hfl
  have Fg : Fr [] g g := .refl D.A.ok
  by_cases k0 : c.kind < 1 ∨ 10 < c.kind
  · have he : errR k r w c = 8 := by rw [errR_eq, if_pos k0]
    have hfl : errR k r w c = 0 → false = (decide (c.kind = 1) || (decide (3 ≤ c.kind) && decide (c.kind ≤ 5))) := fun q => by rw [he] at q; cases q
    by_cases k1 : c.kind < 1
    · have d0 : decide (c.kind < 1) = true := decide_eq_true k1
      simp only [S.model_Model_Does_c1_n_eq, S.model_Model_Does_c3_eq, S.model_Model_Does_c3_S, S.model_Model_Does_c3_n_eq, S.model_Model_Does_c3_n, ptrAt_ptr, obind, ld1_get', ldB_cells, List.getElem?_cons_zero, Nat.add_zero, one_int, asI_int, hcl, d0]
      exact rest Fg 8 false he hfl
    · have d0 : decide (c.kind < 1) = false := decide_eq_false k1
      have d1 : decide (10 < c.kind) = true := decide_eq_true (by omega)
      simp only [S.model_Model_Does_c1_n_eq, S.model_Model_Does_c3_eq, S.model_Model_Does_c3_S, S.model_Model_Does_c3_n_eq, S.model_Model_Does_c3_n, ptrAt_ptr, obind, ld1_get', ldB_cells, List.getElem?_cons_zero, Nat.add_zero, one_int, asI_int, hcl, d0, d1]
      exact rest Fg 8 false he hfl
  have d0 : decide (c.kind < 1) = false := decide_eq_false (by omega)
  have d10 : decide (10 < c.kind) = false := decide_eq_false (by omega)
  by_cases k1 : c.kind = 1
  · have d1 : decide (c.kind = 1) = true := decide_eq_true k1
    obtain ⟨⟨v, g1⟩, e1, rfl, F1⟩ := mdMakes_spec (c := c) D.A.ok D.A.M w0 w1
    dsimp only at F1
    unfold CallR.cs at e1
    have he : errR k r w c = (if c.n < 0 ∨ k.a < c.n then 1 else if (r.held w : Int) < k.hd then 0 else 5) := by rw [errR_eq, if_neg k0, if_pos k1]
    simp only [S.model_Model_Does_c1_n_eq, S.model_Model_Does_c3_eq, S.model_Model_Does_c3_S, S.model_Model_Does_c3_n_eq, S.model_Model_Does_c3_n, ptrAt_ptr, obind, ld1_get', ldN_get', ldB_cells, ldNB_cells, List.getElem?_cons_zero, Nat.zero_add, Nat.add_zero, Nat.reduceAdd, Nat.reduceLeDiff, one_int, asI_int, List.length_cons, List.length_nil, decide_true, List.take_succ_cons, List.take_zero, List.drop_zero, W_call, hcl, d0, d10, d1, e1]
    exact rest F1 _ true he fun _ => by rw [d1]; rfl
  have d1 : decide (c.kind = 1) = false := decide_eq_false k1
  have hwk := opWalk_spec c.kind g
  by_cases k9 : c.kind = 9 ∨ c.kind = 10
  · have hwt : (decide (c.kind = 9) || decide (c.kind = 10)) = true := by simpa using k9
    rw [hwt] at hwk
    obtain ⟨⟨v, g1⟩, e1, rfl, F1⟩ := mdGoes_spec (c := c) D.A.ok D.A.M w0 w1 k9
    dsimp only at F1
    unfold CallR.cs at e1
    have he : errR k r w c = err6 k r w c := by rw [errR_eq, if_neg k0, if_neg k1, if_pos k9]
    simp only [S.model_Model_Does_c1_n_eq, S.model_Model_Does_c3_eq, S.model_Model_Does_c3_S, S.model_Model_Does_c3_n_eq, S.model_Model_Does_c3_n, ptrAt_ptr, obind, ld1_get', ldN_get', ldB_cells, ldNB_cells, List.getElem?_cons_zero, Nat.zero_add, Nat.add_zero, Nat.reduceAdd, Nat.reduceLeDiff, one_int, asI_int, asB_bool, List.length_cons, List.length_nil, decide_true, List.take_succ_cons, List.take_zero, List.drop_zero, W_call, hcl, d0, d10, d1, hwk, e1]
    exact rest F1 _ false he fun _ => by rw [d1, decide_eq_false (show ¬ c.kind ≤ 5 by omega)]; simp
  · have hwt : (decide (c.kind = 9) || decide (c.kind = 10)) = false := by
      rw [decide_eq_false (fun q => k9 (.inl q)), decide_eq_false (fun q => k9 (.inr q))]; rfl
    rw [hwt] at hwk
    obtain ⟨⟨v, g1⟩, e1, rfl, F1⟩ := mdAsks_spec (c := c) D.A.ok D.A.M I w0 w1
    dsimp only at F1
    unfold CallR.cs at e1
    have hcl1 := F1.get D.A.ok hcl (by simp)
    have hwr := opWrites_spec c.kind g1
    have he : errR k r w c = err9 k r w c := by rw [errR_eq, if_neg k0, if_neg k1, if_neg k9]
    simp only [S.model_Model_Does_c1_n_eq, S.model_Model_Does_c3_eq, S.model_Model_Does_c3_S, S.model_Model_Does_c3_n_eq, S.model_Model_Does_c3_n, ptrAt_ptr, obind, ld1_get', ldN_get', ldB_cells, ldNB_cells, List.getElem?_cons_zero, Nat.zero_add, Nat.add_zero, Nat.reduceAdd, Nat.reduceLeDiff, one_int, V.beq, ckB_some, asI_int, asB_bool, List.length_cons, List.length_nil, Bool.and_self, decide_true, List.take_succ_cons, List.take_zero, List.drop_zero, W_call, hcl, d0, d10, d1, hwk, e1, hcl1, hwr]
    exact rest F1 _ _ he fun _ => by rw [d1, Bool.false_or]
end
end Wm
end

section
/- A new model; a new state. -/
namespace Wm
attribute [local congr] bind_congr1
attribute [local irreducible] wr

/-- Nothing yet. -/
def rst0 (k : Cfg) : RSt := ⟨[], [], List.replicate k.C 0, List.replicate k.C [], []⟩
theorem rst0_in (k : Cfg) : RIn k (rst0 k) := by
  refine ⟨List.length_replicate, List.length_replicate, by simp [rst0], by simp [rst0], List.Pairwise.nil, fun l hl n hn => ?_, fun h hh => ?_, by simp [rst0]⟩
  · have := (List.mem_replicate.mp hl).2
    subst this; cases hn
  · have := (List.mem_replicate.mp hh).2
    subst this; exact ⟨by decide, by decide⟩
theorem rst0_sz (k : Cfg) : RSz k 0 (rst0 k) := ⟨Nat.le_refl _, by simp [rst0], Nat.le_refl _, Nat.le_refl _⟩
theorem walkCs_zero (n : Nat) : walkCs (List.replicate n 0) (List.replicate n .nilsl) = repl [.int .u64 0, .nilsl] n := by
  induction n with
  | zero => rfl
  | succ n ih => simp only [List.replicate_succ, walkCs, repl, ih, List.cons_append, List.nil_append]
theorem rep_at {α : Type} {n i : Nat} {x y : α} (h : (List.replicate n x)[i]? = some y) : y = x := by
  have := List.mem_of_getElem? h
  exact (List.mem_replicate.mp this).2

structure NwAt (k : Cfg) (h g : H) (b bw gm : Nat) (x : V) (ms : List Nat) : Prop where
  fr : Fr [] h g
  own : g.get b = some (.cells [.int .i64 k.s, .int .i64 k.a, .int .i64 k.c, .int .i64 k.hd, .int .i64 k.g, .int .i64 k.st, .nilsl, x, .sl bw 0 k.C (.ex k.C), .map gm] .rw)
  w : g.get bw = some (.cells (repl [.int .u64 0, .nilsl] k.C) .rw)
  gv : g.get gm = some (.map [])
  lo : h.next ≤ bw ∧ bw < gm ∧ gm < b
  gx : Grown g.get x 1 (ms.map .map)
  xb : ∀ a ∈ x.blk, b < a
  ml : ∀ m ∈ ms, b < m ∧ g.get m = some (.map []) ∧ m ∉ x.blk
  nd : ms.Nodup

theorem mdNew_spec {k : Cfg} (hr : k.R = true) {h : H} (ok : h.ok) : Ev (C 96 [k.v] h) fun z => ∃ B, z.1 = .ptr B.b 0 ∧ Fr [] h z.2 ∧ MdAt k z.2.get B (rst0 k) ∧ (∀ x ∈ B.l, h.next ≤ x) ∧ B.nb = [] := by
  refine call_ev (af := F.model_New) (by kernel_rfl) rfl ?_
  have hv : k.v = .agg [.int .i64 k.s, .int .i64 k.a, .int .i64 k.c, .int .i64 k.hd, .int .i64 k.g, .int .i64 k.st] := rfl
  rw [hv, S.model_New_eq]
  simp only [S.model_New]
  have hB := Cfg.R_iff.mp hr
  have hC : (k.C : Int) = k.c := by unfold Cfg.C; omega
  have hC8 := (Cfg.bounds hr).2.2.1
  have hR := fun h => planRight_spec k.s k.a k.c k.hd k.g k.st h
  rw [show cfgR k.s k.a k.c k.hd k.g k.st = k.R from rfl, hr, show cfgV k.s k.a k.c k.hd k.g k.st = k.v from rfl, hv] at hR
  have F0 : Fr [] h (h.new (.cells [.int .i64 k.s, .int .i64 k.a, .int .i64 k.c, .int .i64 k.hd, .int .i64 k.g, .int .i64 k.st] .rw)) := (Fr.refl ok).new _
  have hp := get_new_self h (.cells [.int .i64 k.s, .int .i64 k.a, .int .i64 k.c, .int .i64 k.hd, .int .i64 k.g, .int .i64 k.st] .rw)
  have hn0 : (h.new (.cells [.int .i64 k.s, .int .i64 k.a, .int .i64 k.c, .int .i64 k.hd, .int .i64 k.g, .int .i64 k.st] .rw)).next = h.next + 1 := rfl
  generalize (h.new (.cells [.int .i64 k.s, .int .i64 k.a, .int .i64 k.c, .int .i64 k.hd, .int .i64 k.g, .int .i64 k.st] .rw)) = g at F0 hp hn0 ⊢
  have hmk := mkSl_ok (h := g) (e := 2) (b := 32) (z := [V.int .u64 0, .nilsl]) (l := k.c) (c := k.c) (by omega) (Int.le_refl _) (by omega) (by omega) rfl (by decide)
  rw [show k.c.toNat = k.C from rfl, hn0] at hmk
  have F1 : Fr [] g (g.new (.cells (repl [.int .u64 0, .nilsl] k.C) .rw)) := (Fr.refl F0.ok).new _
  have hw := get_new_self g (.cells (repl [.int .u64 0, .nilsl] k.C) .rw)
  have hn1 : (g.new (.cells (repl [.int .u64 0, .nilsl] k.C) .rw)).next = h.next + 2 := by rw [H.next_new, hn0]
  have hp1 := F1.get F0.ok hp (by simp)
  rw [hn0] at hw
  generalize (g.new (.cells (repl [.int .u64 0, .nilsl] k.C) .rw)) = g1 at F1 hmk hw hn1 hp1 ⊢
  have F2 : Fr [] g1 (g1.new (.map [])) := (Fr.refl F1.ok).new _
  have hgm := get_new_self g1 (.map [])
  have hn2 : (g1.new (.map [])).next = h.next + 3 := by rw [H.next_new, hn1]
  have hp2 := F2.get F1.ok hp1 (by simp)
  have hw2 := F2.get F1.ok hw (by simp)
  rw [hn1] at hgm
  have hld6 : g.ldN 6 (.ptr h.next 0) = some (.agg [.int .i64 k.s, .int .i64 k.a, .int .i64 k.c, .int .i64 k.hd, .int .i64 k.g, .int .i64 k.st]) := by rw [ldN_get hp (by simp)]; rfl
  have hld2 : g.ld1 (.ptr h.next 2) = some (.int .i64 k.c) := ld1_get hp rfl rfl
  have ne1 : ∀ v : V, (asI .i64 (.int .i64 k.c)) = some k.c := fun _ => asI_int _ _
  have hfill : fill [.int .i64 0, .int .i64 0, .int .i64 0, .int .i64 0, .int .i64 0, .int .i64 0, .nilsl, .nilsl, .nilsl, .nilmap] [] [(0, 6, .c (.agg [.int .i64 k.s, .int .i64 k.a, .int .i64 k.c, .int .i64 k.hd, .int .i64 k.g, .int .i64 k.st])), (8, 1, .c (.sl (h.next + 1) 0 k.C (.ex k.C))), (9, 1, .c (.map (h.next + 2)))] = some [.int .i64 k.s, .int .i64 k.a, .int .i64 k.c, .int .i64 k.hd, .int .i64 k.g, .int .i64 k.st, .nilsl, .nilsl, .sl (h.next + 1) 0 k.C (.ex k.C), .map (h.next + 2)] := rfl
  simp only [hld6, hR, hld2, obind, W_call, asB_bool, asI_int, Bool.not_true, hmk, hn1, hfill, box_agg]
  generalize hgg : (g1.new (.map [])) = g2 at F2 hgm hn2 hp2 hw2 ⊢
  have F3 : Fr [] g2 (g2.new (.cells [.int .i64 k.s, .int .i64 k.a, .int .i64 k.c, .int .i64 k.hd, .int .i64 k.g, .int .i64 k.st, .nilsl, .nilsl, .sl (h.next + 1) 0 k.C (.ex k.C), .map (h.next + 2)] .rw)) := (Fr.refl F2.ok).new _
  have hb3 := get_new_self g2 (.cells [.int .i64 k.s, .int .i64 k.a, .int .i64 k.c, .int .i64 k.hd, .int .i64 k.g, .int .i64 k.st, .nilsl, .nilsl, .sl (h.next + 1) 0 k.C (.ex k.C), .map (h.next + 2)] .rw)
  have hp3 := F3.get F2.ok hp2 (by simp)
  have hw3 := F3.get F2.ok hw2 (by simp)
  have hg3 := F3.get F2.ok hgm (by simp)
  rw [hn2] at hb3
  have hld3 : (g2.new (.cells [.int .i64 k.s, .int .i64 k.a, .int .i64 k.c, .int .i64 k.hd, .int .i64 k.g, .int .i64 k.st, .nilsl, .nilsl, .sl (h.next + 1) 0 k.C (.ex k.C), .map (h.next + 2)] .rw)).ld1 (.ptr h.next 2) = some (.int .i64 k.c) := ld1_get hp3 rfl rfl
  rw [hn2]
  simp only [hld3, obind]
  have F03 : Fr [] h (g2.new (.cells [.int .i64 k.s, .int .i64 k.a, .int .i64 k.c, .int .i64 k.hd, .int .i64 k.g, .int .i64 k.st, .nilsl, .nilsl, .sl (h.next + 1) 0 k.C (.ex k.C), .map (h.next + 2)] .rw)) := ((F0.trans' F1).trans' F2).trans' F3
  generalize (g2.new (.cells [.int .i64 k.s, .int .i64 k.a, .int .i64 k.c, .int .i64 k.hd, .int .i64 k.g, .int .i64 k.st, .nilsl, .nilsl, .sl (h.next + 1) 0 k.C (.ex k.C), .map (h.next + 2)] .rw)) = g3 at F03 hb3 hw3 hg3 ⊢
  have N0 : NwAt k h g3 (h.next + 3) (h.next + 1) (h.next + 2) .nilsl [] := ⟨F03, hb3, hw3, hg3, ⟨by omega, by omega, by omega⟩, Grown.nil _ _, by simp [V.blk], by simp, List.nodup_nil⟩
  generalize h.next + 3 = b at N0 ⊢
  generalize h.next + 1 = bw at N0
  generalize h.next + 2 = gm at N0
  refine loop_ev (α := Nat) (fun i => S.model_New_c1_E (.ptr b 0) (.int .i64 k.c) (.int .i64 (i : Nat)))
    (fun i g' => i ≤ k.C ∧ ∃ x ms, NwAt k h g' b bw gm x ms ∧ ms.length = i) (fun i _ => k.C - i)
    (fun z => z.1 = .exit 0 ∧ z.2.1 = S.model_New_c1_O (.ptr b 0) ∧ ∃ x ms, NwAt k h z.2.2 b bw gm x ms ∧ ms.length = k.C) 0 rfl ⟨Nat.zero_le _, .nilsl, [], N0, rfl⟩ ?_ ?_
  rotate_left
  · rintro ⟨_, _, g'⟩ ⟨rfl, rfl, x, ms, N, hl⟩
    show Ev (S.model_New_K2 W (.exit 0) _ _) _
    rw [S.model_New_c1_e0_eq]
    dsimp only at N
    obtain ⟨bh, hx, hbh⟩ : ∃ bh, x = .sl bh 0 k.C (.op 1) ∧ g'.get bh = some (.cells (ms.map .map) (.gr 1)) := by
      obtain ⟨_, h0⟩ | ⟨bh, n, hx, hn, hb⟩ := N.gx
      · have := congrArg List.length h0
        rw [List.length_map, hl] at this
        simp at this; omega
      · rw [List.length_map, hl, Nat.mul_one] at hn
        rw [← hn] at hx
        exact ⟨bh, hx, hb⟩
    subst hx
    have hbx := N.xb bh (by simp [V.blk])
    have hlo := N.lo
    have hml := N.ml
    refine Ev.some ⟨⟨b, .nilsl, [], [], bh, ms, bw, List.replicate k.C .nilsl, gm, true⟩, rfl, N.fr, ?_, ?_, ?_⟩
    · refine ⟨?_, ?_, N.own, Grown.nil _ _, ⟨rfl, rfl⟩, by simp, hbh, hl, fun i m hm => (hml m (List.mem_of_getElem? hm)).2.1, ?_, ⟨List.length_replicate, List.length_replicate, List.length_replicate⟩, fun i v l h1 h2 => ?_, N.gv⟩
      · show (b :: bh :: bw :: gm :: (ms ++ (V.nilsl.blk ++ []))).Nodup
        have e : V.nilsl.blk ++ ([] : List Nat) = [] := rfl
        rw [e, List.append_nil, List.nodup_cons, List.nodup_cons, List.nodup_cons, List.nodup_cons]
        refine ⟨fun q => ?_, fun q => ?_, fun q => ?_, fun q => ?_, N.nd⟩
        · simp only [List.mem_cons] at q
          rcases q with q | q | q | q
          · omega
          · omega
          · omega
          · have := (hml b q).1; omega
        · simp only [List.mem_cons] at q
          rcases q with q | q | q
          · omega
          · omega
          · exact (hml bh q).2.2 (by simp [V.blk])
        · simp only [List.mem_cons] at q
          rcases q with q | q
          · omega
          · have := (hml bw q).1; omega
        · have := (hml gm q).1; omega
      · intro y hy
        have : y ∈ ((List.replicate k.C V.nilsl).map V.blk).flatten := hy
        rw [List.map_replicate] at this
        obtain ⟨lb, h1, h2⟩ := List.mem_flatten.mp this
        rw [(List.mem_replicate.mp h1).2] at h2
        cases h2
      · show g'.get bw = some (.cells (walkCs (List.replicate k.C 0) (List.replicate k.C .nilsl)) .rw)
        rw [walkCs_zero]; exact N.w
      · have e1 := rep_at h1
        have e2 := rep_at h2
        subst e1; subst e2
        exact .inl ⟨rfl, rfl⟩
    · intro y hy
      have hy' : y ∈ b :: bh :: bw :: gm :: (ms ++ (V.nilsl.blk ++ [])) := hy
      have e : V.nilsl.blk ++ ([] : List Nat) = [] := rfl
      rw [e, List.append_nil] at hy'
      simp only [List.mem_cons] at hy'
      rcases hy' with q | q | q | q | q
      · omega
      · omega
      · omega
      · omega
      · have := (hml y q).1; omega
    · show ((List.replicate k.C V.nilsl).map V.blk).flatten = []
      rw [List.map_replicate, show V.nilsl.blk = [] from rfl]
      have : ∀ n : Nat, (List.replicate n ([] : List Nat)).flatten = [] := fun n => by
        induction n with
        | zero => rfl
        | succ n ih => rw [List.replicate_succ, List.flatten_cons, ih]; rfl
      exact this _
  rintro i g' ⟨hi, x, ms, N, hl⟩
  rw [S.model_New_c1_eq]
  by_cases hic : i < k.C
  · have d : decide ((i : Int) < k.c) = true := decide_eq_true (by omega)
    have ox := N.gx.slv.one
    have hown := N.own
    have ok' := N.fr.ok
    have Fa : Fr [] g' (g'.new (.map [])) := (Fr.refl ok').new _
    have Fb : Fr [] (g'.new (.map [])) ((g'.new (.map [])).new (.cells [.map g'.next] .rw)) := (Fr.refl Fa.ok).new _
    have Fab := Fa.trans' Fb
    obtain ⟨x', g2', e2, F2', G2, hx', _⟩ := Grown.push Fb.ok (bytes := 8) (N.gx.fr ok' Fab (by simp)) (get_new_self (g'.new (.map [])) _) (e := 1) rfl rfl (by decide) ⟨by decide, by decide⟩ (by rw [List.length_map]; omega)
    have hnx : (g'.new (.map [])).next = g'.next + 1 := rfl
    rw [hnx] at e2
    have hbx : b ∉ x.blk := fun q => by have := N.xb _ q; omega
    have hown2 := F2'.get Fb.ok (Fab.get ok' hown (by simp)) hbx
    have ox' := G2.slv.one
    have ox2 := G2.slv.cells
    have hbl : b < g2'.next := F2'.ok.lt hown2
    have hxn : ∀ a ∈ x'.blk, g'.next ≤ a := fun a ha => Nat.le_trans Fab.le (hx' a ha)
    have hxn2 : ∀ a ∈ x'.blk, g'.next + 2 ≤ a := fun a ha => by have := hx' a ha; rw [H.next_new, H.next_new] at this; omega
    have hbl' : b < g'.next := ok'.lt hown
    have wi := mdl_i (i := i) (by omega)
    simp only [S.model_New_c1_S, nilc_ptr, ptrAt_ptr, obind, Option.map_some, ld1_get', st_get', ldB_cells, stB_cells, H.next_new, List.getElem?_cons_zero, List.getElem?_cons_succ, Nat.zero_add, Nat.reduceAdd, Nat.reduceLeDiff, List.length_cons, List.length_nil, Nat.beq_refl, List.all_cons, List.all_nil, Bool.not_true, Bool.or_self, Bool.and_self, decide_true, decide_false, splice, List.take_succ_cons, List.take_zero, List.drop_succ_cons, List.drop_zero, List.cons_append, List.nil_append, reduceCtorEq, nilc_ptr, d, hown, ox, e2, hown2, ox', ox2, wi]
    have keep : ∀ a, a < g'.next → a ≠ b → a ∉ x.blk → (g2'.put b (some (.cells [.int .i64 k.s, .int .i64 k.a, .int .i64 k.c, .int .i64 k.hd, .int .i64 k.g, .int .i64 k.st, .nilsl, x', .sl bw 0 k.C (.ex k.C), .map gm] .rw))).get a = g'.get a := fun a h1 h2 h3 => by
      rw [get_put_ne h2, F2'.same a (by have := Fab.le; omega) h3, Fab.same a h1 (by simp)]
    have hlo := N.lo
    have hnl : h.next ≤ b := by omega
    refine Ev.some (.inl ⟨i + 1, rfl, rfl, ⟨hic, x', ms ++ [g'.next], ⟨?_, get_put_self _ _ _, ?_, ?_, hlo, ?_, fun a ha => by have := hxn a ha; omega, fun m hm => ?_, ?_⟩, by rw [List.length_append, hl]; rfl⟩, Nat.sub_lt_sub_left hic (Nat.lt_succ_self i)⟩)
    · exact ((N.fr.trans' Fab).trans F2' (fun a ha => .inr (by have := N.xb a ha; omega))).put (.inr hnl) hbl _
    · rw [keep bw (ok'.lt N.w) (by omega) (fun q => by have := N.xb _ q; omega)]; exact N.w
    · rw [keep gm (ok'.lt N.gv) (by omega) (fun q => by have := N.xb _ q; omega)]; exact N.gv
    · rw [List.map_append]
      exact G2.congr fun a ha => get_put_ne (by have := hxn a ha; omega)
    · rcases List.mem_append.mp hm with q | q
      · obtain ⟨h1, h2, h3⟩ := N.ml m q
        exact ⟨h1, by rw [keep m (ok'.lt h2) (by omega) h3]; exact h2, fun q => by have := hxn _ q; have := ok'.lt h2; omega⟩
      · simp only [List.mem_singleton] at q
        subst q
        refine ⟨hbl', ?_, fun q => by have := hxn2 _ q; omega⟩
        have hnb : g'.next ∉ x.blk := fun q => by have := N.gx.lt ok' _ q; omega
        rw [get_put_ne (by omega), F2'.same _ (by have := Fb.le; rw [hnx] at this; omega) hnb, Fb.same _ (by rw [hnx]; omega) (by simp), get_new_self]
    · rw [List.nodup_append]
      refine ⟨N.nd, by simp, fun u hu v hv e => ?_⟩
      simp only [List.mem_singleton] at hv
      have := ok'.lt (N.ml u hu).2.1
      omega
  · have hie : i = k.C := by omega
    subst hie
    have d : decide (((k.C : Nat) : Int) < k.c) = false := decide_eq_false (by omega)
    simp only [S.model_New_c1_S, d]
    exact Ev.some (.inr ⟨by simp, rfl, rfl, x, ms, N, hl⟩)

end Wm
end

section
/- Models beside each other: what one does, the others don't feel. -/
namespace Wm
attribute [local congr] bind_congr1
attribute [local irreducible] wr

structure Mod (h0 : H) (k : Cfg) (g : H) (B : MdB) (r : RSt) (n : Nat) : Prop where
  fr : Fr [] h0 g
  M : MdAt k g.get B r
  I : RIn k r
  sz : RSz k n r
  lo : ∀ b ∈ B.l, h0.next ≤ b

section
variable {h0 g g' : H} {k : Cfg} {B B' D : MdB} {r s : RSt} {n m : Nat}
theorem Mod.does (X : Mod h0 k g B r n) (hr : k.R = true) (hn : n ≤ 1000) {c : CallR} {a : AnsR} (hu : U64 a.h) (w : Int) :
    Ev (C 103 [.ptr B.b 0, .int .i64 w, .agg c.cs, .agg a.cs] g) fun z => z.1 = .bool (okR k r w c a) ∧ ∃ B', Mod h0 k z.2 B' (doR k r w c a) (n + 1) ∧ Fr B.l g z.2 ∧ B.ext B' g := by
  have hB := Cfg.R_iff.mp hr
  have hC := (Cfg.bounds hr).2.2.1
  refine (mdDoes_spec (c := c) (a := a) X.fr.ok X.M X.I (X.sz.small X.I (by omega) (by omega) (by omega)) (by omega) hu w).mono ?_
  rintro ⟨v, g'⟩ ⟨hv, F, B', M', E⟩
  exact ⟨hv, B', ⟨X.fr.trans F (fun b hb => .inr (X.lo b hb)), M', X.I.do w c hu, X.sz.do w c a, fun b hb => by
    rcases E.l b hb with h | h
    · exact X.lo b h
    · exact Nat.le_trans X.fr.le h⟩, F, E⟩
theorem Mod.new (hr : k.R = true) (F : Fr [] h0 g) : Ev (C 96 [k.v] g) fun z => ∃ B, z.1 = .ptr B.b 0 ∧ Fr [] g z.2 ∧ Mod h0 k z.2 B (rst0 k) 0 ∧ (∀ b ∈ B.l, g.next ≤ b) ∧ B.nb = [] := by
  refine (mdNew_spec hr F.ok).mono ?_
  rintro ⟨v, g'⟩ ⟨B, hv, F', M, hl, hn⟩
  exact ⟨B, hv, F', ⟨F.trans F' (by simp), M, rst0_in k, rst0_sz k, fun b hb => Nat.le_trans F.le (hl b hb)⟩, hl, hn⟩
end
end Wm
end

section
/- How many events of an order a model takes, and a state. -/
namespace Wm
attribute [local congr] bind_congr1
attribute [local irreducible] wr

/-! ### What it is -/
def Evt.call (e : Evt) : CallR := ⟨e.kind, e.n, e.h, e.x, e.y⟩
def Evt.ans (e : Evt) : AnsR := ⟨e.err, e.ah, e.yes⟩
def rp1 (k : Cfg) (l : List Evt) (r : RSt) (i : Int) : Option RSt :=
  if i < 0 then none else match l[i.toNat]? with
    | none => none
    | some e => if okR k r e.client e.call e.ans then some (doR k r e.client e.call e.ans) else none
def rpN (k : Cfg) (l : List Evt) : RSt → List Int → Nat
  | _, [] => 0
  | r, i :: o => match rp1 k l r i with
    | none => 0
    | some r' => rpN k l r' o + 1
def rpS (k : Cfg) (l : List Evt) : RSt → List Int → Option RSt
  | r, [] => some r
  | r, i :: o => match rp1 k l r i with
    | none => none
    | some r' => rpS k l r' o
section
variable {k : Cfg} {l : List Evt}
theorem rp1_nat {r : RSt} {i : Nat} {y : Evt} (h : l[i]? = some y) : rp1 k l r (i : Int) = if okR k r y.client y.call y.ans then some (doR k r y.client y.call y.ans) else none := by
  unfold rp1
  rw [if_neg (by omega), Int.toNat_natCast, h]
theorem rp1_none {r : RSt} {i : Int} (h : i < 0 ∨ (l.length : Int) ≤ i) : rp1 k l r i = none := by
  unfold rp1
  by_cases h0 : i < 0
  · rw [if_pos h0]
  · rw [if_neg h0, List.getElem?_eq_none (by omega)]
theorem rpS_snoc : ∀ (o : List Int) (r : RSt) (i : Int), rpS k l r (o ++ [i]) = (rpS k l r o).bind fun r' => rp1 k l r' i
  | [], r, i => by
    show rpS k l r [i] = rp1 k l r i
    simp only [rpS]
    cases rp1 k l r i <;> rfl
  | j :: o, r, i => by
    simp only [List.cons_append, rpS]
    cases rp1 k l r j with
    | none => rfl
    | some r' => exact rpS_snoc o r' i
theorem rpN_all : ∀ (o : List Int) (r : RSt) {r' : RSt}, rpS k l r o = some r' → rpN k l r o = o.length
  | [], r, _, _ => rfl
  | j :: o, r, r', h => by
    simp only [rpS] at h
    simp only [rpN]
    cases hj : rp1 k l r j with
    | none => rw [hj] at h; cases h
    | some r1 => rw [hj] at h; simp only; rw [rpN_all o r1 h]; rfl
theorem rpN_stop : ∀ (o : List Int) (n : Nat) (r : RSt) {r' : RSt} {i : Int}, rpS k l r (o.take n) = some r' → o[n]? = some i → rp1 k l r' i = none → rpN k l r o = n
  | [], n, r, _, _, _, h, _ => by simp at h
  | j :: o, 0, r, r', i, h, h1, h2 => by
    simp only [List.take_zero, rpS, Option.some.injEq] at h
    simp only [List.getElem?_cons_zero, Option.some.injEq] at h1
    subst h; subst h1
    simp only [rpN, h2]
  | j :: o, n + 1, r, r', i, h, h1, h2 => by
    simp only [List.take_succ_cons, rpS] at h
    simp only [rpN]
    cases hj : rp1 k l r j with
    | none => rw [hj] at h; cases h
    | some r1 =>
      rw [hj] at h; simp only
      rw [rpN_stop o n r1 h h1 h2]
theorem rpN_take : ∀ (o : List Int) (n : Nat) (r : RSt), rpN k l r (o.take n) = min n (rpN k l r o)
  | [], n, r => by simp [rpN]
  | j :: o, 0, r => by simp [rpN]
  | j :: o, n + 1, r => by
    simp only [List.take_succ_cons, rpN]
    cases hj : rp1 k l r j with
    | none => simp
    | some r1 => simp only; rw [rpN_take o n r1]; omega
theorem take_snoc {o : List Int} {n : Nat} {i : Int} (h : o[n]? = some i) : o.take (n + 1) = o.take n ++ [i] := by
  rw [List.take_succ, h]; rfl
end

/-! ### Rows that are read -/
theorem ld1_lt {g : H} (ok : g.ok) {b j : Nat} {v : V} (h : g.ld1 (.ptr b j) = some v) : b < g.next := by
  rw [ld1_get'] at h
  cases hb : g.get b with
  | none => rw [hb] at h; cases h
  | some blk => exact ok.lt hb
/-- Numbers stand in a slice (its block may hold more). -/
structure RowP (g : H) (x : V) (ws : List Int) : Prop where
  len : lenSl x = some ws.length
  one : x.one = true
  at' : ∀ (i : Nat) (w : Int), ws[i]? = some w → ∃ b j, indexAV 1 x (.int .i64 (i : Int)) = some (.ptr b j) ∧ g.ld1 (.ptr b j) = some (.int .i64 w) ∧ b ∈ x.blk
theorem RowP.fr {g g' : H} {L : List Nat} {x : V} {ws : List Int} (h : RowP g x ws) (ok : g.ok) (F : Fr L g g') (hL : ∀ b ∈ x.blk, b ∉ L) : RowP g' x ws :=
  ⟨h.len, h.one, fun i w hw => by
    obtain ⟨b, j, h1, h2, h3⟩ := h.at' i w hw
    refine ⟨b, j, h1, ?_, h3⟩
    have lt := ld1_lt ok h2
    rw [ld1_get'] at h2 ⊢
    rw [F.same b lt (hL b h3)]; exact h2⟩
theorem RowN.P {g : H} {x : V} {ws : List Int} (h : RowN .i64 g.get x ws) : RowP g x ws :=
  ⟨h.len, h.one, fun i w hw => by
    obtain ⟨b, h1, h2⟩ := h.at hw
    refine ⟨b, i, h1, h2, ?_⟩
    obtain ⟨rfl, rfl⟩ | ⟨b', c, k, rfl, _⟩ := h
    · simp at hw
    · rw [sl_idx1 (lt_of_get hw)] at h1
      simp only [Option.some.injEq, V.ptr.injEq] at h1
      simp [V.blk, h1.1]⟩
theorem rowE_call {g : H} {x : V} {l : List Evt} (h : RowE g.get x l) {i : Nat} {y : Evt} (hy : l[i]? = some y) :
    ∃ b, indexAV 14 x (.int .i64 (i : Int)) = some (.ptr b (i * 14)) ∧ g.ld1 (.ptr b (i * 14)) = some (.int .i64 y.client) ∧ g.ldN 5 (.ptr b (i * 14 + 6)) = some (.agg y.call.cs) ∧ g.ldN 3 (.ptr b (i * 14 + 11)) = some (.agg y.ans.cs) := by
  have hi := lt_of_get hy
  obtain ⟨rfl, rfl⟩ | ⟨b, c, k, rfl, hb⟩ := h
  · simp at hy
  · have hn : (l.map Evt.cs).flatten.length = l.length * 14 := by rw [flat_length (evt14 l), List.length_map]
    have hp := flat_part (evt14 l) i y.cs (by rw [List.getElem?_map, hy]; rfl)
    have part' : ∀ j n, j + n ≤ 14 → ((l.map Evt.cs).flatten.drop (i * 14 + j)).take n = (y.cs.drop j).take n := fun j n hj => by
      rw [← hp, List.drop_take, List.take_take, List.drop_drop, Nat.min_eq_left (by omega)]
    refine ⟨b, sl_idx hi, ?_, ?_, ?_⟩
    · rw [ld1_get', hb, ldB_cells]
      have : (l.map Evt.cs).flatten[i * 14]? = y.cs[0]? := by
        rw [← hp, List.getElem?_take, if_pos (by decide), List.getElem?_drop]; rfl
      rw [this]; rfl
    · rw [ldN_get', hb, ldNB_cells, decide_eq_true (by rw [hn]; omega), part' 6 5 (by decide)]; rfl
    · rw [ldN_get', hb, ldNB_cells, decide_eq_true (by rw [hn]; omega), part' 11 3 (by decide)]; rfl
theorem rowE_u {g : Nat → Option Blk} {by' : Nat} {v : V} (h : CellOk g (.sl by' evtSh) v) :
    ∃ l, RowE g v l ∧ (∀ y ∈ l, U64 y.ah) ∧ l.length * by' ≤ 140737488351232 ∧ l.length ≤ Go.maxLen := by
  unfold CellOk at h
  rcases h with rfl | ⟨b, n, cs, rfl, ⟨h1, h2⟩, h3, h4, h5⟩
  · exact ⟨[], .inl ⟨rfl, rfl⟩, by simp, by simp, by simp⟩
  · obtain ⟨ws, e1, e2, e3⟩ := chunks (α := Evt) (enc := Evt.cs) (Q := fun y => U64 y.ah) (P := CellsOk g evtSh) (fun c hc => by
      obtain ⟨_, _, rfl, ⟨y0, rfl, b0⟩, _, _, rfl, ⟨y1, rfl, b1⟩, _, _, rfl, ⟨y2, rfl, b2⟩, _, _, rfl, ⟨y3, rfl, b3⟩, _, _, rfl, ⟨y4, rfl, b4⟩, _, _, rfl, ⟨y5, rfl⟩, _, _, rfl, ⟨y6, rfl, b6⟩, _, _, rfl, ⟨y7, rfl, b7⟩, _, _, rfl, ⟨y8, rfl, b8⟩, _, _, rfl, ⟨y9, rfl, b9⟩, _, _, rfl, ⟨y10, rfl, b10⟩, _, _, rfl, ⟨y11, rfl, b11⟩, _, _, rfl, ⟨y12, rfl, b12⟩, _, _, rfl, ⟨y13, rfl⟩, rfl⟩ := hc
      exact ⟨⟨y0, y1, y2, y3, y4, y5, y6, y7, y8, y9, y10, y11, y12, y13⟩, rfl, wf_u64 b12⟩) n cs h4 h5
    subst e2
    exact ⟨ws, .inr ⟨b, _, .ro, rfl, by rw [h3, e1]⟩, e3, h2, h1⟩
theorem rl_k {n : Nat} (h : n < 9000) : wr .i64 ((n : Int) + 1) = ((n + 1 : Nat) : Int) := by rw [wr64 (by omega) (by omega)]; rfl

/-! ### lin.Replay -/
section
variable {h : H} {k : Cfg} {x0 x1 : V} {l : List Evt} {o : List Int}
theorem replay_step (ok : h.ok) (hr : k.R = true) (hx : RowE h.get x0 l) (hu : ∀ y ∈ l, U64 y.ah) (ho : RowP h x1 o) (hl : o.length ≤ 60) {n : Nat} (hn : n ≤ o.length) {g : H} {B : MdB} {r : RSt} (X : Mod h k g B r n) (hS : rpS k l (rst0 k) (o.take n) = some r) :
    Ev (S.lin_Replay_c1_S W x0 x1 (.ptr B.b 0) x1 (o.length : Nat) (n : Nat) g) fun z =>
      (z.1 = .ret ∧ z.2.1 = S.lin_Replay_c1_O x1 (.int .i64 (rpN k l (rst0 k) o : Nat)) (.ptr B.b 0) ∧ Fr [] h z.2.2) ∨
      (z.1 = .exit 0 ∧ z.2.1 = S.lin_Replay_c1_O x1 .dead (.ptr B.b 0) ∧ Fr [] h z.2.2 ∧ rpN k l (rst0 k) o = o.length) ∨
      (n < o.length ∧ z.1 = .normal ∧ z.2.1 = S.lin_Replay_c1_E x0 x1 (.ptr B.b 0) x1 (.int .i64 (o.length : Nat)) (.int .i64 (n + 1 : Nat)) ∧ ∃ B' r', Mod h k z.2.2 B' r' (n + 1) ∧ B'.b = B.b ∧ rpS k l (rst0 k) (o.take (n + 1)) = some r') := by
  by_cases hno : n < o.length
  · have d : decide ((n : Int) < (o.length : Int)) = true := natlt hno
    obtain ⟨q, hq⟩ : ∃ q, o[n]? = some q := ⟨_, List.getElem?_eq_getElem hno⟩
    obtain ⟨ob, oj, hix, hld, _⟩ := (ho.fr ok X.fr (by simp)).at' n q hq
    have hxl := hx.len
    by_cases hq0 : q < 0
    · have d0 : decide (q < 0) = true := decide_eq_true hq0
      simp only [S.lin_Replay_c1_S, d, hix, obind, hld, asI_int, d0]
      rw [rpN_stop o n _ hS hq (rp1_none (.inl hq0))]
      exact Ev.some (.inl ⟨rfl, rfl, X.fr⟩)
    have d0 : decide (q < 0) = false := decide_eq_false hq0
    by_cases hqn : (l.length : Int) ≤ q
    · have d1 : decide ((l.length : Int) ≤ q) = true := decide_eq_true hqn
      simp only [S.lin_Replay_c1_S, d, hix, obind, hld, asI_int, d0, hxl, d1]
      rw [rpN_stop o n _ hS hq (rp1_none (.inr hqn))]
      exact Ev.some (.inl ⟨rfl, rfl, X.fr⟩)
    obtain ⟨i, rfl, hi⟩ : ∃ i : Nat, q = (i : Int) ∧ i < l.length := ⟨q.toNat, by omega, by omega⟩
    have d1 : decide ((l.length : Int) ≤ (i : Int)) = false := decide_eq_false hqn
    obtain ⟨y, hy⟩ : ∃ y, l[i]? = some y := ⟨_, List.getElem?_eq_getElem hi⟩
    obtain ⟨eb, e1, e2, e3, e4⟩ := rowE_call (hx.fr ok X.fr (by simp)) hy
    obtain ⟨⟨v, g6⟩, e6, hv, B', X6, F6, E6⟩ := X.does (c := y.call) (a := y.ans) hr (by omega) (hu y (List.mem_of_getElem? hy)) y.client
    dsimp only at hv X6 F6
    subst hv
    have hst := rp1_nat (k := k) (r := r) hy
    have wk := rl_k (n := n) (by omega)
    cases hok : okR k r y.client y.call y.ans with
    | false =>
      rw [hok] at e6
      rw [hok, if_neg (by decide)] at hst
      simp only [S.lin_Replay_c1_S, d, hix, obind, hld, asI_int, d0, hxl, d1, e1, ptrAt_ptr, Nat.add_zero, e2, e3, e4, W_call, e6, asB_bool, Bool.not_false]
      rw [rpN_stop o n _ hS hq hst]
      exact Ev.some (.inl ⟨rfl, rfl, X6.fr⟩)
    | true =>
      rw [hok] at e6
      rw [hok, if_pos rfl] at hst
      simp only [S.lin_Replay_c1_S, d, hix, obind, hld, asI_int, d0, hxl, d1, e1, ptrAt_ptr, Nat.add_zero, e2, e3, e4, W_call, e6, asB_bool, Bool.not_true, wk]
      refine Ev.some (.inr (.inr ⟨hno, rfl, rfl, B', _, X6, E6.b, ?_⟩))
      rw [take_snoc hq, rpS_snoc, hS]
      exact hst
  · have hne : n = o.length := by omega
    have d : decide ((n : Int) < (o.length : Int)) = false := decide_eq_false (by omega)
    simp only [S.lin_Replay_c1_S, d]
    rw [hne, List.take_length] at hS
    exact Ev.some (.inr (.inl ⟨rfl, rfl, X.fr, rpN_all o _ hS⟩))

theorem replay_spec (ok : h.ok) (hr : k.R = true) (hx : RowE h.get x0 l) (hu : ∀ y ∈ l, U64 y.ah) (ho : RowP h x1 o) (hl : o.length ≤ 60) :
    Ev (C 205 [k.v, x0, x1] h) fun z => z.1 = .int .i64 (rpN k l (rst0 k) o : Nat) ∧ Fr [] h z.2 := by
  refine call_ev (af := F.lin_Replay) (by kernel_rfl) rfl ?_
  have hv : k.v = .agg [.int .i64 k.s, .int .i64 k.a, .int .i64 k.c, .int .i64 k.hd, .int .i64 k.g, .int .i64 k.st] := rfl
  rw [hv, S.lin_Replay_eq]
  have hp := get_new_self h (.cells [.int .i64 k.s, .int .i64 k.a, .int .i64 k.c, .int .i64 k.hd, .int .i64 k.g, .int .i64 k.st] .rw)
  have F0 : Fr [] h (h.new (.cells [.int .i64 k.s, .int .i64 k.a, .int .i64 k.c, .int .i64 k.hd, .int .i64 k.g, .int .i64 k.st] .rw)) := (Fr.refl ok).new _
  have lk : (h.new (.cells [.int .i64 k.s, .int .i64 k.a, .int .i64 k.c, .int .i64 k.hd, .int .i64 k.g, .int .i64 k.st] .rw)).ldN 6 (.ptr h.next 0) = some k.v := by rw [ldN_get hp (show 0 + 6 ≤ 6 from Nat.le_refl _)]; rfl
  obtain ⟨⟨v1, g1⟩, e1, B, rfl, F1, X, hB, nB⟩ := Mod.new (h0 := h) hr F0
  dsimp only at F1 X
  have hol := ho.len
  simp only [S.lin_Replay, lk, obind, W_call, e1, hol]
  refine loop_ev (α := Nat) (fun n => S.lin_Replay_c1_E x0 x1 (.ptr B.b 0) x1 (.int .i64 (o.length : Nat)) (.int .i64 (n : Nat)))
    (fun n g => n ≤ o.length ∧ ∃ B' r, Mod h k g B' r n ∧ B'.b = B.b ∧ rpS k l (rst0 k) (o.take n) = some r) (fun n _ => o.length - n)
    (fun z => (z.1 = .ret ∧ z.2.1 = S.lin_Replay_c1_O x1 (.int .i64 (rpN k l (rst0 k) o : Nat)) (.ptr B.b 0) ∧ Fr [] h z.2.2) ∨
      (z.1 = .exit 0 ∧ z.2.1 = S.lin_Replay_c1_O x1 .dead (.ptr B.b 0) ∧ Fr [] h z.2.2 ∧ rpN k l (rst0 k) o = o.length)) 0 rfl ⟨Nat.zero_le _, B, _, X, rfl, rfl⟩ ?_ ?_
  rotate_left
  · rintro ⟨_, _, g'⟩ (⟨rfl, rfl, F⟩ | ⟨rfl, rfl, F, hN⟩)
    · show Ev (S.lin_Replay_K2 W .ret _ _) _
      rw [S.lin_Replay_c1_r_eq]
      exact Ev.some ⟨rfl, F⟩
    · show Ev (S.lin_Replay_K2 W (.exit 0) _ _) _
      have hb : eqV .ptr (.ptr B.b 0) .nilp = some false := rfl
      rw [S.lin_Replay_c1_e0_eq]
      simp only [S.lin_Replay_c1_e0, hb, obind, hol]
      rw [hN]
      exact Ev.some ⟨rfl, F⟩
  rintro n g ⟨hn, B', r, X', hb, hS⟩
  rw [S.lin_Replay_c1_eq, ← hb]
  refine (replay_step ok hr hx hu ho hl hn X' hS).mono ?_
  rintro ⟨_, _, g2⟩ (⟨rfl, rfl, F⟩ | ⟨rfl, rfl, F, hN⟩ | ⟨hlt, rfl, rfl, B2, r2, X2, hb2, hS2⟩)
  · exact .inr ⟨by simp, .inl ⟨rfl, rfl, F⟩⟩
  · exact .inr ⟨by simp, .inr ⟨rfl, rfl, F, hN⟩⟩
  · exact .inl ⟨n + 1, rfl, rfl, ⟨hlt, B2, r2, X2, hb2, hS2⟩, Nat.sub_lt_sub_left hlt (Nat.lt_succ_self n)⟩
end
end Wm
end

section
/- No model: what is asked of it. -/
namespace Wm
attribute [local congr] bind_congr1
attribute [local irreducible] wr

theorem nil_client (g : H) (w : Int) : C 279 [.nilp, .int .i64 w] g = some (.bool false, g) := by
  have e : Ev (C 279 [.nilp, .int .i64 w] g) fun z => z = (.bool false, g) := by
    refine call_ev (af := F.model_Model_client) (by kernel_rfl) rfl ?_
    rw [S.model_Model_client_eq]
    have hb : eqV .ptr .nilp .nilp = some true := rfl
    simp only [S.model_Model_client, hb, obind, Bool.not_true]
    exact Ev.some rfl
  obtain ⟨z, e, rfl⟩ := e
  exact e
theorem nil_does {g : H} (ok : g.ok) (w k n a b c s t : Int) (u : Bool) : Ev (C 103 [.nilp, .int .i64 w, .agg [.int .i64 k, .int .i64 n, .int .u64 a, .int .u64 b, .int .u64 c], .agg [.int .i64 s, .int .u64 t, .bool u]] g) fun z => z.1 = .bool false ∧ Fr [] g z.2 := by
  refine call_ev (af := F.model_Model_Does) (by kernel_rfl) rfl ?_
  show Ev (evalF W F.model_Model_Does [.nilp, .int .i64 w, .agg [.int .i64 k, .int .i64 n, .int .u64 a, .int .u64 b, .int .u64 c], .agg [.int .i64 s, .int .u64 t, .bool u]] g) _
  rw [S.model_Model_Does_eq]
  simp only [S.model_Model_Does, W_call, nil_client, obind, asB_bool, Bool.not_false]
  exact Ev.some ⟨rfl, ((Fr.refl ok).new _).new _⟩
end Wm
end

section
/- A stable sort is one by a finer order: what stood ahead is less. Two rows merged. -/
namespace Wm
open Go.Sort (swp PermIn SortedIn SWO permIn_trans permIn_refl permIn_mono permIn_all insInner insOuter)

def ltS (lt : Int → Int → Bool) (x y : Int) : Bool := lt x y || (!lt y x && decide (x < y))
/-- Two rows side by side, each sorted, the first one's of old. -/
structure Mg (lt : Int → Int → Bool) (a m e : Nat) (d : Array Int) : Prop where
  s1 : SortedIn (ltS lt) a m d
  s2 : SortedIn (ltS lt) m e d
  old : ∀ i j, a ≤ i → i < m → m ≤ j → j < e → d[i]! < d[j]!

section
variable {lt : Int → Int → Bool} {d R : Array Int} {a m e i : Nat}

end
end Wm
end

section
/- The order by points: the code's, and the document's. -/
namespace Wm
attribute [local congr] bind_congr1
attribute [local irreducible] wr
open Go.Sort (swp PermIn SortedIn SWO)

/-! ### The document's -/
def rng (n : Nat) : List Int := (List.range n).map (fun i : Nat => (i : Int))
end Wm
end

section
/- lin.Replay of any configuration; lin.Points. -/
namespace Wm
attribute [local congr] bind_congr1
attribute [local irreducible] wr

section
variable {h : H} {k : Cfg} {x0 x1 : V} {l : List Evt} {o : List Int}
theorem kv_eq (k : Cfg) : k.v = .agg [.int .i64 k.s, .int .i64 k.a, .int .i64 k.c, .int .i64 k.hd, .int .i64 k.g, .int .i64 k.st] := rfl
theorem new_cfg (k : Cfg) (ok : h.ok) : ∃ g, g = h.new (.cells [.int .i64 k.s, .int .i64 k.a, .int .i64 k.c, .int .i64 k.hd, .int .i64 k.g, .int .i64 k.st] .rw) ∧ Fr [] h g ∧ g.get h.next = some (.cells k.cs .rw) :=
  ⟨_, rfl, (Fr.refl ok).new _, get_new_self _ _⟩
theorem ld_cfg {g : H} {q : Nat} (hq : g.get q = some (.cells k.cs .rw)) : g.ldN 6 (.ptr q 0) = some k.v := by rw [ldN_get hq (show 0 + 6 ≤ 6 from Nat.le_refl _)]; rfl
theorem ck_cfg (k : Cfg) : ckB (some k.v) k.v = true := by
  rw [kv_eq]
  simp [ckB, V.beq, V.beqs]
theorem mdNew_none (hr : k.R = false) (ok : h.ok) : Ev (C 96 [k.v] h) fun z => z.1 = .nilp ∧ Fr [] h z.2 := by
  refine call_ev (af := F.model_New) (by kernel_rfl) rfl ?_
  rw [kv_eq, S.model_New_eq]
  simp only [S.model_New]
  obtain ⟨g, hg, F, hq⟩ := new_cfg k ok
  rw [← hg]
  have hR := planRight_spec k.s k.a k.c k.hd k.g k.st g
  rw [show cfgR k.s k.a k.c k.hd k.g k.st = k.R from rfl, hr, show cfgV k.s k.a k.c k.hd k.g k.st = k.v from rfl] at hR
  simp only [ld_cfg hq, obind, W_call, hR, asB_bool, Bool.not_false]
  exact Ev.some ⟨rfl, F⟩

theorem replay_bad (ok : h.ok) (hr : k.R = false) (hx : RowE h.get x0 l) (ho : RowP h x1 o) :
    Ev (C 205 [k.v, x0, x1] h) fun z => z.1 = .int .i64 (0 : Nat) ∧ Fr [] h z.2 := by
  refine call_ev (af := F.lin_Replay) (by kernel_rfl) rfl ?_
  rw [kv_eq, S.lin_Replay_eq]
  simp only [S.lin_Replay]
  obtain ⟨g0, hg, F0, hq⟩ := new_cfg k ok
  rw [← hg]
  obtain ⟨⟨v1, g1⟩, e1, rfl, F1⟩ := mdNew_none hr F0.ok
  dsimp only at F1
  have hol := ho.len
  simp only [ld_cfg hq, obind, W_call, e1, hol]
  refine loop_ev (α := Unit) (fun _ => S.lin_Replay_c1_E x0 x1 .nilp x1 (.int .i64 (o.length : Nat)) (.int .i64 0))
    (fun _ g => Fr [] h g) (fun _ _ => 0)
    (fun z => (z.1 = .ret ∧ z.2.1 = S.lin_Replay_c1_O x1 (.int .i64 (0 : Nat)) .nilp ∧ Fr [] h z.2.2) ∨
      (z.1 = .exit 0 ∧ z.2.1 = S.lin_Replay_c1_O x1 .dead .nilp ∧ Fr [] h z.2.2)) () rfl (F0.trans' F1) ?_ ?_
  rotate_left
  · rintro ⟨_, _, g'⟩ (⟨rfl, rfl, F⟩ | ⟨rfl, rfl, F⟩)
    · show Ev (S.lin_Replay_K2 W .ret _ _) _
      rw [S.lin_Replay_c1_r_eq]
      exact Ev.some ⟨rfl, F⟩
    · show Ev (S.lin_Replay_K2 W (.exit 0) _ _) _
      have hb : eqV .ptr .nilp .nilp = some true := rfl
      rw [S.lin_Replay_c1_e0_eq]
      simp only [S.lin_Replay_c1_e0, hb, obind]
      exact Ev.some ⟨rfl, F⟩
  rintro ⟨⟩ g F
  rw [S.lin_Replay_c1_eq]
  by_cases hno : 0 < o.length
  · have d : decide ((0 : Int) < (o.length : Int)) = true := natlt hno
    obtain ⟨q, hq⟩ : ∃ q, o[0]? = some q := ⟨_, List.getElem?_eq_getElem hno⟩
    obtain ⟨ob, oj, hix, hld, _⟩ := (ho.fr ok F (by simp)).at' 0 q hq
    rw [show ((0 : Nat) : Int) = 0 from rfl] at hix
    have hxl := hx.len
    by_cases hq0 : q < 0
    · have d0 : decide (q < 0) = true := decide_eq_true hq0
      simp only [S.lin_Replay_c1_S, d, hix, obind, hld, asI_int, d0]
      exact Ev.some (.inr ⟨by simp, .inl ⟨rfl, rfl, F⟩⟩)
    have d0 : decide (q < 0) = false := decide_eq_false hq0
    by_cases hqn : (l.length : Int) ≤ q
    · have d1 : decide ((l.length : Int) ≤ q) = true := decide_eq_true hqn
      simp only [S.lin_Replay_c1_S, d, hix, obind, hld, asI_int, d0, hxl, d1]
      exact Ev.some (.inr ⟨by simp, .inl ⟨rfl, rfl, F⟩⟩)
    obtain ⟨i, rfl, hi⟩ : ∃ i : Nat, q = (i : Int) ∧ i < l.length := ⟨q.toNat, by omega, by omega⟩
    have d1 : decide ((l.length : Int) ≤ (i : Int)) = false := decide_eq_false hqn
    obtain ⟨y, hy⟩ : ∃ y, l[i]? = some y := ⟨_, List.getElem?_eq_getElem hi⟩
    obtain ⟨eb, e1, e2, e3, e4⟩ := rowE_call (hx.fr ok F (by simp)) hy
    obtain ⟨⟨v, g6⟩, e6, rfl, F6⟩ := nil_does F.ok y.client y.kind y.n y.h y.x y.y y.err y.ah y.yes
    dsimp only at F6
    have e6' : C 103 [.nilp, .int .i64 y.client, .agg y.call.cs, .agg y.ans.cs] g = some (.bool false, g6) := e6
    simp only [S.lin_Replay_c1_S, d, hix, obind, hld, asI_int, d0, hxl, d1, e1, ptrAt_ptr, Nat.add_zero, e2, e3, e4, W_call, e6', asB_bool, Bool.not_false]
    exact Ev.some (.inr ⟨by simp, .inl ⟨rfl, rfl, F.trans' F6⟩⟩)
  · have d : decide ((0 : Int) < (o.length : Int)) = false := decide_eq_false (by omega)
    simp only [S.lin_Replay_c1_S, d]
    exact Ev.some (.inr ⟨by simp, .inr ⟨rfl, rfl, F⟩⟩)

def rpK (k : Cfg) (l : List Evt) (o : List Int) : Nat := if k.R then rpN k l (rst0 k) o else 0
theorem replay_any (ok : h.ok) (hx : RowE h.get x0 l) (hu : ∀ y ∈ l, U64 y.ah) (ho : RowP h x1 o) (hl : o.length ≤ 60) :
    Ev (C 205 [k.v, x0, x1] h) fun z => z.1 = .int .i64 (rpK k l o : Nat) ∧ Fr [] h z.2 := by
  unfold rpK
  cases hr : k.R with
  | true => exact replay_spec ok hr hx hu ho hl
  | false => exact replay_bad ok hr hx ho

end
end Wm
end

section
/- The document's example of layer 19, run by the kernel. -/
namespace Wm
set_option maxRecDepth 100000 in
theorem awake19_run : runF prog meth 2000 200 204 [] .empty = some (.bool true, .empty) := by kernel_rfl
theorem awake19 (h : H) : C 204 [] h = some (.bool true, h) := call_closed_run (af := F.withylaw19_awake) (by kernel_rfl) rfl (by rw [← runF_eq]; exact awake19_run) h
end Wm
end

section
/- The law ShadeAlone, of my machine. -/
namespace Wm
attribute [local congr] bind_congr1
attribute [local irreducible] wr

/-- A number made one of so many. -/
def pickT (x : Int) (n : Nat) : Nat := (x % 18446744073709551616 % (n : Int)).toNat
theorem pickT_lt (x : Int) {n : Nat} (hn : 0 < n) : pickT x n < n := by
  unfold pickT
  have h1 := Int.emod_nonneg (x % 18446744073709551616) (show (n : Int) ≠ 0 by omega)
  have h2 := Int.emod_lt_of_pos (x % 18446744073709551616) (show (0 : Int) < n by omega)
  omega
theorem pick_ar (x : Int) {n : Nat} (hn : 0 < n) (h2 : n ≤ 1000) : arith .rem .u64 (wr .u64 x) (wr .u64 (n : Int)) = some ((pickT x n : Nat) : Int) := by
  have e1 : wr .u64 x = x % 18446744073709551616 := by simp only [wr]
  have h3 := Int.emod_nonneg (x % 18446744073709551616) (show (n : Int) ≠ 0 by omega)
  rw [wru64 (n := (n : Int)) (by omega) (by omega), e1]
  simp only [arith, decide_eq_false (show ¬ ((n : Int) = 0) by omega)]
  rw [tm (by omega)]
  unfold pickT
  congr 1; omega

end Wm
end

section
/- The law LinFronts, of my machine. -/
namespace Wm
attribute [local congr] bind_congr1
attribute [local irreducible] wr

def shLinFronts : List (Bool × List CSh) := [(true, [.int .i64, .int .i64, .int .i64, .int .i64, .int .i64, .int .i64]), (false, [.sl 112 [.int .i64, .int .i64, .int .i64, .int .i64, .int .i64, .bool, .int .i64, .int .i64, .int .u64, .int .u64, .int .u64, .int .i64, .int .u64, .bool]]), (false, [.sl 8 [.int .i64]]), (false, [.int .i64])]

/-! ### The number of the front: proved by hand, since the kernel would count -/
def NoGrd : AIs → Prop
  | .nil => True
  | .op _ r => NoGrd r
  | .grd _ _ _ _ => False
def appIs : AIs → AIs → AIs
  | .nil, b => b
  | .op i r, b => .op i (appIs r b)
  | .grd g w bd r, b => .grd g w bd (appIs r b)
theorem evalIs_app {R : Type} (M : Env) (b : AIs) (k : List V → H → Option R) : ∀ (a : AIs) (env : List V) (h : H), NoGrd a → evalIs M (appIs a b) env h k = evalIs M a env h fun env h => evalIs M b env h k
  | .nil, _, _, _ => rfl
  | .op i r, env, h, n => by
    show evalI M i env h _ = evalI M i env h _
    congr 1
    funext env' h'
    exact evalIs_app M b k r env' h' n
  | .grd _ _ _ _, _, _, n => n.elim
def lfA : AIs :=
    .op ⟨(some 19), .mov (.t 3), []⟩ <|
    .op ⟨(some 20), .conv .u64 (.t 19), []⟩ <|
    .op ⟨(some 21), .mov (.t 2), []⟩ <|
    .op ⟨(some 22), .lenSl (.t 21), []⟩ <|
    .op ⟨(some 23), .arith .add .i64 (.t 22) (.c (.int .i64 1)), []⟩ <|
    .op ⟨(some 24), .conv .u64 (.t 23), []⟩ <|
    .nil
def lfB : AIs :=
    .op ⟨(some 25), .arith .rem .u64 (.t 20) (.t 24), []⟩ <|
    .op ⟨(some 26), .conv .i64 (.t 25), []⟩ <|
    .op ⟨(some 9), .mov (.t 26), []⟩ <|
    .nil
theorem evalC_ops {R : Type} (M : Env) (l : AIs) (env : List V) (h : H) (k : AX → List V → H → Option R) : evalC M (.ops l) env h k = evalIs M l env h fun env h => k .normal env h := by rw [evalC]
theorem lf_code : F.withylaw19_LinFronts_c3 = .ops (appIs lfA lfB) := rfl
def lfE (x1 x2 : V) (x3 : Int) (x4 : V) (m y z : Int) : List V := ((((((S.withylaw19_LinFronts_c3_E x1 x2 (.int .i64 x3) x4).set 19 (.int .i64 x3)).set 20 (.int .u64 (wr .u64 x3))).set 21 x2).set 22 (.int .i64 m)).set 23 (.int .i64 y)).set 24 (.int .u64 z)
theorem lf_a {R : Type} (M : Env) (x1 x2 : V) (x3 : Int) (x4 : V) (h : H) (K : List V → H → Option R) :
    evalIs M lfA (S.withylaw19_LinFronts_c3_E x1 x2 (.int .i64 x3) x4) h K = (lenSl x2).bind fun n0 => K (lfE x1 x2 x3 x4 ((n0 : Nat) : Int) (wr .i64 (((n0 : Nat) : Int) + 1)) (wr .u64 (wr .i64 (((n0 : Nat) : Int) + 1)))) h := by kernel_rfl
theorem lf_b (M : Env) (x1 x2 : V) (x3 : Int) (x4 : V) (h : H) (m y z : Int) :
    (evalIs M lfB (lfE x1 x2 x3 x4 m y z) h fun env h => some (AX.normal, keepOf [1, 2, 4, 9] 0 env, h)) = (arith .rem .u64 (wr .u64 x3) z).bind fun n1 => some (.normal, S.withylaw19_LinFronts_c3_O x1 x2 x4 (.int .i64 (wr .i64 n1)), h) := by kernel_rfl
theorem lf_c3 (M : Env) (x1 x2 : V) (x3 : Int) (x4 : V) (h : H) : S.withylaw19_LinFronts_c3_B M (S.withylaw19_LinFronts_c3_E x1 x2 (.int .i64 x3) x4) h = S.withylaw19_LinFronts_c3_S M x1 x2 x3 x4 h := by
  unfold S.withylaw19_LinFronts_c3_B
  rw [lf_code, evalC_ops, evalIs_app M lfB _ lfA _ h trivial, lf_a]
  unfold S.withylaw19_LinFronts_c3_S
  exact congrArg (Option.bind (lenSl x2)) (funext fun n0 => lf_b M x1 x2 x3 x4 h _ _ _)
theorem bound_nat {k n : Nat} (h : k ≤ n) : boundO n n (some (.int .i64 (k : Int))) = some k := by
  have d0 : decide ((0 : Int) ≤ (k : Int)) = true := decide_eq_true (by omega)
  have d1 : decide ((k : Int) ≤ (n : Int)) = true := decide_eq_true (by omega)
  show (match decide ((0 : Int) ≤ (k : Int)) && decide ((k : Int) ≤ (n : Int)) with | true => some (k : Int).toNat | false => none) = _
  rw [d0, d1]; rfl
theorem frontP {g : H} {ws : List Int} {x : V} (hc : x = .nilsl ∨ ∃ b n, x = .sl b 0 n (.op 1)) (P : RowP g x ws) {k : Nat} (hk : k ≤ ws.length) :
    ∃ x', sliceV 1 x none (some (.int .i64 (k : Int))) none = some x' ∧ RowP g x' (ws.take k) := by
  rcases hc with rfl | ⟨b, n, rfl⟩
  · have h0 : ws.length = 0 := (Option.some.inj P.len).symm
    have k0 : k = 0 := by omega
    subst k0
    refine ⟨.nilsl, rfl, rfl, rfl, fun i w hw => by simp at hw⟩
  · have hn : n = ws.length := Option.some.inj P.len
    subst hn
    have hb := bound_nat hk
    refine ⟨.sl b 0 k (.op 1), ?_, by rw [List.length_take, Nat.min_eq_left hk]; rfl, rfl, fun i w hw => ?_⟩
    · have hz : Nat.beq 1 1 = true := rfl
      have hl : boundO 0 k none = some 0 := rfl
      simp only [sliceV, hb, hl, Nat.zero_mul, Nat.add_zero, Nat.sub_zero]
    · have hik : i < k := by
        have := lt_of_get hw
        rw [List.length_take] at this; omega
      rw [List.getElem?_take, if_pos hik] at hw
      obtain ⟨b', j, h1, h2, h3⟩ := P.at' i w hw
      rw [sl_idx1 (lt_of_get hw)] at h1
      simp only [Option.some.injEq, V.ptr.injEq] at h1
      obtain ⟨rfl, rfl⟩ := h1
      exact ⟨b, i, sl_idx1 hik, h2, h3⟩

theorem lawLinFronts (h : H) (us : List V) (ok : h.ok) (ha : ArgsOk h.get shLinFronts us) : Ev (C 47 us h) fun r => r.1 = .bool true := by
  obtain ⟨_, _, rfl, ⟨_, rfl, _, _, rfl, ⟨s, rfl, _⟩, _, _, rfl, ⟨a, rfl, _⟩, _, _, rfl, ⟨c, rfl, _⟩, _, _, rfl, ⟨hd, rfl, _⟩, _, _, rfl, ⟨g, rfl, _⟩, _, _, rfl, ⟨st, rfl, _⟩, rfl⟩, _, _, rfl, ⟨_, _, hx, hxc, rfl⟩, _, _, rfl, ⟨_, _, hy, hyc, rfl⟩, _, _, rfl, ⟨_, _, hn, ⟨n, rfl, _⟩, rfl⟩, rfl⟩ := ha
  cases hx; cases hy; cases hn
  rename_i x0 x1 _
  obtain ⟨l, hx, hu, _, _⟩ := rowE_u hxc
  obtain ⟨o, ho, _, _, _⟩ := rowN_of hyc
  have hsh : x1 = .nilsl ∨ ∃ b n, x1 = .sl b 0 n (.op 1) := by
    unfold CellOk at hyc
    rcases hyc with rfl | ⟨b, n, cs, rfl, _⟩
    · exact .inl rfl
    · exact .inr ⟨b, n, rfl⟩
  refine call_ev (af := F.withylaw19_LinFronts) (by kernel_rfl) rfl ?_
  rw [S.withylaw19_LinFronts_eq]
  simp only [S.withylaw19_LinFronts]
  obtain ⟨g0, hg, F0, hq⟩ := new_cfg ⟨s, a, c, hd, g, st⟩ ok
  dsimp only at hg
  rw [← hg]
  have hxl := hx.len
  have hol := ho.len
  generalize (⟨s, a, c, hd, g, st⟩ : Cfg) = k at hq
  have aw := awake19
  by_cases h40 : 40 < l.length
  · have d : decide ((40 : Int) < (l.length : Int)) = true := decide_eq_true (by omega)
    rw [S.withylaw19_LinFronts_c1_eq]
    simp only [S.withylaw19_LinFronts_c1_S, hxl, obind, d, W_call, aw]
    rw [S.withylaw19_LinFronts_c1_r_eq]
    exact Ev.some rfl
  have d : decide ((40 : Int) < (l.length : Int)) = false := decide_eq_false (by omega)
  by_cases o40 : 40 < o.length
  · have d1 : decide ((40 : Int) < (o.length : Int)) = true := decide_eq_true (by omega)
    rw [S.withylaw19_LinFronts_c1_eq]
    simp only [S.withylaw19_LinFronts_c1_S, hxl, hol, obind, d, d1, W_call, aw]
    rw [S.withylaw19_LinFronts_c1_r_eq]
    exact Ev.some rfl
  have d1 : decide ((40 : Int) < (o.length : Int)) = false := decide_eq_false (by omega)
  have hl : l.length ≤ 60 := by omega
  have lk0 := ld_cfg hq
  have ck := ck_cfg k
  have wo : wr .i64 ((o.length : Int) + 1) = ((o.length + 1 : Nat) : Int) := rl_k (by omega)
  have hpick := pick_ar n (n := o.length + 1) (by omega) (by omega)
  have hq' := pickT_lt n (n := o.length + 1) (by omega)
  generalize pickT n (o.length + 1) = q at hpick hq'
  have hwq : wr .i64 (q : Int) = q := wr64 (by omega) (by omega)
  have ho0 := (ho.fr ok F0 (by simp)).P
  obtain ⟨x', hsl, hP⟩ := frontP hsh ho0 (k := q) (by omega)
  obtain ⟨⟨v1, g1⟩, e1, rfl, F1⟩ := replay_any (k := k) F0.ok (hx.fr ok F0 (by simp)) hu hP (by rw [List.length_take]; omega)
  dsimp only at F1
  have F01 := F0.trans' F1
  have q1 := F1.get F0.ok hq (by simp)
  obtain ⟨⟨v2, g2⟩, e2, rfl, F2⟩ := replay_any (k := k) F1.ok (hx.fr ok F01 (by simp)) hu (ho.fr ok F01 (by simp)).P (by omega)
  have z : decide ((rpK k l (o.take q) : Int) = min (q : Int) (rpK k l o : Int)) = true := by
    apply decide_eq_true
    unfold rpK
    cases k.R with
    | true => rw [if_pos rfl, if_pos rfl, rpN_take]; omega
    | false => rw [if_neg (by decide), if_neg (by decide)]; omega
  rw [S.withylaw19_LinFronts_c1_eq]
  simp only [S.withylaw19_LinFronts_c1_S, hxl, hol, obind, d, d1]
  rw [S.withylaw19_LinFronts_c1_n_eq]
  simp only [S.withylaw19_LinFronts_c1_n]
  rw [lf_c3]
  simp only [S.withylaw19_LinFronts_c3_S, hol, obind, wo, hpick, hwq]
  rw [S.withylaw19_LinFronts_c3_n_eq]
  simp only [S.withylaw19_LinFronts_c3_n, lk0, obind, hsl, W_call, e1, ld_cfg q1, ck, e2, asI_int, z, aw]
  exact Ev.some rfl
end Wm
end

