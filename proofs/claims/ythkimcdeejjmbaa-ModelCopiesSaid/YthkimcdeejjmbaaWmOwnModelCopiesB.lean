/- What the functions come to, and the law: of my machine. -/
import Derived.Test.YthkimcdeejjmbaaWmOwnModelCopiesA
import Derived.Test.YthkimcdeejjmbaaWmTxtModelCopiesA
import Derived.Test.YthkimcdeejjmbaaWmEv
import Derived.Test.YthkimcdeejjmbaaWmOpen
import Derived.Test.YthkimcdeejjmbaaWmPOp0
import Derived.KernelRfl
import Derived.Test.YthkimcdeejjmbaaWmShal
import Derived.Test.YthkimcdeejjmbaaWmCore
set_option linter.all false
section
/- The program's model: done, Does. -/
namespace Wm
attribute [local congr] bind_congr1
attribute [local irreducible] wr

section
variable {k : Cfg} {B : MdB} {r : RSt} {c : CallR} {a : AnsR}

def MdOut (k : Cfg) (B : MdB) (h : H) (b : Bool) (r' : RSt) (z : V × H) : Prop := z.1 = .bool b ∧ Fr B.l h z.2 ∧ ∃ B', MdAt k z.2.get B' r' ∧ B.ext B' h
theorem MdOut.same {h g : H} (ok : h.ok) (M : MdAt k h.get B r) (F : Fr [] h g) (b : Bool) : MdOut k B h b r (.bool b, g) := ⟨rfl, F.mono (by simp), B, M.fr0 ok F, .refl B h⟩
theorem MdOut.up {h g : H} {b : Bool} {r' : RSt} {z : V × H} (F : Fr [] h g) (O : MdOut k B g b r' z) : MdOut k B h b r' z := by
  obtain ⟨h1, h2, B', h3, h4⟩ := O
  exact ⟨h1, (F.mono (by simp)).trans h2 (fun b hb => .inl hb), B', h3, h4.up F.le⟩

theorem fresh_not {q : Int} (h : r.fresh q = true) : r.Gv.contains q = false := by
  unfold RSt.fresh at h
  cases hc : r.Gv.contains q with
  | false => rfl
  | true => rw [hc] at h; cases h

/-- From the switch on. -/
theorem done8_spec {g : H} {q pa : Nat} (D : DnAt k B r c a g q pa) (I : RIn k r) (Bs : r.small) (ka : k.a ≤ 8) (hu : U64 a.h) {w : Int} (w0 : 0 ≤ w) (w1 : w < k.c) (he : errR k r w c = 0) (hfr : givesR r w c = true → r.fresh a.h = true) :
    Ev ((S.model_Model_done_c8_B W (S.model_Model_done_c8_E (.ptr B.b 0) (.int .i64 w) (.ptr q 0) (.ptr pa 0) (.int .i64 (r.node w c.h)) (.bool (givesR r w c)) (.bool (yesR r w c))) g).bind fun p0 => S.model_Model_done_K7 W p0.1 p0.2.1 p0.2.2) (MdOut k B g true (doneR r w c a)) := by
  have E := errOk he
  have hr := E.rng
  have hf : givesR r w c = true → r.Gv.contains a.h = false := fun hg => fresh_not (hfr hg)
  rw [S.model_Model_done_c8_eq]
  have key : Ev (S.model_Model_done_c8_S W (.ptr B.b 0) w (.ptr q 0) (.ptr pa 0) (r.node w c.h) (givesR r w c) (yesR r w c) g) (SwM k B g (doneR r w c a)) := by
    by_cases k1 : c.kind = 1
    · obtain ⟨h1, h2, _⟩ := E.new k1
      exact dm1_spec D I Bs.f k1 w0 w1 (n := c.n.toNat) (by omega) (by omega) (hf (by unfold givesR; rw [decide_eq_true k1]; rfl)) _ _
    by_cases kf : c.kind = 2 ∨ c.kind = 3 ∨ c.kind = 4 ∨ c.kind = 5
    · obtain ⟨n, hn, hF⟩ := I.flAt (E.node (by omega) (by omega))
      obtain ⟨h1, h2⟩ := E.fld (by omega) (by omega)
      exact dmF_spec D I w0 w1 hF (i := c.n.toNat) (by omega) hn (by omega) _ _ rfl rfl hf kf
    · refine dmW_spec D I Bs w0 w1 _ _ (fun k8 => ?_) (fun h => hf ?_) (fun h9 => (E.next h9).1) hu (by omega)
      · obtain ⟨n, hn, hF⟩ := I.flAt (E.node (by omega) (by omega))
        exact ⟨n, hn, lt_of_get hF⟩
      · unfold givesR
        rcases h with h | h
        · rw [h]; simp
        · rw [h]; simp
  refine Ev.bind key ?_
  rintro ⟨_, _, g'⟩ ⟨rfl, rfl, F', B', M', E'⟩
  dsimp only at F' M' E' ⊢
  rw [S.model_Model_done_c8_n_eq]
  exact Ev.some ⟨rfl, F', B', M', E'⟩

theorem done6_spec {g : H} {q pa : Nat} (D : DnAt k B r c a g q pa) (I : RIn k r) (Bs : r.small) (ka : k.a ≤ 8) (hu : U64 a.h) {w : Int} (w0 : 0 ≤ w) (w1 : w < k.c) (he : errR k r w c = 0) (ha : a.err = 0) :
    Ev ((S.model_Model_done_c6_B W (S.model_Model_done_c6_E (.ptr B.b 0) (.int .i64 w) (.ptr q 0) (.ptr pa 0) (.int .i64 (r.node w c.h)) (.bool (givesR r w c)) (.bool (yesR r w c))) g).bind fun p0 => S.model_Model_done_K6 W p0.1 p0.2.1 p0.2.2) (MdOut k B g (okR k r w c a) (doR k r w c a)) := by
  have hok : okR k r w c a = ok13 r w c a := by
    unfold okR ok13
    rw [if_neg (by omega), if_neg (by rw [he]; simp), if_neg (by omega)]
    have : (a.yes == yesR r w c) = decide (a.yes = yesR r w c) := by cases a.yes <;> cases yesR r w c <;> rfl
    rw [this]
  have hS : S.model_Model_done_c6_S W (.ptr B.b 0) w (.ptr q 0) (.ptr pa 0) (r.node w c.h) (givesR r w c) (yesR r w c) g = some (.normal, S.model_Model_done_c6_O (.ptr B.b 0) (.int .i64 w) (.ptr q 0) (.ptr pa 0) (.int .i64 (r.node w c.h)) (.bool (givesR r w c)) (.bool (yesR r w c)) (.bool (!ok13 r w c a)), g) := by
    have han := D.an
    have hfs := mdFresh_spec D.A.M a.h
    unfold ok13
    rw [decide_eq_true ha]
    cases dy : (a.yes == yesR r w c) with
    | false => simp only [S.model_Model_done_c6_S, ptrAt_ptr, obind, ld1_get', ldB_cells, List.getElem?_cons_zero, List.getElem?_cons_succ, Nat.zero_add, one_bool, one_int, asI_int, Bool.and_false, Bool.false_and, Bool.not_false, eqV, W_call, han, dy]
    | true =>
      cases dg : givesR r w c with
      | false => simp only [S.model_Model_done_c6_S, ptrAt_ptr, obind, ld1_get', ldB_cells, List.getElem?_cons_zero, List.getElem?_cons_succ, Nat.zero_add, one_bool, one_int, asI_int, Bool.true_and, Bool.not_true, Bool.not_false, Bool.and_self, if_false, eqV, han, dy, Bool.false_eq_true]
      | true =>
        cases df : r.fresh a.h with
        | true =>
          rw [df] at hfs
          simp only [S.model_Model_done_c6_S, ptrAt_ptr, obind, ld1_get', ldB_cells, List.getElem?_cons_zero, List.getElem?_cons_succ, Nat.zero_add, one_bool, one_int, asB_bool, Bool.not_true, Bool.and_self, if_true, eqV, W_call, han, dy, hfs]
        | false =>
          rw [df] at hfs
          simp only [S.model_Model_done_c6_S, ptrAt_ptr, obind, ld1_get', ldB_cells, List.getElem?_cons_zero, List.getElem?_cons_succ, Nat.zero_add, one_bool, one_int, asB_bool, Bool.and_false, Bool.not_true, Bool.not_false, Bool.and_self, if_true, eqV, W_call, han, dy, hfs]
  rw [S.model_Model_done_c6_eq, hS, obind, S.model_Model_done_c6_n_eq]
  cases ho : ok13 r w c a with
  | true =>
    have hd : doR k r w c a = doneR r w c a := by
      unfold doR actsR
      rw [hok, ho, he, ha]; rfl
    rw [hd, hok, ho]
    simp only [S.model_Model_done_c6_n, Bool.not_true]
    refine done8_spec D I Bs ka hu w0 w1 he fun hg => ?_
    unfold ok13 at ho
    rw [if_pos hg] at ho
    simp only [Bool.and_eq_true] at ho
    exact ho.2
  | false =>
    have hd : doR k r w c a = r := by
      unfold doR actsR
      rw [hok, ho]; rfl
    rw [hd, hok, ho]
    simp only [S.model_Model_done_c6_n, Bool.not_false]
    exact Ev.some (MdOut.same D.A.ok D.A.M (.refl D.A.ok) false)

theorem mdDone_spec {h : H} (ok : h.ok) (M : MdAt k h.get B r) (I : RIn k r) (Bs : r.small) (ka : k.a ≤ 8) (hu : U64 a.h) {w : Int} (w0 : 0 ≤ w) (w1 : w < k.c) (he : errR k r w c = 0) (ha : a.err = 0) :
    Ev (C 284 [.ptr B.b 0, .int .i64 w, .agg c.cs, .agg a.cs] h) (MdOut k B h (okR k r w c a) (doR k r w c a)) := by
  refine call_ev (af := F.model_Model_done) (by kernel_rfl) rfl ?_
  have hcs : V.agg c.cs = .agg [.int .i64 c.kind, .int .i64 c.n, .int .u64 c.h, .int .u64 c.x, .int .u64 c.y] := rfl
  have has : V.agg a.cs = .agg [.int .i64 a.err, .int .u64 a.h, .bool a.yes] := rfl
  rw [hcs, has, S.model_Model_done_eq]
  simp only [S.model_Model_done]
  have F0 : Fr [] h ((h.new (.cells [.int .i64 c.kind, .int .i64 c.n, .int .u64 c.h, .int .u64 c.x, .int .u64 c.y] .rw)).new (.cells [.int .i64 a.err, .int .u64 a.h, .bool a.yes] .rw)) := ((Fr.refl ok).new _).new _
  have hlt := M.lt ok
  have D : DnAt k B r c a ((h.new (.cells [.int .i64 c.kind, .int .i64 c.n, .int .u64 c.h, .int .u64 c.x, .int .u64 c.y] .rw)).new (.cells [.int .i64 a.err, .int .u64 a.h, .bool a.yes] .rw)) h.next (h.next + 1) :=
    ⟨⟨F0.ok, M.fr0 ok F0, by rw [get_new_ne (Nat.ne_of_lt (Nat.lt_succ_self _)), get_new_self]⟩, get_new_self _ _, fun q => by have := hlt _ q; omega, fun q => by have := hlt _ q; omega⟩
  have hn1 : (h.new (.cells [.int .i64 c.kind, .int .i64 c.n, .int .u64 c.h, .int .u64 c.x, .int .u64 c.y] .rw)).next = h.next + 1 := rfl
  rw [hn1]
  generalize ((h.new (.cells [.int .i64 c.kind, .int .i64 c.n, .int .u64 c.h, .int .u64 c.x, .int .u64 c.y] .rw)).new (.cells [.int .i64 a.err, .int .u64 a.h, .bool a.yes] .rw)) = g at D F0 ⊢
  generalize h.next + 1 = pa at D ⊢
  generalize h.next = q at D ⊢
  have E := errOk he
  have hcl := D.A.cl
  have n1 := mdNode_spec D.A.M w c.h
  have n2 := mdNode_spec D.A.M w c.x
  rw [if_pos ⟨w0, w1⟩] at n1 n2
  have l6 := D.A.M.l6
  -- the switch: does it give a handle, and what is answered
  have fin : ∀ {g1 : H}, Fr [] g g1 → ∀ b1 b2, givesR r w c = b1 → yesR r w c = b2 → Ev (S.model_Model_done_c1_n W (.ptr B.b 0) w (.ptr q 0) (.ptr pa 0) (r.node w c.h) b1 b2 g1) (MdOut k B h (okR k r w c a) (doR k r w c a)) := fun F1 b1 b2 e1 e2 => by
    subst e1; subst e2
    simp only [S.model_Model_done_c1_n]
    exact (done6_spec (D.fr F1) I Bs ka hu w0 w1 he ha).mono fun z hz => hz.up (F0.trans' F1)
  have Fg : Fr [] g g := .refl D.A.ok
  simp only [obind, ld1_get', ldB_cells, List.getElem?_cons_zero, List.getElem?_cons_succ, one_int, W_call, hcl, n1]
  have gv : givesR r w c = (decide (c.kind = 1) || decide (c.kind = 8) || decide (c.kind = 9) || (decide (c.kind = 2) && decide (0 ≤ r.fat (r.node w c.h) c.n))) := rfl
  have ys : yesR r w c = ((decide (c.kind = 5) && matchR r w c) || (decide (c.kind = 7) && decide (r.node w c.h = r.node w c.x))) := rfl
  by_cases k1 : c.kind = 1
  · have d1 : decide (c.kind = 1) = true := decide_eq_true k1
    simp only [S.model_Model_done_c1_eq, S.model_Model_done_c1_S, S.model_Model_done_c1_n_eq, S.model_Model_done_c3_eq, S.model_Model_done_c3_S, S.model_Model_done_c3_n_eq, S.model_Model_done_c3_n, ptrAt_ptr, obind, ld1_get', ldB_cells, List.getElem?_cons_zero, Nat.add_zero, one_int, hcl, d1]
    exact fin Fg true false (by rw [gv, d1]; rfl) (by rw [ys, k1]; simp)
  have d1 : decide (c.kind = 1) = false := decide_eq_false k1
  by_cases k8 : c.kind = 8
  · have d8 : decide (c.kind = 8) = true := decide_eq_true k8
    simp only [S.model_Model_done_c1_eq, S.model_Model_done_c1_S, S.model_Model_done_c1_n_eq, S.model_Model_done_c3_eq, S.model_Model_done_c3_S, S.model_Model_done_c3_n_eq, S.model_Model_done_c3_n, ptrAt_ptr, obind, ld1_get', ldB_cells, List.getElem?_cons_zero, Nat.add_zero, one_int, hcl, d1, d8]
    exact fin Fg true false (by rw [gv, d1, d8]; rfl) (by rw [ys, k8]; simp)
  have d8 : decide (c.kind = 8) = false := decide_eq_false k8
  by_cases k9 : c.kind = 9
  · have d9 : decide (c.kind = 9) = true := decide_eq_true k9
    simp only [S.model_Model_done_c1_eq, S.model_Model_done_c1_S, S.model_Model_done_c1_n_eq, S.model_Model_done_c3_eq, S.model_Model_done_c3_S, S.model_Model_done_c3_n_eq, S.model_Model_done_c3_n, ptrAt_ptr, obind, ld1_get', ldB_cells, List.getElem?_cons_zero, Nat.add_zero, one_int, hcl, d1, d8, d9]
    exact fin Fg true false (by rw [gv, d1, d8, d9]; rfl) (by rw [ys, k9]; simp)
  have d9 : decide (c.kind = 9) = false := decide_eq_false k9
  by_cases k2 : c.kind = 2
  · have d2 : decide (c.kind = 2) = true := decide_eq_true k2
    obtain ⟨nn, en, hF⟩ := I.flAt (E.node (by omega) (by omega))
    obtain ⟨h0, h1⟩ := E.fld (by omega) (by omega)
    obtain ⟨j, ej, hj⟩ := RSt.fatAt h0 h1
    obtain ⟨b, y, ix, ly, Y⟩ := D.A.M.rows.at hF
    obtain ⟨b3, o3, i3, l3⟩ := Y.at hj
    rw [← ej] at i3
    rw [← en] at ix
    simp only [S.model_Model_done_c1_eq, S.model_Model_done_c1_S, S.model_Model_done_c1_n_eq, S.model_Model_done_c3_eq, S.model_Model_done_c3_S, S.model_Model_done_c3_n_eq, S.model_Model_done_c3_n, nilc_ptr, ptrAt_ptr, obind, ld1_get', ldB_cells, List.getElem?_cons_zero, List.getElem?_cons_succ, Nat.zero_add, Nat.add_zero, one_int, asI_int, nilc_ptr, hcl, d1, d8, d9, d2, l6, ix, ly, i3, l3]
    exact fin Fg _ false (by rw [gv, d1, d8, d9, d2]; rfl) (by rw [ys, k2]; simp)
  have d2 : decide (c.kind = 2) = false := decide_eq_false k2
  have gv0 : givesR r w c = false := by rw [gv, d1, d8, d9, d2]; rfl
  by_cases k5 : c.kind = 5
  · have d5 : decide (c.kind = 5) = true := decide_eq_true k5
    obtain ⟨h0, h1⟩ := E.fld (by omega) (by omega)
    obtain ⟨⟨v, g1⟩, e1, rfl, F1⟩ := mdMatches_spec D.A.ok D.A.M I (c := c) w0 w1 (E.node (by omega) (by omega)) ⟨h0, h1⟩
    dsimp only at F1
    unfold CallR.cs at e1
    simp only [S.model_Model_done_c1_eq, S.model_Model_done_c1_S, S.model_Model_done_c1_n_eq, S.model_Model_done_c3_eq, S.model_Model_done_c3_S, S.model_Model_done_c3_n_eq, S.model_Model_done_c3_n, ptrAt_ptr, obind, ld1_get', ldN_get', ldB_cells, ldNB_cells, List.getElem?_cons_zero, Nat.zero_add, Nat.add_zero, Nat.reduceAdd, Nat.reduceLeDiff, one_int, List.length_cons, List.length_nil, decide_true, List.take_succ_cons, List.take_zero, List.drop_zero, W_call, hcl, d1, d8, d9, d2, d5, e1]
    exact fin F1 false _ gv0 (by rw [ys, d5, k5]; simp)
  have d5 : decide (c.kind = 5) = false := decide_eq_false k5
  by_cases k7 : c.kind = 7
  · have d7 : decide (c.kind = 7) = true := decide_eq_true k7
    simp only [S.model_Model_done_c1_eq, S.model_Model_done_c1_S, S.model_Model_done_c1_n_eq, S.model_Model_done_c3_eq, S.model_Model_done_c3_S, S.model_Model_done_c3_n_eq, S.model_Model_done_c3_n, ptrAt_ptr, obind, ld1_get', ldB_cells, List.getElem?_cons_zero, List.getElem?_cons_succ, Nat.zero_add, Nat.add_zero, one_int, asI_int, W_call, hcl, d1, d8, d9, d2, d5, d7, n2]
    exact fin Fg false _ gv0 (by rw [ys, d5, d7]; rfl)
  · have d7 : decide (c.kind = 7) = false := decide_eq_false k7
    simp only [S.model_Model_done_c1_eq, S.model_Model_done_c1_S, S.model_Model_done_c1_n_eq, S.model_Model_done_c3_eq, S.model_Model_done_c3_S, S.model_Model_done_c3_n_eq, S.model_Model_done_c3_n, ptrAt_ptr, obind, ld1_get', ldB_cells, List.getElem?_cons_zero, Nat.add_zero, one_int, hcl, d1, d8, d9, d2, d5, d7]
    exact fin Fg false false gv0 (by rw [ys, d5, d7]; rfl)

theorem eqV_ans (e h e' h' : Int) (y y' : Bool) : eqV (.agg [(0, .int), (1, .int), (2, .bool)]) (.agg [.int .i64 e, .int .u64 h, .bool y]) (.agg [.int .i64 e', .int .u64 h', .bool y']) = some (decide (e = e') && decide (h = h') && (y == y')) := by
  simp only [eqV, eqOffs, List.getElem?_cons_zero, List.getElem?_cons_succ, eqCell, decide_true]
  cases decide (e = e') <;> cases decide (h = h') <;> cases (y == y') <;> rfl

theorem mdDoes1_spec {h g : H} {q pa : Nat} (F0 : Fr [] h g) (D : DnAt k B r c a g q pa) (I : RIn k r) (Bs : r.small) (ka : k.a ≤ 8) (hu : U64 a.h) {w : Int} (w0 : 0 ≤ w) (w1 : w < k.c) (fl : Bool) (hfl : errR k r w c = 0 → fl = (decide (c.kind = 1) || (decide (3 ≤ c.kind) && decide (c.kind ≤ 5)))) :
    Ev (S.model_Model_Does_c1_n W (.ptr B.b 0) w (.ptr q 0) (.ptr pa 0) (errR k r w c) fl g) (MdOut k B h (okR k r w c a) (doR k r w c a)) := by
  have hcl := D.A.cl
  have han := D.an
  have keep : ∀ {g1 : H}, Fr [] g g1 → ∀ b, okR k r w c a = b → doR k r w c a = r → MdOut k B h (okR k r w c a) (doR k r w c a) (.bool b, g1) := fun F b e1 e2 => by
    rw [e1, e2]
    exact (MdOut.same D.A.ok D.A.M F b).up F0
  have Fg : Fr [] g g := .refl D.A.ok
  by_cases he : errR k r w c = 0
  rotate_left
  · have de : decide (errR k r w c = 0) = false := decide_eq_false he
    have hok : okR k r w c a = (decide (a.err = errR k r w c) && decide (a.h = 0) && (a.yes == false)) := by
      unfold okR
      rw [if_neg (by omega), if_pos he]
      cases a.yes <;> rfl
    have hd : doR k r w c a = r := by
      unfold doR actsR
      rw [de]; simp
    have hq := eqV_ans a.err a.h (errR k r w c) 0 a.yes false
    simp only [S.model_Model_Does_c1_n, de, Bool.not_false, ldN_get', han, ldNB_cells, List.length_cons, List.length_nil, Nat.zero_add, Nat.reduceAdd, Nat.le_refl, decide_true, List.drop_zero, List.take_succ_cons, List.take_zero, obind, hq]
    exact Ev.some (keep Fg _ hok hd)
  have de : decide (errR k r w c = 0) = true := decide_eq_true he
  have hfl := hfl he
  have E := errOk he
  have dz : decide ((0 : Int) = 0) = true := rfl
  rw [he]
  by_cases h4 : a.err = 4
  · have d4 : decide (a.err = 4) = true := decide_eq_true h4
    have hok : okR k r w c a = (mayFullR r w c && decide (a.h = 0) && !a.yes) := by
      unfold okR
      rw [if_neg (by omega), if_neg (by rw [he]; simp), if_pos h4]
    have hd : doR k r w c a = r := by
      unfold doR actsR
      rw [h4]; simp
    have hm : mayFullR r w c = (decide (c.kind = 1) || decide (c.kind = 3) || decide (c.kind = 4) || (decide (c.kind = 5) && matchR r w c)) := rfl
    have hq := eqV_ans a.err a.h 4 0 a.yes false
    rw [d4, Bool.true_and] at hq
    have hyy : (a.yes == false) = !a.yes := by cases a.yes <;> rfl
    rw [hyy] at hq
    simp only [eqV] at hq
    have hq1 : (decide (a.h = 0) && !a.yes) = true ∨ (decide (a.h = 0) && !a.yes) = false := by cases (decide (a.h = 0) && !a.yes) <;> simp
    cases hf : fl with
    | false =>
      have hm0 : mayFullR r w c = false := by
        rw [hf] at hfl
        have h1 : decide (c.kind = 1) = false := by
          cases h : decide (c.kind = 1) with
          | false => rfl
          | true => rw [h] at hfl; cases hfl
        have hn1 := of_decide_eq_false h1
        rw [h1, Bool.false_or] at hfl
        have h2 : ¬ (3 ≤ c.kind ∧ c.kind ≤ 5) := fun q => by
          rw [decide_eq_true q.1, decide_eq_true q.2] at hfl; cases hfl
        rw [hm, h1, decide_eq_false (show ¬ c.kind = 3 by omega), decide_eq_false (show ¬ c.kind = 4 by omega), decide_eq_false (show ¬ c.kind = 5 by omega)]; rfl
      simp only [S.model_Model_Does_c1_n, ptrAt_ptr, obind, ld1_get', ldN_get', ldB_cells, ldNB_cells, List.getElem?_cons_zero, Nat.zero_add, Nat.add_zero, Nat.reduceAdd, Nat.reduceLeDiff, one_int, asI_int, List.length_cons, List.length_nil, Bool.not_true, decide_true, List.take_succ_cons, List.take_zero, List.drop_zero, W_call, han, d4]
      exact Ev.some (keep Fg false (by rw [hok, hm0]; rfl) hd)
    | true =>
      rcases hq1 with e | e
      rotate_left
      · rw [e] at hq
        simp only [S.model_Model_Does_c1_n, ptrAt_ptr, obind, ld1_get', ldN_get', ldB_cells, ldNB_cells, List.getElem?_cons_zero, Nat.zero_add, Nat.add_zero, Nat.reduceAdd, Nat.reduceLeDiff, one_int, asI_int, List.length_cons, List.length_nil, Bool.not_true, decide_true, List.take_succ_cons, List.take_zero, List.drop_zero, eqV, W_call, han, d4]
        rw [bind_congr1 hq, obind]
        exact Ev.some (keep Fg false (by rw [hok, Bool.and_assoc, e, Bool.and_false]) hd)
      · rw [e] at hq
        by_cases k5 : c.kind = 5
        · have d5 : decide (c.kind = 5) = true := decide_eq_true k5
          obtain ⟨h0, h1⟩ := E.fld (by omega) (by omega)
          obtain ⟨⟨v, g1⟩, e1, rfl, F1⟩ := mdMatches_spec D.A.ok D.A.M I (c := c) w0 w1 (E.node (by omega) (by omega)) ⟨h0, h1⟩
          dsimp only at F1
          unfold CallR.cs at e1
          simp only [S.model_Model_Does_c1_n, ptrAt_ptr, obind, ld1_get', ldN_get', ldB_cells, ldNB_cells, List.getElem?_cons_zero, Nat.zero_add, Nat.add_zero, Nat.reduceAdd, Nat.reduceLeDiff, one_int, asI_int, List.length_cons, List.length_nil, Bool.not_true, decide_true, List.take_succ_cons, List.take_zero, List.drop_zero, eqV, W_call, han, d4]
          rw [bind_congr1 hq, obind]
          simp only [obind, ldB_cells, ldNB_cells, List.getElem?_cons_zero, Nat.zero_add, Nat.reduceAdd, Nat.reduceLeDiff, one_int, asI_int, asB_bool, List.length_cons, List.length_nil, decide_true, List.take_succ_cons, List.take_zero, List.drop_zero, hcl, d5, e1, Bool.not_not]
          exact Ev.some (keep F1 _ (by rw [hok, Bool.and_assoc, e, Bool.and_true, hm, k5]; simp) hd)
        · have d5 : decide (c.kind = 5) = false := decide_eq_false k5
          have hm1 : mayFullR r w c = true := by
            rw [hf] at hfl
            by_cases k1 : c.kind = 1
            · rw [hm, decide_eq_true k1]; rfl
            · rw [decide_eq_false k1, Bool.false_or] at hfl
              have h2 : 3 ≤ c.kind ∧ c.kind ≤ 5 := by simpa using hfl.symm
              by_cases k3 : c.kind = 3
              · rw [hm, decide_eq_true k3]; simp
              · have k4 : c.kind = 4 := by omega
                rw [hm, decide_eq_true k4]; simp
          simp only [S.model_Model_Does_c1_n, ptrAt_ptr, obind, ld1_get', ldN_get', ldB_cells, ldNB_cells, List.getElem?_cons_zero, Nat.zero_add, Nat.add_zero, Nat.reduceAdd, Nat.reduceLeDiff, one_int, asI_int, List.length_cons, List.length_nil, Bool.not_true, decide_true, List.take_succ_cons, List.take_zero, List.drop_zero, eqV, W_call, han, d4]
          rw [bind_congr1 hq, obind]
          simp only [obind, ldB_cells, ldNB_cells, List.getElem?_cons_zero, Nat.zero_add, Nat.reduceAdd, Nat.reduceLeDiff, one_int, asI_int, List.length_cons, List.length_nil, decide_true, List.take_succ_cons, List.take_zero, List.drop_zero, hcl, d5]
          exact Ev.some (keep Fg true (by rw [hok, Bool.and_assoc, e, hm1]; rfl) hd)
  · have d4 : decide (a.err = 4) = false := decide_eq_false h4
    by_cases h0 : a.err = 0
    · have d0 : decide (a.err = 0) = true := decide_eq_true h0
      obtain ⟨⟨v, g1⟩, e1, O⟩ := mdDone_spec D.A.ok D.A.M I Bs ka hu (c := c) w0 w1 he h0
      obtain ⟨hv, F1, B', M', E'⟩ := O
      dsimp only at hv F1 M'
      subst hv
      unfold CallR.cs AnsR.cs at e1
      simp only [S.model_Model_Does_c1_n, ptrAt_ptr, obind, ld1_get', ldN_get', ldB_cells, ldNB_cells, List.getElem?_cons_zero, Nat.zero_add, Nat.add_zero, Nat.reduceAdd, Nat.reduceLeDiff, one_int, asI_int, List.length_cons, List.length_nil, Bool.not_true, decide_true, List.take_succ_cons, List.take_zero, List.drop_zero, eqV, W_call, han, hcl, d4, d0, e1]
      exact Ev.some (MdOut.up F0 ⟨rfl, F1, B', M', E'⟩)
    · have d0 : decide (a.err = 0) = false := decide_eq_false h0
      have hok : okR k r w c a = false := by
        unfold okR
        rw [if_neg (by omega), if_neg (by rw [he]; simp), if_neg h4, d0]; rfl
      have hd : doR k r w c a = r := by unfold doR actsR; rw [hok]; rfl
      simp only [S.model_Model_Does_c1_n, ptrAt_ptr, obind, ld1_get', ldN_get', ldB_cells, ldNB_cells, List.getElem?_cons_zero, Nat.zero_add, Nat.add_zero, Nat.reduceAdd, Nat.reduceLeDiff, one_int, asI_int, List.length_cons, List.length_nil, Bool.not_true, decide_true, List.take_succ_cons, List.take_zero, List.drop_zero, eqV, W_call, han, d4, d0]
      exact Ev.some (keep Fg false hok hd)

theorem mdDoes_spec {h : H} (ok : h.ok) (M : MdAt k h.get B r) (I : RIn k r) (Bs : r.small) (ka : k.a ≤ 8) (hu : U64 a.h) (w : Int) :
    Ev (C 103 [.ptr B.b 0, .int .i64 w, .agg c.cs, .agg a.cs] h) (MdOut k B h (okR k r w c a) (doR k r w c a)) := by
  refine call_ev (af := F.model_Model_Does) (by kernel_rfl) rfl ?_
  have hcs : V.agg c.cs = .agg [.int .i64 c.kind, .int .i64 c.n, .int .u64 c.h, .int .u64 c.x, .int .u64 c.y] := rfl
  have has : V.agg a.cs = .agg [.int .i64 a.err, .int .u64 a.h, .bool a.yes] := rfl
  rw [hcs, has, S.model_Model_Does_eq]
  simp only [S.model_Model_Does]
  have F0 : Fr [] h ((h.new (.cells [.int .i64 c.kind, .int .i64 c.n, .int .u64 c.h, .int .u64 c.x, .int .u64 c.y] .rw)).new (.cells [.int .i64 a.err, .int .u64 a.h, .bool a.yes] .rw)) := ((Fr.refl ok).new _).new _
  have hlt := M.lt ok
  have D : DnAt k B r c a ((h.new (.cells [.int .i64 c.kind, .int .i64 c.n, .int .u64 c.h, .int .u64 c.x, .int .u64 c.y] .rw)).new (.cells [.int .i64 a.err, .int .u64 a.h, .bool a.yes] .rw)) h.next (h.next + 1) :=
    ⟨⟨F0.ok, M.fr0 ok F0, by rw [get_new_ne (Nat.ne_of_lt (Nat.lt_succ_self _)), get_new_self]⟩, get_new_self _ _, fun q => by have := hlt _ q; omega, fun q => by have := hlt _ q; omega⟩
  have hn1 : (h.new (.cells [.int .i64 c.kind, .int .i64 c.n, .int .u64 c.h, .int .u64 c.x, .int .u64 c.y] .rw)).next = h.next + 1 := rfl
  rw [hn1]
  generalize ((h.new (.cells [.int .i64 c.kind, .int .i64 c.n, .int .u64 c.h, .int .u64 c.x, .int .u64 c.y] .rw)).new (.cells [.int .i64 a.err, .int .u64 a.h, .bool a.yes] .rw)) = g at D F0 ⊢
  generalize h.next + 1 = pa at D ⊢
  generalize h.next = q at D ⊢
  have hc := mdClient_spec D.A.M w
  by_cases hw : 0 ≤ w ∧ w < k.c
  rotate_left
  · have hcf : (decide (0 ≤ w) && decide (w < k.c)) = false := by
      rcases Classical.em (0 ≤ w) with h | h
      · rw [decide_eq_false (fun q => hw ⟨h, q⟩), Bool.and_false]
      · rw [decide_eq_false h, Bool.false_and]
    rw [hcf] at hc
    have hok : okR k r w c a = false := by unfold okR; rw [if_pos (by omega)]
    have hd : doR k r w c a = r := by unfold doR actsR; rw [hok]; rfl
    rw [hok, hd]
    simp only [obind, asB_bool, Bool.not_false, W_call, hc]
    exact Ev.some (MdOut.same ok M F0 false)
  obtain ⟨w0, w1⟩ := hw
  rw [decide_eq_true w0, decide_eq_true w1] at hc
  have hcl := D.A.cl
  simp only [obind, asB_bool, Bool.not_true, Bool.and_self, W_call, hc]
  rw [S.model_Model_Does_c1_eq]
  simp only [S.model_Model_Does_c1_S]
  have rest : ∀ {g1 : H}, Fr [] g g1 → ∀ (e : Int) (fl : Bool), errR k r w c = e → (errR k r w c = 0 → fl = (decide (c.kind = 1) || (decide (3 ≤ c.kind) && decide (c.kind ≤ 5)))) → Ev (S.model_Model_Does_c1_n W (.ptr B.b 0) w (.ptr q 0) (.ptr pa 0) e fl g1) (MdOut k B h (okR k r w c a) (doR k r w c a)) := fun F1 e fl he hfl => by
    subst he
    exact mdDoes1_spec (F0.trans' F1) (D.fr F1) I Bs ka hu w0 w1 fl hfl
  have Fg : Fr [] g g := .refl D.A.ok
  by_cases k0 : c.kind < 1 ∨ 10 < c.kind
  · have he : errR k r w c = 8 := by rw [errR_eq, if_pos k0]
    have hfl : errR k r w c = 0 → false = (decide (c.kind = 1) || (decide (3 ≤ c.kind) && decide (c.kind ≤ 5))) := fun q => by rw [he] at q; cases q
    by_cases k1 : c.kind < 1
    · have d0 : decide (c.kind < 1) = true := decide_eq_true k1
      simp only [S.model_Model_Does_c1_n_eq, S.model_Model_Does_c3_eq, S.model_Model_Does_c3_S, S.model_Model_Does_c3_n_eq, S.model_Model_Does_c3_n, ptrAt_ptr, obind, ld1_get', ldB_cells, List.getElem?_cons_zero, Nat.add_zero, one_int, asI_int, hcl, d0]
      exact rest Fg 8 false he hfl
    · have d0 : decide (c.kind < 1) = false := decide_eq_false k1
      have d1 : decide (10 < c.kind) = true := decide_eq_true (by omega)
      simp only [S.model_Model_Does_c1_n_eq, S.model_Model_Does_c3_eq, S.model_Model_Does_c3_S, S.model_Model_Does_c3_n_eq, S.model_Model_Does_c3_n, ptrAt_ptr, obind, ld1_get', ldB_cells, List.getElem?_cons_zero, Nat.add_zero, one_int, asI_int, hcl, d0, d1]
      exact rest Fg 8 false he hfl
  have d0 : decide (c.kind < 1) = false := decide_eq_false (by omega)
  have d10 : decide (10 < c.kind) = false := decide_eq_false (by omega)
  by_cases k1 : c.kind = 1
  · have d1 : decide (c.kind = 1) = true := decide_eq_true k1
    obtain ⟨⟨v, g1⟩, e1, rfl, F1⟩ := mdMakes_spec (c := c) D.A.ok D.A.M w0 w1
    dsimp only at F1
    unfold CallR.cs at e1
    have he : errR k r w c = (if c.n < 0 ∨ k.a < c.n then 1 else if (r.held w : Int) < k.hd then 0 else 5) := by rw [errR_eq, if_neg k0, if_pos k1]
    simp only [S.model_Model_Does_c1_n_eq, S.model_Model_Does_c3_eq, S.model_Model_Does_c3_S, S.model_Model_Does_c3_n_eq, S.model_Model_Does_c3_n, ptrAt_ptr, obind, ld1_get', ldN_get', ldB_cells, ldNB_cells, List.getElem?_cons_zero, Nat.zero_add, Nat.add_zero, Nat.reduceAdd, Nat.reduceLeDiff, one_int, asI_int, List.length_cons, List.length_nil, decide_true, List.take_succ_cons, List.take_zero, List.drop_zero, W_call, hcl, d0, d10, d1, e1]
    exact rest F1 _ true he fun _ => by rw [d1]; rfl
  have d1 : decide (c.kind = 1) = false := decide_eq_false k1
  have hwk := opWalk_spec c.kind g
  by_cases k9 : c.kind = 9 ∨ c.kind = 10
  · have hwt : (decide (c.kind = 9) || decide (c.kind = 10)) = true := by simpa using k9
    rw [hwt] at hwk
    obtain ⟨⟨v, g1⟩, e1, rfl, F1⟩ := mdGoes_spec (c := c) D.A.ok D.A.M w0 w1 k9
    dsimp only at F1
    unfold CallR.cs at e1
    have he : errR k r w c = err6 k r w c := by rw [errR_eq, if_neg k0, if_neg k1, if_pos k9]
    simp only [S.model_Model_Does_c1_n_eq, S.model_Model_Does_c3_eq, S.model_Model_Does_c3_S, S.model_Model_Does_c3_n_eq, S.model_Model_Does_c3_n, ptrAt_ptr, obind, ld1_get', ldN_get', ldB_cells, ldNB_cells, List.getElem?_cons_zero, Nat.zero_add, Nat.add_zero, Nat.reduceAdd, Nat.reduceLeDiff, one_int, asI_int, asB_bool, List.length_cons, List.length_nil, decide_true, List.take_succ_cons, List.take_zero, List.drop_zero, W_call, hcl, d0, d10, d1, hwk, e1]
    exact rest F1 _ false he fun _ => by rw [d1, decide_eq_false (show ¬ c.kind ≤ 5 by omega)]; simp
  · have hwt : (decide (c.kind = 9) || decide (c.kind = 10)) = false := by
      rw [decide_eq_false (fun q => k9 (.inl q)), decide_eq_false (fun q => k9 (.inr q))]; rfl
    rw [hwt] at hwk
    obtain ⟨⟨v, g1⟩, e1, rfl, F1⟩ := mdAsks_spec (c := c) D.A.ok D.A.M I w0 w1
    dsimp only at F1
    unfold CallR.cs at e1
    have hcl1 := F1.get D.A.ok hcl (by simp)
    have hwr := opWrites_spec c.kind g1
    have he : errR k r w c = err9 k r w c := by rw [errR_eq, if_neg k0, if_neg k1, if_neg k9]
    simp only [S.model_Model_Does_c1_n_eq, S.model_Model_Does_c3_eq, S.model_Model_Does_c3_S, S.model_Model_Does_c3_n_eq, S.model_Model_Does_c3_n, ptrAt_ptr, obind, ld1_get', ldN_get', ldB_cells, ldNB_cells, List.getElem?_cons_zero, Nat.zero_add, Nat.add_zero, Nat.reduceAdd, Nat.reduceLeDiff, one_int, V.beq, ckB_some, asI_int, asB_bool, List.length_cons, List.length_nil, Bool.and_self, decide_true, List.take_succ_cons, List.take_zero, List.drop_zero, W_call, hcl, d0, d10, d1, hwk, e1, hcl1, hwr]
    exact rest F1 _ _ he fun _ => by rw [d1, Bool.false_or]
end
end Wm
end

section
/- ModelNew, of my machine. -/
namespace Wm

set_option maxRecDepth 100000 in
theorem awake17_run : run prog meth 200 60 98 [] .empty = some (.bool true, .empty) := by kernel_rfl

theorem awake17 (h : H) : C 98 [] h = some (.bool true, h) := call_closed_run (af := F.withylaw17_awake) (by kernel_rfl) rfl awake17_run h

end Wm
end

section
/- A new model; a new state. -/
namespace Wm
attribute [local congr] bind_congr1
attribute [local irreducible] wr

/-- Nothing yet. -/
def rst0 (k : Cfg) : RSt := ⟨[], [], List.replicate k.C 0, List.replicate k.C [], []⟩
theorem rst0_in (k : Cfg) : RIn k (rst0 k) := by
  refine ⟨List.length_replicate, List.length_replicate, by simp [rst0], by simp [rst0], List.Pairwise.nil, fun l hl n hn => ?_, fun h hh => ?_, by simp [rst0]⟩
  · have := (List.mem_replicate.mp hl).2
    subst this; cases hn
  · have := (List.mem_replicate.mp hh).2
    subst this; exact ⟨by decide, by decide⟩
theorem rst0_sz (k : Cfg) : RSz k 0 (rst0 k) := ⟨Nat.le_refl _, by simp [rst0], Nat.le_refl _, Nat.le_refl _⟩
theorem walkCs_zero (n : Nat) : walkCs (List.replicate n 0) (List.replicate n .nilsl) = repl [.int .u64 0, .nilsl] n := by
  induction n with
  | zero => rfl
  | succ n ih => simp only [List.replicate_succ, walkCs, repl, ih, List.cons_append, List.nil_append]
theorem rep_at {α : Type} {n i : Nat} {x y : α} (h : (List.replicate n x)[i]? = some y) : y = x := by
  have := List.mem_of_getElem? h
  exact (List.mem_replicate.mp this).2

structure NwAt (k : Cfg) (h g : H) (b bw gm : Nat) (x : V) (ms : List Nat) : Prop where
  fr : Fr [] h g
  own : g.get b = some (.cells [.int .i64 k.s, .int .i64 k.a, .int .i64 k.c, .int .i64 k.hd, .int .i64 k.g, .int .i64 k.st, .nilsl, x, .sl bw 0 k.C (.ex k.C), .map gm] .rw)
  w : g.get bw = some (.cells (repl [.int .u64 0, .nilsl] k.C) .rw)
  gv : g.get gm = some (.map [])
  lo : h.next ≤ bw ∧ bw < gm ∧ gm < b
  gx : Grown g.get x 1 (ms.map .map)
  xb : ∀ a ∈ x.blk, b < a
  ml : ∀ m ∈ ms, b < m ∧ g.get m = some (.map []) ∧ m ∉ x.blk
  nd : ms.Nodup

theorem mdNew_spec {k : Cfg} (hr : k.R = true) {h : H} (ok : h.ok) : Ev (C 96 [k.v] h) fun z => ∃ B, z.1 = .ptr B.b 0 ∧ Fr [] h z.2 ∧ MdAt k z.2.get B (rst0 k) ∧ (∀ x ∈ B.l, h.next ≤ x) ∧ B.nb = [] := by
  refine call_ev (af := F.model_New) (by kernel_rfl) rfl ?_
  have hv : k.v = .agg [.int .i64 k.s, .int .i64 k.a, .int .i64 k.c, .int .i64 k.hd, .int .i64 k.g, .int .i64 k.st] := rfl
  rw [hv, S.model_New_eq]
  simp only [S.model_New]
  have hB := Cfg.R_iff.mp hr
  have hC : (k.C : Int) = k.c := by unfold Cfg.C; omega
  have hC8 := (Cfg.bounds hr).2.2.1
  have hR := fun h => planRight_spec k.s k.a k.c k.hd k.g k.st h
  rw [show cfgR k.s k.a k.c k.hd k.g k.st = k.R from rfl, hr, show cfgV k.s k.a k.c k.hd k.g k.st = k.v from rfl, hv] at hR
  have F0 : Fr [] h (h.new (.cells [.int .i64 k.s, .int .i64 k.a, .int .i64 k.c, .int .i64 k.hd, .int .i64 k.g, .int .i64 k.st] .rw)) := (Fr.refl ok).new _
  have hp := get_new_self h (.cells [.int .i64 k.s, .int .i64 k.a, .int .i64 k.c, .int .i64 k.hd, .int .i64 k.g, .int .i64 k.st] .rw)
  have hn0 : (h.new (.cells [.int .i64 k.s, .int .i64 k.a, .int .i64 k.c, .int .i64 k.hd, .int .i64 k.g, .int .i64 k.st] .rw)).next = h.next + 1 := rfl
  generalize (h.new (.cells [.int .i64 k.s, .int .i64 k.a, .int .i64 k.c, .int .i64 k.hd, .int .i64 k.g, .int .i64 k.st] .rw)) = g at F0 hp hn0 ⊢
  have hmk := mkSl_ok (h := g) (e := 2) (b := 32) (z := [V.int .u64 0, .nilsl]) (l := k.c) (c := k.c) (by omega) (Int.le_refl _) (by omega) (by omega) rfl (by decide)
  rw [show k.c.toNat = k.C from rfl, hn0] at hmk
  have F1 : Fr [] g (g.new (.cells (repl [.int .u64 0, .nilsl] k.C) .rw)) := (Fr.refl F0.ok).new _
  have hw := get_new_self g (.cells (repl [.int .u64 0, .nilsl] k.C) .rw)
  have hn1 : (g.new (.cells (repl [.int .u64 0, .nilsl] k.C) .rw)).next = h.next + 2 := by rw [H.next_new, hn0]
  have hp1 := F1.get F0.ok hp (by simp)
  rw [hn0] at hw
  generalize (g.new (.cells (repl [.int .u64 0, .nilsl] k.C) .rw)) = g1 at F1 hmk hw hn1 hp1 ⊢
  have F2 : Fr [] g1 (g1.new (.map [])) := (Fr.refl F1.ok).new _
  have hgm := get_new_self g1 (.map [])
  have hn2 : (g1.new (.map [])).next = h.next + 3 := by rw [H.next_new, hn1]
  have hp2 := F2.get F1.ok hp1 (by simp)
  have hw2 := F2.get F1.ok hw (by simp)
  rw [hn1] at hgm
  have hld6 : g.ldN 6 (.ptr h.next 0) = some (.agg [.int .i64 k.s, .int .i64 k.a, .int .i64 k.c, .int .i64 k.hd, .int .i64 k.g, .int .i64 k.st]) := by rw [ldN_get hp (by simp)]; rfl
  have hld2 : g.ld1 (.ptr h.next 2) = some (.int .i64 k.c) := ld1_get hp rfl rfl
  have ne1 : ∀ v : V, (asI .i64 (.int .i64 k.c)) = some k.c := fun _ => asI_int _ _
  have hfill : fill [.int .i64 0, .int .i64 0, .int .i64 0, .int .i64 0, .int .i64 0, .int .i64 0, .nilsl, .nilsl, .nilsl, .nilmap] [] [(0, 6, .c (.agg [.int .i64 k.s, .int .i64 k.a, .int .i64 k.c, .int .i64 k.hd, .int .i64 k.g, .int .i64 k.st])), (8, 1, .c (.sl (h.next + 1) 0 k.C (.ex k.C))), (9, 1, .c (.map (h.next + 2)))] = some [.int .i64 k.s, .int .i64 k.a, .int .i64 k.c, .int .i64 k.hd, .int .i64 k.g, .int .i64 k.st, .nilsl, .nilsl, .sl (h.next + 1) 0 k.C (.ex k.C), .map (h.next + 2)] := rfl
  simp only [hld6, hR, hld2, obind, W_call, asB_bool, asI_int, Bool.not_true, hmk, hn1, hfill, box_agg]
  generalize hgg : (g1.new (.map [])) = g2 at F2 hgm hn2 hp2 hw2 ⊢
  have F3 : Fr [] g2 (g2.new (.cells [.int .i64 k.s, .int .i64 k.a, .int .i64 k.c, .int .i64 k.hd, .int .i64 k.g, .int .i64 k.st, .nilsl, .nilsl, .sl (h.next + 1) 0 k.C (.ex k.C), .map (h.next + 2)] .rw)) := (Fr.refl F2.ok).new _
  have hb3 := get_new_self g2 (.cells [.int .i64 k.s, .int .i64 k.a, .int .i64 k.c, .int .i64 k.hd, .int .i64 k.g, .int .i64 k.st, .nilsl, .nilsl, .sl (h.next + 1) 0 k.C (.ex k.C), .map (h.next + 2)] .rw)
  have hp3 := F3.get F2.ok hp2 (by simp)
  have hw3 := F3.get F2.ok hw2 (by simp)
  have hg3 := F3.get F2.ok hgm (by simp)
  rw [hn2] at hb3
  have hld3 : (g2.new (.cells [.int .i64 k.s, .int .i64 k.a, .int .i64 k.c, .int .i64 k.hd, .int .i64 k.g, .int .i64 k.st, .nilsl, .nilsl, .sl (h.next + 1) 0 k.C (.ex k.C), .map (h.next + 2)] .rw)).ld1 (.ptr h.next 2) = some (.int .i64 k.c) := ld1_get hp3 rfl rfl
  rw [hn2]
  simp only [hld3, obind]
  have F03 : Fr [] h (g2.new (.cells [.int .i64 k.s, .int .i64 k.a, .int .i64 k.c, .int .i64 k.hd, .int .i64 k.g, .int .i64 k.st, .nilsl, .nilsl, .sl (h.next + 1) 0 k.C (.ex k.C), .map (h.next + 2)] .rw)) := ((F0.trans' F1).trans' F2).trans' F3
  generalize (g2.new (.cells [.int .i64 k.s, .int .i64 k.a, .int .i64 k.c, .int .i64 k.hd, .int .i64 k.g, .int .i64 k.st, .nilsl, .nilsl, .sl (h.next + 1) 0 k.C (.ex k.C), .map (h.next + 2)] .rw)) = g3 at F03 hb3 hw3 hg3 ⊢
  have N0 : NwAt k h g3 (h.next + 3) (h.next + 1) (h.next + 2) .nilsl [] := ⟨F03, hb3, hw3, hg3, ⟨by omega, by omega, by omega⟩, Grown.nil _ _, by simp [V.blk], by simp, List.nodup_nil⟩
  generalize h.next + 3 = b at N0 ⊢
  generalize h.next + 1 = bw at N0
  generalize h.next + 2 = gm at N0
  refine loop_ev (α := Nat) (fun i => S.model_New_c1_E (.ptr b 0) (.int .i64 k.c) (.int .i64 (i : Nat)))
    (fun i g' => i ≤ k.C ∧ ∃ x ms, NwAt k h g' b bw gm x ms ∧ ms.length = i) (fun i _ => k.C - i)
    (fun z => z.1 = .exit 0 ∧ z.2.1 = S.model_New_c1_O (.ptr b 0) ∧ ∃ x ms, NwAt k h z.2.2 b bw gm x ms ∧ ms.length = k.C) 0 rfl ⟨Nat.zero_le _, .nilsl, [], N0, rfl⟩ ?_ ?_
  rotate_left
  · rintro ⟨_, _, g'⟩ ⟨rfl, rfl, x, ms, N, hl⟩
    show Ev (S.model_New_K2 W (.exit 0) _ _) _
    rw [S.model_New_c1_e0_eq]
    dsimp only at N
    obtain ⟨bh, hx, hbh⟩ : ∃ bh, x = .sl bh 0 k.C (.op 1) ∧ g'.get bh = some (.cells (ms.map .map) (.gr 1)) := by
      obtain ⟨_, h0⟩ | ⟨bh, n, hx, hn, hb⟩ := N.gx
      · have := congrArg List.length h0
        rw [List.length_map, hl] at this
        simp at this; omega
      · rw [List.length_map, hl, Nat.mul_one] at hn
        rw [← hn] at hx
        exact ⟨bh, hx, hb⟩
    subst hx
    have hbx := N.xb bh (by simp [V.blk])
    have hlo := N.lo
    have hml := N.ml
    refine Ev.some ⟨⟨b, .nilsl, [], [], bh, ms, bw, List.replicate k.C .nilsl, gm, true⟩, rfl, N.fr, ?_, ?_, ?_⟩
    · refine ⟨?_, ?_, N.own, Grown.nil _ _, ⟨rfl, rfl⟩, by simp, hbh, hl, fun i m hm => (hml m (List.mem_of_getElem? hm)).2.1, ?_, ⟨List.length_replicate, List.length_replicate, List.length_replicate⟩, fun i v l h1 h2 => ?_, N.gv⟩
      · show (b :: bh :: bw :: gm :: (ms ++ (V.nilsl.blk ++ []))).Nodup
        have e : V.nilsl.blk ++ ([] : List Nat) = [] := rfl
        rw [e, List.append_nil, List.nodup_cons, List.nodup_cons, List.nodup_cons, List.nodup_cons]
        refine ⟨fun q => ?_, fun q => ?_, fun q => ?_, fun q => ?_, N.nd⟩
        · simp only [List.mem_cons] at q
          rcases q with q | q | q | q
          · omega
          · omega
          · omega
          · have := (hml b q).1; omega
        · simp only [List.mem_cons] at q
          rcases q with q | q | q
          · omega
          · omega
          · exact (hml bh q).2.2 (by simp [V.blk])
        · simp only [List.mem_cons] at q
          rcases q with q | q
          · omega
          · have := (hml bw q).1; omega
        · have := (hml gm q).1; omega
      · intro y hy
        have : y ∈ ((List.replicate k.C V.nilsl).map V.blk).flatten := hy
        rw [List.map_replicate] at this
        obtain ⟨lb, h1, h2⟩ := List.mem_flatten.mp this
        rw [(List.mem_replicate.mp h1).2] at h2
        cases h2
      · show g'.get bw = some (.cells (walkCs (List.replicate k.C 0) (List.replicate k.C .nilsl)) .rw)
        rw [walkCs_zero]; exact N.w
      · have e1 := rep_at h1
        have e2 := rep_at h2
        subst e1; subst e2
        exact .inl ⟨rfl, rfl⟩
    · intro y hy
      have hy' : y ∈ b :: bh :: bw :: gm :: (ms ++ (V.nilsl.blk ++ [])) := hy
      have e : V.nilsl.blk ++ ([] : List Nat) = [] := rfl
      rw [e, List.append_nil] at hy'
      simp only [List.mem_cons] at hy'
      rcases hy' with q | q | q | q | q
      · omega
      · omega
      · omega
      · omega
      · have := (hml y q).1; omega
    · show ((List.replicate k.C V.nilsl).map V.blk).flatten = []
      rw [List.map_replicate, show V.nilsl.blk = [] from rfl]
      have : ∀ n : Nat, (List.replicate n ([] : List Nat)).flatten = [] := fun n => by
        induction n with
        | zero => rfl
        | succ n ih => rw [List.replicate_succ, List.flatten_cons, ih]; rfl
      exact this _
  rintro i g' ⟨hi, x, ms, N, hl⟩
  rw [S.model_New_c1_eq]
  by_cases hic : i < k.C
  · have d : decide ((i : Int) < k.c) = true := decide_eq_true (by omega)
    have ox := N.gx.slv.one
    have hown := N.own
    have ok' := N.fr.ok
    have Fa : Fr [] g' (g'.new (.map [])) := (Fr.refl ok').new _
    have Fb : Fr [] (g'.new (.map [])) ((g'.new (.map [])).new (.cells [.map g'.next] .rw)) := (Fr.refl Fa.ok).new _
    have Fab := Fa.trans' Fb
    obtain ⟨x', g2', e2, F2', G2, hx', _⟩ := Grown.push Fb.ok (bytes := 8) (N.gx.fr ok' Fab (by simp)) (get_new_self (g'.new (.map [])) _) (e := 1) rfl rfl (by decide) ⟨by decide, by decide⟩ (by rw [List.length_map]; omega)
    have hnx : (g'.new (.map [])).next = g'.next + 1 := rfl
    rw [hnx] at e2
    have hbx : b ∉ x.blk := fun q => by have := N.xb _ q; omega
    have hown2 := F2'.get Fb.ok (Fab.get ok' hown (by simp)) hbx
    have ox' := G2.slv.one
    have ox2 := G2.slv.cells
    have hbl : b < g2'.next := F2'.ok.lt hown2
    have hxn : ∀ a ∈ x'.blk, g'.next ≤ a := fun a ha => Nat.le_trans Fab.le (hx' a ha)
    have hxn2 : ∀ a ∈ x'.blk, g'.next + 2 ≤ a := fun a ha => by have := hx' a ha; rw [H.next_new, H.next_new] at this; omega
    have hbl' : b < g'.next := ok'.lt hown
    have wi := mdl_i (i := i) (by omega)
    simp only [S.model_New_c1_S, nilc_ptr, ptrAt_ptr, obind, Option.map_some, ld1_get', st_get', ldB_cells, stB_cells, H.next_new, List.getElem?_cons_zero, List.getElem?_cons_succ, Nat.zero_add, Nat.reduceAdd, Nat.reduceLeDiff, List.length_cons, List.length_nil, Nat.beq_refl, List.all_cons, List.all_nil, Bool.not_true, Bool.or_self, Bool.and_self, decide_true, decide_false, splice, List.take_succ_cons, List.take_zero, List.drop_succ_cons, List.drop_zero, List.cons_append, List.nil_append, reduceCtorEq, nilc_ptr, d, hown, ox, e2, hown2, ox', ox2, wi]
    have keep : ∀ a, a < g'.next → a ≠ b → a ∉ x.blk → (g2'.put b (some (.cells [.int .i64 k.s, .int .i64 k.a, .int .i64 k.c, .int .i64 k.hd, .int .i64 k.g, .int .i64 k.st, .nilsl, x', .sl bw 0 k.C (.ex k.C), .map gm] .rw))).get a = g'.get a := fun a h1 h2 h3 => by
      rw [get_put_ne h2, F2'.same a (by have := Fab.le; omega) h3, Fab.same a h1 (by simp)]
    have hlo := N.lo
    have hnl : h.next ≤ b := by omega
    refine Ev.some (.inl ⟨i + 1, rfl, rfl, ⟨hic, x', ms ++ [g'.next], ⟨?_, get_put_self _ _ _, ?_, ?_, hlo, ?_, fun a ha => by have := hxn a ha; omega, fun m hm => ?_, ?_⟩, by rw [List.length_append, hl]; rfl⟩, Nat.sub_lt_sub_left hic (Nat.lt_succ_self i)⟩)
    · exact ((N.fr.trans' Fab).trans F2' (fun a ha => .inr (by have := N.xb a ha; omega))).put (.inr hnl) hbl _
    · rw [keep bw (ok'.lt N.w) (by omega) (fun q => by have := N.xb _ q; omega)]; exact N.w
    · rw [keep gm (ok'.lt N.gv) (by omega) (fun q => by have := N.xb _ q; omega)]; exact N.gv
    · rw [List.map_append]
      exact G2.congr fun a ha => get_put_ne (by have := hxn a ha; omega)
    · rcases List.mem_append.mp hm with q | q
      · obtain ⟨h1, h2, h3⟩ := N.ml m q
        exact ⟨h1, by rw [keep m (ok'.lt h2) (by omega) h3]; exact h2, fun q => by have := hxn _ q; have := ok'.lt h2; omega⟩
      · simp only [List.mem_singleton] at q
        subst q
        refine ⟨hbl', ?_, fun q => by have := hxn2 _ q; omega⟩
        have hnb : g'.next ∉ x.blk := fun q => by have := N.gx.lt ok' _ q; omega
        rw [get_put_ne (by omega), F2'.same _ (by have := Fb.le; rw [hnx] at this; omega) hnb, Fb.same _ (by rw [hnx]; omega) (by simp), get_new_self]
    · rw [List.nodup_append]
      refine ⟨N.nd, by simp, fun u hu v hv e => ?_⟩
      simp only [List.mem_singleton] at hv
      have := ok'.lt (N.ml u hu).2.1
      omega
  · have hie : i = k.C := by omega
    subst hie
    have d : decide (((k.C : Nat) : Int) < k.c) = false := decide_eq_false (by omega)
    simp only [S.model_New_c1_S, d]
    exact Ev.some (.inr ⟨by simp, rfl, rfl, x, ms, N, hl⟩)

def cfg17 : Cfg := ⟨4, 2, 2, 3, 9, 0⟩
theorem cfg17_R : cfg17.R = true := by decide
theorem config17_spec (h : H) : C 97 [] h = some (cfg17.v, h) := by
  refine call_closed (af := F.withylaw17_config) (by kernel_rfl) rfl (by rfl) (by rfl) h ?_
  rw [S.withylaw17_config_eq]
  refine Ev.some (r := (cfg17.v, _)) ?_
  rfl
end Wm
end

section
/- The program's model: a copy of it. -/
namespace Wm
attribute [local congr] bind_congr1
attribute [local irreducible] wr

/-- A slice whose cells were copied. -/
structure Clo (g g' : H) (e n : Nat) (cs : List V) (y : V) (q : Nat) : Prop where
  fr : Fr [] g g'
  sl : ∃ c k, y = .sl q 0 n c ∧ g'.get q = some (.cells cs k) ∧ ((c = .op e ∧ k = .gr e) ∨ (c = .ex 0 ∧ n = 0 ∧ k = .rw))
  nq : g.next ≤ q
theorem clone_any {g : H} (ok : g.ok) {e bytes n : Nat} {x : V} {cs : List V} (hx : lenSl x = some n) (hs : (g.new (.cells [] .rw)).slc e x = some cs) (h1 : cs.all V.one = true) (h2 : (n + n / 2 + 1000) * bytes ≤ 281474976710656) (he : 0 < e) (hb : 0 < bytes) (hl : cs.length = n * e) :
    ∃ y g' q, (g.new (.cells [] .rw)).append e bytes (.sl g.next 0 0 (.ex 0)) x = some (y, g') ∧ Clo g g' e n cs y q := by
  have z := slc_zero (e := e) (o := 0) (c := .ex 0) (get_new_self g (.cells [] .rw)) (by simp)
  cases n with
  | succ n =>
    refine ⟨_, _, _, app_new hx hs z h1 h2 he hb (Nat.succ_pos n), ((Fr.refl ok).new _).new _, ⟨_, _, rfl, get_new_self _ _, .inl ⟨rfl, rfl⟩⟩, Nat.le_succ _⟩
  | zero =>
    have hcs : cs = [] := List.eq_nil_of_length_eq_zero (by simpa using hl)
    subst hcs
    have h3 : lenSl (.sl g.next 0 0 (.ex 0)) = some 0 := rfl
    have hst : (g.new (.cells [] .rw)).stc g.next (0 + 0 * e) [] = some ((g.new (.cells [] .rw)).put g.next (some (.cells [] .rw))) := by
      rw [Nat.zero_mul]
      rw [stc_get (get_new_self g _) (by simp) rfl (by simp)]; rfl
    have d1 : decide ((0 + 0 + (0 + 0) / 2 + 1000) * bytes ≤ 281474976710656) = true := decide_eq_true (by simpa using h2)
    have d2 : decide (0 < e) = true := decide_eq_true he
    have d3 : decide (0 < bytes) = true := decide_eq_true hb
    refine ⟨.sl g.next 0 0 (.ex 0), _, g.next, ?_, ((Fr.refl ok).new (.cells [] .rw)).put (.inr (Nat.le_refl _)) (by rw [H.next_new]; omega) _, ⟨_, _, rfl, get_put_self _ _ _, .inr ⟨rfl, rfl, rfl⟩⟩, Nat.le_refl _⟩
    simp only [H.append, hx, hs, h3, z, d1, d2, d3, List.all_nil, Bool.and_self, Nat.add_zero, Nat.le_refl, decide_true, hst]

theorem cloneInt_spec {g : H} (ok : g.ok) {b : Nat} {c : Cap} {k : Bk} {l : List Int} (hb : g.get b = some (.cells (l.map (.int .i64)) k)) (hl : l.length ≤ 100000) :
    Ev (C 287 [.sl b 0 l.length c] g) fun z => ∃ q, Clo g z.2 1 l.length (l.map (.int .i64)) z.1 q := by
  refine call_ev (af := F.slices_Clone___int_int_) (by kernel_rfl) rfl ?_
  rw [S.slices_Clone___int_int__eq]
  have hs : (g.new (.cells [] .rw)).slc 1 (.sl b 0 l.length c) = some (l.map (.int .i64)) := by
    rw [slc_get (((Fr.refl (L := []) ok).new (.cells [] .rw)).get ok hb (by simp)) (by simp), List.drop_zero, List.take_of_length_le (by simp)]
  obtain ⟨y, g', q, e1, Z⟩ := clone_any (bytes := 8) ok (x := .sl b 0 l.length c) rfl hs (ints_one .i64 l) (by omega) (by decide) (by decide) (by simp)
  simp only [S.slices_Clone___int_int_, eqV, eqSl_sl, obind, e1]
  exact Ev.some ⟨q, Z⟩

theorem walkCs_one : ∀ {l : List Int} {m : List V}, (∀ v ∈ m, v.one = true) → (walkCs l m).all V.one = true
  | [], _, _ => by unfold walkCs; rfl
  | _ :: _, [], _ => rfl
  | a :: l, v :: m, h => by
    have ih := walkCs_one (l := l) (m := m) (fun u hu => h u (List.mem_cons_of_mem _ hu))
    simp only [walkCs, List.all_cons, one_int, h v (List.mem_cons_self), ih, Bool.and_self]
theorem cloneWalk_spec {g : H} (ok : g.ok) {b n : Nat} {c : Cap} {k : Bk} {cs : List V} (hb : g.get b = some (.cells cs k)) (hl : cs.length = n * 2) (h1 : cs.all V.one = true) (hn : n ≤ 100000) :
    Ev (C 285 [.sl b 0 n c] g) fun z => ∃ q, Clo g z.2 2 n cs z.1 q := by
  refine call_ev (af := F.slices_Clone___model_walk_model_walk_) (by kernel_rfl) rfl ?_
  rw [S.slices_Clone___model_walk_model_walk__eq]
  have hs : (g.new (.cells [] .rw)).slc 2 (.sl b 0 n c) = some cs := by
    rw [slc_get (((Fr.refl (L := []) ok).new (.cells [] .rw)).get ok hb (by simp)) (by rw [hl]; omega), List.drop_zero, List.take_of_length_le (by rw [hl]; omega)]
  obtain ⟨y, g', q, e1, Z⟩ := clone_any (bytes := 32) ok (x := .sl b 0 n c) rfl hs h1 (by omega) (by decide) (by decide) hl
  simp only [S.slices_Clone___model_walk_model_walk_, eqV, eqSl_sl, obind, e1]
  exact Ev.some ⟨q, Z⟩

theorem cloneMap_spec {g : H} {m : Nat} {es : List (V × V)} (hm : g.get m = some (.map es)) : C 286 [.map m] g = some (.map g.next, g.new (.map es)) := by
  have e : Ev (C 286 [.map m] g) fun z => z = (.map g.next, g.new (.map es)) := by
    refine call_ev (af := F.maps_Clone_map_uint64_int_uint64_int_) (by kernel_rfl) rfl ?_
    rw [S.maps_Clone_map_uint64_int_uint64_int__eq]
    have e1 : eqV .map (.map m) .nilmap = some false := rfl
    have e2 : g.cloneM (.ifc 159 (.map m)) = some (.ifc 159 (.map g.next), g.new (.map es)) := by simp only [H.cloneM, hm]
    have e3 : asrtV 159 (.ifc 159 (.map g.next)) = some (.map g.next) := rfl
    simp only [S.maps_Clone_map_uint64_int_uint64_int_, e1, obind, e2, e3]
    exact Ev.some rfl
  obtain ⟨z, e, rfl⟩ := e
  exact e

/-- An element goes onto a slice that stands in a cell. -/
theorem pushField {g : H} (ok : g.ok) {p o bytes : Nat} {cs : List V} {x v : V} {l : List V} (hp : g.get p = some (.cells cs .rw)) (ho : o < cs.length) (G : Grown g.get x 1 l) (hv : v.one = true) (hl : l.length ≤ 1000000) (hb : 0 < bytes ∧ bytes ≤ 1000) :
    ∃ x' g2 g3, (g.new (.cells [v] .rw)).append 1 bytes x (.sl g.next 0 1 (.ex 1)) = some (x', g2) ∧ g2.st 1 (.ptr p o) x' = some g3 ∧ Fr (p :: x.blk) g g3 ∧ Grown g3.get x' 1 (l ++ [v]) ∧ g3.get p = some (.cells (cs.set o x') .rw) ∧ (∃ c, x'.blk = [c] ∧ g.next ≤ c) := by
  have F1 : Fr [] g (g.new (.cells [v] .rw)) := (Fr.refl ok).new _
  have hpx := G.ne hp (by simp)
  obtain ⟨x', g2, ea, F2, G2, hb2, hne⟩ := Grown.push F1.ok (G.fr ok F1 (by simp)) (nb := g.next) (new := [v]) (k := .rw) (bytes := bytes) (get_new_self _ _) rfl (by simp [hv]) (by decide) hb hl
  have hp2 : g2.get p = some (.cells cs .rw) := F2.get F1.ok (F1.get ok hp (by simp)) hpx
  have hx1 : x'.one = true := by
    obtain ⟨rfl, _⟩ | ⟨b, n, rfl, _⟩ := G2 <;> rfl
  have s3 := st1_get (o := o) (v := x') hp2 (by simp) hx1 ho
  have F3 : Fr [p] g2 (g2.put p (some (.cells (cs.set o x') .rw))) := (Fr.refl F2.ok).put (.inl (by simp)) (F2.ok.lt hp2) _
  have hpl := ok.lt hp
  have hpx' : p ∉ x'.blk := fun q => by
    have := hb2 p q
    rw [H.next_new] at this; omega
  refine ⟨x', g2, _, ea, s3, ?_, G2.fr F2.ok F3 (fun b hb e => hpx' (by rw [List.mem_singleton] at e; exact e ▸ hb)), get_put_self _ _ _, ?_⟩
  · have F12 : Fr (p :: x.blk) g g2 := (F1.mono (by simp)).trans F2 (fun b hb => .inl (List.mem_cons_of_mem _ hb))
    exact F12.trans F3 (fun b hb => .inl (by rw [List.mem_singleton] at hb; rw [hb]; exact List.mem_cons_self))
  · obtain ⟨rfl, _⟩ | ⟨b, n, rfl, _⟩ := G2
    · simp [V.blk] at hne
    · refine ⟨b, rfl, ?_⟩
      have := hb2 b (by simp [V.blk])
      rw [H.next_new] at this; omega
end Wm
end

section
/- The program's model: a copy of it, whole. -/
namespace Wm
attribute [local congr] bind_congr1
attribute [local irreducible] wr

theorem grown_ck {g : Nat → Option Blk} {x : V} {l : List V} (G : Grown g x 1 l) : ckB (some x) x = true := by
  obtain ⟨rfl, _⟩ | ⟨b, n, rfl, _⟩ := G
  · rfl
  · simp [ckB, V.beq]
theorem grown_one {g : Nat → Option Blk} {x : V} {l : List V} (G : Grown g x 1 l) : x.one = true := by
  obtain ⟨rfl, _⟩ | ⟨b, n, rfl, _⟩ := G <;> rfl

/-- A copied row of fields. -/
def RowC (g : Nat → Option Blk) (v : V) (b : Nat) (l : List Int) : Prop := ∃ c k, v = .sl b 0 l.length c ∧ g b = some (.cells (l.map (.int .i64)) k) ∧ k ≠ .ro ∧ (c = .op 1 ∨ ∃ n, c = .ex n ∧ l.length ≤ n)
theorem RowC.fr {g g' : H} {v : V} {b : Nat} {l : List Int} {L : List Nat} (R : RowC g.get v b l) (ok : g.ok) (F : Fr L g g') (hb : b ∉ L) : RowC g'.get v b l := by
  obtain ⟨c, k, e, h1, h2, h3⟩ := R
  exact ⟨c, k, e, F.get ok h1 hb, h2, h3⟩
theorem Clo.row {g g' : H} {y : V} {q : Nat} {l : List Int} (Z : Clo g g' 1 l.length (l.map (.int .i64)) y q) : RowC g'.get y q l := by
  obtain ⟨c, k, e, h1, h2⟩ := Z.sl
  rcases h2 with ⟨rfl, rfl⟩ | ⟨rfl, hn, rfl⟩
  · exact ⟨_, _, e, h1, by simp, .inl rfl⟩
  · exact ⟨_, _, e, h1, by simp, .inr ⟨0, rfl, by omega⟩⟩

structure CpF (k : Cfg) (h : H) (B : MdB) (r : RSt) (p bw gm i : Nat) (x6 : V) (vs : List V) (bs : List Nat) (g : H) : Prop where
  fr : Fr [] h g
  own : g.get p = some (.cells (k.cs ++ [x6, .nilsl, .sl bw 0 k.C (.op 2), .map gm]) .rw)
  wo : g.get bw = some (.cells (walkCs r.Wk B.ns) (.gr 2))
  gv : g.get gm = some (.map (givenEs r.Gv))
  fo : Grown g.get x6 1 vs
  fl : vs.length = i ∧ bs.length = i
  row : ∀ (j : Nat) (v : V) (b : Nat) (l : List Int), vs[j]? = some v → bs[j]? = some b → r.F[j]? = some l → RowC g.get v b l
  inc : ([bw, gm, p] ++ bs).Pairwise (· < ·)
  lo : h.next ≤ bw
  hi : ∀ y ∈ [bw, gm, p] ++ bs, y < g.next
  x6c : x6.blk = [] ∨ ∃ c, x6.blk = [c] ∧ ∀ y ∈ [bw, gm, p] ++ bs, y < c

structure CpH (k : Cfg) (h : H) (B : MdB) (r : RSt) (p bw gm : Nat) (x6 : V) (vs : List V) (bs : List Nat) (j : Nat) (x7 : V) (ms : List Nat) (g : H) : Prop where
  fr : Fr [] h g
  own : g.get p = some (.cells (k.cs ++ [x6, x7, .sl bw 0 k.C (.op 2), .map gm]) .rw)
  wo : g.get bw = some (.cells (walkCs r.Wk B.ns) (.gr 2))
  gv : g.get gm = some (.map (givenEs r.Gv))
  fo : Grown g.get x6 1 vs
  fl : vs.length = r.F.length ∧ bs.length = r.F.length
  row : ∀ (j : Nat) (v : V) (b : Nat) (l : List Int), vs[j]? = some v → bs[j]? = some b → r.F[j]? = some l → RowC g.get v b l
  ho : Grown g.get x7 1 (ms.map .map)
  hl : ms.length = j
  hm : ∀ (i m : Nat), ms[i]? = some m → g.get m = some (.map (holdEs r.Hs i))
  inc : ([bw, gm, p] ++ bs ++ x6.blk ++ ms).Pairwise (· < ·)
  lo : h.next ≤ bw
  hi : ∀ y ∈ [bw, gm, p] ++ bs ++ x6.blk ++ ms, y < g.next
  x7c : x7.blk = [] ∨ ∃ c, x7.blk = [c] ∧ ∀ y ∈ [bw, gm, p] ++ bs ++ x6.blk ++ ms, y < c

theorem inc_low {l : List Nat} {a : Nat} (h : (a :: l).Pairwise (· < ·)) : ∀ y ∈ a :: l, a ≤ y := fun y hy => by
  rcases List.mem_cons.mp hy with rfl | hy
  · exact Nat.le_refl _
  · exact Nat.le_of_lt ((List.pairwise_cons.mp h).1 y hy)
theorem inc_push {l : List Nat} {q : Nat} (h : l.Pairwise (· < ·)) (hq : ∀ y ∈ l, y < q) : (l ++ [q]).Pairwise (· < ·) := by
  rw [List.pairwise_append]
  exact ⟨h, List.pairwise_singleton _ _, fun a ha b hb => by rw [List.mem_singleton] at hb; subst hb; exact hq a ha⟩

theorem copyF_step {k : Cfg} {h : H} {B : MdB} {r : RSt} (ok : h.ok) (M : MdAt k h.get B r) (hF : r.F.length ≤ 100000) (hL : ∀ l ∈ r.F, l.length ≤ 100000) {p bw gm i : Nat} {x6 : V} {vs : List V} {bs : List Nat} {g : H} (Z : CpF k h B r p bw gm i x6 vs bs g) (hi : i < r.F.length) (x0 : V) :
    Ev (S.model_Model_Copy_c1_S W x0 (.ptr p 0) B.xF (r.F.length : Nat) (i : Nat) g) fun z => ∃ x6' v b, z.1 = .normal ∧ z.2.1 = S.model_Model_Copy_c1_E x0 (.ptr p 0) B.xF (.int .i64 (r.F.length : Nat)) (.int .i64 (i + 1 : Nat)) ∧ CpF k h B r p bw gm (i + 1) x6' (vs ++ [v]) (bs ++ [b]) z.2.2 := by
  obtain ⟨l, hl⟩ : ∃ l, r.F[i]? = some l := ⟨_, List.getElem?_eq_getElem hi⟩
  obtain ⟨f1, f2⟩ := M.fl
  obtain ⟨v0, hv0⟩ : ∃ v, B.vs[i]? = some v := ⟨_, List.getElem?_eq_getElem (by omega)⟩
  obtain ⟨b0, hb0⟩ : ∃ v, B.bs[i]? = some v := ⟨_, List.getElem?_eq_getElem (by omega)⟩
  obtain ⟨c, kk, rfl, hcell, _⟩ := M.fr i v0 b0 l hv0 hb0 hl
  have hlen := hL l (List.mem_of_getElem? hl)
  have dk : decide ((i : Int) < (r.F.length : Int)) = true := decide_eq_true (by omega)
  have wi : wr .i64 ((i : Int) + 1) = ((i + 1 : Nat) : Int) := by rw [wr64 (by omega) (by omega)]; rfl
  obtain ⟨bx, ix, lx⟩ := (M.fo.fr ok Z.fr (by simp)).at1 hv0 rfl
  obtain ⟨⟨y, g1⟩, e1, q, C1⟩ := cloneInt_spec Z.fr.ok (c := c) (Z.fr.get ok hcell (by simp)) hlen
  have F1 := C1.fr
  dsimp only at C1 F1
  have own1 := F1.get Z.fr.ok Z.own (by simp)
  have l6 : g.ld1 (.ptr p 6) = some x6 := ld1_get Z.own rfl (grown_one Z.fo)
  have l61 : g1.ld1 (.ptr p 6) = some x6 := ld1_get own1 rfl (grown_one Z.fo)
  have fo1 := Z.fo.fr Z.fr.ok F1 (by simp)
  obtain ⟨c1, k1, rfl, hq, hck⟩ := C1.sl
  obtain ⟨x6', g2, g3, ea, es, F3, fo3, own3, cc, hcc, hge⟩ := pushField (bytes := 24) F1.ok own1 (o := 6) (by simp [Cfg.cs]) fo1 (v := .sl q 0 l.length c1) rfl (by rw [Z.fl.1]; omega) (by decide)
  have hck6 := grown_ck Z.fo
  have fl1 : fill (repl [.nilsl] 1) [] [(0, 1, .c (.sl q 0 l.length c1))] = some [.sl q 0 l.length c1] := rfl
  have l6a : ldB (g.get p) 6 = some x6 := by rw [← ld1_get']; exact l6
  have l6b : ldB (g1.get p) 6 = some x6 := by rw [← ld1_get']; exact l61
  simp only [S.model_Model_Copy_c1_S, dk, ix, obind, lx, nilc_ptr, ptrAt_ptr, Nat.zero_add, l6, W_call, e1, l61, hck6, fl1, ea, es, wi]
  have hql := F1.ok.lt hq
  have inL : ∀ y ∈ [bw, gm, p] ++ bs, y ≠ p → y ∉ p :: x6.blk := fun y hy hne hm => by
    rcases List.mem_cons.mp hm with e | hm
    · exact hne e
    · rcases Z.x6c with e | ⟨c6, e, hlt⟩
      · rw [e] at hm; simp at hm
      · rw [e, List.mem_singleton] at hm
        have := hlt y hy; omega
  have hinc := Z.inc
  rw [List.cons_append, List.pairwise_cons] at hinc
  have hinc2 := hinc.2
  rw [List.cons_append, List.pairwise_cons] at hinc2
  have hinc3 := hinc2.2
  rw [List.cons_append, List.pairwise_cons] at hinc3
  have bwp : bw < p := hinc.1 p (by simp)
  have gmp : gm < p := hinc2.1 p (by simp)
  have bsp : ∀ y ∈ bs, p < y := fun y hy => hinc3.1 y (by simp [hy])
  have qp : q ≠ p := by have := C1.nq; have := Z.hi p (by simp); omega
  have qn : q ∉ p :: x6.blk := fun hm => by
    rcases List.mem_cons.mp hm with e | hm
    · exact qp e
    · have := Z.fo.lt Z.fr.ok q hm
      have := C1.nq; omega
  refine Ev.some ⟨x6', _, q, rfl, rfl, ?_, ?_, ?_, ?_, fo3, ⟨by rw [List.length_append, Z.fl.1]; rfl, by rw [List.length_append, Z.fl.2]; rfl⟩, fun j v b l' h1 h2 h3 => ?_, ?_, Z.lo, fun y hy => ?_, .inr ⟨cc, hcc, fun y hy => ?_⟩⟩
  · refine (Z.fr.trans F1 (by simp)).trans F3 (fun b hb => ?_)
    rcases List.mem_cons.mp hb with rfl | hb
    · exact .inr (by have := Z.lo; omega)
    · rcases Z.x6c with e | ⟨c6, e, hlt⟩
      · rw [e] at hb; simp at hb
      · rw [e, List.mem_singleton] at hb
        subst hb
        exact .inr (by have := hlt bw (by simp); have := Z.lo; omega)
  · exact own3
  · exact F3.get F1.ok (F1.get Z.fr.ok Z.wo (by simp)) (inL bw (by simp) (by omega))
  · exact F3.get F1.ok (F1.get Z.fr.ok Z.gv (by simp)) (inL gm (by simp) (by omega))
  · by_cases hj : j < i
    · rw [List.getElem?_append_left (by rw [Z.fl.1]; exact hj)] at h1
      rw [List.getElem?_append_left (by rw [Z.fl.2]; exact hj)] at h2
      have hbm := List.mem_of_getElem? h2
      have R := (Z.row j v b l' h1 h2 h3).fr Z.fr.ok F1 (by simp)
      refine R.fr F1.ok F3 (inL b (by simp [hbm]) (by have := bsp b hbm; omega))
    · have hlt1 := lt_of_get h1
      rw [List.length_append, Z.fl.1] at hlt1
      have hji : j = i := by simp at hlt1; omega
      subst hji
      rw [List.getElem?_append_right (by rw [Z.fl.1]; omega), Z.fl.1] at h1
      rw [List.getElem?_append_right (by rw [Z.fl.2]; omega), Z.fl.2] at h2
      simp at h1 h2
      subst h1; subst h2
      rw [hl] at h3; cases h3
      exact C1.row.fr F1.ok F3 qn
  · rw [← List.append_assoc]
    exact inc_push Z.inc fun y hy => Nat.lt_of_lt_of_le (Z.hi y hy) C1.nq
  · rw [← List.append_assoc] at hy
    rcases List.mem_append.mp hy with hy | hy
    · exact Nat.lt_of_lt_of_le (Z.hi y hy) (Nat.le_trans F1.le F3.le)
    · rw [List.mem_singleton] at hy; subst hy; exact Nat.lt_of_lt_of_le hql F3.le
  · rw [← List.append_assoc] at hy
    rcases List.mem_append.mp hy with hy | hy
    · exact Nat.lt_of_lt_of_le (Z.hi y hy) (Nat.le_trans F1.le hge)
    · rw [List.mem_singleton] at hy; subst hy; exact Nat.lt_of_lt_of_le hql hge

theorem copyH_step {k : Cfg} {h : H} {B : MdB} {r : RSt} (ok : h.ok) (M : MdAt k h.get B r) (hC : k.C ≤ 1000) {p bw gm j : Nat} {x6 x7 : V} {vs : List V} {bs ms : List Nat} {g : H} (Z : CpH k h B r p bw gm x6 vs bs j x7 ms g) (hj : j < k.C) :
    Ev (S.model_Model_Copy_c3_S W (.ptr p 0) (.sl B.bh 0 k.C (.op 1)) (k.C : Nat) (j : Nat) g) fun z => ∃ x7' m, z.1 = .normal ∧ z.2.1 = S.model_Model_Copy_c3_E (.ptr p 0) (.sl B.bh 0 k.C (.op 1)) (.int .i64 (k.C : Nat)) (.int .i64 (j + 1 : Nat)) ∧ CpH k h B r p bw gm x6 vs bs (j + 1) x7' (ms ++ [m]) z.2.2 := by
  have hCc : (k.C : Int) = k.c := by unfold Cfg.C at hj ⊢; omega
  obtain ⟨j', m0, hjj, hm0, ix, lx, hmap⟩ := (M.fr0 ok Z.fr).map (w := (j : Int)) (by omega) (by omega)
  have : j' = j := by omega
  subst this
  have dk : decide ((j' : Int) < (k.C : Int)) = true := decide_eq_true (by omega)
  have wi : wr .i64 ((j' : Int) + 1) = ((j' + 1 : Nat) : Int) := by rw [wr64 (by omega) (by omega)]; rfl
  have e1 := cloneMap_spec hmap
  have F1 : Fr [] g (g.new (.map (holdEs r.Hs j'))) := (Fr.refl Z.fr.ok).new _
  have hq : (g.new (.map (holdEs r.Hs j'))).get g.next = some (.map (holdEs r.Hs j')) := get_new_self _ _
  have hn1 : (g.new (.map (holdEs r.Hs j'))).next = g.next + 1 := rfl
  generalize g.new (.map (holdEs r.Hs j')) = g1 at e1 F1 hq hn1
  have own1 := F1.get Z.fr.ok Z.own (by simp)
  have l7 : g.ld1 (.ptr p 7) = some x7 := ld1_get Z.own rfl (grown_one Z.ho)
  have l71 : g1.ld1 (.ptr p 7) = some x7 := ld1_get own1 rfl (grown_one Z.ho)
  have ho1 := Z.ho.fr Z.fr.ok F1 (by simp)
  obtain ⟨x7', g2, g3, ea, es, F3, ho3, own3, cc, hcc, hge⟩ := pushField (bytes := 8) F1.ok own1 (o := 7) (by simp [Cfg.cs]) ho1 (v := .map g.next) rfl (by rw [List.length_map, Z.hl]; omega) (by decide)
  have hck7 := grown_ck Z.ho
  have fl1 : fill (repl [.nilmap] 1) [] [(0, 1, .c (.map g.next))] = some [.map g.next] := rfl
  have lx' : g.ld1 (.ptr B.bh j') = some (.map m0) := by rw [ld1_get']; exact lx
  simp only [S.model_Model_Copy_c3_S, dk, ix, obind, lx', nilc_ptr, ptrAt_ptr, Nat.zero_add, l7, W_call, e1, l71, hck7, fl1, ea, es, wi]
  have inL : ∀ y ∈ [bw, gm, p] ++ bs ++ x6.blk ++ ms, y ≠ p → y ∉ p :: x7.blk := fun y hy hne hm => by
    rcases List.mem_cons.mp hm with e | hm
    · exact hne e
    · rcases Z.x7c with e | ⟨c6, e, hlt⟩
      · rw [e] at hm; simp at hm
      · rw [e, List.mem_singleton] at hm
        have := hlt y hy; omega
  have hinc := Z.inc
  rw [List.append_assoc, List.append_assoc, List.cons_append, List.pairwise_cons] at hinc
  have hinc2 := hinc.2
  rw [List.cons_append, List.pairwise_cons] at hinc2
  have hinc3 := hinc2.2
  rw [List.cons_append, List.pairwise_cons] at hinc3
  have bwp : bw < p := hinc.1 p (by simp)
  have gmp : gm < p := hinc2.1 p (by simp)
  have bsp : ∀ y, y ∈ bs ∨ y ∈ x6.blk ∨ y ∈ ms → p < y := fun y hy => hinc3.1 y (by simpa using hy)
  have qn : g.next ∉ p :: x7.blk := fun hm => by
    rcases List.mem_cons.mp hm with e | hm
    · have := Z.hi p (by simp); omega
    · have := Z.ho.lt Z.fr.ok _ hm; omega
  refine Ev.some ⟨x7', g.next, rfl, rfl, ?_, own3, F3.get F1.ok (F1.get Z.fr.ok Z.wo (by simp)) (inL bw (by simp) (by omega)), F3.get F1.ok (F1.get Z.fr.ok Z.gv (by simp)) (inL gm (by simp) (by omega)), ?_, Z.fl, fun i v b l' h1 h2 h3 => ?_, ?_, ?_, fun i m h1 => ?_, ?_, Z.lo, fun y hy => ?_, .inr ⟨cc, hcc, fun y hy => ?_⟩⟩
  · refine (Z.fr.trans F1 (by simp)).trans F3 (fun b hb => ?_)
    rcases List.mem_cons.mp hb with rfl | hb
    · exact .inr (by have := Z.lo; omega)
    · rcases Z.x7c with e | ⟨c6, e, hlt⟩
      · rw [e] at hb; simp at hb
      · rw [e, List.mem_singleton] at hb
        subst hb
        exact .inr (by have := hlt bw (by simp); have := Z.lo; omega)
  · exact (Z.fo.fr Z.fr.ok F1 (by simp)).fr F1.ok F3 (fun b hb => inL b (by simp [hb]) (by have := bsp b (.inr (.inl hb)); omega))
  · have hbm := List.mem_of_getElem? h2
    exact ((Z.row i v b l' h1 h2 h3).fr Z.fr.ok F1 (by simp)).fr F1.ok F3 (inL b (by simp [hbm]) (by have := bsp b (.inl hbm); omega))
  · rw [List.map_append]; exact ho3
  · rw [List.length_append, Z.hl]; rfl
  · by_cases hi : i < j'
    · rw [List.getElem?_append_left (by rw [Z.hl]; exact hi)] at h1
      have hbm := List.mem_of_getElem? h1
      exact F3.get F1.ok (F1.get Z.fr.ok (Z.hm i m h1) (by simp)) (inL m (by simp [hbm]) (by have := bsp m (.inr (.inr hbm)); omega))
    · have hlt1 := lt_of_get h1
      rw [List.length_append, Z.hl] at hlt1
      have hji : i = j' := by simp at hlt1; omega
      subst hji
      rw [List.getElem?_append_right (by rw [Z.hl]; omega), Z.hl] at h1
      simp at h1
      subst h1
      exact F3.get F1.ok hq qn
  · rw [← List.append_assoc]
    exact inc_push Z.inc fun y hy => Z.hi y hy
  · rw [← List.append_assoc] at hy
    rcases List.mem_append.mp hy with hy | hy
    · exact Nat.lt_of_lt_of_le (Z.hi y hy) (Nat.le_trans F1.le F3.le)
    · rw [List.mem_singleton] at hy; subst hy
      exact Nat.lt_of_lt_of_le (F1.ok.lt hq) F3.le
  · rw [← List.append_assoc] at hy
    rcases List.mem_append.mp hy with hy | hy
    · exact Nat.lt_of_lt_of_le (Z.hi y hy) (Nat.le_trans F1.le hge)
    · rw [List.mem_singleton] at hy; subst hy; omega

theorem mdCopy_spec {k : Cfg} {h : H} {B : MdB} {r : RSt} (ok : h.ok) (M : MdAt k h.get B r) (hr : k.R = true) (hF : r.F.length ≤ 100000) (hL : ∀ l ∈ r.F, l.length ≤ 100000) :
    Ev (C 115 [.ptr B.b 0] h) fun z => ∃ B', z.1 = .ptr B'.b 0 ∧ Fr [] h z.2 ∧ MdAt k z.2.get B' r ∧ (∀ x ∈ B'.l, h.next ≤ x) ∧ B'.nb = B.nb := by
  refine call_ev (af := F.model_Model_Copy) (by kernel_rfl) rfl ?_
  rw [S.model_Model_Copy_eq]
  have hB := Cfg.R_iff.mp hr
  have hC : (k.C : Int) = k.c := by unfold Cfg.C; omega
  have hC8 := (Cfg.bounds hr).2.2.1
  have hC1 : 1 ≤ k.C := by omega
  have hC9 : k.C ≤ 1000 := by omega
  obtain ⟨w1, w2, w3⟩ := M.wl
  have hwl : (walkCs r.Wk B.ns).length = k.C * 2 := by rw [walkCs_len (by omega), w1]
  have hw1 : (walkCs r.Wk B.ns).all V.one = true := walkCs_one fun v hv => by
    obtain ⟨i, hi, he⟩ := List.getElem_of_mem hv
    exact (M.wr i v _ (by rw [List.getElem?_eq_getElem hi, he]) (List.getElem?_eq_getElem (by omega))).one
  have lN : h.ldN 6 (.ptr B.b 0) = some (.agg (k.cs)) := by rw [ldN_get M.own (by simp)]; rfl
  have l8 : h.ld1 (.ptr B.b 8) = some (.sl B.bw 0 k.C (B.cw k.C)) := ld1_get M.own rfl rfl
  have l9 : h.ld1 (.ptr B.b 9) = some (.map B.gm) := ld1_get M.own rfl rfl
  obtain ⟨⟨y, g1⟩, e1, bw, C1⟩ := cloneWalk_spec ok (c := B.cw k.C) M.wo hwl hw1 (by omega)
  have F1 := C1.fr
  dsimp only at C1 F1
  obtain ⟨c1, k1, rfl, hbw, hck⟩ := C1.sl
  have hc1 : c1 = .op 2 ∧ k1 = .gr 2 := by
    rcases hck with h | ⟨_, h, _⟩
    · exact h
    · omega
  obtain ⟨rfl, rfl⟩ := hc1
  have M1 := M.fr0 ok F1
  have lN1 : g1.ldN 6 (.ptr B.b 0) = some (.agg (k.cs)) := by rw [ldN_get M1.own (by simp)]; rfl
  have l91 : g1.ld1 (.ptr B.b 9) = some (.map B.gm) := ld1_get M1.own rfl rfl
  have e2 := cloneMap_spec M1.gv
  have F2 : Fr [] g1 (g1.new (.map (givenEs r.Gv))) := (Fr.refl F1.ok).new _
  have hgm : (g1.new (.map (givenEs r.Gv))).get g1.next = some (.map (givenEs r.Gv)) := get_new_self _ _
  have hn2 : (g1.new (.map (givenEs r.Gv))).next = g1.next + 1 := rfl
  generalize g1.new (.map (givenEs r.Gv)) = g2 at e2 F2 hgm hn2
  have M2 := M1.fr0 F1.ok F2
  have lN2 : g2.ldN 6 (.ptr B.b 0) = some (.agg (k.cs)) := by rw [ldN_get M2.own (by simp)]; rfl
  have ckm : ckB (some (.map B.gm)) (.map B.gm) = true := by simp [ckB, V.beq]
  have ckc : ckB (some (.agg (k.cs))) (.agg (k.cs)) = true := by simp [ckB, V.beq, V.beqs, Cfg.cs]
  have hfill : fill [(.int .i64 0), (.int .i64 0), (.int .i64 0), (.int .i64 0), (.int .i64 0), (.int .i64 0), .nilsl, .nilsl, .nilsl, .nilmap] [] [(0, 6, .c (.agg (k.cs))), (8, 1, .c (.sl bw 0 k.C (.op 2))), (9, 1, .c (.map g1.next))] = some (k.cs ++ [.nilsl, .nilsl, .sl bw 0 k.C (.op 2), .map g1.next]) := rfl
  have hbox : boxc (.agg (k.cs ++ [.nilsl, .nilsl, .sl bw 0 k.C (.op 2), .map g1.next])) = some (k.cs ++ [.nilsl, .nilsl, .sl bw 0 k.C (.op 2), .map g1.next]) := rfl
  have F3 : Fr [] g2 (g2.new (.cells (k.cs ++ [.nilsl, .nilsl, .sl bw 0 k.C (.op 2), .map g1.next]) .rw)) := (Fr.refl F2.ok).new _
  have hp : (g2.new (.cells (k.cs ++ [.nilsl, .nilsl, .sl bw 0 k.C (.op 2), .map g1.next]) .rw)).get g2.next = some (.cells (k.cs ++ [.nilsl, .nilsl, .sl bw 0 k.C (.op 2), .map g1.next]) .rw) := get_new_self _ _
  have hn3 : (g2.new (.cells (k.cs ++ [.nilsl, .nilsl, .sl bw 0 k.C (.op 2), .map g1.next]) .rw)).next = g2.next + 1 := rfl
  obtain ⟨g3, hg3⟩ : ∃ g3, g3 = g2.new (.cells (k.cs ++ [.nilsl, .nilsl, .sl bw 0 k.C (.op 2), .map g1.next]) .rw) := ⟨_, rfl⟩
  rw [← hg3] at F3 hp hn3
  have M3 := M2.fr0 F2.ok F3
  have l63 : g3.ld1 (.ptr B.b 6) = some B.xF := ld1_get M3.own rfl M.fo.slv.one
  have hlF : lenSl B.xF = some r.F.length := M.rows.len
  have hbwn := F1.ok.lt hbw
  have Z0 : CpF k h B r g2.next bw g1.next 0 .nilsl [] [] g3 := ⟨(F1.trans F2 (by simp)).trans F3 (by simp), hp, F3.get F2.ok (F2.get F1.ok hbw (by simp)) (by simp), F3.get F2.ok hgm (by simp), Grown.nil _ _, ⟨rfl, rfl⟩, fun j v b l h1 => by simp at h1, by
      simp only [List.append_nil, List.pairwise_cons, List.mem_cons, List.not_mem_nil, or_false, forall_eq_or_imp, forall_eq, List.Pairwise.nil, and_true]
      refine ⟨⟨hbwn, by omega⟩, by omega, by simp⟩, C1.nq, fun y hy => by
      simp only [List.append_nil, List.mem_cons, List.not_mem_nil, or_false] at hy
      rcases hy with rfl | rfl | rfl <;> omega, .inl rfl⟩
  have hbl : eqV .ptr (.ptr B.b 0) .nilp = some false := rfl
  simp only [S.model_Model_Copy, hbl, obind, nilc_ptr, ptrAt_ptr, Nat.zero_add, lN, l8, l9, W_call, e1, l91, ckm, lN1, ckc, e2, lN2, hfill, hbox, ← hg3, l63, hlF]
  generalize g2.next = p at Z0 hp
  generalize g1.next = gm at Z0 hp
  refine loop_ev (α := Nat × V × List V × List Nat) (fun y => S.model_Model_Copy_c1_E (.ptr B.b 0) (.ptr p 0) B.xF (.int .i64 (r.F.length : Nat)) (.int .i64 (y.1 : Nat)))
    (fun y g => y.1 ≤ r.F.length ∧ CpF k h B r p bw gm y.1 y.2.1 y.2.2.1 y.2.2.2 g) (fun y _ => r.F.length - y.1)
    (fun z => ∃ x6 vs bs, z.1 = .exit 0 ∧ z.2.1 = S.model_Model_Copy_c1_O (.ptr B.b 0) (.ptr p 0) ∧ CpF k h B r p bw gm r.F.length x6 vs bs z.2.2) (0, .nilsl, [], []) rfl ⟨Nat.zero_le _, Z0⟩ ?_ ?_
  · rintro ⟨i, x6, vs, bs⟩ g ⟨hi, Z⟩
    dsimp only at hi Z
    rw [S.model_Model_Copy_c1_eq]
    by_cases hil : i < r.F.length
    · refine (copyF_step ok M hF hL Z hil _).mono ?_
      rintro ⟨_, _, g'⟩ ⟨x6', v, b, rfl, rfl, Z'⟩
      exact .inl ⟨(i + 1, x6', vs ++ [v], bs ++ [b]), rfl, rfl, ⟨hil, Z'⟩, Nat.sub_lt_sub_left hil (Nat.lt_succ_self i)⟩
    · have hie : i = r.F.length := Nat.le_antisymm hi (Nat.le_of_not_lt hil)
      subst hie
      have dk : decide ((r.F.length : Int) < (r.F.length : Int)) = false := decide_eq_false (Int.lt_irrefl _)
      simp only [S.model_Model_Copy_c1_S, dk]
      exact Ev.some (.inr ⟨by simp, x6, vs, bs, rfl, rfl, Z⟩)
  clear Z0 hp
  rintro ⟨_, _, g4⟩ ⟨x6, vs, bs, rfl, rfl, Z⟩
  dsimp only at Z
  show Ev (S.model_Model_Copy_K2 W (.exit 0) _ _) _
  rw [S.model_Model_Copy_c1_e0_eq]
  have M4 := M.fr0 ok Z.fr
  have l74 : g4.ld1 (.ptr B.b 7) = some (.sl B.bh 0 k.C (.op 1)) := ld1_get M4.own rfl rfl
  simp only [S.model_Model_Copy_c1_e0, nilc_ptr, obind, ptrAt_ptr, Nat.zero_add, l74, lenSl_sl]
  have Z1 : CpH k h B r p bw gm x6 vs bs 0 .nilsl [] g4 := by
    refine ⟨Z.fr, Z.own, Z.wo, Z.gv, Z.fo, Z.fl, Z.row, Grown.nil _ _, rfl, fun i m h1 => by simp at h1, ?_, Z.lo, fun y hy => ?_, .inl rfl⟩
    · rw [List.append_nil]
      rcases Z.x6c with e | ⟨c6, e, hlt⟩
      · rw [e, List.append_nil]; exact Z.inc
      · rw [e]; exact inc_push Z.inc hlt
    · rw [List.append_nil] at hy
      rcases List.mem_append.mp hy with hy | hy
      · exact Z.hi y hy
      · exact Z.fo.lt Z.fr.ok y hy
  refine loop_ev (α := Nat × V × List Nat) (fun y => S.model_Model_Copy_c3_E (.ptr p 0) (.sl B.bh 0 k.C (.op 1)) (.int .i64 (k.C : Nat)) (.int .i64 (y.1 : Nat)))
    (fun y g => y.1 ≤ k.C ∧ CpH k h B r p bw gm x6 vs bs y.1 y.2.1 y.2.2 g) (fun y _ => k.C - y.1)
    (fun z => ∃ x7 ms, z.1 = .exit 2 ∧ z.2.1 = S.model_Model_Copy_c3_O (.ptr p 0) ∧ CpH k h B r p bw gm x6 vs bs k.C x7 ms z.2.2) (0, .nilsl, []) rfl ⟨Nat.zero_le _, Z1⟩ ?_ ?_
  · rintro ⟨j, x7, ms⟩ g ⟨hj, Z⟩
    dsimp only at hj Z
    rw [S.model_Model_Copy_c3_eq]
    by_cases hjl : j < k.C
    · refine (copyH_step ok M hC9 Z hjl).mono ?_
      rintro ⟨_, _, g'⟩ ⟨x7', m, rfl, rfl, Z'⟩
      exact .inl ⟨(j + 1, x7', ms ++ [m]), rfl, rfl, ⟨hjl, Z'⟩, Nat.sub_lt_sub_left hjl (Nat.lt_succ_self j)⟩
    · have hje : j = k.C := Nat.le_antisymm hj (Nat.le_of_not_lt hjl)
      subst hje
      have dk : decide ((k.C : Int) < (k.C : Int)) = false := decide_eq_false (Int.lt_irrefl _)
      simp only [S.model_Model_Copy_c3_S, dk]
      exact Ev.some (.inr ⟨by simp, x7, ms, rfl, rfl, Z⟩)
  clear Z Z1 M4
  rintro ⟨_, _, g5⟩ ⟨x7, ms, rfl, rfl, Z⟩
  dsimp only at Z
  show Ev (S.model_Model_Copy_K4 W (.exit 2) _ _) _
  rw [S.model_Model_Copy_c3_e2_eq]
  have hlo : ∀ y ∈ [bw, gm, p] ++ bs ++ x6.blk ++ ms, h.next ≤ y := fun y hy => by
    have hinc := Z.inc
    rw [List.append_assoc, List.append_assoc, List.cons_append] at hinc hy
    exact Nat.le_trans Z.lo (inc_low hinc y hy)
  obtain ⟨rfl, hms⟩ | ⟨bh, n, rfl, hl7, hb7⟩ := Z.ho
  · have := Z.hl
    have hms' : ms = [] := List.map_eq_nil_iff.mp hms
    rw [hms'] at this; simp at this; omega
  have hn : n = k.C := by rw [List.length_map, Z.hl] at hl7; omega
  subst hn
  have hbh : ∀ y ∈ [bw, gm, p] ++ bs ++ x6.blk ++ ms, y < bh := by
    rcases Z.x7c with e | ⟨c, e, hlt⟩
    · simp [V.blk] at e
    · simp only [V.blk, List.cons.injEq, and_true] at e
      subst e; exact hlt
  have hnd : ([bw, gm, p] ++ bs ++ x6.blk ++ ms ++ [bh]).Nodup := (inc_push Z.inc hbh).imp fun h => Nat.ne_of_lt h
  have hlow : ∀ x ∈ p :: bh :: bw :: gm :: (ms ++ (x6.blk ++ bs)), h.next ≤ x := fun x hx => by
    by_cases e : x = bh
    · rw [e]; exact Nat.le_trans (hlo bw (by simp)) (Nat.le_of_lt (hbh bw (by simp)))
    · refine hlo x ?_
      simp only [List.mem_cons, List.mem_append] at hx ⊢
      rcases hx with h | h | h | h | h | h | h
      · simp [h]
      · exact absurd h e
      · simp [h]
      · simp [h]
      · simp [h]
      · simp [h]
      · simp [h]
  refine Ev.some ⟨⟨p, x6, vs, bs, bh, ms, bw, B.ns, gm, false⟩, rfl, Z.fr, ⟨?_, fun a ha hm => ?_, Z.own, Z.fo, Z.fl, Z.row, hb7, Z.hl, Z.hm, Z.wo, M.wl, fun i v l h1 h2 => ?_, Z.gv⟩, hlow, rfl⟩
  · show (p :: bh :: bw :: gm :: (ms ++ (x6.blk ++ bs))).Nodup
    refine (List.Perm.nodup_iff ?_).mp hnd
    rw [List.perm_iff_count]
    intro a
    simp only [List.count_append, List.count_cons, List.count_nil]
    omega
  · have h1 := hlow a hm
    have ha' : a ∈ B.nb := ha
    unfold MdB.nb at ha'
    obtain ⟨lb, h2, h3⟩ := List.mem_flatten.mp ha'
    obtain ⟨v, h4, rfl⟩ := List.mem_map.mp h2
    obtain ⟨i, hi, he⟩ := List.getElem_of_mem h4
    have R := M.wr i v _ (by rw [List.getElem?_eq_getElem hi, he]) (List.getElem?_eq_getElem (by omega))
    have := R.lt ok a h3
    omega
  · have R := M.wr i v l h1 h2
    exact R.congr fun b hb => Z.fr.same b (R.lt ok b hb) (by simp)
end Wm
end

section
/- Acts: the calls that they are, how they are answered. -/
namespace Wm
attribute [local congr] bind_congr1
attribute [local irreducible] wr

structure ActR where
  c : Int
  kind : Int
  n : Int
  h : Int
  x : Int
  y : Int
  how : Int
  raw : AnsR
def ActR.cs (a : ActR) : List V := [.int .i64 a.c, .int .i64 a.kind, .int .i64 a.n, .int .i64 a.h, .int .i64 a.x, .int .i64 a.y, .int .i64 a.how, .int .i64 a.raw.err, .int .u64 a.raw.h, .bool a.raw.yes]
def actSh : List CSh := [.int .i64, .int .i64, .int .i64, .int .i64, .int .i64, .int .i64, .int .i64, .int .i64, .int .u64, .bool]
/-- A row of acts. -/
def RowA (g : Nat → Option Blk) (x : V) (l : List ActR) : Prop := (x = .nilsl ∧ l = []) ∨ ∃ b c k, x = .sl b 0 l.length c ∧ g b = some (.cells (l.map ActR.cs).flatten k)
theorem act10 (l : List ActR) : ∀ x ∈ l.map ActR.cs, x.length = 10 := fun x hx => by
  obtain ⟨_, _, rfl⟩ := List.mem_map.mp hx; rfl
theorem RowA.len {g : Nat → Option Blk} {x : V} {l : List ActR} (h : RowA g x l) : lenSl x = some l.length := by
  obtain ⟨rfl, rfl⟩ | ⟨b, c, k, rfl, _⟩ := h <;> rfl
theorem RowA.at {g : Nat → Option Blk} {x : V} {l : List ActR} (h : RowA g x l) {i : Nat} {y : ActR} (hy : l[i]? = some y) :
    ∃ b, indexAV 10 x (.int .i64 (i : Int)) = some (.ptr b (i * 10)) ∧ ldNB (g b) (i * 10) 10 = some (.agg y.cs) ∧ ldB (g b) (i * 10) = some (.int .i64 y.c) ∧ b ∈ x.blk := by
  have hi := lt_of_get hy
  obtain ⟨rfl, rfl⟩ | ⟨b, c, k, rfl, hb⟩ := h
  · simp at hy
  · have hn : (l.map ActR.cs).flatten.length = l.length * 10 := by rw [flat_length (act10 l), List.length_map]
    have hp := flat_part (act10 l) i y.cs (by rw [List.getElem?_map, hy]; rfl)
    have at' : (l.map ActR.cs).flatten[i * 10]? = y.cs[0]? := by
      rw [← hp, List.getElem?_take, if_pos (by decide), List.getElem?_drop, Nat.add_zero]
    refine ⟨b, sl_idx hi, ?_, ?_, by simp [V.blk]⟩
    · rw [hb, ldNB_cells, decide_eq_true (by rw [hn]; omega), hp]
    · rw [hb, ldB_cells, at']; rfl
theorem rowA_of {g : Nat → Option Blk} {by' : Nat} {v : V} (h : CellOk g (.sl by' actSh) v) :
    ∃ l, RowA g v l ∧ (∀ y ∈ l, U64 y.raw.h) := by
  unfold CellOk at h
  rcases h with rfl | ⟨b, n, cs, rfl, ⟨h1, h2⟩, h3, h4, h5⟩
  · exact ⟨[], .inl ⟨rfl, rfl⟩, by simp⟩
  · obtain ⟨ws, e1, e2, e3⟩ := chunks (α := ActR) (enc := ActR.cs) (Q := fun y => U64 y.raw.h) (P := CellsOk g actSh) (fun c hc => by
      obtain ⟨_, _, rfl, ⟨y0, rfl, b0⟩, _, _, rfl, ⟨y1, rfl, b1⟩, _, _, rfl, ⟨y2, rfl, b2⟩, _, _, rfl, ⟨y3, rfl, b3⟩, _, _, rfl, ⟨y4, rfl, b4⟩, _, _, rfl, ⟨y5, rfl, b5⟩, _, _, rfl, ⟨y6, rfl, b6⟩, _, _, rfl, ⟨y7, rfl, b7⟩, _, _, rfl, ⟨y8, rfl, b8⟩, _, _, rfl, ⟨y9, rfl⟩, rfl⟩ := hc
      exact ⟨⟨y0, y1, y2, y3, y4, y5, y6, ⟨y7, y8, y9⟩⟩, rfl, wf_u64 b8⟩) n cs h4 h5
    subst e2
    exact ⟨ws, .inr ⟨b, _, .ro, rfl, by rw [h3, e1]⟩, e3⟩

section
variable {k : Cfg} {s : StV} {r : RSt}

end
end Wm
end

section
/- Models beside each other: what one does, the others don't feel. -/
namespace Wm
attribute [local congr] bind_congr1
attribute [local irreducible] wr

structure Mod (h0 : H) (k : Cfg) (g : H) (B : MdB) (r : RSt) (n : Nat) : Prop where
  fr : Fr [] h0 g
  M : MdAt k g.get B r
  I : RIn k r
  sz : RSz k n r
  lo : ∀ b ∈ B.l, h0.next ≤ b

/-- What B may change is nothing of D's. -/
def Apart (B D : MdB) : Prop := (∀ b ∈ D.l, b ∉ B.l) ∧ ∀ b ∈ D.nb, b ∉ B.l

section
variable {h0 g g' : H} {k : Cfg} {B B' D : MdB} {r s : RSt} {n m : Nat}
theorem Mod.fr0 (X : Mod h0 k g B r n) (F : Fr [] g g') : Mod h0 k g' B r n := ⟨X.fr.trans F (by simp), X.M.fr0 X.fr.ok F, X.I, X.sz, X.lo⟩
theorem Mod.keep (X : Mod h0 k g D s m) (Y : Mod h0 k g B r n) (F : Fr B.l g g') (A : Apart B D) : Mod h0 k g' D s m :=
  ⟨Y.fr.trans F (fun b hb => .inr (Y.lo b hb)), X.M.fr' X.fr.ok F A.1 A.2, X.I, X.sz, X.lo⟩
theorem Apart.ext1 (A : Apart B D) (X : Mod h0 k g D s m) (E : B.ext B' g) : Apart B' D :=
  ⟨fun b hb q => by
    rcases E.l b q with q | q
    · exact A.1 b hb q
    · have := X.M.lt X.fr.ok b hb; omega, fun b hb q => by
    rcases E.l b q with q | q
    · exact A.2 b hb q
    · have := X.M.ltn X.fr.ok b hb; omega⟩
theorem Apart.ext2 (A : Apart D B) (X : Mod h0 k g D s m) (E : B.ext B' g) : Apart D B' :=
  ⟨fun b hb q => by
    rcases E.l b hb with h | h
    · exact A.1 b h q
    · have := X.M.lt X.fr.ok b q; omega, fun b hb q => by
    rcases E.n b hb with h | h
    · exact A.2 b h q
    · have := X.M.lt X.fr.ok b q; omega⟩
theorem Apart.new (X : Mod h0 k g B r n) (h : ∀ b ∈ D.l, g.next ≤ b) : Apart D B :=
  ⟨fun b hb q => by have := h b q; have := X.M.lt X.fr.ok b hb; omega, fun b hb q => by have := h b q; have := X.M.ltn X.fr.ok b hb; omega⟩
theorem Apart.newR (X : Mod h0 k g B r n) (h : ∀ b ∈ D.l, g.next ≤ b) (hn : ∀ b ∈ D.nb, b ∈ B.nb) : Apart B D :=
  ⟨fun b hb q => by have := h b hb; have := X.M.lt X.fr.ok b q; omega, fun b hb => X.M.nn b (hn b hb)⟩

theorem Mod.does (X : Mod h0 k g B r n) (hr : k.R = true) (hn : n ≤ 1000) {c : CallR} {a : AnsR} (hu : U64 a.h) (w : Int) :
    Ev (C 103 [.ptr B.b 0, .int .i64 w, .agg c.cs, .agg a.cs] g) fun z => z.1 = .bool (okR k r w c a) ∧ ∃ B', Mod h0 k z.2 B' (doR k r w c a) (n + 1) ∧ Fr B.l g z.2 ∧ B.ext B' g := by
  have hB := Cfg.R_iff.mp hr
  have hC := (Cfg.bounds hr).2.2.1
  refine (mdDoes_spec (c := c) (a := a) X.fr.ok X.M X.I (X.sz.small X.I (by omega) (by omega) (by omega)) (by omega) hu w).mono ?_
  rintro ⟨v, g'⟩ ⟨hv, F, B', M', E⟩
  exact ⟨hv, B', ⟨X.fr.trans F (fun b hb => .inr (X.lo b hb)), M', X.I.do w c hu, X.sz.do w c a, fun b hb => by
    rcases E.l b hb with h | h
    · exact X.lo b h
    · exact Nat.le_trans X.fr.le h⟩, F, E⟩
theorem Mod.new (hr : k.R = true) (F : Fr [] h0 g) : Ev (C 96 [k.v] g) fun z => ∃ B, z.1 = .ptr B.b 0 ∧ Fr [] g z.2 ∧ Mod h0 k z.2 B (rst0 k) 0 ∧ (∀ b ∈ B.l, g.next ≤ b) ∧ B.nb = [] := by
  refine (mdNew_spec hr F.ok).mono ?_
  rintro ⟨v, g'⟩ ⟨B, hv, F', M, hl, hn⟩
  exact ⟨B, hv, F', ⟨F.trans F' (by simp), M, rst0_in k, rst0_sz k, fun b hb => Nat.le_trans F.le (hl b hb)⟩, hl, hn⟩
theorem Mod.copy (X : Mod h0 k g B r n) (hr : k.R = true) (hn : n ≤ 1000) : Ev (C 115 [.ptr B.b 0] g) fun z => ∃ D, z.1 = .ptr D.b 0 ∧ Fr [] g z.2 ∧ Mod h0 k z.2 D r n ∧ (∀ b ∈ D.l, g.next ≤ b) ∧ D.nb = B.nb := by
  have hB := Cfg.R_iff.mp hr
  refine (mdCopy_spec X.fr.ok X.M hr (by have := X.sz.f; omega) (fun l hl => by have := X.sz.l l hl; omega)).mono ?_
  rintro ⟨v, g'⟩ ⟨D, hv, F', M, hl, hn⟩
  exact ⟨D, hv, F', ⟨X.fr.trans F' (by simp), M, X.I, X.sz, fun b hb => Nat.le_trans X.fr.le (hl b hb)⟩, hl, hn⟩
end
end Wm
end

section
/- The laws of layer 17: what stands while acts are played. -/
namespace Wm
attribute [local congr] bind_congr1
attribute [local irreducible] wr

section
variable {h0 : H} {k : Cfg} {g : H} {pS : Nat} {B : MdB} {s : StV} {r : RSt} {g0 : Nat → Option Blk} {n : Nat}
theorem newSt {cs l : List V} (g : H) (ok : g.ok) (h : l.length = cs.length) (h1 : l.all V.one = true) : ∃ g', (g.new (.cells cs .rw)).st cs.length (.ptr g.next 0) (.agg l) = some g' ∧ Fr [] g g' ∧ g'.get g.next = some (.cells l .rw) ∧ g'.next = g.next + 1 := by
  refine ⟨(g.new (.cells cs .rw)).put g.next (some (.cells l .rw)), ?_, ((Fr.refl ok).new _).put (.inr (Nat.le_refl _)) (Nat.lt_succ_self _) _, get_put_self _ _ _, rfl⟩
  have hb : Nat.beq (V.agg l).cells.length cs.length = true := by
    show Nat.beq l.length cs.length = true
    rw [h]; exact Nat.beq_refl _
  rw [st_get', hb, get_new_self]
  show Option.map _ (stB (some (.cells cs .rw)) 0 l) = _
  rw [stB_all h h1]; rfl

end
end Wm
end

section
/- No model: what is asked of it. -/
namespace Wm
attribute [local congr] bind_congr1
attribute [local irreducible] wr

theorem nil_copy (g : H) : C 115 [.nilp] g = some (.nilp, g) := by
  have e : Ev (C 115 [.nilp] g) fun z => z = (.nilp, g) := by
    refine call_ev (af := F.model_Model_Copy) (by kernel_rfl) rfl ?_
    rw [S.model_Model_Copy_eq]
    have hb : eqV .ptr .nilp .nilp = some true := rfl
    simp only [S.model_Model_Copy, hb, obind]
    exact Ev.some rfl
  obtain ⟨z, e, rfl⟩ := e
  exact e
theorem nil_client (g : H) (w : Int) : C 279 [.nilp, .int .i64 w] g = some (.bool false, g) := by
  have e : Ev (C 279 [.nilp, .int .i64 w] g) fun z => z = (.bool false, g) := by
    refine call_ev (af := F.model_Model_client) (by kernel_rfl) rfl ?_
    rw [S.model_Model_client_eq]
    have hb : eqV .ptr .nilp .nilp = some true := rfl
    simp only [S.model_Model_client, hb, obind, Bool.not_true]
    exact Ev.some rfl
  obtain ⟨z, e, rfl⟩ := e
  exact e
theorem nil_held (g : H) (w : Int) : C 105 [.nilp, .int .i64 w] g = some (.int .i64 0, g) := by
  have e : Ev (C 105 [.nilp, .int .i64 w] g) fun z => z = (.int .i64 0, g) := by
    refine call_ev (af := F.model_Model_Held) (by kernel_rfl) rfl ?_
    rw [S.model_Model_Held_eq]
    simp only [S.model_Model_Held, W_call, nil_client, obind, asB_bool, Bool.not_false]
    exact Ev.some rfl
  obtain ⟨z, e, rfl⟩ := e
  exact e
theorem nil_node (g : H) (w x : Int) : C 106 [.nilp, .int .i64 w, .int .u64 x] g = some (.int .i64 (-1), g) := by
  have e : Ev (C 106 [.nilp, .int .i64 w, .int .u64 x] g) fun z => z = (.int .i64 (-1), g) := by
    refine call_ev (af := F.model_Model_Node) (by kernel_rfl) rfl ?_
    rw [S.model_Model_Node_eq]
    simp only [S.model_Model_Node, W_call, nil_client, obind, asB_bool]
    exact Ev.some rfl
  obtain ⟨z, e, rfl⟩ := e
  exact e
theorem nil_field (g : H) (w x : Int) : C 116 [.nilp, .int .i64 w, .int .i64 x] g = some (.int .i64 (-1), g) := by
  have e : Ev (C 116 [.nilp, .int .i64 w, .int .i64 x] g) fun z => z = (.int .i64 (-1), g) := by
    refine call_ev (af := F.model_Model_Field) (by kernel_rfl) rfl ?_
    rw [S.model_Model_Field_eq]
    have hb : eqV .ptr .nilp .nilp = some true := rfl
    simp only [S.model_Model_Field, hb, obind]
    exact Ev.some rfl
  obtain ⟨z, e, rfl⟩ := e
  exact e
theorem nil_does {g : H} (ok : g.ok) (w k n a b c s t : Int) (u : Bool) : Ev (C 103 [.nilp, .int .i64 w, .agg [.int .i64 k, .int .i64 n, .int .u64 a, .int .u64 b, .int .u64 c], .agg [.int .i64 s, .int .u64 t, .bool u]] g) fun z => z.1 = .bool false ∧ Fr [] g z.2 := by
  refine call_ev (af := F.model_Model_Does) (by kernel_rfl) rfl ?_
  show Ev (evalF W F.model_Model_Does [.nilp, .int .i64 w, .agg [.int .i64 k, .int .i64 n, .int .u64 a, .int .u64 b, .int .u64 c], .agg [.int .i64 s, .int .u64 t, .bool u]] g) _
  rw [S.model_Model_Does_eq]
  simp only [S.model_Model_Does, W_call, nil_client, obind, asB_bool, Bool.not_false]
  exact Ev.some ⟨rfl, ((Fr.refl ok).new _).new _⟩
end Wm
end

section
/- The law ModelCopies, of my machine. -/
namespace Wm
attribute [local congr] bind_congr1
attribute [local irreducible] wr

def shModelCopies : List (Bool × List CSh) := [(false, [.sl 80 [.int .i64, .int .i64, .int .i64, .int .i64, .int .i64, .int .i64, .int .i64, .int .i64, .int .u64, .bool]]), (false, [.sl 80 [.int .i64, .int .i64, .int .i64, .int .i64, .int .i64, .int .i64, .int .i64, .int .i64, .int .u64, .bool]]), (false, [.sl 80 [.int .i64, .int .i64, .int .i64, .int .i64, .int .i64, .int .i64, .int .i64, .int .i64, .int .u64, .bool]])]

/-! ### What is played -/
def plN (n : Int) : Int := wr .u64 (wr .i64 (1000 + n))
def plC (y : ActR) : CallR := ⟨y.kind, y.n, plN y.h, plN y.x, plN y.y⟩
def plG (y : ActR) : Bool := decide (y.kind = 1) || decide (y.kind = 2) || decide (y.kind = 8) || decide (y.kind = 9)
def plA (y : ActR) (i : Nat) : AnsR := ⟨0, if plG y then plN i else 0, false⟩
def plSt (k : Cfg) (l : List ActR) (r : RSt) : Nat → RSt
  | 0 => r
  | i + 1 => match l[i]? with
    | some y => doR k (plSt k l r i) y.c (plC y) (plA y i)
    | none => plSt k l r i
def plStr (k : Cfg) (l : List ActR) (r : RSt) : Nat → ByteArray
  | 0 => ⟨⟨[]⟩⟩
  | i + 1 => match l[i]? with
    | some y => plStr k l r i ++ (if okR k (plSt k l r i) y.c (plC y) (plA y i) then ⟨⟨[121]⟩⟩ else ⟨⟨[110]⟩⟩)
    | none => plStr k l r i
theorem plStr_size (k : Cfg) (l : List ActR) (r : RSt) : ∀ i, (plStr k l r i).size ≤ i
  | 0 => Nat.le_refl _
  | i + 1 => by
    have ih := plStr_size k l r i
    rw [plStr]
    split
    · rw [ByteArray.size_append]
      split
      · show _ + 1 ≤ _; omega
      · show _ + 1 ≤ _; omega
    · omega
theorem plN_eq (n : Int) : wr .u64 (wr .i64 (1000 + n)) = plN n := rfl
theorem plA_t {y : ActR} (i : Nat) (h : plG y = true) : (plA y i).cs = [.int .i64 0, .int .u64 (plN i), .bool false] := by
  unfold plA; rw [h, if_pos rfl]; rfl
theorem plA_f {y : ActR} (i : Nat) (h : plG y = false) : (plA y i).cs = [.int .i64 0, .int .u64 0, .bool false] := by
  unfold plA; rw [h, if_neg (by decide)]; rfl
theorem str_lt (s : ByteArray) (b : UInt8) (h : s.size ≤ 80) : decide (s.size + (⟨⟨[b]⟩⟩ : ByteArray).size ≤ 9223372036854775807) = true := by
  have : (⟨⟨[b]⟩⟩ : ByteArray).size = 1 := rfl
  rw [this]; exact decide_eq_true (by omega)
theorem plN_u64 (n : Int) : U64 (plN n) := by
  unfold plN U64
  generalize wr .i64 (1000 + n) = m
  simp only [wr]; omega

theorem plA_u64 (y : ActR) (i : Nat) : U64 (plA y i).h := by
  have e : (plA y i).h = if plG y then plN i else 0 := rfl
  rw [e]
  split
  · exact plN_u64 _
  · exact (show U64 0 from ⟨by decide, by decide⟩)

theorem playsAll_step {h0 g : H} {k : Cfg} {B : MdB} {r : RSt} {n i : Nat} (ok0 : h0.ok) (hr : k.R = true) {x : V} {l : List ActR} (hx : RowA h0.get x l) (hi : i < l.length) (hl : l.length ≤ 80) (hn : n ≤ 1000) (X : Mod h0 k g B (plSt k l r i) n) :
    Ev (S.withylaw17_plays_c1_S W (.ptr B.b 0) x (plStr k l r i) (i : Nat) g) fun z => z.1 = .normal ∧ z.2.1 = S.withylaw17_plays_c1_E (.ptr B.b 0) x (.str (plStr k l r (i + 1))) (.int .i64 (i + 1 : Nat)) ∧ ∃ B', Mod h0 k z.2.2 B' (plSt k l r (i + 1)) (n + 1) ∧ Fr B.l g z.2.2 ∧ B.ext B' g := by
  obtain ⟨y, hy⟩ : ∃ y, l[i]? = some y := ⟨_, List.getElem?_eq_getElem hi⟩
  have d : decide ((i : Int) < (l.length : Int)) = true := natlt hi
  have hlen := hx.len
  obtain ⟨b, ix, ly, l0, hbx⟩ := hx.at hy
  have hbl : b < h0.next := by
    cases hb : h0.get b with
    | none => rw [hb] at ly; cases ly
    | some blk => exact ok0.lt hb
  have hcell : ∀ j v, y.cs[j]? = some v → v.one = true → h0.ld1 (.ptr b (i * 10 + j)) = some v := fun j v hj h1 => by
    rcases hx with ⟨_, e⟩ | ⟨b', c, kk, e, hb⟩
    · rw [e] at hi; simp at hi
    · have hbb : b = b' := by
        rw [e] at ix
        rw [sl_idx hi] at ix
        simp only [Option.some.injEq, V.ptr.injEq] at ix
        exact ix.1.symm
      subst hbb
      have hj10 := lt_of_get hj
      have hn : (l.map ActR.cs).flatten.length = l.length * 10 := by rw [flat_length (act10 l), List.length_map]
      have hp := flat_part (act10 l) i y.cs (by rw [List.getElem?_map, hy]; rfl)
      refine ld1_get hb ?_ h1
      have h10 : y.cs.length = 10 := rfl
      rw [← hj, ← hp, List.getElem?_take, if_pos (by omega), List.getElem?_drop]
  have rd : ∀ {gg : H}, Fr [] h0 gg → ∀ j v, y.cs[j]? = some v → v.one = true → gg.ld1 (.ptr b (i * 10 + j)) = some v := fun F j v hj h1 => by
    have := hcell j v hj h1
    rw [ld1_get'] at this ⊢
    rw [F.same b hbl (by simp)]; exact this
  have r0 := fun {gg : H} (F : Fr [] h0 gg) => rd F 0 _ rfl rfl
  have r1 := rd X.fr 1 _ rfl rfl
  have r2 := rd X.fr 2 _ rfl rfl
  have r3 := rd X.fr 3 _ rfl rfl
  have r4 := rd X.fr 4 _ rfl rfl
  have r5 := rd X.fr 5 _ rfl rfl
  have hfill : fill [(.int .i64 0), (.int .i64 0), (.int .u64 0), (.int .u64 0), (.int .u64 0)] [] [(0, 1, .c (.int .i64 y.kind)), (1, 1, .c (.int .i64 y.n)), (2, 1, .c (.int .u64 (plN y.h))), (3, 1, .c (.int .u64 (plN y.x))), (4, 1, .c (.int .u64 (plN y.y)))] = some (plC y).cs := rfl
  obtain ⟨g2, e2, F2, hc2, n2⟩ := newSt (cs := [.int .i64 0, .int .i64 0, .int .u64 0, .int .u64 0, .int .u64 0]) (l := (plC y).cs) g X.fr.ok rfl rfl
  obtain ⟨g4, e4, F4, ha4, n4⟩ := newSt (cs := [.int .i64 0, .int .u64 0, .bool false]) (l := [.int .i64 0, .int .u64 0, .bool false]) g2 F2.ok rfl rfl
  simp only [List.length_cons, List.length_nil, Nat.zero_add, Nat.reduceAdd] at e2 e4
  have F24 := F2.trans F4 (by simp)
  have hc4 := F4.get F2.ok hc2 (by simp)
  have kd : g4.ld1 (.ptr g.next 0) = some (.int .i64 y.kind) := ld1_get hc4 rfl rfl
  have wi := mdl_i (i := i) (by omega)
  -- from the call on
  have key : ∀ {g5 : H}, Fr [] g g5 → g5.get g.next = some (.cells (plC y).cs .rw) → g5.get g2.next = some (.cells (plA y i).cs .rw) →
      Ev (S.withylaw17_plays_c4_n W (.ptr B.b 0) x (plStr k l r i) (i : Nat) (.ptr g.next 0) (.ptr g2.next 0) g5) fun z => z.1 = .normal ∧ z.2.1 = S.withylaw17_plays_c1_E (.ptr B.b 0) x (.str (plStr k l r (i + 1))) (.int .i64 (i + 1 : Nat)) ∧ ∃ B', Mod h0 k z.2.2 B' (plSt k l r (i + 1)) (n + 1) ∧ Fr B.l g z.2.2 ∧ B.ext B' g := by
    intro g5 F5 hc5 ha5
    have X5 := X.fr0 F5
    have hu : U64 (plA y i).h := by
      exact plA_u64 y i
    obtain ⟨⟨v, g6⟩, e6, hv, B', X6, F6, E6⟩ := X5.does (c := plC y) (a := plA y i) hr hn hu y.c
    dsimp only at hv X6 F6
    subst hv
    have q0 := r0 X5.fr
    rw [Nat.add_zero] at q0
    have lc : g5.ldN 5 (.ptr g.next 0) = some (.agg (plC y).cs) := by rw [ldN_get hc5 (show 0 + 5 ≤ 5 from Nat.le_refl _)]; rfl
    have la : g5.ldN 3 (.ptr g2.next 0) = some (.agg (plA y i).cs) := by rw [ldN_get ha5 (show 0 + 3 ≤ 3 from Nat.le_refl _)]; rfl
    have s1 : plStr k l r (i + 1) = plStr k l r i ++ (if okR k (plSt k l r i) y.c (plC y) (plA y i) then ⟨⟨[121]⟩⟩ else ⟨⟨[110]⟩⟩) := by rw [plStr, hy]
    have s2 : plSt k l r (i + 1) = doR k (plSt k l r i) y.c (plC y) (plA y i) := by rw [plSt, hy]
    have hsz := plStr_size k l r i
    have d1 : decide ((plStr k l r i).size + (⟨⟨[121]⟩⟩ : ByteArray).size ≤ 9223372036854775807) = true := str_lt _ _ (by omega)
    have d2 : decide ((plStr k l r i).size + (⟨⟨[110]⟩⟩ : ByteArray).size ≤ 9223372036854775807) = true := str_lt _ _ (by omega)
    rw [s1, s2]
    have fin : Fr B.l g g6 := (F5.mono (by simp)).trans F6 (fun b hb => .inl hb)
    cases hok : okR k (plSt k l r i) y.c (plC y) (plA y i) with
    | true =>
      rw [hok] at e6
      simp only [S.withylaw17_plays_c4_n, ix, obind, ptrAt_ptr, Nat.add_zero, q0, lc, la, W_call, e6, asB_bool, d1, wi]
      exact Ev.some ⟨rfl, rfl, B', X6, fin, E6.up F5.le⟩
    | false =>
      rw [hok] at e6
      simp only [S.withylaw17_plays_c4_n, ix, obind, ptrAt_ptr, Nat.add_zero, q0, lc, la, W_call, e6, asB_bool, d2, wi]
      exact Ev.some ⟨rfl, rfl, B', X6, fin, E6.up F5.le⟩
  simp only [S.withylaw17_plays_c1_S, hlen, obind, d, ix, ptrAt_ptr, r1, r2, r3, r4, r5, asI_int, plN_eq, hfill, e2, e4]
  rw [S.withylaw17_plays_c4_eq]
  simp only [S.withylaw17_plays_c4_S]
  rw [S.withylaw17_plays_c6_eq]
  have giv : ∀ b : Bool, b = plG y → Ev ((S.withylaw17_plays_K8 W .normal (S.withylaw17_plays_c6_O (.ptr B.b 0) x (.str (plStr k l r i)) (.int .i64 (i : Nat)) (.ptr g.next 0) (.ptr g2.next 0) (.bool b)) g4).bind fun p24 => S.withylaw17_plays_K6 W p24.1 p24.2.1 p24.2.2) fun z => z.1 = .normal ∧ z.2.1 = S.withylaw17_plays_c1_E (.ptr B.b 0) x (.str (plStr k l r (i + 1))) (.int .i64 (i + 1 : Nat)) ∧ ∃ B', Mod h0 k z.2.2 B' (plSt k l r (i + 1)) (n + 1) ∧ Fr B.l g z.2.2 ∧ B.ext B' g := by
    intro b hb
    rw [S.withylaw17_plays_c6_n_eq]
    cases b with
    | false =>
      simp only [S.withylaw17_plays_c6_n, obind]
      show Ev (S.withylaw17_plays_K6 W .normal _ _) _
      rw [S.withylaw17_plays_c4_n_eq]
      refine key F24 hc4 ?_
      rw [plA_f i hb.symm]; exact ha4
    | true =>
      have s1 := st1_get ha4 (o := 1) (v := .int .u64 (plN i)) (by simp) (one_int _ _) (by simp)
      have ne : g.next ≠ g2.next := by rw [n2]; omega
      simp only [S.withylaw17_plays_c6_n, ptrAt_ptr, obind, Nat.zero_add, plN_eq, s1]
      show Ev (S.withylaw17_plays_K6 W .normal _ _) _
      rw [S.withylaw17_plays_c4_n_eq]
      refine key (F24.put (.inr (by rw [n2]; omega)) (F4.ok.lt ha4) _) (by rw [get_put_ne ne]; exact hc4) ?_
      rw [plA_t i hb.symm]; exact get_put_self _ _ _
  by_cases k1 : y.kind = 1
  · simp only [S.withylaw17_plays_c6_S, ptrAt_ptr, obind, Nat.zero_add, kd, asI_int, decide_eq_true k1]
    exact giv _ (by unfold plG; simp [k1])
  by_cases k2 : y.kind = 2
  · simp only [S.withylaw17_plays_c6_S, ptrAt_ptr, obind, Nat.zero_add, kd, asI_int, decide_eq_false k1, decide_eq_true k2]
    exact giv _ (by unfold plG; simp [k2])
  by_cases k8 : y.kind = 8
  · simp only [S.withylaw17_plays_c6_S, ptrAt_ptr, obind, Nat.zero_add, kd, asI_int, decide_eq_false k1, decide_eq_false k2, decide_eq_true k8]
    exact giv _ (by unfold plG; simp [k8])
  · simp only [S.withylaw17_plays_c6_S, ptrAt_ptr, obind, Nat.zero_add, kd, asI_int, decide_eq_false k1, decide_eq_false k2, decide_eq_false k8]
    exact giv _ (by unfold plG; simp [k1, k2, k8])

theorem ext_trans {B B' B'' : MdB} {g g' : H} (E : B.ext B' g) (E' : B'.ext B'' g') (le : g.next ≤ g'.next) : B.ext B'' g :=
  ⟨E'.b.trans E.b, fun x hx => by
    rcases E'.l x hx with h | h
    · exact E.l x h
    · exact .inr (Nat.le_trans le h), fun x hx => by
    rcases E'.n x hx with h | h
    · exact E.n x h
    · exact .inr (Nat.le_trans le h)⟩

theorem playsAll_spec {h0 g : H} {k : Cfg} {B : MdB} {r : RSt} {n : Nat} (ok0 : h0.ok) (hr : k.R = true) {x : V} {l : List ActR} (hx : RowA h0.get x l) (hl : l.length ≤ 80) (hn : n + 80 ≤ 1000) (X : Mod h0 k g B r n) :
    Ev (C 114 [.ptr B.b 0, x] g) fun z => z.1 = .str (plStr k l r l.length) ∧ ∃ B', Mod h0 k z.2 B' (plSt k l r l.length) (n + l.length) ∧ Fr B.l g z.2 ∧ B.ext B' g := by
  refine call_ev (af := F.withylaw17_plays) (by kernel_rfl) rfl ?_
  rw [S.withylaw17_plays_eq]
  simp only [S.withylaw17_plays]
  refine loop_ev (α := Nat) (fun i => S.withylaw17_plays_c1_E (.ptr B.b 0) x (.str (plStr k l r i)) (.int .i64 (i : Nat)))
    (fun i g' => i ≤ l.length ∧ ∃ B', Mod h0 k g' B' (plSt k l r i) (n + i) ∧ Fr B.l g g' ∧ B.ext B' g) (fun i _ => l.length - i)
    (fun z => z.1 = .exit 0 ∧ z.2.1 = S.withylaw17_plays_c1_O (.str (plStr k l r l.length)) ∧ ∃ B', Mod h0 k z.2.2 B' (plSt k l r l.length) (n + l.length) ∧ Fr B.l g z.2.2 ∧ B.ext B' g) 0 rfl ⟨Nat.zero_le _, B, X, (Fr.refl X.fr.ok), .refl B g⟩ ?_ ?_
  rotate_left
  · rintro ⟨_, _, g'⟩ ⟨rfl, rfl, B', X', F', E'⟩
    show Ev (S.withylaw17_plays_K2 W (.exit 0) _ _) _
    rw [S.withylaw17_plays_c1_e0_eq]
    exact Ev.some ⟨rfl, B', X', F', E'⟩
  rintro i g' ⟨hi, B1, X1, F1, E1⟩
  rw [S.withylaw17_plays_c1_eq]
  by_cases hil : i < l.length
  · rw [← E1.b]
    refine (playsAll_step ok0 hr hx hil hl (by omega) X1).mono ?_
    rintro ⟨_, _, g2⟩ ⟨rfl, rfl, B2, X2, F2, E2⟩
    refine .inl ⟨i + 1, rfl, rfl, ⟨hil, B2, X2, F1.trans F2 (fun b hb => E1.l b hb), ext_trans E1 E2 F1.le⟩, Nat.sub_lt_sub_left hil (Nat.lt_succ_self i)⟩
  · have hie : i = l.length := Nat.le_antisymm hi (Nat.le_of_not_lt hil)
    subst hie
    have d : decide ((l.length : Int) < (l.length : Int)) = false := decide_eq_false (Int.lt_irrefl _)
    have hlen := hx.len
    simp only [S.withylaw17_plays_c1_S, hlen, obind, d]
    exact Ev.some (.inr ⟨by simp, rfl, rfl, B1, X1, F1, E1⟩)

theorem lawModelCopies (h : H) (us : List V) (ok : h.ok) (ha : ArgsOk h.get shModelCopies us) : Ev (C 17 us h) fun r => r.1 = .bool true := by
  obtain ⟨_, _, rfl, ⟨_, _, hx, hxc, rfl⟩, _, _, rfl, ⟨_, _, hy, hyc, rfl⟩, _, _, rfl, ⟨_, _, hz, hzc, rfl⟩, rfl⟩ := ha
  cases hx; cases hy; cases hz
  rename_i x0 x1 x2
  obtain ⟨l, hx, _⟩ := rowA_of hxc
  obtain ⟨m, hy, _⟩ := rowA_of hyc
  obtain ⟨o, hz, _⟩ := rowA_of hzc
  refine call_ev (af := F.withylaw17_ModelCopies) (by kernel_rfl) rfl ?_
  rw [S.withylaw17_ModelCopies_eq]
  have hxl := hx.len
  have hyl := hy.len
  have hzl := hz.len
  obtain ⟨⟨v1, g1⟩, e1, A, rfl, F1, XA, hA, nA⟩ := Mod.new (h0 := h) cfg17_R (Fr.refl ok)
  dsimp only at F1 XA
  obtain ⟨⟨v2, g2⟩, e2, B, rfl, F2, XB, hB, nB⟩ := Mod.new (h0 := h) cfg17_R XA.fr
  dsimp only at F2 XB
  have XA2 := XA.fr0 F2
  have aw := awake17
  by_cases h80 : 80 < l.length
  · have d : decide ((80 : Int) < (l.length : Int)) = true := decide_eq_true (by omega)
    simp only [S.withylaw17_ModelCopies, obind, W_call, config17_spec, e1, e2, hxl, d, aw]
    exact Ev.some rfl
  have d : decide ((80 : Int) < (l.length : Int)) = false := decide_eq_false (by omega)
  by_cases m80 : 80 < m.length
  · have d1 : decide ((80 : Int) < (m.length : Int)) = true := decide_eq_true (by omega)
    simp only [S.withylaw17_ModelCopies, obind, W_call, config17_spec, e1, e2, hxl, hyl, d, d1, aw]
    exact Ev.some rfl
  have d1 : decide ((80 : Int) < (m.length : Int)) = false := decide_eq_false (by omega)
  by_cases o80 : 80 < o.length
  · have d2 : decide ((80 : Int) < (o.length : Int)) = true := decide_eq_true (by omega)
    simp only [S.withylaw17_ModelCopies, obind, W_call, config17_spec, e1, e2, hxl, hyl, hzl, d, d1, d2, aw]
    exact Ev.some rfl
  have d2 : decide ((80 : Int) < (o.length : Int)) = false := decide_eq_false (by omega)
  have hl := Nat.not_lt.mp h80
  have hm := Nat.not_lt.mp m80
  have ho := Nat.not_lt.mp o80
  -- A and B apart
  have pBA : Apart B A := Apart.new XA hB
  have pAB : Apart A B := Apart.newR XA hB (fun b hb => by rw [nB] at hb; cases hb)
  -- A plays
  obtain ⟨⟨v3, g3⟩, e3, rfl, A1, XA3, F3, E3⟩ := playsAll_spec ok cfg17_R hx hl (by decide) XA2
  dsimp only at XA3 F3
  have XB3 := XB.keep XA2 F3 pAB
  have pA1B := pAB.ext1 XB E3
  have pBA1 := pBA.ext2 XB E3
  -- B plays
  obtain ⟨⟨v4, g4⟩, e4, rfl, B1, XB4, F4, E4⟩ := playsAll_spec ok cfg17_R hx hl (by decide) XB3
  dsimp only at XB4 F4
  have XA4 := XA3.keep XB3 F4 pBA1
  have pB1A1 := pBA1.ext1 XA3 E4
  have pA1B1 := pA1B.ext2 XA3 E4
  -- the copy
  obtain ⟨⟨v5, g5⟩, e5, K, rfl, F5, XK, hK, nK⟩ := XA4.copy cfg17_R (by omega)
  dsimp only at F5 XK
  have XA5 := XA4.fr0 F5
  have XB5 := XB4.fr0 F5
  have pKA : Apart K A1 := Apart.new XA4 hK
  have pKB : Apart K B1 := Apart.new XB4 hK
  -- it plays
  obtain ⟨⟨v6, g6⟩, e6, rfl, K1, XK6, F6, E6⟩ := playsAll_spec ok cfg17_R hz ho (by omega) XK
  dsimp only at XK6 F6
  have XA6 := XA5.keep XK F6 pKA
  have XB6 := XB5.keep XK F6 pKB
  -- both go on
  obtain ⟨⟨v7, g7⟩, e7, rfl, A2, XA7, F7, E7⟩ := playsAll_spec ok cfg17_R hy hm (by omega) XA6
  dsimp only at XA7 F7
  have XB7 := XB6.keep XA6 F7 pA1B1
  obtain ⟨⟨v8, g8⟩, e8, rfl, B2, XB8, F8, E8⟩ := playsAll_spec ok cfg17_R hy hm (by omega) XB7
  dsimp only at XB8 F8
  have b3 := E3.b
  have b4 := E4.b
  rw [b3] at e5 e7
  rw [b4] at e8
  have n1 := nil_copy g8
  obtain ⟨⟨v9, g9⟩, e9, rfl, _⟩ := nil_does XB8.fr.ok 0 1 0 0 0 0 0 1 false
  have n3 := nil_held g9 0
  have n4 := nil_node g9 0 1
  have n5 := nil_field g9 0 0
  have bS : ∀ s : ByteArray, eqV .str (.str s) (.str s) = some true := fun s => by
    show some (s.toList == s.toList) = some true
    rw [BEq.rfl]
  have bn : eqV .ptr .nilp .nilp = some true := rfl
  have bK : eqV .ptr (.ptr K.b 0) .nilp = some false := rfl
  have z0 : decide ((0 : Int) = 0) = true := rfl
  have z1 : decide ((-1 : Int) = -1) = true := rfl
  simp only [S.withylaw17_ModelCopies, obind, W_call, config17_spec, e1, e2, hxl, hyl, hzl, d, d1, d2, aw, asB_bool, asI_int, Bool.not_true, Bool.not_false, e3, e4, e5, e6, e7, e8, bK, bn, bS, n1, e9, n3, n4, n5]
  exact Ev.some rfl
end Wm
end

