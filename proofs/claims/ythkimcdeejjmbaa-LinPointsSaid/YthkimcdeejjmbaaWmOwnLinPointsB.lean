/- What the functions come to, and the law: of my machine. -/
import Derived.Test.YthkimcdeejjmbaaWmOwnLinPointsA
import Derived.Test.YthkimcdeejjmbaaWmTxtLinPointsB
import Derived.Test.YthkimcdeejjmbaaWmEv
import Derived.Test.YthkimcdeejjmbaaWmOpen
import Derived.Test.YthkimcdeejjmbaaWmPOp0
import Derived.KernelRfl
import Derived.Test.YthkimcdeejjmbaaWmShal
import Derived.Test.YthkimcdeejjmbaaWmCore
import Derived.Test.YthkimcdeejjmbaaWmFnc
import Derived.Test.YthkimcdeejjmbaaWmProgLinPoints
import Derived.Sort.LotA
import Derived.Sort.LotC
import Derived.Test.YthkimcdeejjmbaaWmTxtLinPointsC
import Derived.Sort.Lot0
import Derived.Sort.LotD3
import Derived.Test.YthkimcdeejjmbaaWmFast
import Derived.Test.YthkimcdeejjmbaaWmFnsLinPoints
import Derived.Sort.LotD1
set_option linter.all false
noncomputable section
namespace Wm
attribute [local congr] zk
attribute [local irreducible] wr
section
variable {k : Cfg} {B : MdB} {r : RSt} {c : CallR} {a : AnsR}
def MdOut (k : Cfg) (B : MdB) (h : H) (b : Bool) (r' : RSt) (z : V × H) : Prop := z.1 = .bool b ∧ Fr B.l h z.2 ∧ ∃ B', MdAt k z.2.get B' r' ∧ B.ext B' h
theorem MdOut.same {h g : H} (ok : h.ok) (M : MdAt k h.get B r) (F : Fr [] h g) (b : Bool) : MdOut k B h b r (.bool b, g) := ⟨rfl, F.mono (by simp), B, M.fr0 ok F, .refl B h⟩
theorem MdOut.up {h g : H} {b : Bool} {r' : RSt} {z : V × H} (F : Fr [] h g) (O : MdOut k B g b r' z) : MdOut k B h b r' z := by
  obtain ⟨h1, h2, B', h3, h4⟩ := O
  exact ⟨h1, (F.mono (by simp)).trans h2 (fun b hb => .inl hb), B', h3, h4.up F.le⟩
theorem z092 {q : Int} (h : r.fresh q = true) : r.Gv.contains q = false := by
  unfold RSt.fresh at h
  cases hc : r.Gv.contains q with
  | false => rfl
  | true => rw [hc] at h; cases h
theorem z08p {g : H} {q pa : Nat} (D : DnAt k B r c a g q pa) (I : RIn k r) (Bs : r.small) (ka : k.a ≤ 8) (hu : U64 a.h) {w : Int} (w0 : 0 ≤ w) (w1 : w < k.c) (he : errR k r w c = 0) (hfr : z73 r w c = true → r.fresh a.h = true) :
    Ev ((S.zfs W (S.zfj (.ptr B.b 0) (.int .i64 w) (.ptr q 0) (.ptr pa 0) (.int .i64 (r.node w c.h)) (.bool (z73 r w c)) (.bool (yesR r w c))) g).bind fun p0 => S.zgm W p0.1 p0.2.1 p0.2.2) (MdOut k B g true (z4c r w c a)) := by
  have E := z00n he
  have hr := E.rng
  have hf : z73 r w c = true → r.Gv.contains a.h = false := fun hg => z092 (hfr hg)
  rw [S.zsi]
  have key : Ev (S.z07 W (.ptr B.b 0) w (.ptr q 0) (.ptr pa 0) (r.node w c.h) (z73 r w c) (yesR r w c) g) (SwM k B g (z4c r w c a)) := by
    by_cases k1 : c.kind = 1
    · obtain ⟨h1, h2, _⟩ := E.new k1
      exact z0aw D I Bs.f k1 w0 w1 (n := c.n.toNat) (by omega) (by omega) (hf (by unfold z73; rw [decide_eq_true k1]; rfl)) _ _
    by_cases kf : c.kind = 2 ∨ c.kind = 3 ∨ c.kind = 4 ∨ c.kind = 5
    · obtain ⟨n, hn, hF⟩ := I.flAt (E.node (by omega) (by omega))
      obtain ⟨h1, h2⟩ := E.fld (by omega) (by omega)
      exact z0bf D I w0 w1 hF (i := c.n.toNat) (by omega) hn (by omega) _ _ rfl rfl hf kf
    · refine z0bo D I Bs w0 w1 _ _ (fun k8 => ?_) (fun h => hf ?_) (fun h9 => (E.next h9).1) hu (by omega)
      · obtain ⟨n, hn, hF⟩ := I.flAt (E.node (by omega) (by omega))
        exact ⟨n, hn, z01 hF⟩
      · unfold z73
        rcases h with h | h
        · rw [h]; simp
        · rw [h]; simp
  refine Ev.bind key ?_
  rintro ⟨_, _, g'⟩ ⟨rfl, rfl, F', B', M', E'⟩
  dsimp only at F' M' E' ⊢
  rw [S.zrm]
  exact Ev.some ⟨rfl, F', B', M', E'⟩
theorem z08r {g : H} {q pa : Nat} (D : DnAt k B r c a g q pa) (I : RIn k r) (Bs : r.small) (ka : k.a ≤ 8) (hu : U64 a.h) {w : Int} (w0 : 0 ≤ w) (w1 : w < k.c) (he : errR k r w c = 0) (ha : a.err = 0) :
    Ev ((S.zes W (S.zfx (.ptr B.b 0) (.int .i64 w) (.ptr q 0) (.ptr pa 0) (.int .i64 (r.node w c.h)) (.bool (z73 r w c)) (.bool (yesR r w c))) g).bind fun p0 => S.zgq W p0.1 p0.2.1 p0.2.2) (MdOut k B g (okR k r w c a) (doR k r w c a)) := by
  have hok : okR k r w c a = ok13 r w c a := by
    unfold okR ok13
    rw [if_neg (by omega), if_neg (by rw [he]; simp), if_neg (by omega)]
    have : (a.yes == yesR r w c) = decide (a.yes = yesR r w c) := by cases a.yes <;> cases yesR r w c <;> rfl
    rw [this]
  have hS : S.z6n W (.ptr B.b 0) w (.ptr q 0) (.ptr pa 0) (r.node w c.h) (z73 r w c) (yesR r w c) g = some (.normal, S.z3q (.ptr B.b 0) (.int .i64 w) (.ptr q 0) (.ptr pa 0) (.int .i64 (r.node w c.h)) (.bool (z73 r w c)) (.bool (yesR r w c)) (.bool (!ok13 r w c a)), g) := by
    have han := D.an
    have hfs := z05v D.A.M a.h
    unfold ok13
    rw [decide_eq_true ha]
    cases dy : (a.yes == yesR r w c) with
    | false => simp only [S.z6n, zg, zd, zb, zf, List.getElem?_cons_zero, List.getElem?_cons_succ, Nat.zero_add, z8m, zm, ze, Bool.and_false, Bool.false_and, Bool.not_false, eqV, zh, han, dy]
    | true =>
      cases dg : z73 r w c with
      | false => simp only [S.z6n, zg, zd, zb, zf, List.getElem?_cons_zero, List.getElem?_cons_succ, Nat.zero_add, z8m, zm, ze, Bool.true_and, Bool.not_true, Bool.not_false, Bool.and_self, if_false, eqV, han, dy, Bool.false_eq_true]
      | true =>
        cases df : r.fresh a.h with
        | true =>
          rw [df] at hfs
          simp only [S.z6n, zg, zd, zb, zf, List.getElem?_cons_zero, List.getElem?_cons_succ, Nat.zero_add, z8m, zm, z04, Bool.not_true, Bool.and_self, if_true, eqV, zh, han, dy, hfs]
        | false =>
          rw [df] at hfs
          simp only [S.z6n, zg, zd, zb, zf, List.getElem?_cons_zero, List.getElem?_cons_succ, Nat.zero_add, z8m, zm, z04, Bool.and_false, Bool.not_true, Bool.not_false, Bool.and_self, if_true, eqV, zh, han, dy, hfs]
  rw [S.zt5, hS, zd, S.zqu]
  cases ho : ok13 r w c a with
  | true =>
    have hd : doR k r w c a = z4c r w c a := by
      unfold doR zqj
      rw [hok, ho, he, ha]; rfl
    rw [hd, hok, ho]
    simp only [S.zf7, Bool.not_true]
    refine z08p D I Bs ka hu w0 w1 he fun hg => ?_
    unfold ok13 at ho
    rw [if_pos hg] at ho
    simp only [Bool.and_eq_true] at ho
    exact ho.2
  | false =>
    have hd : doR k r w c a = r := by
      unfold doR zqj
      rw [hok, ho]; rfl
    rw [hd, hok, ho]
    simp only [S.zf7, Bool.not_false]
    exact Ev.some (MdOut.same D.A.ok D.A.M (.refl D.A.ok) false)
theorem z060 {h : H} (ok : h.ok) (M : MdAt k h.get B r) (I : RIn k r) (Bs : r.small) (ka : k.a ≤ 8) (hu : U64 a.h) {w : Int} (w0 : 0 ≤ w) (w1 : w < k.c) (he : errR k r w c = 0) (ha : a.err = 0) :
    Ev (C 284 [.ptr B.b 0, .int .i64 w, .agg c.cs, .agg a.cs] h) (MdOut k B h (okR k r w c a) (doR k r w c a)) := by
  refine z0i (af := F.z0n) (by kernel_rfl) rfl ?_
  have hcs : V.agg c.cs = .agg [.int .i64 c.kind, .int .i64 c.n, .int .u64 c.h, .int .u64 c.x, .int .u64 c.y] := rfl
  have has : V.agg a.cs = .agg [.int .i64 a.err, .int .u64 a.h, .bool a.yes] := rfl
  rw [hcs, has, S.zw0]
  simp only [S.z0n]
  have F0 : Fr [] h ((h.new (.cells [.int .i64 c.kind, .int .i64 c.n, .int .u64 c.h, .int .u64 c.x, .int .u64 c.y] .rw)).new (.cells [.int .i64 a.err, .int .u64 a.h, .bool a.yes] .rw)) := ((Fr.refl ok).new _).new _
  have hlt := M.lt ok
  have D : DnAt k B r c a ((h.new (.cells [.int .i64 c.kind, .int .i64 c.n, .int .u64 c.h, .int .u64 c.x, .int .u64 c.y] .rw)).new (.cells [.int .i64 a.err, .int .u64 a.h, .bool a.yes] .rw)) h.next (h.next + 1) :=
    ⟨⟨F0.ok, M.fr0 ok F0, by rw [zb7 (Nat.ne_of_lt (Nat.lt_succ_self _)), zp]⟩, zp _ _, fun q => by have := hlt _ q; omega, fun q => by have := hlt _ q; omega⟩
  have hn1 : (h.new (.cells [.int .i64 c.kind, .int .i64 c.n, .int .u64 c.h, .int .u64 c.x, .int .u64 c.y] .rw)).next = h.next + 1 := rfl
  rw [hn1]
  generalize ((h.new (.cells [.int .i64 c.kind, .int .i64 c.n, .int .u64 c.h, .int .u64 c.x, .int .u64 c.y] .rw)).new (.cells [.int .i64 a.err, .int .u64 a.h, .bool a.yes] .rw)) = g at D F0 ⊢
  generalize h.next + 1 = pa at D ⊢
  generalize h.next = q at D ⊢
  have E := z00n he
  have hcl := D.A.cl
  have n1 := zcp D.A.M w c.h
  have n2 := zcp D.A.M w c.x
  rw [if_pos ⟨w0, w1⟩] at n1 n2
  have l6 := D.A.M.l6
  -- the switch: does it give a handle, and what is answered
  have fin : ∀ {g1 : H}, Fr [] g g1 → ∀ b1 b2, z73 r w c = b1 → yesR r w c = b2 → Ev (S.zey W (.ptr B.b 0) w (.ptr q 0) (.ptr pa 0) (r.node w c.h) b1 b2 g1) (MdOut k B h (okR k r w c a) (doR k r w c a)) := fun F1 b1 b2 e1 e2 => by
    subst e1; subst e2
    simp only [S.zey]
    exact (z08r (D.fr F1) I Bs ka hu w0 w1 he ha).mono fun z hz => hz.up (F0.trans' F1)
  have Fg : Fr [] g g := .refl D.A.ok
  simp only [zd, zb, zf, List.getElem?_cons_zero, List.getElem?_cons_succ, zm, zh, hcl, n1]
  have gv : z73 r w c = (decide (c.kind = 1) || decide (c.kind = 8) || decide (c.kind = 9) || (decide (c.kind = 2) && decide (0 ≤ r.fat (r.node w c.h) c.n))) := rfl
  have ys : yesR r w c = ((decide (c.kind = 5) && zxn r w c) || (decide (c.kind = 7) && decide (r.node w c.h = r.node w c.x))) := rfl
  by_cases k1 : c.kind = 1
  · have d1 : decide (c.kind = 1) = true := decide_eq_true k1
    simp only [S.z4i, S.z3p, S.z3d, S.z4k, S.z3v, S.z3g, S.z3u, zg, zd, zb, zf, List.getElem?_cons_zero, Nat.add_zero, zm, hcl, d1]
    exact fin Fg true false (by rw [gv, d1]; rfl) (by rw [ys, k1]; simp)
  have d1 : decide (c.kind = 1) = false := decide_eq_false k1
  by_cases k8 : c.kind = 8
  · have d8 : decide (c.kind = 8) = true := decide_eq_true k8
    simp only [S.z4i, S.z3p, S.z3d, S.z4k, S.z3v, S.z3g, S.z3u, zg, zd, zb, zf, List.getElem?_cons_zero, Nat.add_zero, zm, hcl, d1, d8]
    exact fin Fg true false (by rw [gv, d1, d8]; rfl) (by rw [ys, k8]; simp)
  have d8 : decide (c.kind = 8) = false := decide_eq_false k8
  by_cases k9 : c.kind = 9
  · have d9 : decide (c.kind = 9) = true := decide_eq_true k9
    simp only [S.z4i, S.z3p, S.z3d, S.z4k, S.z3v, S.z3g, S.z3u, zg, zd, zb, zf, List.getElem?_cons_zero, Nat.add_zero, zm, hcl, d1, d8, d9]
    exact fin Fg true false (by rw [gv, d1, d8, d9]; rfl) (by rw [ys, k9]; simp)
  have d9 : decide (c.kind = 9) = false := decide_eq_false k9
  by_cases k2 : c.kind = 2
  · have d2 : decide (c.kind = 2) = true := decide_eq_true k2
    obtain ⟨nn, en, hF⟩ := I.flAt (E.node (by omega) (by omega))
    obtain ⟨h0, h1⟩ := E.fld (by omega) (by omega)
    obtain ⟨j, ej, hj⟩ := RSt.fatAt h0 h1
    obtain ⟨b, y, ix, ly, Y⟩ := D.A.M.rows.at hF
    obtain ⟨b3, o3, i3, l3⟩ := Y.at hj
    rw [← ej] at i3
    rw [← en] at ix
    simp only [S.z4i, S.z3p, S.z3d, S.z4k, S.z3v, S.z3g, S.z3u, zj, zg, zd, zb, zf, List.getElem?_cons_zero, List.getElem?_cons_succ, Nat.zero_add, Nat.add_zero, zm, ze, zj, hcl, d1, d8, d9, d2, l6, ix, ly, i3, l3]
    exact fin Fg _ false (by rw [gv, d1, d8, d9, d2]; rfl) (by rw [ys, k2]; simp)
  have d2 : decide (c.kind = 2) = false := decide_eq_false k2
  have gv0 : z73 r w c = false := by rw [gv, d1, d8, d9, d2]; rfl
  by_cases k5 : c.kind = 5
  · have d5 : decide (c.kind = 5) = true := decide_eq_true k5
    obtain ⟨h0, h1⟩ := E.fld (by omega) (by omega)
    obtain ⟨⟨v, g1⟩, e1, rfl, F1⟩ := zti D.A.ok D.A.M I (c := c) w0 w1 (E.node (by omega) (by omega)) ⟨h0, h1⟩
    dsimp only at F1
    unfold CallR.cs at e1
    simp only [S.z4i, S.z3p, S.z3d, S.z4k, S.z3v, S.z3g, S.z3u, zg, zd, zb, z14, zf, z0s, List.getElem?_cons_zero, Nat.zero_add, Nat.add_zero, Nat.reduceAdd, Nat.reduceLeDiff, zm, List.length_cons, List.length_nil, decide_true, List.take_succ_cons, List.take_zero, List.drop_zero, zh, hcl, d1, d8, d9, d2, d5, e1]
    exact fin F1 false _ gv0 (by rw [ys, d5, k5]; simp)
  have d5 : decide (c.kind = 5) = false := decide_eq_false k5
  by_cases k7 : c.kind = 7
  · have d7 : decide (c.kind = 7) = true := decide_eq_true k7
    simp only [S.z4i, S.z3p, S.z3d, S.z4k, S.z3v, S.z3g, S.z3u, zg, zd, zb, zf, List.getElem?_cons_zero, List.getElem?_cons_succ, Nat.zero_add, Nat.add_zero, zm, ze, zh, hcl, d1, d8, d9, d2, d5, d7, n2]
    exact fin Fg false _ gv0 (by rw [ys, d5, d7]; rfl)
  · have d7 : decide (c.kind = 7) = false := decide_eq_false k7
    simp only [S.z4i, S.z3p, S.z3d, S.z4k, S.z3v, S.z3g, S.z3u, zg, zd, zb, zf, List.getElem?_cons_zero, Nat.add_zero, zm, hcl, d1, d8, d9, d2, d5, d7]
    exact fin Fg false false gv0 (by rw [ys, d5, d7]; rfl)
theorem z076 (e h e' h' : Int) (y y' : Bool) : eqV (.agg [(0, .int), (1, .int), (2, .bool)]) (.agg [.int .i64 e, .int .u64 h, .bool y]) (.agg [.int .i64 e', .int .u64 h', .bool y']) = some (decide (e = e') && decide (h = h') && (y == y')) := by
  simp only [eqV, zae, List.getElem?_cons_zero, List.getElem?_cons_succ, z5u, decide_true]
  cases decide (e = e') <;> cases decide (h = h') <;> cases (y == y') <;> rfl
theorem z04n {h g : H} {q pa : Nat} (F0 : Fr [] h g) (D : DnAt k B r c a g q pa) (I : RIn k r) (Bs : r.small) (ka : k.a ≤ 8) (hu : U64 a.h) {w : Int} (w0 : 0 ≤ w) (w1 : w < k.c) (fl : Bool) (hfl : errR k r w c = 0 → fl = (decide (c.kind = 1) || (decide (3 ≤ c.kind) && decide (c.kind ≤ 5)))) :
    Ev (S.z1w W (.ptr B.b 0) w (.ptr q 0) (.ptr pa 0) (errR k r w c) fl g) (MdOut k B h (okR k r w c a) (doR k r w c a)) := by
  have hcl := D.A.cl
  have han := D.an
  have keep : ∀ {g1 : H}, Fr [] g g1 → ∀ b, okR k r w c a = b → doR k r w c a = r → MdOut k B h (okR k r w c a) (doR k r w c a) (.bool b, g1) := fun F b e1 e2 => by
    rw [e1, e2]
    exact (MdOut.same D.A.ok D.A.M F b).up F0
  have Fg : Fr [] g g := .refl D.A.ok
  by_cases he : errR k r w c = 0
  rotate_left
  · have de : decide (errR k r w c = 0) = false := decide_eq_false he
    have hok : okR k r w c a = (decide (a.err = errR k r w c) && decide (a.h = 0) && (a.yes == false)) := by
      unfold okR
      rw [if_neg (by omega), if_pos he]
      cases a.yes <;> rfl
    have hd : doR k r w c a = r := by
      unfold doR zqj
      rw [de]; simp
    have hq := z076 a.err a.h (errR k r w c) 0 a.yes false
    simp only [S.z1w, de, Bool.not_false, z14, han, z0s, List.length_cons, List.length_nil, Nat.zero_add, Nat.reduceAdd, Nat.le_refl, decide_true, List.drop_zero, List.take_succ_cons, List.take_zero, zd, hq]
    exact Ev.some (keep Fg _ hok hd)
  have de : decide (errR k r w c = 0) = true := decide_eq_true he
  have hfl := hfl he
  have E := z00n he
  have dz : decide ((0 : Int) = 0) = true := rfl
  rw [he]
  by_cases h4 : a.err = 4
  · have d4 : decide (a.err = 4) = true := decide_eq_true h4
    have hok : okR k r w c a = (zrg r w c && decide (a.h = 0) && !a.yes) := by
      unfold okR
      rw [if_neg (by omega), if_neg (by rw [he]; simp), if_pos h4]
    have hd : doR k r w c a = r := by
      unfold doR zqj
      rw [h4]; simp
    have hm : zrg r w c = (decide (c.kind = 1) || decide (c.kind = 3) || decide (c.kind = 4) || (decide (c.kind = 5) && zxn r w c)) := rfl
    have hq := z076 a.err a.h 4 0 a.yes false
    rw [d4, Bool.true_and] at hq
    have hyy : (a.yes == false) = !a.yes := by cases a.yes <;> rfl
    rw [hyy] at hq
    simp only [eqV] at hq
    have hq1 : (decide (a.h = 0) && !a.yes) = true ∨ (decide (a.h = 0) && !a.yes) = false := by cases (decide (a.h = 0) && !a.yes) <;> simp
    cases hf : fl with
    | false =>
      have hm0 : zrg r w c = false := by
        rw [hf] at hfl
        have h1 : decide (c.kind = 1) = false := by
          cases h : decide (c.kind = 1) with
          | false => rfl
          | true => rw [h] at hfl; cases hfl
        have hn1 := of_decide_eq_false h1
        rw [h1, Bool.false_or] at hfl
        have h2 : ¬ (3 ≤ c.kind ∧ c.kind ≤ 5) := fun q => by
          rw [decide_eq_true q.1, decide_eq_true q.2] at hfl; cases hfl
        rw [hm, h1, decide_eq_false (show ¬ c.kind = 3 by omega), decide_eq_false (show ¬ c.kind = 4 by omega), decide_eq_false (show ¬ c.kind = 5 by omega)]; rfl
      simp only [S.z1w, zg, zd, zb, z14, zf, z0s, List.getElem?_cons_zero, Nat.zero_add, Nat.add_zero, Nat.reduceAdd, Nat.reduceLeDiff, zm, ze, List.length_cons, List.length_nil, Bool.not_true, decide_true, List.take_succ_cons, List.take_zero, List.drop_zero, zh, han, d4]
      exact Ev.some (keep Fg false (by rw [hok, hm0]; rfl) hd)
    | true =>
      rcases hq1 with e | e
      rotate_left
      · rw [e] at hq
        simp only [S.z1w, zg, zd, zb, z14, zf, z0s, List.getElem?_cons_zero, Nat.zero_add, Nat.add_zero, Nat.reduceAdd, Nat.reduceLeDiff, zm, ze, List.length_cons, List.length_nil, Bool.not_true, decide_true, List.take_succ_cons, List.take_zero, List.drop_zero, eqV, zh, han, d4]
        rw [zk hq, zd]
        exact Ev.some (keep Fg false (by rw [hok, Bool.and_assoc, e, Bool.and_false]) hd)
      · rw [e] at hq
        by_cases k5 : c.kind = 5
        · have d5 : decide (c.kind = 5) = true := decide_eq_true k5
          obtain ⟨h0, h1⟩ := E.fld (by omega) (by omega)
          obtain ⟨⟨v, g1⟩, e1, rfl, F1⟩ := zti D.A.ok D.A.M I (c := c) w0 w1 (E.node (by omega) (by omega)) ⟨h0, h1⟩
          dsimp only at F1
          unfold CallR.cs at e1
          simp only [S.z1w, zg, zd, zb, z14, zf, z0s, List.getElem?_cons_zero, Nat.zero_add, Nat.add_zero, Nat.reduceAdd, Nat.reduceLeDiff, zm, ze, List.length_cons, List.length_nil, Bool.not_true, decide_true, List.take_succ_cons, List.take_zero, List.drop_zero, eqV, zh, han, d4]
          rw [zk hq, zd]
          simp only [zd, zf, z0s, List.getElem?_cons_zero, Nat.zero_add, Nat.reduceAdd, Nat.reduceLeDiff, zm, ze, z04, List.length_cons, List.length_nil, decide_true, List.take_succ_cons, List.take_zero, List.drop_zero, hcl, d5, e1, Bool.not_not]
          exact Ev.some (keep F1 _ (by rw [hok, Bool.and_assoc, e, Bool.and_true, hm, k5]; simp) hd)
        · have d5 : decide (c.kind = 5) = false := decide_eq_false k5
          have hm1 : zrg r w c = true := by
            rw [hf] at hfl
            by_cases k1 : c.kind = 1
            · rw [hm, decide_eq_true k1]; rfl
            · rw [decide_eq_false k1, Bool.false_or] at hfl
              have h2 : 3 ≤ c.kind ∧ c.kind ≤ 5 := by simpa using hfl.symm
              by_cases k3 : c.kind = 3
              · rw [hm, decide_eq_true k3]; simp
              · have k4 : c.kind = 4 := by omega
                rw [hm, decide_eq_true k4]; simp
          simp only [S.z1w, zg, zd, zb, z14, zf, z0s, List.getElem?_cons_zero, Nat.zero_add, Nat.add_zero, Nat.reduceAdd, Nat.reduceLeDiff, zm, ze, List.length_cons, List.length_nil, Bool.not_true, decide_true, List.take_succ_cons, List.take_zero, List.drop_zero, eqV, zh, han, d4]
          rw [zk hq, zd]
          simp only [zd, zf, z0s, List.getElem?_cons_zero, Nat.zero_add, Nat.reduceAdd, Nat.reduceLeDiff, zm, ze, List.length_cons, List.length_nil, decide_true, List.take_succ_cons, List.take_zero, List.drop_zero, hcl, d5]
          exact Ev.some (keep Fg true (by rw [hok, Bool.and_assoc, e, hm1]; rfl) hd)
  · have d4 : decide (a.err = 4) = false := decide_eq_false h4
    by_cases h0 : a.err = 0
    · have d0 : decide (a.err = 0) = true := decide_eq_true h0
      obtain ⟨⟨v, g1⟩, e1, O⟩ := z060 D.A.ok D.A.M I Bs ka hu (c := c) w0 w1 he h0
      obtain ⟨hv, F1, B', M', E'⟩ := O
      dsimp only at hv F1 M'
      subst hv
      unfold CallR.cs AnsR.cs at e1
      simp only [S.z1w, zg, zd, zb, z14, zf, z0s, List.getElem?_cons_zero, Nat.zero_add, Nat.add_zero, Nat.reduceAdd, Nat.reduceLeDiff, zm, ze, List.length_cons, List.length_nil, Bool.not_true, decide_true, List.take_succ_cons, List.take_zero, List.drop_zero, eqV, zh, han, hcl, d4, d0, e1]
      exact Ev.some (MdOut.up F0 ⟨rfl, F1, B', M', E'⟩)
    · have d0 : decide (a.err = 0) = false := decide_eq_false h0
      have hok : okR k r w c a = false := by
        unfold okR
        rw [if_neg (by omega), if_neg (by rw [he]; simp), if_neg h4, d0]; rfl
      have hd : doR k r w c a = r := by unfold doR zqj; rw [hok]; rfl
      simp only [S.z1w, zg, zd, zb, z14, zf, z0s, List.getElem?_cons_zero, Nat.zero_add, Nat.add_zero, Nat.reduceAdd, Nat.reduceLeDiff, zm, ze, List.length_cons, List.length_nil, Bool.not_true, decide_true, List.take_succ_cons, List.take_zero, List.drop_zero, eqV, zh, han, d4, d0]
      exact Ev.some (keep Fg false hok hd)
theorem z061 {h : H} (ok : h.ok) (M : MdAt k h.get B r) (I : RIn k r) (Bs : r.small) (ka : k.a ≤ 8) (hu : U64 a.h) (w : Int) :
    Ev (C 103 [.ptr B.b 0, .int .i64 w, .agg c.cs, .agg a.cs] h) (MdOut k B h (okR k r w c a) (doR k r w c a)) := by
  refine z0i (af := F.z29) (by kernel_rfl) rfl ?_
  have hcs : V.agg c.cs = .agg [.int .i64 c.kind, .int .i64 c.n, .int .u64 c.h, .int .u64 c.x, .int .u64 c.y] := rfl
  have has : V.agg a.cs = .agg [.int .i64 a.err, .int .u64 a.h, .bool a.yes] := rfl
  rw [hcs, has, S.zvs]
  simp only [S.z29]
  have F0 : Fr [] h ((h.new (.cells [.int .i64 c.kind, .int .i64 c.n, .int .u64 c.h, .int .u64 c.x, .int .u64 c.y] .rw)).new (.cells [.int .i64 a.err, .int .u64 a.h, .bool a.yes] .rw)) := ((Fr.refl ok).new _).new _
  have hlt := M.lt ok
  have D : DnAt k B r c a ((h.new (.cells [.int .i64 c.kind, .int .i64 c.n, .int .u64 c.h, .int .u64 c.x, .int .u64 c.y] .rw)).new (.cells [.int .i64 a.err, .int .u64 a.h, .bool a.yes] .rw)) h.next (h.next + 1) :=
    ⟨⟨F0.ok, M.fr0 ok F0, by rw [zb7 (Nat.ne_of_lt (Nat.lt_succ_self _)), zp]⟩, zp _ _, fun q => by have := hlt _ q; omega, fun q => by have := hlt _ q; omega⟩
  have hn1 : (h.new (.cells [.int .i64 c.kind, .int .i64 c.n, .int .u64 c.h, .int .u64 c.x, .int .u64 c.y] .rw)).next = h.next + 1 := rfl
  rw [hn1]
  generalize ((h.new (.cells [.int .i64 c.kind, .int .i64 c.n, .int .u64 c.h, .int .u64 c.x, .int .u64 c.y] .rw)).new (.cells [.int .i64 a.err, .int .u64 a.h, .bool a.yes] .rw)) = g at D F0 ⊢
  generalize h.next + 1 = pa at D ⊢
  generalize h.next = q at D ⊢
  have hc := zq7 D.A.M w
  by_cases hw : 0 ≤ w ∧ w < k.c
  rotate_left
  · have hcf : (decide (0 ≤ w) && decide (w < k.c)) = false := by
      rcases Classical.em (0 ≤ w) with h | h
      · rw [decide_eq_false (fun q => hw ⟨h, q⟩), Bool.and_false]
      · rw [decide_eq_false h, Bool.false_and]
    rw [hcf] at hc
    have hok : okR k r w c a = false := by unfold okR; rw [if_pos (by omega)]
    have hd : doR k r w c a = r := by unfold doR zqj; rw [hok]; rfl
    rw [hok, hd]
    simp only [zd, z04, Bool.not_false, zh, hc]
    exact Ev.some (MdOut.same ok M F0 false)
  obtain ⟨w0, w1⟩ := hw
  rw [decide_eq_true w0, decide_eq_true w1] at hc
  have hcl := D.A.cl
  simp only [zd, z04, Bool.not_true, Bool.and_self, zh, hc]
  rw [S.zsz]
  simp only [S.zkx]
  have rest : ∀ {g1 : H}, Fr [] g g1 → ∀ (e : Int) (fl : Bool), errR k r w c = e → (errR k r w c = 0 → fl = (decide (c.kind = 1) || (decide (3 ≤ c.kind) && decide (c.kind ≤ 5)))) → Ev (S.z1w W (.ptr B.b 0) w (.ptr q 0) (.ptr pa 0) e fl g1) (MdOut k B h (okR k r w c a) (doR k r w c a)) := fun F1 e fl he hfl => by
    subst he
    exact z04n (F0.trans' F1) (D.fr F1) I Bs ka hu w0 w1 fl hfl
  have Fg : Fr [] g g := .refl D.A.ok
  by_cases k0 : c.kind < 1 ∨ 10 < c.kind
  · have he : errR k r w c = 8 := by rw [ztk, if_pos k0]
    have hfl : errR k r w c = 0 → false = (decide (c.kind = 1) || (decide (3 ≤ c.kind) && decide (c.kind ≤ 5))) := fun q => by rw [he] at q; cases q
    by_cases k1 : c.kind < 1
    · have d0 : decide (c.kind < 1) = true := decide_eq_true k1
      simp only [S.z6w, S.z86, S.z6m, S.z75, S.z6p, zg, zd, zb, zf, List.getElem?_cons_zero, Nat.add_zero, zm, ze, hcl, d0]
      exact rest Fg 8 false he hfl
    · have d0 : decide (c.kind < 1) = false := decide_eq_false k1
      have d1 : decide (10 < c.kind) = true := decide_eq_true (by omega)
      simp only [S.z6w, S.z86, S.z6m, S.z75, S.z6p, zg, zd, zb, zf, List.getElem?_cons_zero, Nat.add_zero, zm, ze, hcl, d0, d1]
      exact rest Fg 8 false he hfl
  have d0 : decide (c.kind < 1) = false := decide_eq_false (by omega)
  have d10 : decide (10 < c.kind) = false := decide_eq_false (by omega)
  by_cases k1 : c.kind = 1
  · have d1 : decide (c.kind = 1) = true := decide_eq_true k1
    obtain ⟨⟨v, g1⟩, e1, rfl, F1⟩ := z05t (c := c) D.A.ok D.A.M w0 w1
    dsimp only at F1
    unfold CallR.cs at e1
    have he : errR k r w c = (if c.n < 0 ∨ k.a < c.n then 1 else if (r.held w : Int) < k.hd then 0 else 5) := by rw [ztk, if_neg k0, if_pos k1]
    simp only [S.z6w, S.z86, S.z6m, S.z75, S.z6p, zg, zd, zb, z14, zf, z0s, List.getElem?_cons_zero, Nat.zero_add, Nat.add_zero, Nat.reduceAdd, Nat.reduceLeDiff, zm, ze, List.length_cons, List.length_nil, decide_true, List.take_succ_cons, List.take_zero, List.drop_zero, zh, hcl, d0, d10, d1, e1]
    exact rest F1 _ true he fun _ => by rw [d1]; rfl
  have d1 : decide (c.kind = 1) = false := decide_eq_false k1
  have hwk := z06f c.kind g
  by_cases k9 : c.kind = 9 ∨ c.kind = 10
  · have hwt : (decide (c.kind = 9) || decide (c.kind = 10)) = true := by simpa using k9
    rw [hwt] at hwk
    obtain ⟨⟨v, g1⟩, e1, rfl, F1⟩ := z06i (c := c) D.A.ok D.A.M w0 w1 k9
    dsimp only at F1
    unfold CallR.cs at e1
    have he : errR k r w c = err6 k r w c := by rw [ztk, if_neg k0, if_neg k1, if_pos k9]
    simp only [S.z6w, S.z86, S.z6m, S.z75, S.z6p, zg, zd, zb, z14, zf, z0s, List.getElem?_cons_zero, Nat.zero_add, Nat.add_zero, Nat.reduceAdd, Nat.reduceLeDiff, zm, ze, z04, List.length_cons, List.length_nil, decide_true, List.take_succ_cons, List.take_zero, List.drop_zero, zh, hcl, d0, d10, d1, hwk, e1]
    exact rest F1 _ false he fun _ => by rw [d1, decide_eq_false (show ¬ c.kind ≤ 5 by omega)]; simp
  · have hwt : (decide (c.kind = 9) || decide (c.kind = 10)) = false := by
      rw [decide_eq_false (fun q => k9 (.inl q)), decide_eq_false (fun q => k9 (.inr q))]; rfl
    rw [hwt] at hwk
    obtain ⟨⟨v, g1⟩, e1, rfl, F1⟩ := z066 (c := c) D.A.ok D.A.M I w0 w1
    dsimp only at F1
    unfold CallR.cs at e1
    have hcl1 := F1.get D.A.ok hcl (by simp)
    have hwr := zuy c.kind g1
    have he : errR k r w c = err9 k r w c := by rw [ztk, if_neg k0, if_neg k1, if_neg k9]
    simp only [S.z6w, S.z86, S.z6m, S.z75, S.z6p, zg, zd, zb, z14, zf, z0s, List.getElem?_cons_zero, Nat.zero_add, Nat.add_zero, Nat.reduceAdd, Nat.reduceLeDiff, zm, V.beq, z3c, ze, z04, List.length_cons, List.length_nil, Bool.and_self, decide_true, List.take_succ_cons, List.take_zero, List.drop_zero, zh, hcl, d0, d10, d1, hwk, e1, hcl1, hwr]
    exact rest F1 _ _ he fun _ => by rw [d1, Bool.false_or]
end
def rst0 (k : Cfg) : RSt := ⟨[], [], List.replicate k.C 0, List.replicate k.C [], []⟩
theorem z0dr (k : Cfg) : RIn k (rst0 k) := by
  refine ⟨List.length_replicate, List.length_replicate, by simp [rst0], by simp [rst0], List.Pairwise.nil, fun l hl n hn => ?_, fun h hh => ?_, by simp [rst0]⟩
  · have := (List.mem_replicate.mp hl).2
    subst this; cases hn
  · have := (List.mem_replicate.mp hh).2
    subst this; exact ⟨by decide, by decide⟩
theorem z0d8 (k : Cfg) : RSz k 0 (rst0 k) := ⟨Nat.le_refl _, by simp [rst0], Nat.le_refl _, Nat.le_refl _⟩
theorem z06h (n : Nat) : z21 (List.replicate n 0) (List.replicate n .nilsl) = repl [.int .u64 0, .nilsl] n := by
  induction n with
  | zero => rfl
  | succ n ih => simp only [List.replicate_succ, z21, repl, ih, List.cons_append, List.nil_append]
theorem z09k {α : Type} {n i : Nat} {x y : α} (h : (List.replicate n x)[i]? = some y) : y = x := by
  have := List.mem_of_getElem? h
  exact (List.mem_replicate.mp this).2
structure NwAt (k : Cfg) (h g : H) (b bw gm : Nat) (x : V) (ms : List Nat) : Prop where
  fr : Fr [] h g
  own : g.get b = some (.cells [.int .i64 k.s, .int .i64 k.a, .int .i64 k.c, .int .i64 k.hd, .int .i64 k.g, .int .i64 k.st, .nilsl, x, .sl bw 0 k.C (.ex k.C), .map gm] .rw)
  w : g.get bw = some (.cells (repl [.int .u64 0, .nilsl] k.C) .rw)
  gv : g.get gm = some (.map [])
  lo : h.next ≤ bw ∧ bw < gm ∧ gm < b
  gx : Grown g.get x 1 (ms.map .map)
  xb : ∀ a ∈ x.blk, b < a
  ml : ∀ m ∈ ms, b < m ∧ g.get m = some (.map []) ∧ m ∉ x.blk
  nd : ms.Nodup
theorem z08d {k : Cfg} (hr : k.R = true) {h : H} (ok : h.ok) : Ev (C 96 [k.v] h) fun z => ∃ B, z.1 = .ptr B.b 0 ∧ Fr [] h z.2 ∧ MdAt k z.2.get B (rst0 k) ∧ (∀ x ∈ B.l, h.next ≤ x) ∧ B.nb = [] := by
  refine z0i (af := F.zbm) (by kernel_rfl) rfl ?_
  have hv : k.v = .agg [.int .i64 k.s, .int .i64 k.a, .int .i64 k.c, .int .i64 k.hd, .int .i64 k.g, .int .i64 k.st] := rfl
  rw [hv, S.z059]
  simp only [S.zbm]
  have hB := Cfg.R_iff.mp hr
  have hC : (k.C : Int) = k.c := by unfold Cfg.C; omega
  have hC8 := (Cfg.bounds hr).2.2.1
  have hR := fun h => zpa k.s k.a k.c k.hd k.g k.st h
  rw [show cfgR k.s k.a k.c k.hd k.g k.st = k.R from rfl, hr, show cfgV k.s k.a k.c k.hd k.g k.st = k.v from rfl, hv] at hR
  have F0 : Fr [] h (h.new (.cells [.int .i64 k.s, .int .i64 k.a, .int .i64 k.c, .int .i64 k.hd, .int .i64 k.g, .int .i64 k.st] .rw)) := (Fr.refl ok).new _
  have hp := zp h (.cells [.int .i64 k.s, .int .i64 k.a, .int .i64 k.c, .int .i64 k.hd, .int .i64 k.g, .int .i64 k.st] .rw)
  have hn0 : (h.new (.cells [.int .i64 k.s, .int .i64 k.a, .int .i64 k.c, .int .i64 k.hd, .int .i64 k.g, .int .i64 k.st] .rw)).next = h.next + 1 := rfl
  generalize (h.new (.cells [.int .i64 k.s, .int .i64 k.a, .int .i64 k.c, .int .i64 k.hd, .int .i64 k.g, .int .i64 k.st] .rw)) = g at F0 hp hn0 ⊢
  have hmk := ztf (h := g) (e := 2) (b := 32) (z := [V.int .u64 0, .nilsl]) (l := k.c) (c := k.c) (by omega) (Int.le_refl _) (by omega) (by omega) rfl (by decide)
  rw [show k.c.toNat = k.C from rfl, hn0] at hmk
  have F1 : Fr [] g (g.new (.cells (repl [.int .u64 0, .nilsl] k.C) .rw)) := (Fr.refl F0.ok).new _
  have hw := zp g (.cells (repl [.int .u64 0, .nilsl] k.C) .rw)
  have hn1 : (g.new (.cells (repl [.int .u64 0, .nilsl] k.C) .rw)).next = h.next + 2 := by rw [H.next_new, hn0]
  have hp1 := F1.get F0.ok hp (by simp)
  rw [hn0] at hw
  generalize (g.new (.cells (repl [.int .u64 0, .nilsl] k.C) .rw)) = g1 at F1 hmk hw hn1 hp1 ⊢
  have F2 : Fr [] g1 (g1.new (.map [])) := (Fr.refl F1.ok).new _
  have hgm := zp g1 (.map [])
  have hn2 : (g1.new (.map [])).next = h.next + 3 := by rw [H.next_new, hn1]
  have hp2 := F2.get F1.ok hp1 (by simp)
  have hw2 := F2.get F1.ok hw (by simp)
  rw [hn1] at hgm
  have hld6 : g.ldN 6 (.ptr h.next 0) = some (.agg [.int .i64 k.s, .int .i64 k.a, .int .i64 k.c, .int .i64 k.hd, .int .i64 k.g, .int .i64 k.st]) := by rw [zp5 hp (by simp)]; rfl
  have hld2 : g.ld1 (.ptr h.next 2) = some (.int .i64 k.c) := z1i hp rfl rfl
  have ne1 : ∀ v : V, (asI .i64 (.int .i64 k.c)) = some k.c := fun _ => ze _ _
  have hfill : fill [.int .i64 0, .int .i64 0, .int .i64 0, .int .i64 0, .int .i64 0, .int .i64 0, .nilsl, .nilsl, .nilsl, .nilmap] [] [(0, 6, .c (.agg [.int .i64 k.s, .int .i64 k.a, .int .i64 k.c, .int .i64 k.hd, .int .i64 k.g, .int .i64 k.st])), (8, 1, .c (.sl (h.next + 1) 0 k.C (.ex k.C))), (9, 1, .c (.map (h.next + 2)))] = some [.int .i64 k.s, .int .i64 k.a, .int .i64 k.c, .int .i64 k.hd, .int .i64 k.g, .int .i64 k.st, .nilsl, .nilsl, .sl (h.next + 1) 0 k.C (.ex k.C), .map (h.next + 2)] := rfl
  simp only [hld6, hR, hld2, zd, zh, z04, ze, Bool.not_true, hmk, hn1, hfill, zdy]
  generalize hgg : (g1.new (.map [])) = g2 at F2 hgm hn2 hp2 hw2 ⊢
  have F3 : Fr [] g2 (g2.new (.cells [.int .i64 k.s, .int .i64 k.a, .int .i64 k.c, .int .i64 k.hd, .int .i64 k.g, .int .i64 k.st, .nilsl, .nilsl, .sl (h.next + 1) 0 k.C (.ex k.C), .map (h.next + 2)] .rw)) := (Fr.refl F2.ok).new _
  have hb3 := zp g2 (.cells [.int .i64 k.s, .int .i64 k.a, .int .i64 k.c, .int .i64 k.hd, .int .i64 k.g, .int .i64 k.st, .nilsl, .nilsl, .sl (h.next + 1) 0 k.C (.ex k.C), .map (h.next + 2)] .rw)
  have hp3 := F3.get F2.ok hp2 (by simp)
  have hw3 := F3.get F2.ok hw2 (by simp)
  have hg3 := F3.get F2.ok hgm (by simp)
  rw [hn2] at hb3
  have hld3 : (g2.new (.cells [.int .i64 k.s, .int .i64 k.a, .int .i64 k.c, .int .i64 k.hd, .int .i64 k.g, .int .i64 k.st, .nilsl, .nilsl, .sl (h.next + 1) 0 k.C (.ex k.C), .map (h.next + 2)] .rw)).ld1 (.ptr h.next 2) = some (.int .i64 k.c) := z1i hp3 rfl rfl
  rw [hn2]
  simp only [hld3, zd]
  have F03 : Fr [] h (g2.new (.cells [.int .i64 k.s, .int .i64 k.a, .int .i64 k.c, .int .i64 k.hd, .int .i64 k.g, .int .i64 k.st, .nilsl, .nilsl, .sl (h.next + 1) 0 k.C (.ex k.C), .map (h.next + 2)] .rw)) := ((F0.trans' F1).trans' F2).trans' F3
  generalize (g2.new (.cells [.int .i64 k.s, .int .i64 k.a, .int .i64 k.c, .int .i64 k.hd, .int .i64 k.g, .int .i64 k.st, .nilsl, .nilsl, .sl (h.next + 1) 0 k.C (.ex k.C), .map (h.next + 2)] .rw)) = g3 at F03 hb3 hw3 hg3 ⊢
  have N0 : NwAt k h g3 (h.next + 3) (h.next + 1) (h.next + 2) .nilsl [] := ⟨F03, hb3, hw3, hg3, ⟨by omega, by omega, by omega⟩, Grown.nil _ _, by simp [V.blk], by simp, List.nodup_nil⟩
  generalize h.next + 3 = b at N0 ⊢
  generalize h.next + 1 = bw at N0
  generalize h.next + 2 = gm at N0
  refine z0j (α := Nat) (fun i => S.zil (.ptr b 0) (.int .i64 k.c) (.int .i64 (i : Nat)))
    (fun i g' => i ≤ k.C ∧ ∃ x ms, NwAt k h g' b bw gm x ms ∧ ms.length = i) (fun i _ => k.C - i)
    (fun z => z.1 = .exit 0 ∧ z.2.1 = S.zoy (.ptr b 0) ∧ ∃ x ms, NwAt k h z.2.2 b bw gm x ms ∧ ms.length = k.C) 0 rfl ⟨Nat.zero_le _, .nilsl, [], N0, rfl⟩ ?_ ?_
  rotate_left
  · rintro ⟨_, _, g'⟩ ⟨rfl, rfl, x, ms, N, hl⟩
    show Ev (S.zqz W (.exit 0) _ _) _
    rw [S.zxl]
    dsimp only at N
    obtain ⟨bh, hx, hbh⟩ : ∃ bh, x = .sl bh 0 k.C (.op 1) ∧ g'.get bh = some (.cells (ms.map .map) (.gr 1)) := by
      obtain ⟨_, h0⟩ | ⟨bh, n, hx, hn, hb⟩ := N.gx
      · have := congrArg List.length h0
        rw [List.length_map, hl] at this
        simp at this; omega
      · rw [List.length_map, hl, Nat.mul_one] at hn
        rw [← hn] at hx
        exact ⟨bh, hx, hb⟩
    subst hx
    have hbx := N.xb bh (by simp [V.blk])
    have hlo := N.lo
    have hml := N.ml
    refine Ev.some ⟨⟨b, .nilsl, [], [], bh, ms, bw, List.replicate k.C .nilsl, gm, true⟩, rfl, N.fr, ?_, ?_, ?_⟩
    · refine ⟨?_, ?_, N.own, Grown.nil _ _, ⟨rfl, rfl⟩, by simp, hbh, hl, fun i m hm => (hml m (List.mem_of_getElem? hm)).2.1, ?_, ⟨List.length_replicate, List.length_replicate, List.length_replicate⟩, fun i v l h1 h2 => ?_, N.gv⟩
      · show (b :: bh :: bw :: gm :: (ms ++ (V.nilsl.blk ++ []))).Nodup
        have e : V.nilsl.blk ++ ([] : List Nat) = [] := rfl
        rw [e, List.append_nil, List.nodup_cons, List.nodup_cons, List.nodup_cons, List.nodup_cons]
        refine ⟨fun q => ?_, fun q => ?_, fun q => ?_, fun q => ?_, N.nd⟩
        · simp only [List.mem_cons] at q
          rcases q with q | q | q | q
          · omega
          · omega
          · omega
          · have := (hml b q).1; omega
        · simp only [List.mem_cons] at q
          rcases q with q | q | q
          · omega
          · omega
          · exact (hml bh q).2.2 (by simp [V.blk])
        · simp only [List.mem_cons] at q
          rcases q with q | q
          · omega
          · have := (hml bw q).1; omega
        · have := (hml gm q).1; omega
      · intro y hy
        have : y ∈ ((List.replicate k.C V.nilsl).map V.blk).flatten := hy
        rw [List.map_replicate] at this
        obtain ⟨lb, h1, h2⟩ := List.mem_flatten.mp this
        rw [(List.mem_replicate.mp h1).2] at h2
        cases h2
      · show g'.get bw = some (.cells (z21 (List.replicate k.C 0) (List.replicate k.C .nilsl)) .rw)
        rw [z06h]; exact N.w
      · have e1 := z09k h1
        have e2 := z09k h2
        subst e1; subst e2
        exact .inl ⟨rfl, rfl⟩
    · intro y hy
      have hy' : y ∈ b :: bh :: bw :: gm :: (ms ++ (V.nilsl.blk ++ [])) := hy
      have e : V.nilsl.blk ++ ([] : List Nat) = [] := rfl
      rw [e, List.append_nil] at hy'
      simp only [List.mem_cons] at hy'
      rcases hy' with q | q | q | q | q
      · omega
      · omega
      · omega
      · omega
      · have := (hml y q).1; omega
    · show ((List.replicate k.C V.nilsl).map V.blk).flatten = []
      rw [List.map_replicate, show V.nilsl.blk = [] from rfl]
      have : ∀ n : Nat, (List.replicate n ([] : List Nat)).flatten = [] := fun n => by
        induction n with
        | zero => rfl
        | succ n ih => rw [List.replicate_succ, List.flatten_cons, ih]; rfl
      exact this _
  rintro i g' ⟨hi, x, ms, N, hl⟩
  rw [S.zzo]
  by_cases hic : i < k.C
  · have d : decide ((i : Int) < k.c) = true := decide_eq_true (by omega)
    have ox := N.gx.slv.one
    have hown := N.own
    have ok' := N.fr.ok
    have Fa : Fr [] g' (g'.new (.map [])) := (Fr.refl ok').new _
    have Fb : Fr [] (g'.new (.map [])) ((g'.new (.map [])).new (.cells [.map g'.next] .rw)) := (Fr.refl Fa.ok).new _
    have Fab := Fa.trans' Fb
    obtain ⟨x', g2', e2, F2', G2, hx', _⟩ := Grown.push Fb.ok (bytes := 8) (N.gx.fr ok' Fab (by simp)) (zp (g'.new (.map [])) _) (e := 1) rfl rfl (by decide) ⟨by decide, by decide⟩ (by rw [List.length_map]; omega)
    have hnx : (g'.new (.map [])).next = g'.next + 1 := rfl
    rw [hnx] at e2
    have hbx : b ∉ x.blk := fun q => by have := N.xb _ q; omega
    have hown2 := F2'.get Fb.ok (Fab.get ok' hown (by simp)) hbx
    have ox' := G2.slv.one
    have ox2 := G2.slv.cells
    have hbl : b < g2'.next := F2'.ok.lt hown2
    have hxn : ∀ a ∈ x'.blk, g'.next ≤ a := fun a ha => Nat.le_trans Fab.le (hx' a ha)
    have hxn2 : ∀ a ∈ x'.blk, g'.next + 2 ≤ a := fun a ha => by have := hx' a ha; rw [H.next_new, H.next_new] at this; omega
    have hbl' : b < g'.next := ok'.lt hown
    have wi := z03r (i := i) (by omega)
    simp only [S.zp7, zj, zg, zd, Option.map_some, zb, z2u, zf, z4e, H.next_new, List.getElem?_cons_zero, List.getElem?_cons_succ, Nat.zero_add, Nat.reduceAdd, Nat.reduceLeDiff, List.length_cons, List.length_nil, Nat.beq_refl, List.all_cons, List.all_nil, Bool.not_true, Bool.or_self, Bool.and_self, decide_true, decide_false, z0e, List.take_succ_cons, List.take_zero, List.drop_succ_cons, List.drop_zero, List.cons_append, List.nil_append, reduceCtorEq, zj, d, hown, ox, e2, hown2, ox', ox2, wi]
    have keep : ∀ a, a < g'.next → a ≠ b → a ∉ x.blk → (g2'.put b (some (.cells [.int .i64 k.s, .int .i64 k.a, .int .i64 k.c, .int .i64 k.hd, .int .i64 k.g, .int .i64 k.st, .nilsl, x', .sl bw 0 k.C (.ex k.C), .map gm] .rw))).get a = g'.get a := fun a h1 h2 h3 => by
      rw [z1e h2, F2'.same a (by have := Fab.le; omega) h3, Fab.same a h1 (by simp)]
    have hlo := N.lo
    have hnl : h.next ≤ b := by omega
    refine Ev.some (.inl ⟨i + 1, rfl, rfl, ⟨hic, x', ms ++ [g'.next], ⟨?_, z0a _ _ _, ?_, ?_, hlo, ?_, fun a ha => by have := hxn a ha; omega, fun m hm => ?_, ?_⟩, by rw [List.length_append, hl]; rfl⟩, Nat.sub_lt_sub_left hic (Nat.lt_succ_self i)⟩)
    · exact ((N.fr.trans' Fab).trans F2' (fun a ha => .inr (by have := N.xb a ha; omega))).put (.inr hnl) hbl _
    · rw [keep bw (ok'.lt N.w) (by omega) (fun q => by have := N.xb _ q; omega)]; exact N.w
    · rw [keep gm (ok'.lt N.gv) (by omega) (fun q => by have := N.xb _ q; omega)]; exact N.gv
    · rw [List.map_append]
      exact G2.congr fun a ha => z1e (by have := hxn a ha; omega)
    · rcases List.mem_append.mp hm with q | q
      · obtain ⟨h1, h2, h3⟩ := N.ml m q
        exact ⟨h1, by rw [keep m (ok'.lt h2) (by omega) h3]; exact h2, fun q => by have := hxn _ q; have := ok'.lt h2; omega⟩
      · simp only [List.mem_singleton] at q
        subst q
        refine ⟨hbl', ?_, fun q => by have := hxn2 _ q; omega⟩
        have hnb : g'.next ∉ x.blk := fun q => by have := N.gx.lt ok' _ q; omega
        rw [z1e (by omega), F2'.same _ (by have := Fb.le; rw [hnx] at this; omega) hnb, Fb.same _ (by rw [hnx]; omega) (by simp), zp]
    · rw [List.nodup_append]
      refine ⟨N.nd, by simp, fun u hu v hv e => ?_⟩
      simp only [List.mem_singleton] at hv
      have := ok'.lt (N.ml u hu).2.1
      omega
  · have hie : i = k.C := by omega
    subst hie
    have d : decide (((k.C : Nat) : Int) < k.c) = false := decide_eq_false (by omega)
    simp only [S.zp7, d]
    exact Ev.some (.inr ⟨by simp, rfl, rfl, x, ms, N, hl⟩)
structure Clo (g g' : H) (e n : Nat) (cs : List V) (y : V) (q : Nat) : Prop where
  fr : Fr [] g g'
  sl : ∃ c k, y = .sl q 0 n c ∧ g'.get q = some (.cells cs k) ∧ ((c = .op e ∧ k = .gr e) ∨ (c = .ex 0 ∧ n = 0 ∧ k = .rw))
  nq : g.next ≤ q
theorem z02l {g : H} (ok : g.ok) {e bytes n : Nat} {x : V} {cs : List V} (hx : lenSl x = some n) (hs : (g.new (.cells [] .rw)).slc e x = some cs) (h1 : cs.all V.one = true) (h2 : (n + n / 2 + 1000) * bytes ≤ 281474976710656) (he : 0 < e) (hb : 0 < bytes) (hl : cs.length = n * e) :
    ∃ y g' q, (g.new (.cells [] .rw)).append e bytes (.sl g.next 0 0 (.ex 0)) x = some (y, g') ∧ Clo g g' e n cs y q := by
  have z := z0b7 (e := e) (o := 0) (c := .ex 0) (zp g (.cells [] .rw)) (by simp)
  cases n with
  | succ n =>
    refine ⟨_, _, _, z0di hx hs z h1 h2 he hb (Nat.succ_pos n), ((Fr.refl ok).new _).new _, ⟨_, _, rfl, zp _ _, .inl ⟨rfl, rfl⟩⟩, Nat.le_succ _⟩
  | zero =>
    have hcs : cs = [] := List.eq_nil_of_length_eq_zero (by simpa using hl)
    subst hcs
    have h3 : lenSl (.sl g.next 0 0 (.ex 0)) = some 0 := rfl
    have hst : (g.new (.cells [] .rw)).stc g.next (0 + 0 * e) [] = some ((g.new (.cells [] .rw)).put g.next (some (.cells [] .rw))) := by
      rw [Nat.zero_mul]
      rw [zxt (zp g _) (by simp) rfl (by simp)]; rfl
    have d1 : decide ((0 + 0 + (0 + 0) / 2 + 1000) * bytes ≤ 281474976710656) = true := decide_eq_true (by simpa using h2)
    have d2 : decide (0 < e) = true := decide_eq_true he
    have d3 : decide (0 < bytes) = true := decide_eq_true hb
    refine ⟨.sl g.next 0 0 (.ex 0), _, g.next, ?_, ((Fr.refl ok).new (.cells [] .rw)).put (.inr (Nat.le_refl _)) (by rw [H.next_new]; omega) _, ⟨_, _, rfl, z0a _ _ _, .inr ⟨rfl, rfl, rfl⟩⟩, Nat.le_refl _⟩
    simp only [H.append, hx, hs, h3, z, d1, d2, d3, List.all_nil, Bool.and_self, Nat.add_zero, Nat.le_refl, decide_true, hst]
theorem z02s {g : H} (ok : g.ok) {b : Nat} {c : Cap} {k : Bk} {l : List Int} (hb : g.get b = some (.cells (l.map (.int .i64)) k)) (hl : l.length ≤ 100000) :
    Ev (C 287 [.sl b 0 l.length c] g) fun z => ∃ q, Clo g z.2 1 l.length (l.map (.int .i64)) z.1 q := by
  refine z0i (af := F.z2t) (by kernel_rfl) rfl ?_
  rw [S.zqd]
  have hs : (g.new (.cells [] .rw)).slc 1 (.sl b 0 l.length c) = some (l.map (.int .i64)) := by
    rw [zfp (((Fr.refl (L := []) ok).new (.cells [] .rw)).get ok hb (by simp)) (by simp), List.drop_zero, List.take_of_length_le (by simp)]
  obtain ⟨y, g', q, e1, Z⟩ := z02l (bytes := 8) ok (x := .sl b 0 l.length c) rfl hs (z058 .i64 l) (by omega) (by decide) (by decide) (by simp)
  simp only [S.z2t, eqV, zcu, zd, e1]
  exact Ev.some ⟨q, Z⟩
theorem zzq : ∀ {l : List Int} {m : List V}, (∀ v ∈ m, v.one = true) → (z21 l m).all V.one = true
  | [], _, _ => by unfold z21; rfl
  | _ :: _, [], _ => rfl
  | a :: l, v :: m, h => by
    have ih := zzq (l := l) (m := m) (fun u hu => h u (List.mem_cons_of_mem _ hu))
    simp only [z21, List.all_cons, zm, h v (List.mem_cons_self), ih, Bool.and_self]
theorem z015 {g : H} (ok : g.ok) {b n : Nat} {c : Cap} {k : Bk} {cs : List V} (hb : g.get b = some (.cells cs k)) (hl : cs.length = n * 2) (h1 : cs.all V.one = true) (hn : n ≤ 100000) :
    Ev (C 285 [.sl b 0 n c] g) fun z => ∃ q, Clo g z.2 2 n cs z.1 q := by
  refine z0i (af := F.z0g) (by kernel_rfl) rfl ?_
  rw [S.zg7]
  have hs : (g.new (.cells [] .rw)).slc 2 (.sl b 0 n c) = some cs := by
    rw [zfp (((Fr.refl (L := []) ok).new (.cells [] .rw)).get ok hb (by simp)) (by rw [hl]; omega), List.drop_zero, List.take_of_length_le (by rw [hl]; omega)]
  obtain ⟨y, g', q, e1, Z⟩ := z02l (bytes := 32) ok (x := .sl b 0 n c) rfl hs h1 (by omega) (by decide) (by decide) hl
  simp only [S.z0g, eqV, zcu, zd, e1]
  exact Ev.some ⟨q, Z⟩
theorem zv0 {g : H} {m : Nat} {es : List (V × V)} (hm : g.get m = some (.map es)) : C 286 [.map m] g = some (.map g.next, g.new (.map es)) := by
  have e : Ev (C 286 [.map m] g) fun z => z = (.map g.next, g.new (.map es)) := by
    refine z0i (af := F.z0f) (by kernel_rfl) rfl ?_
    rw [S.zg8]
    have e1 : eqV .map (.map m) .nilmap = some false := rfl
    have e2 : g.cloneM (.ifc 159 (.map m)) = some (.ifc 159 (.map g.next), g.new (.map es)) := by simp only [H.cloneM, hm]
    have e3 : zzj 159 (.ifc 159 (.map g.next)) = some (.map g.next) := rfl
    simp only [S.z0f, e1, zd, e2, e3]
    exact Ev.some rfl
  obtain ⟨z, e, rfl⟩ := e
  exact e
theorem z023 {g : H} (ok : g.ok) {p o bytes : Nat} {cs : List V} {x v : V} {l : List V} (hp : g.get p = some (.cells cs .rw)) (ho : o < cs.length) (G : Grown g.get x 1 l) (hv : v.one = true) (hl : l.length ≤ 1000000) (hb : 0 < bytes ∧ bytes ≤ 1000) :
    ∃ x' g2 g3, (g.new (.cells [v] .rw)).append 1 bytes x (.sl g.next 0 1 (.ex 1)) = some (x', g2) ∧ g2.st 1 (.ptr p o) x' = some g3 ∧ Fr (p :: x.blk) g g3 ∧ Grown g3.get x' 1 (l ++ [v]) ∧ g3.get p = some (.cells (cs.set o x') .rw) ∧ (∃ c, x'.blk = [c] ∧ g.next ≤ c) := by
  have F1 : Fr [] g (g.new (.cells [v] .rw)) := (Fr.refl ok).new _
  have hpx := G.ne hp (by simp)
  obtain ⟨x', g2, ea, F2, G2, hb2, hne⟩ := Grown.push F1.ok (G.fr ok F1 (by simp)) (nb := g.next) (new := [v]) (k := .rw) (bytes := bytes) (zp _ _) rfl (by simp [hv]) (by decide) hb hl
  have hp2 : g2.get p = some (.cells cs .rw) := F2.get F1.ok (F1.get ok hp (by simp)) hpx
  have hx1 : x'.one = true := by
    obtain ⟨rfl, _⟩ | ⟨b, n, rfl, _⟩ := G2 <;> rfl
  have s3 := zl9 (o := o) (v := x') hp2 (by simp) hx1 ho
  have F3 : Fr [p] g2 (g2.put p (some (.cells (cs.set o x') .rw))) := (Fr.refl F2.ok).put (.inl (by simp)) (F2.ok.lt hp2) _
  have hpl := ok.lt hp
  have hpx' : p ∉ x'.blk := fun q => by
    have := hb2 p q
    rw [H.next_new] at this; omega
  refine ⟨x', g2, _, ea, s3, ?_, G2.fr F2.ok F3 (fun b hb e => hpx' (by rw [List.mem_singleton] at e; exact e ▸ hb)), z0a _ _ _, ?_⟩
  · have F12 : Fr (p :: x.blk) g g2 := (F1.mono (by simp)).trans F2 (fun b hb => .inl (List.mem_cons_of_mem _ hb))
    exact F12.trans F3 (fun b hb => .inl (by rw [List.mem_singleton] at hb; rw [hb]; exact List.mem_cons_self))
  · obtain ⟨rfl, _⟩ | ⟨b, n, rfl, _⟩ := G2
    · simp [V.blk] at hne
    · refine ⟨b, rfl, ?_⟩
      have := hb2 b (by simp [V.blk])
      rw [H.next_new] at this; omega
theorem z048 {g : Nat → Option Blk} {x : V} {l : List V} (G : Grown g x 1 l) : ckB (some x) x = true := by
  obtain ⟨rfl, _⟩ | ⟨b, n, rfl, _⟩ := G
  · rfl
  · simp [ckB, V.beq]
theorem zrq {g : Nat → Option Blk} {x : V} {l : List V} (G : Grown g x 1 l) : x.one = true := by
  obtain ⟨rfl, _⟩ | ⟨b, n, rfl, _⟩ := G <;> rfl
def RowC (g : Nat → Option Blk) (v : V) (b : Nat) (l : List Int) : Prop := ∃ c k, v = .sl b 0 l.length c ∧ g b = some (.cells (l.map (.int .i64)) k) ∧ k ≠ .ro ∧ (c = .op 1 ∨ ∃ n, c = .ex n ∧ l.length ≤ n)
theorem RowC.fr {g g' : H} {v : V} {b : Nat} {l : List Int} {L : List Nat} (R : RowC g.get v b l) (ok : g.ok) (F : Fr L g g') (hb : b ∉ L) : RowC g'.get v b l := by
  obtain ⟨c, k, e, h1, h2, h3⟩ := R
  exact ⟨c, k, e, F.get ok h1 hb, h2, h3⟩
theorem Clo.row {g g' : H} {y : V} {q : Nat} {l : List Int} (Z : Clo g g' 1 l.length (l.map (.int .i64)) y q) : RowC g'.get y q l := by
  obtain ⟨c, k, e, h1, h2⟩ := Z.sl
  rcases h2 with ⟨rfl, rfl⟩ | ⟨rfl, hn, rfl⟩
  · exact ⟨_, _, e, h1, by simp, .inl rfl⟩
  · exact ⟨_, _, e, h1, by simp, .inr ⟨0, rfl, by omega⟩⟩
structure CpF (k : Cfg) (h : H) (B : MdB) (r : RSt) (p bw gm i : Nat) (x6 : V) (vs : List V) (bs : List Nat) (g : H) : Prop where
  fr : Fr [] h g
  own : g.get p = some (.cells (k.cs ++ [x6, .nilsl, .sl bw 0 k.C (.op 2), .map gm]) .rw)
  wo : g.get bw = some (.cells (z21 r.Wk B.ns) (.gr 2))
  gv : g.get gm = some (.map (z5f r.Gv))
  fo : Grown g.get x6 1 vs
  fl : vs.length = i ∧ bs.length = i
  row : ∀ (j : Nat) (v : V) (b : Nat) (l : List Int), vs[j]? = some v → bs[j]? = some b → r.F[j]? = some l → RowC g.get v b l
  inc : ([bw, gm, p] ++ bs).Pairwise (· < ·)
  lo : h.next ≤ bw
  hi : ∀ y ∈ [bw, gm, p] ++ bs, y < g.next
  x6c : x6.blk = [] ∨ ∃ c, x6.blk = [c] ∧ ∀ y ∈ [bw, gm, p] ++ bs, y < c
structure CpH (k : Cfg) (h : H) (B : MdB) (r : RSt) (p bw gm : Nat) (x6 : V) (vs : List V) (bs : List Nat) (j : Nat) (x7 : V) (ms : List Nat) (g : H) : Prop where
  fr : Fr [] h g
  own : g.get p = some (.cells (k.cs ++ [x6, x7, .sl bw 0 k.C (.op 2), .map gm]) .rw)
  wo : g.get bw = some (.cells (z21 r.Wk B.ns) (.gr 2))
  gv : g.get gm = some (.map (z5f r.Gv))
  fo : Grown g.get x6 1 vs
  fl : vs.length = r.F.length ∧ bs.length = r.F.length
  row : ∀ (j : Nat) (v : V) (b : Nat) (l : List Int), vs[j]? = some v → bs[j]? = some b → r.F[j]? = some l → RowC g.get v b l
  ho : Grown g.get x7 1 (ms.map .map)
  hl : ms.length = j
  hm : ∀ (i m : Nat), ms[i]? = some m → g.get m = some (.map (z2b r.Hs i))
  inc : ([bw, gm, p] ++ bs ++ x6.blk ++ ms).Pairwise (· < ·)
  lo : h.next ≤ bw
  hi : ∀ y ∈ [bw, gm, p] ++ bs ++ x6.blk ++ ms, y < g.next
  x7c : x7.blk = [] ∨ ∃ c, x7.blk = [c] ∧ ∀ y ∈ [bw, gm, p] ++ bs ++ x6.blk ++ ms, y < c
theorem z0ct {l : List Nat} {a : Nat} (h : (a :: l).Pairwise (· < ·)) : ∀ y ∈ a :: l, a ≤ y := fun y hy => by
  rcases List.mem_cons.mp hy with rfl | hy
  · exact Nat.le_refl _
  · exact Nat.le_of_lt ((List.pairwise_cons.mp h).1 y hy)
theorem zu9 {l : List Nat} {q : Nat} (h : l.Pairwise (· < ·)) (hq : ∀ y ∈ l, y < q) : (l ++ [q]).Pairwise (· < ·) := by
  rw [List.pairwise_append]
  exact ⟨h, List.pairwise_singleton _ _, fun a ha b hb => by rw [List.mem_singleton] at hb; subst hb; exact hq a ha⟩
theorem z07d {k : Cfg} {h : H} {B : MdB} {r : RSt} (ok : h.ok) (M : MdAt k h.get B r) (hF : r.F.length ≤ 100000) (hL : ∀ l ∈ r.F, l.length ≤ 100000) {p bw gm i : Nat} {x6 : V} {vs : List V} {bs : List Nat} {g : H} (Z : CpF k h B r p bw gm i x6 vs bs g) (hi : i < r.F.length) (x0 : V) :
    Ev (S.zc0 W x0 (.ptr p 0) B.xF (r.F.length : Nat) (i : Nat) g) fun z => ∃ x6' v b, z.1 = .normal ∧ z.2.1 = S.z8q x0 (.ptr p 0) B.xF (.int .i64 (r.F.length : Nat)) (.int .i64 (i + 1 : Nat)) ∧ CpF k h B r p bw gm (i + 1) x6' (vs ++ [v]) (bs ++ [b]) z.2.2 := by
  obtain ⟨l, hl⟩ : ∃ l, r.F[i]? = some l := ⟨_, List.getElem?_eq_getElem hi⟩
  obtain ⟨f1, f2⟩ := M.fl
  obtain ⟨v0, hv0⟩ : ∃ v, B.vs[i]? = some v := ⟨_, List.getElem?_eq_getElem (by omega)⟩
  obtain ⟨b0, hb0⟩ : ∃ v, B.bs[i]? = some v := ⟨_, List.getElem?_eq_getElem (by omega)⟩
  obtain ⟨c, kk, rfl, hcell, _⟩ := M.fr i v0 b0 l hv0 hb0 hl
  have hlen := hL l (List.mem_of_getElem? hl)
  have dk : decide ((i : Int) < (r.F.length : Int)) = true := decide_eq_true (by omega)
  have wi : wr .i64 ((i : Int) + 1) = ((i + 1 : Nat) : Int) := by rw [wr64 (by omega) (by omega)]; rfl
  obtain ⟨bx, ix, lx⟩ := (M.fo.fr ok Z.fr (by simp)).at1 hv0 rfl
  obtain ⟨⟨y, g1⟩, e1, q, C1⟩ := z02s Z.fr.ok (c := c) (Z.fr.get ok hcell (by simp)) hlen
  have F1 := C1.fr
  dsimp only at C1 F1
  have own1 := F1.get Z.fr.ok Z.own (by simp)
  have l6 : g.ld1 (.ptr p 6) = some x6 := z1i Z.own rfl (zrq Z.fo)
  have l61 : g1.ld1 (.ptr p 6) = some x6 := z1i own1 rfl (zrq Z.fo)
  have fo1 := Z.fo.fr Z.fr.ok F1 (by simp)
  obtain ⟨c1, k1, rfl, hq, hck⟩ := C1.sl
  obtain ⟨x6', g2, g3, ea, es, F3, fo3, own3, cc, hcc, hge⟩ := z023 (bytes := 24) F1.ok own1 (o := 6) (by simp [Cfg.cs]) fo1 (v := .sl q 0 l.length c1) rfl (by rw [Z.fl.1]; omega) (by decide)
  have hck6 := z048 Z.fo
  have fl1 : fill (repl [.nilsl] 1) [] [(0, 1, .c (.sl q 0 l.length c1))] = some [.sl q 0 l.length c1] := rfl
  have l6a : ldB (g.get p) 6 = some x6 := by rw [← zb]; exact l6
  have l6b : ldB (g1.get p) 6 = some x6 := by rw [← zb]; exact l61
  simp only [S.zc0, dk, ix, zd, lx, zj, zg, Nat.zero_add, l6, zh, e1, l61, hck6, fl1, ea, es, wi]
  have hql := F1.ok.lt hq
  have inL : ∀ y ∈ [bw, gm, p] ++ bs, y ≠ p → y ∉ p :: x6.blk := fun y hy hne hm => by
    rcases List.mem_cons.mp hm with e | hm
    · exact hne e
    · rcases Z.x6c with e | ⟨c6, e, hlt⟩
      · rw [e] at hm; simp at hm
      · rw [e, List.mem_singleton] at hm
        have := hlt y hy; omega
  have hinc := Z.inc
  rw [List.cons_append, List.pairwise_cons] at hinc
  have hinc2 := hinc.2
  rw [List.cons_append, List.pairwise_cons] at hinc2
  have hinc3 := hinc2.2
  rw [List.cons_append, List.pairwise_cons] at hinc3
  have bwp : bw < p := hinc.1 p (by simp)
  have gmp : gm < p := hinc2.1 p (by simp)
  have bsp : ∀ y ∈ bs, p < y := fun y hy => hinc3.1 y (by simp [hy])
  have qp : q ≠ p := by have := C1.nq; have := Z.hi p (by simp); omega
  have qn : q ∉ p :: x6.blk := fun hm => by
    rcases List.mem_cons.mp hm with e | hm
    · exact qp e
    · have := Z.fo.lt Z.fr.ok q hm
      have := C1.nq; omega
  refine Ev.some ⟨x6', _, q, rfl, rfl, ?_, ?_, ?_, ?_, fo3, ⟨by rw [List.length_append, Z.fl.1]; rfl, by rw [List.length_append, Z.fl.2]; rfl⟩, fun j v b l' h1 h2 h3 => ?_, ?_, Z.lo, fun y hy => ?_, .inr ⟨cc, hcc, fun y hy => ?_⟩⟩
  · refine (Z.fr.trans F1 (by simp)).trans F3 (fun b hb => ?_)
    rcases List.mem_cons.mp hb with rfl | hb
    · exact .inr (by have := Z.lo; omega)
    · rcases Z.x6c with e | ⟨c6, e, hlt⟩
      · rw [e] at hb; simp at hb
      · rw [e, List.mem_singleton] at hb
        subst hb
        exact .inr (by have := hlt bw (by simp); have := Z.lo; omega)
  · exact own3
  · exact F3.get F1.ok (F1.get Z.fr.ok Z.wo (by simp)) (inL bw (by simp) (by omega))
  · exact F3.get F1.ok (F1.get Z.fr.ok Z.gv (by simp)) (inL gm (by simp) (by omega))
  · by_cases hj : j < i
    · rw [List.getElem?_append_left (by rw [Z.fl.1]; exact hj)] at h1
      rw [List.getElem?_append_left (by rw [Z.fl.2]; exact hj)] at h2
      have hbm := List.mem_of_getElem? h2
      have R := (Z.row j v b l' h1 h2 h3).fr Z.fr.ok F1 (by simp)
      refine R.fr F1.ok F3 (inL b (by simp [hbm]) (by have := bsp b hbm; omega))
    · have hlt1 := z01 h1
      rw [List.length_append, Z.fl.1] at hlt1
      have hji : j = i := by simp at hlt1; omega
      subst hji
      rw [List.getElem?_append_right (by rw [Z.fl.1]; omega), Z.fl.1] at h1
      rw [List.getElem?_append_right (by rw [Z.fl.2]; omega), Z.fl.2] at h2
      simp at h1 h2
      subst h1; subst h2
      rw [hl] at h3; cases h3
      exact C1.row.fr F1.ok F3 qn
  · rw [← List.append_assoc]
    exact zu9 Z.inc fun y hy => Nat.lt_of_lt_of_le (Z.hi y hy) C1.nq
  · rw [← List.append_assoc] at hy
    rcases List.mem_append.mp hy with hy | hy
    · exact Nat.lt_of_lt_of_le (Z.hi y hy) (Nat.le_trans F1.le F3.le)
    · rw [List.mem_singleton] at hy; subst hy; exact Nat.lt_of_lt_of_le hql F3.le
  · rw [← List.append_assoc] at hy
    rcases List.mem_append.mp hy with hy | hy
    · exact Nat.lt_of_lt_of_le (Z.hi y hy) (Nat.le_trans F1.le hge)
    · rw [List.mem_singleton] at hy; subst hy; exact Nat.lt_of_lt_of_le hql hge
theorem z07q {k : Cfg} {h : H} {B : MdB} {r : RSt} (ok : h.ok) (M : MdAt k h.get B r) (hC : k.C ≤ 1000) {p bw gm j : Nat} {x6 x7 : V} {vs : List V} {bs ms : List Nat} {g : H} (Z : CpH k h B r p bw gm x6 vs bs j x7 ms g) (hj : j < k.C) :
    Ev (S.zbw W (.ptr p 0) (.sl B.bh 0 k.C (.op 1)) (k.C : Nat) (j : Nat) g) fun z => ∃ x7' m, z.1 = .normal ∧ z.2.1 = S.z8p (.ptr p 0) (.sl B.bh 0 k.C (.op 1)) (.int .i64 (k.C : Nat)) (.int .i64 (j + 1 : Nat)) ∧ CpH k h B r p bw gm x6 vs bs (j + 1) x7' (ms ++ [m]) z.2.2 := by
  have hCc : (k.C : Int) = k.c := by unfold Cfg.C at hj ⊢; omega
  obtain ⟨j', m0, hjj, hm0, ix, lx, hmap⟩ := (M.fr0 ok Z.fr).map (w := (j : Int)) (by omega) (by omega)
  have : j' = j := by omega
  subst this
  have dk : decide ((j' : Int) < (k.C : Int)) = true := decide_eq_true (by omega)
  have wi : wr .i64 ((j' : Int) + 1) = ((j' + 1 : Nat) : Int) := by rw [wr64 (by omega) (by omega)]; rfl
  have e1 := zv0 hmap
  have F1 : Fr [] g (g.new (.map (z2b r.Hs j'))) := (Fr.refl Z.fr.ok).new _
  have hq : (g.new (.map (z2b r.Hs j'))).get g.next = some (.map (z2b r.Hs j')) := zp _ _
  have hn1 : (g.new (.map (z2b r.Hs j'))).next = g.next + 1 := rfl
  generalize g.new (.map (z2b r.Hs j')) = g1 at e1 F1 hq hn1
  have own1 := F1.get Z.fr.ok Z.own (by simp)
  have l7 : g.ld1 (.ptr p 7) = some x7 := z1i Z.own rfl (zrq Z.ho)
  have l71 : g1.ld1 (.ptr p 7) = some x7 := z1i own1 rfl (zrq Z.ho)
  have ho1 := Z.ho.fr Z.fr.ok F1 (by simp)
  obtain ⟨x7', g2, g3, ea, es, F3, ho3, own3, cc, hcc, hge⟩ := z023 (bytes := 8) F1.ok own1 (o := 7) (by simp [Cfg.cs]) ho1 (v := .map g.next) rfl (by rw [List.length_map, Z.hl]; omega) (by decide)
  have hck7 := z048 Z.ho
  have fl1 : fill (repl [.nilmap] 1) [] [(0, 1, .c (.map g.next))] = some [.map g.next] := rfl
  have lx' : g.ld1 (.ptr B.bh j') = some (.map m0) := by rw [zb]; exact lx
  simp only [S.zbw, dk, ix, zd, lx', zj, zg, Nat.zero_add, l7, zh, e1, l71, hck7, fl1, ea, es, wi]
  have inL : ∀ y ∈ [bw, gm, p] ++ bs ++ x6.blk ++ ms, y ≠ p → y ∉ p :: x7.blk := fun y hy hne hm => by
    rcases List.mem_cons.mp hm with e | hm
    · exact hne e
    · rcases Z.x7c with e | ⟨c6, e, hlt⟩
      · rw [e] at hm; simp at hm
      · rw [e, List.mem_singleton] at hm
        have := hlt y hy; omega
  have hinc := Z.inc
  rw [List.append_assoc, List.append_assoc, List.cons_append, List.pairwise_cons] at hinc
  have hinc2 := hinc.2
  rw [List.cons_append, List.pairwise_cons] at hinc2
  have hinc3 := hinc2.2
  rw [List.cons_append, List.pairwise_cons] at hinc3
  have bwp : bw < p := hinc.1 p (by simp)
  have gmp : gm < p := hinc2.1 p (by simp)
  have bsp : ∀ y, y ∈ bs ∨ y ∈ x6.blk ∨ y ∈ ms → p < y := fun y hy => hinc3.1 y (by simpa using hy)
  have qn : g.next ∉ p :: x7.blk := fun hm => by
    rcases List.mem_cons.mp hm with e | hm
    · have := Z.hi p (by simp); omega
    · have := Z.ho.lt Z.fr.ok _ hm; omega
  refine Ev.some ⟨x7', g.next, rfl, rfl, ?_, own3, F3.get F1.ok (F1.get Z.fr.ok Z.wo (by simp)) (inL bw (by simp) (by omega)), F3.get F1.ok (F1.get Z.fr.ok Z.gv (by simp)) (inL gm (by simp) (by omega)), ?_, Z.fl, fun i v b l' h1 h2 h3 => ?_, ?_, ?_, fun i m h1 => ?_, ?_, Z.lo, fun y hy => ?_, .inr ⟨cc, hcc, fun y hy => ?_⟩⟩
  · refine (Z.fr.trans F1 (by simp)).trans F3 (fun b hb => ?_)
    rcases List.mem_cons.mp hb with rfl | hb
    · exact .inr (by have := Z.lo; omega)
    · rcases Z.x7c with e | ⟨c6, e, hlt⟩
      · rw [e] at hb; simp at hb
      · rw [e, List.mem_singleton] at hb
        subst hb
        exact .inr (by have := hlt bw (by simp); have := Z.lo; omega)
  · exact (Z.fo.fr Z.fr.ok F1 (by simp)).fr F1.ok F3 (fun b hb => inL b (by simp [hb]) (by have := bsp b (.inr (.inl hb)); omega))
  · have hbm := List.mem_of_getElem? h2
    exact ((Z.row i v b l' h1 h2 h3).fr Z.fr.ok F1 (by simp)).fr F1.ok F3 (inL b (by simp [hbm]) (by have := bsp b (.inl hbm); omega))
  · rw [List.map_append]; exact ho3
  · rw [List.length_append, Z.hl]; rfl
  · by_cases hi : i < j'
    · rw [List.getElem?_append_left (by rw [Z.hl]; exact hi)] at h1
      have hbm := List.mem_of_getElem? h1
      exact F3.get F1.ok (F1.get Z.fr.ok (Z.hm i m h1) (by simp)) (inL m (by simp [hbm]) (by have := bsp m (.inr (.inr hbm)); omega))
    · have hlt1 := z01 h1
      rw [List.length_append, Z.hl] at hlt1
      have hji : i = j' := by simp at hlt1; omega
      subst hji
      rw [List.getElem?_append_right (by rw [Z.hl]; omega), Z.hl] at h1
      simp at h1
      subst h1
      exact F3.get F1.ok hq qn
  · rw [← List.append_assoc]
    exact zu9 Z.inc fun y hy => Z.hi y hy
  · rw [← List.append_assoc] at hy
    rcases List.mem_append.mp hy with hy | hy
    · exact Nat.lt_of_lt_of_le (Z.hi y hy) (Nat.le_trans F1.le F3.le)
    · rw [List.mem_singleton] at hy; subst hy
      exact Nat.lt_of_lt_of_le (F1.ok.lt hq) F3.le
  · rw [← List.append_assoc] at hy
    rcases List.mem_append.mp hy with hy | hy
    · exact Nat.lt_of_lt_of_le (Z.hi y hy) (Nat.le_trans F1.le hge)
    · rw [List.mem_singleton] at hy; subst hy; omega
theorem z06d {k : Cfg} {h : H} {B : MdB} {r : RSt} (ok : h.ok) (M : MdAt k h.get B r) (hr : k.R = true) (hF : r.F.length ≤ 100000) (hL : ∀ l ∈ r.F, l.length ≤ 100000) :
    Ev (C 115 [.ptr B.b 0] h) fun z => ∃ B', z.1 = .ptr B'.b 0 ∧ Fr [] h z.2 ∧ MdAt k z.2.get B' r ∧ (∀ x ∈ B'.l, h.next ≤ x) ∧ B'.nb = B.nb := by
  refine z0i (af := F.z28) (by kernel_rfl) rfl ?_
  rw [S.zwf]
  have hB := Cfg.R_iff.mp hr
  have hC : (k.C : Int) = k.c := by unfold Cfg.C; omega
  have hC8 := (Cfg.bounds hr).2.2.1
  have hC1 : 1 ≤ k.C := by omega
  have hC9 : k.C ≤ 1000 := by omega
  obtain ⟨w1, w2, w3⟩ := M.wl
  have hwl : (z21 r.Wk B.ns).length = k.C * 2 := by rw [zmg (by omega), w1]
  have hw1 : (z21 r.Wk B.ns).all V.one = true := zzq fun v hv => by
    obtain ⟨i, hi, he⟩ := List.getElem_of_mem hv
    exact (M.wr i v _ (by rw [List.getElem?_eq_getElem hi, he]) (List.getElem?_eq_getElem (by omega))).one
  have lN : h.ldN 6 (.ptr B.b 0) = some (.agg (k.cs)) := by rw [zp5 M.own (by simp)]; rfl
  have l8 : h.ld1 (.ptr B.b 8) = some (.sl B.bw 0 k.C (B.cw k.C)) := z1i M.own rfl rfl
  have l9 : h.ld1 (.ptr B.b 9) = some (.map B.gm) := z1i M.own rfl rfl
  obtain ⟨⟨y, g1⟩, e1, bw, C1⟩ := z015 ok (c := B.cw k.C) M.wo hwl hw1 (by omega)
  have F1 := C1.fr
  dsimp only at C1 F1
  obtain ⟨c1, k1, rfl, hbw, hck⟩ := C1.sl
  have hc1 : c1 = .op 2 ∧ k1 = .gr 2 := by
    rcases hck with h | ⟨_, h, _⟩
    · exact h
    · omega
  obtain ⟨rfl, rfl⟩ := hc1
  have M1 := M.fr0 ok F1
  have lN1 : g1.ldN 6 (.ptr B.b 0) = some (.agg (k.cs)) := by rw [zp5 M1.own (by simp)]; rfl
  have l91 : g1.ld1 (.ptr B.b 9) = some (.map B.gm) := z1i M1.own rfl rfl
  have e2 := zv0 M1.gv
  have F2 : Fr [] g1 (g1.new (.map (z5f r.Gv))) := (Fr.refl F1.ok).new _
  have hgm : (g1.new (.map (z5f r.Gv))).get g1.next = some (.map (z5f r.Gv)) := zp _ _
  have hn2 : (g1.new (.map (z5f r.Gv))).next = g1.next + 1 := rfl
  generalize g1.new (.map (z5f r.Gv)) = g2 at e2 F2 hgm hn2
  have M2 := M1.fr0 F1.ok F2
  have lN2 : g2.ldN 6 (.ptr B.b 0) = some (.agg (k.cs)) := by rw [zp5 M2.own (by simp)]; rfl
  have ckm : ckB (some (.map B.gm)) (.map B.gm) = true := by simp [ckB, V.beq]
  have ckc : ckB (some (.agg (k.cs))) (.agg (k.cs)) = true := by simp [ckB, V.beq, V.beqs, Cfg.cs]
  have hfill : fill [(.int .i64 0), (.int .i64 0), (.int .i64 0), (.int .i64 0), (.int .i64 0), (.int .i64 0), .nilsl, .nilsl, .nilsl, .nilmap] [] [(0, 6, .c (.agg (k.cs))), (8, 1, .c (.sl bw 0 k.C (.op 2))), (9, 1, .c (.map g1.next))] = some (k.cs ++ [.nilsl, .nilsl, .sl bw 0 k.C (.op 2), .map g1.next]) := rfl
  have hbox : boxc (.agg (k.cs ++ [.nilsl, .nilsl, .sl bw 0 k.C (.op 2), .map g1.next])) = some (k.cs ++ [.nilsl, .nilsl, .sl bw 0 k.C (.op 2), .map g1.next]) := rfl
  have F3 : Fr [] g2 (g2.new (.cells (k.cs ++ [.nilsl, .nilsl, .sl bw 0 k.C (.op 2), .map g1.next]) .rw)) := (Fr.refl F2.ok).new _
  have hp : (g2.new (.cells (k.cs ++ [.nilsl, .nilsl, .sl bw 0 k.C (.op 2), .map g1.next]) .rw)).get g2.next = some (.cells (k.cs ++ [.nilsl, .nilsl, .sl bw 0 k.C (.op 2), .map g1.next]) .rw) := zp _ _
  have hn3 : (g2.new (.cells (k.cs ++ [.nilsl, .nilsl, .sl bw 0 k.C (.op 2), .map g1.next]) .rw)).next = g2.next + 1 := rfl
  obtain ⟨g3, hg3⟩ : ∃ g3, g3 = g2.new (.cells (k.cs ++ [.nilsl, .nilsl, .sl bw 0 k.C (.op 2), .map g1.next]) .rw) := ⟨_, rfl⟩
  rw [← hg3] at F3 hp hn3
  have M3 := M2.fr0 F2.ok F3
  have l63 : g3.ld1 (.ptr B.b 6) = some B.xF := z1i M3.own rfl M.fo.slv.one
  have hlF : lenSl B.xF = some r.F.length := M.rows.len
  have hbwn := F1.ok.lt hbw
  have Z0 : CpF k h B r g2.next bw g1.next 0 .nilsl [] [] g3 := ⟨(F1.trans F2 (by simp)).trans F3 (by simp), hp, F3.get F2.ok (F2.get F1.ok hbw (by simp)) (by simp), F3.get F2.ok hgm (by simp), Grown.nil _ _, ⟨rfl, rfl⟩, fun j v b l h1 => by simp at h1, by
      simp only [List.append_nil, List.pairwise_cons, List.mem_cons, List.not_mem_nil, or_false, forall_eq_or_imp, forall_eq, List.Pairwise.nil, and_true]
      refine ⟨⟨hbwn, by omega⟩, by omega, by simp⟩, C1.nq, fun y hy => by
      simp only [List.append_nil, List.mem_cons, List.not_mem_nil, or_false] at hy
      rcases hy with rfl | rfl | rfl <;> omega, .inl rfl⟩
  have hbl : eqV .ptr (.ptr B.b 0) .nilp = some false := rfl
  simp only [S.z28, hbl, zd, zj, zg, Nat.zero_add, lN, l8, l9, zh, e1, l91, ckm, lN1, ckc, e2, lN2, hfill, hbox, ← hg3, l63, hlF]
  generalize g2.next = p at Z0 hp
  generalize g1.next = gm at Z0 hp
  refine z0j (α := Nat × V × List V × List Nat) (fun y => S.z8q (.ptr B.b 0) (.ptr p 0) B.xF (.int .i64 (r.F.length : Nat)) (.int .i64 (y.1 : Nat)))
    (fun y g => y.1 ≤ r.F.length ∧ CpF k h B r p bw gm y.1 y.2.1 y.2.2.1 y.2.2.2 g) (fun y _ => r.F.length - y.1)
    (fun z => ∃ x6 vs bs, z.1 = .exit 0 ∧ z.2.1 = S.zfv (.ptr B.b 0) (.ptr p 0) ∧ CpF k h B r p bw gm r.F.length x6 vs bs z.2.2) (0, .nilsl, [], []) rfl ⟨Nat.zero_le _, Z0⟩ ?_ ?_
  · rintro ⟨i, x6, vs, bs⟩ g ⟨hi, Z⟩
    dsimp only at hi Z
    rw [S.zt2]
    by_cases hil : i < r.F.length
    · refine (z07d ok M hF hL Z hil _).mono ?_
      rintro ⟨_, _, g'⟩ ⟨x6', v, b, rfl, rfl, Z'⟩
      exact .inl ⟨(i + 1, x6', vs ++ [v], bs ++ [b]), rfl, rfl, ⟨hil, Z'⟩, Nat.sub_lt_sub_left hil (Nat.lt_succ_self i)⟩
    · have hie : i = r.F.length := Nat.le_antisymm hi (Nat.le_of_not_lt hil)
      subst hie
      have dk : decide ((r.F.length : Int) < (r.F.length : Int)) = false := decide_eq_false (Int.lt_irrefl _)
      simp only [S.zc0, dk]
      exact Ev.some (.inr ⟨by simp, x6, vs, bs, rfl, rfl, Z⟩)
  clear Z0 hp
  rintro ⟨_, _, g4⟩ ⟨x6, vs, bs, rfl, rfl, Z⟩
  dsimp only at Z
  show Ev (S.zgs W (.exit 0) _ _) _
  rw [S.zql]
  have M4 := M.fr0 ok Z.fr
  have l74 : g4.ld1 (.ptr B.b 7) = some (.sl B.bh 0 k.C (.op 1)) := z1i M4.own rfl rfl
  simp only [S.zk6, zj, zd, zg, Nat.zero_add, l74, z3a]
  have Z1 : CpH k h B r p bw gm x6 vs bs 0 .nilsl [] g4 := by
    refine ⟨Z.fr, Z.own, Z.wo, Z.gv, Z.fo, Z.fl, Z.row, Grown.nil _ _, rfl, fun i m h1 => by simp at h1, ?_, Z.lo, fun y hy => ?_, .inl rfl⟩
    · rw [List.append_nil]
      rcases Z.x6c with e | ⟨c6, e, hlt⟩
      · rw [e, List.append_nil]; exact Z.inc
      · rw [e]; exact zu9 Z.inc hlt
    · rw [List.append_nil] at hy
      rcases List.mem_append.mp hy with hy | hy
      · exact Z.hi y hy
      · exact Z.fo.lt Z.fr.ok y hy
  refine z0j (α := Nat × V × List Nat) (fun y => S.z8p (.ptr p 0) (.sl B.bh 0 k.C (.op 1)) (.int .i64 (k.C : Nat)) (.int .i64 (y.1 : Nat)))
    (fun y g => y.1 ≤ k.C ∧ CpH k h B r p bw gm x6 vs bs y.1 y.2.1 y.2.2 g) (fun y _ => k.C - y.1)
    (fun z => ∃ x7 ms, z.1 = .exit 2 ∧ z.2.1 = S.zfw (.ptr p 0) ∧ CpH k h B r p bw gm x6 vs bs k.C x7 ms z.2.2) (0, .nilsl, []) rfl ⟨Nat.zero_le _, Z1⟩ ?_ ?_
  · rintro ⟨j, x7, ms⟩ g ⟨hj, Z⟩
    dsimp only at hj Z
    rw [S.zsv]
    by_cases hjl : j < k.C
    · refine (z07q ok M hC9 Z hjl).mono ?_
      rintro ⟨_, _, g'⟩ ⟨x7', m, rfl, rfl, Z'⟩
      exact .inl ⟨(j + 1, x7', ms ++ [m]), rfl, rfl, ⟨hjl, Z'⟩, Nat.sub_lt_sub_left hjl (Nat.lt_succ_self j)⟩
    · have hje : j = k.C := Nat.le_antisymm hj (Nat.le_of_not_lt hjl)
      subst hje
      have dk : decide ((k.C : Int) < (k.C : Int)) = false := decide_eq_false (Int.lt_irrefl _)
      simp only [S.zbw, dk]
      exact Ev.some (.inr ⟨by simp, x7, ms, rfl, rfl, Z⟩)
  clear Z Z1 M4
  rintro ⟨_, _, g5⟩ ⟨x7, ms, rfl, rfl, Z⟩
  dsimp only at Z
  show Ev (S.zgx W (.exit 2) _ _) _
  rw [S.zqi]
  have hlo : ∀ y ∈ [bw, gm, p] ++ bs ++ x6.blk ++ ms, h.next ≤ y := fun y hy => by
    have hinc := Z.inc
    rw [List.append_assoc, List.append_assoc, List.cons_append] at hinc hy
    exact Nat.le_trans Z.lo (z0ct hinc y hy)
  obtain ⟨rfl, hms⟩ | ⟨bh, n, rfl, hl7, hb7⟩ := Z.ho
  · have := Z.hl
    have hms' : ms = [] := List.map_eq_nil_iff.mp hms
    rw [hms'] at this; simp at this; omega
  have hn : n = k.C := by rw [List.length_map, Z.hl] at hl7; omega
  subst hn
  have hbh : ∀ y ∈ [bw, gm, p] ++ bs ++ x6.blk ++ ms, y < bh := by
    rcases Z.x7c with e | ⟨c, e, hlt⟩
    · simp [V.blk] at e
    · simp only [V.blk, List.cons.injEq, and_true] at e
      subst e; exact hlt
  have hnd : ([bw, gm, p] ++ bs ++ x6.blk ++ ms ++ [bh]).Nodup := (zu9 Z.inc hbh).imp fun h => Nat.ne_of_lt h
  have hlow : ∀ x ∈ p :: bh :: bw :: gm :: (ms ++ (x6.blk ++ bs)), h.next ≤ x := fun x hx => by
    by_cases e : x = bh
    · rw [e]; exact Nat.le_trans (hlo bw (by simp)) (Nat.le_of_lt (hbh bw (by simp)))
    · refine hlo x ?_
      simp only [List.mem_cons, List.mem_append] at hx ⊢
      rcases hx with h | h | h | h | h | h | h
      · simp [h]
      · exact absurd h e
      · simp [h]
      · simp [h]
      · simp [h]
      · simp [h]
      · simp [h]
  refine Ev.some ⟨⟨p, x6, vs, bs, bh, ms, bw, B.ns, gm, false⟩, rfl, Z.fr, ⟨?_, fun a ha hm => ?_, Z.own, Z.fo, Z.fl, Z.row, hb7, Z.hl, Z.hm, Z.wo, M.wl, fun i v l h1 h2 => ?_, Z.gv⟩, hlow, rfl⟩
  · show (p :: bh :: bw :: gm :: (ms ++ (x6.blk ++ bs))).Nodup
    refine (List.Perm.nodup_iff ?_).mp hnd
    rw [List.perm_iff_count]
    intro a
    simp only [List.count_append, List.count_cons, List.count_nil]
    omega
  · have h1 := hlow a hm
    have ha' : a ∈ B.nb := ha
    unfold MdB.nb at ha'
    obtain ⟨lb, h2, h3⟩ := List.mem_flatten.mp ha'
    obtain ⟨v, h4, rfl⟩ := List.mem_map.mp h2
    obtain ⟨i, hi, he⟩ := List.getElem_of_mem h4
    have R := M.wr i v _ (by rw [List.getElem?_eq_getElem hi, he]) (List.getElem?_eq_getElem (by omega))
    have := R.lt ok a h3
    omega
  · have R := M.wr i v l h1 h2
    exact R.congr fun b hb => Z.fr.same b (R.lt ok b hb) (by simp)
structure Mod (h0 : H) (k : Cfg) (g : H) (B : MdB) (r : RSt) (n : Nat) : Prop where
  fr : Fr [] h0 g
  M : MdAt k g.get B r
  I : RIn k r
  sz : RSz k n r
  lo : ∀ b ∈ B.l, h0.next ≤ b
def Apart (B D : MdB) : Prop := (∀ b ∈ D.l, b ∉ B.l) ∧ ∀ b ∈ D.nb, b ∉ B.l
section
variable {h0 g g' : H} {k : Cfg} {B B' D : MdB} {r s : RSt} {n m : Nat}
theorem Mod.fr0 (X : Mod h0 k g B r n) (F : Fr [] g g') : Mod h0 k g' B r n := ⟨X.fr.trans F (by simp), X.M.fr0 X.fr.ok F, X.I, X.sz, X.lo⟩
theorem Mod.keep (X : Mod h0 k g D s m) (Y : Mod h0 k g B r n) (F : Fr B.l g g') (A : Apart B D) : Mod h0 k g' D s m :=
  ⟨Y.fr.trans F (fun b hb => .inr (Y.lo b hb)), X.M.fr' X.fr.ok F A.1 A.2, X.I, X.sz, X.lo⟩
theorem Apart.new (X : Mod h0 k g B r n) (h : ∀ b ∈ D.l, g.next ≤ b) : Apart D B :=
  ⟨fun b hb q => by have := h b q; have := X.M.lt X.fr.ok b hb; omega, fun b hb q => by have := h b q; have := X.M.ltn X.fr.ok b hb; omega⟩
theorem Mod.does (X : Mod h0 k g B r n) (hr : k.R = true) (hn : n ≤ 1000) {c : CallR} {a : AnsR} (hu : U64 a.h) (w : Int) :
    Ev (C 103 [.ptr B.b 0, .int .i64 w, .agg c.cs, .agg a.cs] g) fun z => z.1 = .bool (okR k r w c a) ∧ ∃ B', Mod h0 k z.2 B' (doR k r w c a) (n + 1) ∧ Fr B.l g z.2 ∧ B.ext B' g := by
  have hB := Cfg.R_iff.mp hr
  have hC := (Cfg.bounds hr).2.2.1
  refine (z061 (c := c) (a := a) X.fr.ok X.M X.I (X.sz.small X.I (by omega) (by omega) (by omega)) (by omega) hu w).mono ?_
  rintro ⟨v, g'⟩ ⟨hv, F, B', M', E⟩
  exact ⟨hv, B', ⟨X.fr.trans F (fun b hb => .inr (X.lo b hb)), M', X.I.do w c hu, X.sz.do w c a, fun b hb => by
    rcases E.l b hb with h | h
    · exact X.lo b h
    · exact Nat.le_trans X.fr.le h⟩, F, E⟩
theorem Mod.new (hr : k.R = true) (F : Fr [] h0 g) : Ev (C 96 [k.v] g) fun z => ∃ B, z.1 = .ptr B.b 0 ∧ Fr [] g z.2 ∧ Mod h0 k z.2 B (rst0 k) 0 ∧ (∀ b ∈ B.l, g.next ≤ b) ∧ B.nb = [] := by
  refine (z08d hr F.ok).mono ?_
  rintro ⟨v, g'⟩ ⟨B, hv, F', M, hl, hn⟩
  exact ⟨B, hv, F', ⟨F.trans F' (by simp), M, z0dr k, z0d8 k, fun b hb => Nat.le_trans F.le (hl b hb)⟩, hl, hn⟩
theorem Mod.copy (X : Mod h0 k g B r n) (hr : k.R = true) (hn : n ≤ 1000) : Ev (C 115 [.ptr B.b 0] g) fun z => ∃ D, z.1 = .ptr D.b 0 ∧ Fr [] g z.2 ∧ Mod h0 k z.2 D r n ∧ (∀ b ∈ D.l, g.next ≤ b) ∧ D.nb = B.nb := by
  have hB := Cfg.R_iff.mp hr
  refine (z06d X.fr.ok X.M hr (by have := X.sz.f; omega) (fun l hl => by have := X.sz.l l hl; omega)).mono ?_
  rintro ⟨v, g'⟩ ⟨D, hv, F', M, hl, hn⟩
  exact ⟨D, hv, F', ⟨X.fr.trans F' (by simp), M, X.I, X.sz, fun b hb => Nat.le_trans X.fr.le (hl b hb)⟩, hl, hn⟩
end
def Evt.call (e : Evt) : CallR := ⟨e.kind, e.n, e.h, e.x, e.y⟩
def Evt.ans (e : Evt) : AnsR := ⟨e.err, e.ah, e.yes⟩
def rp1 (k : Cfg) (l : List Evt) (r : RSt) (i : Int) : Option RSt :=
  if i < 0 then none else match l[i.toNat]? with
    | none => none
    | some e => if okR k r e.client e.call e.ans then some (doR k r e.client e.call e.ans) else none
def rpN (k : Cfg) (l : List Evt) : RSt → List Int → Nat
  | _, [] => 0
  | r, i :: o => match rp1 k l r i with
    | none => 0
    | some r' => rpN k l r' o + 1
def rpS (k : Cfg) (l : List Evt) : RSt → List Int → Option RSt
  | r, [] => some r
  | r, i :: o => match rp1 k l r i with
    | none => none
    | some r' => rpS k l r' o
section
variable {k : Cfg} {l : List Evt}
theorem z078 {r : RSt} {i : Nat} {y : Evt} (h : l[i]? = some y) : rp1 k l r (i : Int) = if okR k r y.client y.call y.ans then some (doR k r y.client y.call y.ans) else none := by
  unfold rp1
  rw [if_neg (by omega), Int.toNat_natCast, h]
theorem z041 {r : RSt} {i : Int} (h : i < 0 ∨ (l.length : Int) ≤ i) : rp1 k l r i = none := by
  unfold rp1
  by_cases h0 : i < 0
  · rw [if_pos h0]
  · rw [if_neg h0, List.getElem?_eq_none (by omega)]
theorem zrc : ∀ (o : List Int) (r : RSt) (i : Int), rpS k l r (o ++ [i]) = (rpS k l r o).bind fun r' => rp1 k l r' i
  | [], r, i => by
    show rpS k l r [i] = rp1 k l r i
    simp only [rpS]
    cases rp1 k l r i <;> rfl
  | j :: o, r, i => by
    simp only [List.cons_append, rpS]
    cases rp1 k l r j with
    | none => rfl
    | some r' => exact zrc o r' i
theorem z01k : ∀ (o : List Int) (r : RSt) {r' : RSt}, rpS k l r o = some r' → rpN k l r o = o.length
  | [], r, _, _ => rfl
  | j :: o, r, r', h => by
    simp only [rpS] at h
    simp only [rpN]
    cases hj : rp1 k l r j with
    | none => rw [hj] at h; cases h
    | some r1 => rw [hj] at h; simp only; rw [z01k o r1 h]; rfl
theorem zu3 : ∀ (o : List Int) (n : Nat) (r : RSt) {r' : RSt} {i : Int}, rpS k l r (o.take n) = some r' → o[n]? = some i → rp1 k l r' i = none → rpN k l r o = n
  | [], n, r, _, _, _, h, _ => by simp at h
  | j :: o, 0, r, r', i, h, h1, h2 => by
    simp only [List.take_zero, rpS, Option.some.injEq] at h
    simp only [List.getElem?_cons_zero, Option.some.injEq] at h1
    subst h; subst h1
    simp only [rpN, h2]
  | j :: o, n + 1, r, r', i, h, h1, h2 => by
    simp only [List.take_succ_cons, rpS] at h
    simp only [rpN]
    cases hj : rp1 k l r j with
    | none => rw [hj] at h; cases h
    | some r1 =>
      rw [hj] at h; simp only
      rw [zu3 o n r1 h h1 h2]
theorem zzw : ∀ (o : List Int) (r : RSt), rpN k l r o = o.length → ∃ r', rpS k l r o = some r'
  | [], r, _ => ⟨r, rfl⟩
  | j :: o, r, h => by
    simp only [rpN] at h
    simp only [rpS]
    cases hj : rp1 k l r j with
    | none => rw [hj] at h; simp at h
    | some r1 =>
      rw [hj] at h
      exact zzw o r1 (by simpa using h)
theorem z01l : ∀ (o p : List Int) (r : RSt) {r' : RSt}, rpS k l r (o ++ p) = some r' → ∃ r1, rpS k l r o = some r1 ∧ rpS k l r1 p = some r'
  | [], p, r, r', h => ⟨r, rfl, h⟩
  | j :: o, p, r, r', h => by
    simp only [List.cons_append, rpS] at h ⊢
    cases hj : rp1 k l r j with
    | none => rw [hj] at h; cases h
    | some r1 => rw [hj] at h; exact z01l o p r1 h
theorem z0ai {o : List Int} {n : Nat} {i : Int} (h : o[n]? = some i) : o.take (n + 1) = o.take n ++ [i] := by
  rw [List.take_succ, h]; rfl
end
theorem z0en {g : H} (ok : g.ok) {b j : Nat} {v : V} (h : g.ld1 (.ptr b j) = some v) : b < g.next := by
  rw [zb] at h
  cases hb : g.get b with
  | none => rw [hb] at h; cases h
  | some blk => exact ok.lt hb
structure RowP (g : H) (x : V) (ws : List Int) : Prop where
  len : lenSl x = some ws.length
  one : x.one = true
  at' : ∀ (i : Nat) (w : Int), ws[i]? = some w → ∃ b j, za 1 x (.int .i64 (i : Int)) = some (.ptr b j) ∧ g.ld1 (.ptr b j) = some (.int .i64 w) ∧ b ∈ x.blk
theorem RowP.fr {g g' : H} {L : List Nat} {x : V} {ws : List Int} (h : RowP g x ws) (ok : g.ok) (F : Fr L g g') (hL : ∀ b ∈ x.blk, b ∉ L) : RowP g' x ws :=
  ⟨h.len, h.one, fun i w hw => by
    obtain ⟨b, j, h1, h2, h3⟩ := h.at' i w hw
    refine ⟨b, j, h1, ?_, h3⟩
    have lt := z0en ok h2
    rw [zb] at h2 ⊢
    rw [F.same b lt (hL b h3)]; exact h2⟩
theorem RowN.P {g : H} {x : V} {ws : List Int} (h : RowN .i64 g.get x ws) : RowP g x ws :=
  ⟨h.len, h.one, fun i w hw => by
    obtain ⟨b, h1, h2⟩ := h.at hw
    refine ⟨b, i, h1, h2, ?_⟩
    obtain ⟨rfl, rfl⟩ | ⟨b', c, k, rfl, _⟩ := h
    · simp at hw
    · rw [zu (z01 hw)] at h1
      simp only [Option.some.injEq, V.ptr.injEq] at h1
      simp [V.blk, h1.1]⟩
theorem z02b {g : H} {x : V} {l : List Evt} (h : RowE g.get x l) {i : Nat} {y : Evt} (hy : l[i]? = some y) :
    ∃ b, za 14 x (.int .i64 (i : Int)) = some (.ptr b (i * 14)) ∧ g.ld1 (.ptr b (i * 14)) = some (.int .i64 y.client) ∧ g.ldN 5 (.ptr b (i * 14 + 6)) = some (.agg y.call.cs) ∧ g.ldN 3 (.ptr b (i * 14 + 11)) = some (.agg y.ans.cs) := by
  have hi := z01 hy
  obtain ⟨rfl, rfl⟩ | ⟨b, c, k, rfl, hb⟩ := h
  · simp at hy
  · have hn : (l.map Evt.cs).flatten.length = l.length * 14 := by rw [zpg (z03q l), List.length_map]
    have hp := zru (z03q l) i y.cs (by rw [List.getElem?_map, hy]; rfl)
    have part' : ∀ j n, j + n ≤ 14 → ((l.map Evt.cs).flatten.drop (i * 14 + j)).take n = (y.cs.drop j).take n := fun j n hj => by
      rw [← hp, List.drop_take, List.take_take, List.drop_drop, Nat.min_eq_left (by omega)]
    refine ⟨b, zze hi, ?_, ?_, ?_⟩
    · rw [zb, hb, zf]
      have : (l.map Evt.cs).flatten[i * 14]? = y.cs[0]? := by
        rw [← hp, List.getElem?_take, if_pos (by decide), List.getElem?_drop]; rfl
      rw [this]; rfl
    · rw [z14, hb, z0s, decide_eq_true (by rw [hn]; omega), part' 6 5 (by decide)]; rfl
    · rw [z14, hb, z0s, decide_eq_true (by rw [hn]; omega), part' 11 3 (by decide)]; rfl
theorem z0eg {g : Nat → Option Blk} {by' : Nat} {v : V} (h : CellOk g (.sl by' z0c3) v) :
    ∃ l, RowE g v l ∧ (∀ y ∈ l, U64 y.ah) ∧ l.length * by' ≤ 140737488351232 ∧ l.length ≤ Go.maxLen := by
  unfold CellOk at h
  rcases h with rfl | ⟨b, n, cs, rfl, ⟨h1, h2⟩, h3, h4, h5⟩
  · exact ⟨[], .inl ⟨rfl, rfl⟩, by simp, by simp, by simp⟩
  · obtain ⟨ws, e1, e2, e3⟩ := z0a5 (α := Evt) (enc := Evt.cs) (Q := fun y => U64 y.ah) (P := CellsOk g z0c3) (fun c hc => by
      obtain ⟨_, _, rfl, ⟨y0, rfl, b0⟩, _, _, rfl, ⟨y1, rfl, b1⟩, _, _, rfl, ⟨y2, rfl, b2⟩, _, _, rfl, ⟨y3, rfl, b3⟩, _, _, rfl, ⟨y4, rfl, b4⟩, _, _, rfl, ⟨y5, rfl⟩, _, _, rfl, ⟨y6, rfl, b6⟩, _, _, rfl, ⟨y7, rfl, b7⟩, _, _, rfl, ⟨y8, rfl, b8⟩, _, _, rfl, ⟨y9, rfl, b9⟩, _, _, rfl, ⟨y10, rfl, b10⟩, _, _, rfl, ⟨y11, rfl, b11⟩, _, _, rfl, ⟨y12, rfl, b12⟩, _, _, rfl, ⟨y13, rfl⟩, rfl⟩ := hc
      exact ⟨⟨y0, y1, y2, y3, y4, y5, y6, y7, y8, y9, y10, y11, y12, y13⟩, rfl, z0ec b12⟩) n cs h4 h5
    subst e2
    exact ⟨ws, .inr ⟨b, _, .ro, rfl, by rw [h3, e1]⟩, e3, h2, h1⟩
theorem rl_k {n : Nat} (h : n < 9000) : wr .i64 ((n : Int) + 1) = ((n + 1 : Nat) : Int) := by rw [wr64 (by omega) (by omega)]; rfl
section
variable {h : H} {k : Cfg} {x0 x1 : V} {l : List Evt} {o : List Int}
theorem z05x (ok : h.ok) (hr : k.R = true) (hx : RowE h.get x0 l) (hu : ∀ y ∈ l, U64 y.ah) (ho : RowP h x1 o) (hl : o.length ≤ 60) {n : Nat} (hn : n ≤ o.length) {g : H} {B : MdB} {r : RSt} (X : Mod h k g B r n) (hS : rpS k l (rst0 k) (o.take n) = some r) :
    Ev (S.z9y W x0 x1 (.ptr B.b 0) x1 (o.length : Nat) (n : Nat) g) fun z =>
      (z.1 = .ret ∧ z.2.1 = S.z57 x1 (.int .i64 (rpN k l (rst0 k) o : Nat)) (.ptr B.b 0) ∧ Fr [] h z.2.2) ∨
      (z.1 = .exit 0 ∧ z.2.1 = S.z57 x1 .dead (.ptr B.b 0) ∧ Fr [] h z.2.2 ∧ rpN k l (rst0 k) o = o.length) ∨
      (n < o.length ∧ z.1 = .normal ∧ z.2.1 = S.ze2 x0 x1 (.ptr B.b 0) x1 (.int .i64 (o.length : Nat)) (.int .i64 (n + 1 : Nat)) ∧ ∃ B' r', Mod h k z.2.2 B' r' (n + 1) ∧ B'.b = B.b ∧ rpS k l (rst0 k) (o.take (n + 1)) = some r') := by
  by_cases hno : n < o.length
  · have d : decide ((n : Int) < (o.length : Int)) = true := zxz hno
    obtain ⟨q, hq⟩ : ∃ q, o[n]? = some q := ⟨_, List.getElem?_eq_getElem hno⟩
    obtain ⟨ob, oj, hix, hld, _⟩ := (ho.fr ok X.fr (by simp)).at' n q hq
    have hxl := hx.len
    by_cases hq0 : q < 0
    · have d0 : decide (q < 0) = true := decide_eq_true hq0
      simp only [S.z9y, d, hix, zd, hld, ze, d0]
      rw [zu3 o n _ hS hq (z041 (.inl hq0))]
      exact Ev.some (.inl ⟨rfl, rfl, X.fr⟩)
    have d0 : decide (q < 0) = false := decide_eq_false hq0
    by_cases hqn : (l.length : Int) ≤ q
    · have d1 : decide ((l.length : Int) ≤ q) = true := decide_eq_true hqn
      simp only [S.z9y, d, hix, zd, hld, ze, d0, hxl, d1]
      rw [zu3 o n _ hS hq (z041 (.inr hqn))]
      exact Ev.some (.inl ⟨rfl, rfl, X.fr⟩)
    obtain ⟨i, rfl, hi⟩ : ∃ i : Nat, q = (i : Int) ∧ i < l.length := ⟨q.toNat, by omega, by omega⟩
    have d1 : decide ((l.length : Int) ≤ (i : Int)) = false := decide_eq_false hqn
    obtain ⟨y, hy⟩ : ∃ y, l[i]? = some y := ⟨_, List.getElem?_eq_getElem hi⟩
    obtain ⟨eb, e1, e2, e3, e4⟩ := z02b (hx.fr ok X.fr (by simp)) hy
    obtain ⟨⟨v, g6⟩, e6, hv, B', X6, F6, E6⟩ := X.does (c := y.call) (a := y.ans) hr (by omega) (hu y (List.mem_of_getElem? hy)) y.client
    dsimp only at hv X6 F6
    subst hv
    have hst := z078 (k := k) (r := r) hy
    have wk := rl_k (n := n) (by omega)
    cases hok : okR k r y.client y.call y.ans with
    | false =>
      rw [hok] at e6
      rw [hok, if_neg (by decide)] at hst
      simp only [S.z9y, d, hix, zd, hld, ze, d0, hxl, d1, e1, zg, Nat.add_zero, e2, e3, e4, zh, e6, z04, Bool.not_false]
      rw [zu3 o n _ hS hq hst]
      exact Ev.some (.inl ⟨rfl, rfl, X6.fr⟩)
    | true =>
      rw [hok] at e6
      rw [hok, if_pos rfl] at hst
      simp only [S.z9y, d, hix, zd, hld, ze, d0, hxl, d1, e1, zg, Nat.add_zero, e2, e3, e4, zh, e6, z04, Bool.not_true, wk]
      refine Ev.some (.inr (.inr ⟨hno, rfl, rfl, B', _, X6, E6.b, ?_⟩))
      rw [z0ai hq, zrc, hS]
      exact hst
  · have hne : n = o.length := by omega
    have d : decide ((n : Int) < (o.length : Int)) = false := decide_eq_false (by omega)
    simp only [S.z9y, d]
    rw [hne, List.take_length] at hS
    exact Ev.some (.inr (.inl ⟨rfl, rfl, X.fr, z01k o _ hS⟩))
theorem zyc (ok : h.ok) (hr : k.R = true) (hx : RowE h.get x0 l) (hu : ∀ y ∈ l, U64 y.ah) (ho : RowP h x1 o) (hl : o.length ≤ 60) :
    Ev (C 205 [k.v, x0, x1] h) fun z => z.1 = .int .i64 (rpN k l (rst0 k) o : Nat) ∧ Fr [] h z.2 := by
  refine z0i (af := F.z9z) (by kernel_rfl) rfl ?_
  have hv : k.v = .agg [.int .i64 k.s, .int .i64 k.a, .int .i64 k.c, .int .i64 k.hd, .int .i64 k.g, .int .i64 k.st] := rfl
  rw [hv, S.z03m]
  have hp := zp h (.cells [.int .i64 k.s, .int .i64 k.a, .int .i64 k.c, .int .i64 k.hd, .int .i64 k.g, .int .i64 k.st] .rw)
  have F0 : Fr [] h (h.new (.cells [.int .i64 k.s, .int .i64 k.a, .int .i64 k.c, .int .i64 k.hd, .int .i64 k.g, .int .i64 k.st] .rw)) := (Fr.refl ok).new _
  have lk : (h.new (.cells [.int .i64 k.s, .int .i64 k.a, .int .i64 k.c, .int .i64 k.hd, .int .i64 k.g, .int .i64 k.st] .rw)).ldN 6 (.ptr h.next 0) = some k.v := by rw [zp5 hp (show 0 + 6 ≤ 6 from Nat.le_refl _)]; rfl
  obtain ⟨⟨v1, g1⟩, e1, B, rfl, F1, X, hB, nB⟩ := Mod.new (h0 := h) hr F0
  dsimp only at F1 X
  have hol := ho.len
  simp only [S.z9z, lk, zd, zh, e1, hol]
  refine z0j (α := Nat) (fun n => S.ze2 x0 x1 (.ptr B.b 0) x1 (.int .i64 (o.length : Nat)) (.int .i64 (n : Nat)))
    (fun n g => n ≤ o.length ∧ ∃ B' r, Mod h k g B' r n ∧ B'.b = B.b ∧ rpS k l (rst0 k) (o.take n) = some r) (fun n _ => o.length - n)
    (fun z => (z.1 = .ret ∧ z.2.1 = S.z57 x1 (.int .i64 (rpN k l (rst0 k) o : Nat)) (.ptr B.b 0) ∧ Fr [] h z.2.2) ∨
      (z.1 = .exit 0 ∧ z.2.1 = S.z57 x1 .dead (.ptr B.b 0) ∧ Fr [] h z.2.2 ∧ rpN k l (rst0 k) o = o.length)) 0 rfl ⟨Nat.zero_le _, B, _, X, rfl, rfl⟩ ?_ ?_
  rotate_left
  · rintro ⟨_, _, g'⟩ (⟨rfl, rfl, F⟩ | ⟨rfl, rfl, F, hN⟩)
    · show Ev (S.zgi W .ret _ _) _
      rw [S.zxe]
      exact Ev.some ⟨rfl, F⟩
    · show Ev (S.zgi W (.exit 0) _ _) _
      have hb : eqV .ptr (.ptr B.b 0) .nilp = some false := rfl
      rw [S.zwh]
      simp only [S.zr6, hb, zd, hol]
      rw [hN]
      exact Ev.some ⟨rfl, F⟩
  rintro n g ⟨hn, B', r, X', hb, hS⟩
  rw [S.zz7, ← hb]
  refine (z05x ok hr hx hu ho hl hn X' hS).mono ?_
  rintro ⟨_, _, g2⟩ (⟨rfl, rfl, F⟩ | ⟨rfl, rfl, F, hN⟩ | ⟨hlt, rfl, rfl, B2, r2, X2, hb2, hS2⟩)
  · exact .inr ⟨by simp, .inl ⟨rfl, rfl, F⟩⟩
  · exact .inr ⟨by simp, .inr ⟨rfl, rfl, F, hN⟩⟩
  · exact .inl ⟨n + 1, rfl, rfl, ⟨hlt, B2, r2, X2, hb2, hS2⟩, Nat.sub_lt_sub_left hlt (Nat.lt_succ_self n)⟩
end
open Go.Sort (swp)
def ints (d : Array Int) : List V := d.toList.map (V.int .i64)
theorem zya (d : Array Int) : (ints d).length = d.size := by unfold ints; rw [List.length_map]; rfl
theorem z05j {d : Array Int} {i : Nat} (h : i < d.size) : (ints d)[i]? = some (.int .i64 d[i]!) := by
  unfold ints
  rw [List.getElem?_map, Array.getElem?_toList, Array.getElem?_eq_getElem h, getElem!_pos d i h]; rfl
theorem z02i {d : Array Int} {i : Nat} {v : Int} : (ints d).set i (.int .i64 v) = ints (d.setIfInBounds i v) := by
  unfold ints
  rw [Array.toList_setIfInBounds, List.map_set]
structure Sw (h0 : H) (b N : Nat) (h : H) (d : Array Int) : Prop where
  fr : Fr [b] h0 h
  at_ : h.get b = some (.cells (ints d) .rw)
  sz : d.size = N
  inr : ∀ i, i < N → 0 ≤ d[i]! ∧ d[i]! < N
def Cmp (h0 : H) (b N f : Nat) (cs : List V) (lt : Int → Int → Bool) : Prop :=
  ∀ h, Fr [b] h0 h → ∀ i j : Int, 0 ≤ i → i < N → 0 ≤ j → j < N → ∃ n h', C f ([.int .i64 i, .int .i64 j] ++ cs) h = some (.int .i64 n, h') ∧ decide (n < 0) = lt i j ∧ Fr [] h h'
section
variable {h0 h : H} {b N : Nat} {d : Array Int}
theorem Sw.ok (S : Sw h0 b N h d) : h.ok := S.fr.ok
theorem Sw.ld (S : Sw h0 b N h d) {i : Nat} (hi : i < N) : ldB (h.get b) i = some (.int .i64 d[i]!) := by
  rw [S.at_, zf, z05j (by rw [S.sz]; exact hi)]; rfl
theorem Sw.fr0 (S : Sw h0 b N h d) {h' : H} (F : Fr [] h h') : Sw h0 b N h' d :=
  ⟨S.fr.trans F (fun _ q => by simp at q), F.get S.ok S.at_ (by simp), S.sz, S.inr⟩
theorem Sw.fr' (S : Sw h0 b N h d) {h' : H} {q : Nat} (F : Fr [q] h h') (hq : h0.next ≤ q) (hn : q ≠ b) : Sw h0 b N h' d :=
  ⟨S.fr.trans F (fun x hx => by rw [List.mem_singleton] at hx; exact .inr (hx ▸ hq)), F.get S.ok S.at_ (by simpa using fun e => hn e.symm), S.sz, S.inr⟩
theorem Sw.cmp (S : Sw h0 b N h d) {f : Nat} {cs : List V} {lt : Int → Int → Bool} (K : Cmp h0 b N f cs lt) {i j : Nat} (hi : i < N) (hj : j < N) :
    ∃ n h', (∀ {R : Type} (k : V × H → Option R), z64 W (.fn f cs) [.int .i64 d[i]!, .int .i64 d[j]!] h k = k (.int .i64 n, h')) ∧ decide (n < 0) = lt d[i]! d[j]! ∧ Sw h0 b N h' d ∧ Fr [] h h' := by
  obtain ⟨n, h', e, hn, F⟩ := K h S.fr d[i]! d[j]! (S.inr i hi).1 (S.inr i hi).2 (S.inr j hj).1 (S.inr j hj).2
  exact ⟨n, h', fun k => z09z (M := W) e k, hn, S.fr0 F, F⟩
theorem Sw.swap (S : Sw h0 b N h d) {i j : Nat} (hi : i < N) (hj : j < N) :
    ∃ h1 h2, h.st 1 (.ptr b i) (.int .i64 d[j]!) = some h1 ∧ h1.st 1 (.ptr b j) (.int .i64 d[i]!) = some h2 ∧ Sw h0 b N h2 (swp d i j) ∧ Fr [b] h h2 := by
  have hl : b < h.next := S.ok.lt S.at_
  have e1 := zl9 S.at_ (by simp) (zm .i64 d[j]!) (by rw [zya, S.sz]; exact hi)
  rw [z02i] at e1
  have g1 : (h.put b (some (.cells (ints (d.setIfInBounds i d[j]!)) .rw))).get b = some (.cells (ints (d.setIfInBounds i d[j]!)) .rw) := z0a _ _ _
  have e2 := zl9 g1 (by simp) (zm .i64 d[i]!) (by rw [zya, Array.size_setIfInBounds, S.sz]; exact hj)
  rw [z02i, z9g] at e2
  have F2 : Fr [b] h (h.put b (some (.cells (ints (swp d i j)) .rw))) := (Fr.refl S.ok).put (.inl (by simp)) hl _
  refine ⟨_, _, e1, e2, ⟨S.fr.trans' F2, z0a _ _ _, by rw [Go.Sort.swp_size]; exact S.sz, fun k hk => ?_⟩, F2⟩
  by_cases hkj : k = j
  · subst hkj
    rw [Go.Sort.swp_right _ _ _ (by rw [S.sz]; exact hj)]; exact S.inr i hi
  by_cases hki : k = i
  · subst hki
    rw [Go.Sort.swp_left _ _ _ (by rw [S.sz]; exact hi) hkj]; exact S.inr j hj
  · rw [Go.Sort.swp_other _ _ _ _ hki hkj]; exact S.inr k hk
end
open Go.Sort (swp insInner insOuter)
section
variable {h0 h : H} {b N f : Nat} {cs : List V} {lt : Int → Int → Bool} {d : Array Int} {c : Cap}
theorem z1y {i j : Nat} (h : i < j) : decide ((i : Int) < (j : Int)) = true := decide_eq_true (by omega)
theorem z2n {i j : Nat} (h : ¬ i < j) : decide ((i : Int) < (j : Int)) = false := decide_eq_false (by omega)
theorem z2x {i : Nat} (h : i + 1 ≤ 9000) : wr .i64 (((i + 1 : Nat) : Int) - 1) = (i : Int) := by rw [wr64 (by omega) (by omega)]; omega
theorem z1o {i : Nat} (h : i ≤ 9000) : wr .i64 ((i : Int) + 1) = ((i + 1 : Nat) : Int) := by rw [wr64 (by omega) (by omega)]; omega
theorem z02x {a j : Nat} {d : Array Int} (h : ¬ a < j) : insInner lt a j d = d := by
  cases j with
  | zero => rfl
  | succ j => rw [insInner, if_neg (by simp [show ¬ j + 1 > a from h])]
theorem z03k (A : Sw h0 b N h d) (K : Cmp h0 b N f cs lt) (hN : N ≤ 1000) {a e i : Nat} (hi : i < N) :
    Ev ((W.loop (S.z6k W) (S.z2a (.sl b 0 N c) (.int .i64 (a : Int)) (.int .i64 (e : Int)) (.fn f cs) (.int .i64 (i : Int)) (.int .i64 (i : Int))) h).bind fun z => S.z4p W z.1 z.2.1 z.2.2)
      fun z => z.1 = .normal ∧ z.2.1 = S.z2d (.sl b 0 N c) (.int .i64 (a : Int)) (.int .i64 (e : Int)) (.fn f cs) (.int .i64 ((i + 1 : Nat) : Int)) ∧ Sw h0 b N z.2.2 (insInner lt a i d) := by
  refine z0j (α := Nat × Array Int) (fun q => S.z2a (.sl b 0 N c) (.int .i64 (a : Int)) (.int .i64 (e : Int)) (.fn f cs) (.int .i64 (i : Int)) (.int .i64 (q.1 : Int)))
    (fun q h => q.1 < N ∧ Sw h0 b N h q.2 ∧ insInner lt a q.1 q.2 = insInner lt a i d) (fun q _ => q.1)
    (fun z => z.1 = .exit 2 ∧ z.2.1 = S.z41 (.sl b 0 N c) (.int .i64 (a : Int)) (.int .i64 (e : Int)) (.fn f cs) (.int .i64 (i : Int)) ∧ Sw h0 b N z.2.2 (insInner lt a i d)) (i, d) rfl ⟨hi, A, rfl⟩ ?_ ?_
  rotate_left
  · rintro ⟨_, _, g⟩ ⟨rfl, rfl, A⟩
    show Ev (S.z4p W (.exit 2) _ _) _
    rw [S.zg1]
    simp only [S.zah, z1o (i := i) (by omega)]
    exact Ev.some ⟨rfl, rfl, A⟩
  rintro ⟨j, d1⟩ g ⟨hj, A, hd⟩
  dsimp only at hj A hd
  rw [S.zgt]
  by_cases haj : a < j
  · obtain ⟨k, rfl⟩ : ∃ k, j = k + 1 := ⟨j - 1, by omega⟩
    have hk : k < N := Nat.lt_of_succ_lt hj
    have c1 := z1y haj
    have wp := z2x (i := k) (by omega)
    have i1 := zu (b := b) (c := c) hj
    have i2 := zu (b := b) (c := c) hk
    have l1 := A.ld hj
    have l2 := A.ld hk
    obtain ⟨n, g1, ec, hn, A1, _⟩ := A.cmp K hj hk
    have l3 := A1.ld hj
    have l4 := A1.ld hk
    obtain ⟨g2, g3, s1, s2, A3, _⟩ := A1.swap hj hk
    rw [insInner] at hd
    cases hl : lt d1[k + 1]! d1[k]! with
    | true =>
      rw [if_pos (by rw [hl]; simpa using haj)] at hd
      simp only [S.z43, c1, wp, i1, i2, zd, zb, l1, l2, ec, ze, hn, hl, l3, l4, s1, s2]
      exact Ev.some (.inl ⟨(k, swp d1 (k + 1) k), rfl, rfl, ⟨hk, A3, hd⟩, Nat.lt_succ_self k⟩)
    | false =>
      rw [if_neg (by rw [hl]; simp)] at hd
      simp only [S.z43, c1, wp, i1, i2, zd, zb, l1, l2, ec, ze, hn, hl]
      exact Ev.some (.inr ⟨by simp, rfl, rfl, hd ▸ A1⟩)
  · rw [z02x haj] at hd
    simp only [S.z43, z2n haj]
    exact Ev.some (.inr ⟨by simp, rfl, rfl, hd ▸ A⟩)
theorem zou (A : Sw h0 b N h d) (K : Cmp h0 b N f cs lt) (hN : N ≤ 1000) {a e : Nat} (he : e ≤ N) (ha : a ≤ N) :
    Ev (C 450 [.sl b 0 N c, .int .i64 (a : Int), .int .i64 (e : Int), .fn f cs] h) fun z => z.1 = .tup [] ∧ Sw h0 b N z.2 (Go.Sort.insertionSort lt d a e) := by
  refine z0i (af := F.z02) (by kernel_rfl) rfl ?_
  rw [S.zih]
  simp only [S.z02, z1o (i := a) (by omega)]
  unfold Go.Sort.insertionSort
  refine z0j (α := Nat × Array Int) (fun q => S.z2d (.sl b 0 N c) (.int .i64 (a : Int)) (.int .i64 (e : Int)) (.fn f cs) (.int .i64 (q.1 : Int)))
    (fun q h => Sw h0 b N h q.2 ∧ insOuter lt a e q.1 q.2 = insOuter lt a e (a + 1) d) (fun q _ => e - q.1)
    (fun z => z.1 = .exit 0 ∧ z.2.1 = S.z6i ∧ Sw h0 b N z.2.2 (insOuter lt a e (a + 1) d)) (a + 1, d) rfl ⟨A, rfl⟩ ?_ ?_
  rotate_left
  · rintro ⟨_, _, g⟩ ⟨rfl, rfl, A⟩
    show Ev (S.z7d W (.exit 0) _ _) _
    rw [S.zg0]
    exact Ev.some ⟨rfl, A⟩
  rintro ⟨i, d1⟩ g ⟨A, hd⟩
  dsimp only at A hd
  rw [S.zgy]
  rw [insOuter] at hd
  by_cases hi : i < e
  · rw [if_pos hi] at hd
    simp only [S.z6h, z1y hi]
    refine (z03k A K hN (a := a) (e := e) (Nat.lt_of_lt_of_le hi he)).mono ?_
    rintro ⟨_, _, g1⟩ ⟨rfl, rfl, A1⟩
    exact .inl ⟨(i + 1, insInner lt a i d1), rfl, rfl, ⟨A1, hd⟩, Nat.sub_lt_sub_left hi (Nat.lt_succ_self i)⟩
  · rw [if_neg hi] at hd
    simp only [S.z6h, z2n hi]
    exact Ev.some (.inr ⟨by simp, rfl, rfl, hd ▸ A⟩)
end
open Go.Sort (swp siftDown heapBuild heapPop reverseLoop)
section
variable {h0 h : H} {b N f : Nat} {cs : List V} {lt : Int → Int → Bool} {d : Array Int} {c : Cap}
theorem zfn {i j : Nat} (h : i ≤ j) : decide ((i : Int) ≤ (j : Int)) = true := decide_eq_true (by omega)
theorem zd5 {i j : Nat} (h : ¬ i ≤ j) : decide ((i : Int) ≤ (j : Int)) = false := decide_eq_false (by omega)
theorem z9o {i j : Nat} (h : i + j ≤ 9000) : wr .i64 ((i : Int) + (j : Int)) = ((i + j : Nat) : Int) := by rw [wr64 (by omega) (by omega)]; omega
theorem z1q {i j : Nat} (h : j ≤ i) (hi : i ≤ 9000) : wr .i64 ((i : Int) - (j : Int)) = ((i - j : Nat) : Int) := by rw [wr64 (by omega) (by omega)]; omega
theorem z00m {i : Nat} (h : i ≤ 9000) : wr .i64 (2 * (i : Int)) = ((2 * i : Nat) : Int) := by rw [wr64 (by omega) (by omega)]; omega
theorem zug {i : Nat} (h : i ≤ 9000) : wr .i64 ((i : Int) + 1) = ((i + 1 : Nat) : Int) := by rw [wr64 (by omega) (by omega)]; omega
theorem z09r {N hi fi root : Nat} (hN : N ≤ 1000) (hf : fi + hi ≤ N) (hr : root ≤ N) (h1 : ¬ hi ≤ 2 * root + 1) :
    fi + (2 * root + 1) < N ∧ fi + root < N ∧ 2 * root + 1 ≤ N ∧ hi - (2 * root + 1) < hi - root ∧ fi + (2 * root + 1) ≤ 9000 ∧ fi + root ≤ 9000 ∧ fi + (2 * root + 1 + 1) ≤ 9000 ∧ (2 * root + 1 + 1 < hi → fi + (2 * root + 1 + 1) < N) := by omega
theorem z02e (A : Sw h0 b N h d) (K : Cmp h0 b N f cs lt) (hN : N ≤ 1000) {hi fi root : Nat} (hf : fi + hi ≤ N) (hr : root ≤ N) :
    Ev (C 487 [.sl b 0 N c, .int .i64 (root : Int), .int .i64 (hi : Int), .int .i64 (fi : Int), .fn f cs] h) fun z => z.1 = .tup [] ∧ Sw h0 b N z.2 (siftDown lt hi fi root d) := by
  refine z0i (af := F.z0r) (by kernel_rfl) rfl ?_
  rw [S.zms]
  simp only [S.z0r]
  refine z0j (α := Nat × Array Int) (fun q => S.z27 (.sl b 0 N c) (.int .i64 (hi : Int)) (.int .i64 (fi : Int)) (.fn f cs) (.int .i64 (q.1 : Int)))
    (fun q h => q.1 ≤ N ∧ Sw h0 b N h q.2 ∧ siftDown lt hi fi q.1 q.2 = siftDown lt hi fi root d) (fun q _ => hi - q.1)
    (fun z => (z.1 = .exit 0 ∨ z.1 = .ret) ∧ z.2.1 = S.z1h ∧ Sw h0 b N z.2.2 (siftDown lt hi fi root d)) (root, d) rfl ⟨hr, A, rfl⟩ ?_ ?_
  rotate_left
  · rintro ⟨_, _, g⟩ ⟨rfl | rfl, rfl, A⟩
    · show Ev (S.z45 W (.exit 0) _ _) _
      rw [S.zhi]
      exact Ev.some ⟨rfl, A⟩
    · show Ev (S.z45 W .ret _ _) _
      rw [S.ziv]
      exact Ev.some ⟨rfl, A⟩
  clear hr A
  generalize siftDown lt hi fi root d = D
  clear root
  rintro ⟨root, d1⟩ g ⟨hr, A, hd⟩
  dsimp only at hr A hd
  rw [S.zkd]
  rw [siftDown, show fi + (2 * root + 1) + 1 = fi + (2 * root + 1 + 1) from rfl, show 2 * root + 2 = 2 * root + 1 + 1 from rfl] at hd
  have rN : 2 * root + 2 ≤ 9000 := by omega
  obtain ⟨hI, hhi⟩ : ∃ x : Int, x = (hi : Int) := ⟨_, rfl⟩
  obtain ⟨fI, hfi⟩ : ∃ x : Int, x = (fi : Int) := ⟨_, rfl⟩
  obtain ⟨rI, hri⟩ : ∃ x : Int, x = (root : Int) := ⟨_, rfl⟩
  rw [← hhi, ← hfi, ← hri]
  have w2 : wr .i64 (2 * rI) = ((2 * root : Nat) : Int) := hri ▸ z00m (i := root) (Nat.le_trans hr (Nat.le_trans hN (by decide)))
  have w3 := zug (i := 2 * root) (Nat.le_trans (by simp) rN)
  by_cases h1 : hi ≤ 2 * root + 1
  · rw [dif_pos h1] at hd
    have k1 : decide (hI ≤ ((2 * root + 1 : Nat) : Int)) = true := hhi ▸ zfn h1
    simp only [S.z0x, w2, w3, k1]
    subst hhi hfi hri
    exact Ev.some (.inr ⟨by simp, .inl rfl, rfl, hd ▸ A⟩)
  obtain ⟨b1, b2, m1, m2, f1, f2, f3, f4⟩ := z09r hN hf hr h1
  have w4 := zug (i := 2 * root + 1) (Nat.le_trans (by simp) rN)
  have w5 : wr .i64 (fI + ((2 * root + 1 : Nat) : Int)) = ((fi + (2 * root + 1) : Nat) : Int) := hfi ▸ z9o (i := fi) (j := 2 * root + 1) f1
  have w6 : wr .i64 (((fi + (2 * root + 1) : Nat) : Int) + 1) = ((fi + (2 * root + 1 + 1) : Nat) : Int) := zug (i := fi + (2 * root + 1)) f1
  have w7 : wr .i64 (fI + rI) = ((fi + root : Nat) : Int) := hfi ▸ hri ▸ z9o (i := fi) (j := root) f2
  have w8 : wr .i64 (fI + ((2 * root + 1 + 1 : Nat) : Int)) = ((fi + (2 * root + 1 + 1) : Nat) : Int) := hfi ▸ z9o (i := fi) (j := 2 * root + 1 + 1) f3
  have i1 := zu (b := b) (c := c) b1
  have i2 := zu (b := b) (c := c) b2
  rw [dif_neg h1] at hd
  have k1 : decide (hI ≤ ((2 * root + 1 : Nat) : Int)) = false := hhi ▸ zd5 h1
  -- the left child
  have left : ∀ (g1 : H), Sw h0 b N g1 d1 → (if (!lt d1[fi + root]! d1[fi + (2 * root + 1)]!) = true then d1 else siftDown lt hi fi (2 * root + 1) (swp d1 (fi + root) (fi + (2 * root + 1)))) = D →
      ∃ n g2, (∀ {R : Type} (k : V × H → Option R), z64 W (.fn f cs) [.int .i64 d1[fi + root]!, .int .i64 d1[fi + (2 * root + 1)]!] g1 k = k (.int .i64 n, g2)) ∧ Sw h0 b N g2 d1 ∧ ((decide (n < 0) = false ∧ d1 = D) ∨ (decide (n < 0) = true ∧ ∃ g3 g4, g2.st 1 (.ptr b (fi + root)) (.int .i64 d1[fi + (2 * root + 1)]!) = some g3 ∧ g3.st 1 (.ptr b (fi + (2 * root + 1))) (.int .i64 d1[fi + root]!) = some g4 ∧ Sw h0 b N g4 (swp d1 (fi + root) (fi + (2 * root + 1))) ∧ siftDown lt hi fi (2 * root + 1) (swp d1 (fi + root) (fi + (2 * root + 1))) = D)) := by
    intro g1 A1 hd
    obtain ⟨n, g2, ec, hn, A2, _⟩ := A1.cmp K b2 b1
    refine ⟨n, g2, ec, A2, ?_⟩
    cases hl : lt d1[fi + root]! d1[fi + (2 * root + 1)]! with
    | false => rw [hl] at hn hd; exact .inl ⟨hn, by simpa using hd⟩
    | true =>
      rw [hl] at hn hd
      obtain ⟨g3, g4, s1, s2, A4, _⟩ := A2.swap b2 b1
      exact .inr ⟨hn, g3, g4, s1, s2, A4, by simpa using hd⟩
  have l1 := A.ld b1
  have l2 := A.ld b2
  by_cases h2 : 2 * root + 1 + 1 < hi
  · have k2 : decide (((2 * root + 1 + 1 : Nat) : Int) < hI) = true := hhi ▸ z1y h2
    have b3 : fi + (2 * root + 1 + 1) < N := f4 h2
    have i3 := zu (b := b) (c := c) b3
    have l3 := A.ld b3
    obtain ⟨n, g1, ec, hn, A1, _⟩ := A.cmp K b1 b3
    have l4 := A1.ld b1
    have l5 := A1.ld b2
    have l6 := A1.ld b3
    cases hl : lt d1[fi + (2 * root + 1)]! d1[fi + (2 * root + 1 + 1)]! with
    | true =>
      rw [if_pos (by rw [hl]; simpa using h2)] at hd
      obtain ⟨n2, g2, ec2, hn2, A2, _⟩ := A1.cmp K b2 b3
      have l7 := A2.ld b2
      have l8 := A2.ld b3
      cases hl2 : lt d1[fi + root]! d1[fi + (2 * root + 1 + 1)]! with
      | false =>
        rw [if_pos (by rw [hl2]; rfl)] at hd
        simp only [S.z0x, w2, w3, w4, w5, w6, w7, w8, k1, k2, i1, i2, i3, zd, zb, l1, l3, ec, ze, hn, hl, l5, l6, ec2, hn2, hl2, Bool.not_false]
        subst hhi hfi hri
        exact Ev.some (.inr ⟨by simp, .inr rfl, rfl, hd ▸ A2⟩)
      | true =>
        rw [if_neg (by rw [hl2]; simp), dif_pos h2] at hd
        obtain ⟨g3, g4, s1, s2, A4, _⟩ := A2.swap b2 b3
        simp only [S.z0x, w2, w3, w4, w5, w6, w7, w8, k1, k2, i1, i2, i3, zd, zb, l1, l3, ec, ze, hn, hl, l5, l6, ec2, hn2, hl2, Bool.not_true, l7, l8, s1, s2]
        subst hhi hfi hri
        exact Ev.some (.inl ⟨(2 * root + 1 + 1, _), rfl, rfl, ⟨Nat.le_trans (Nat.le_of_lt h2) (Nat.le_trans (Nat.le_add_left _ _) hf), A4, hd⟩, Nat.lt_of_le_of_lt (Nat.sub_le_sub_left (Nat.le_succ _) _) m2⟩)
    | false =>
      rw [if_neg (by rw [hl]; simp)] at hd
      obtain ⟨n2, g2, ec2, A2, q⟩ := left g1 A1 hd
      rcases q with ⟨hn2, hD⟩ | ⟨hn2, g3, g4, s1, s2, A4, hD⟩
      · simp only [S.z0x, w2, w3, w4, w5, w6, w7, w8, k1, k2, i1, i2, i3, zd, zb, l1, l3, ec, ze, hn, hl, l4, l5, ec2, hn2, Bool.not_false]
        subst hhi hfi hri
        exact Ev.some (.inr ⟨by simp, .inr rfl, rfl, hD ▸ A2⟩)
      · have l7 := A2.ld b2
        have l8 := A2.ld b1
        simp only [S.z0x, w2, w3, w4, w5, w6, w7, w8, k1, k2, i1, i2, i3, zd, zb, l1, l3, ec, ze, hn, hl, l4, l5, ec2, hn2, Bool.not_true, l7, l8, s1, s2]
        subst hhi hfi hri
        exact Ev.some (.inl ⟨(2 * root + 1, _), rfl, rfl, ⟨m1, A4, hD⟩, m2⟩)
  · have k2 : decide (((2 * root + 1 + 1 : Nat) : Int) < hI) = false := hhi ▸ z2n h2
    rw [if_neg (by simp [h2])] at hd
    obtain ⟨n2, g2, ec2, A2, q⟩ := left g A hd
    rcases q with ⟨hn2, hD⟩ | ⟨hn2, g3, g4, s1, s2, A4, hD⟩
    · simp only [S.z0x, w2, w3, w4, w5, w7, k1, k2, i1, i2, zd, zb, l1, l2, ze, ec2, hn2, Bool.not_false]
      subst hhi hfi hri
      exact Ev.some (.inr ⟨by simp, .inr rfl, rfl, hD ▸ A2⟩)
    · have l7 := A2.ld b2
      have l8 := A2.ld b1
      simp only [S.z0x, w2, w3, w4, w5, w7, k1, k2, i1, i2, zd, zb, l1, l2, ze, ec2, hn2, Bool.not_true, l7, l8, s1, s2]
      subst hhi hfi hri
      exact Ev.some (.inl ⟨(2 * root + 1, _), rfl, rfl, ⟨m1, A4, hD⟩, m2⟩)
theorem z0c7 {k : Nat} : decide ((0 : Int) ≤ ((k + 1 : Nat) : Int) - 1) = true ∧ ((k + 1 : Nat) : Int) - 1 = (k : Int) := ⟨decide_eq_true (by omega), by omega⟩
theorem zxs {k : Nat} (h : k ≤ 9000) : wr .i64 ((k : Int) - 1) = (k : Int) - 1 := wr64 (by omega) (by omega)
theorem z09s {n : Nat} (h : n ≤ 9000) : wr .i64 (Int.tdiv (wr .i64 ((n : Int) - 1)) 2) = (((n - 1) / 2 + 1 : Nat) : Int) - 1 := by
  have e : wr .i64 ((n : Int) - 1) = (n : Int) - 1 := zxs h
  rw [e]
  cases n with
  | zero => rw [wr64 (by decide) (by decide)]; decide
  | succ n =>
    have e1 : ((n + 1 : Nat) : Int) - 1 = (n : Int) := by omega
    have e2 : Int.tdiv (n : Int) 2 = ((n / 2 : Nat) : Int) := rfl
    rw [e1, e2, wr64 (by omega) (by omega), Nat.add_sub_cancel]
    omega
theorem z04w (A : Sw h0 b N h d) (K : Cmp h0 b N f cs lt) (hN : N ≤ 1000) {fi n : Nat} (hn : fi + n ≤ N) :
    Ev ((W.loop (S.z8i W) (S.z3h (.sl b 0 N c) (.fn f cs) (.int .i64 (fi : Int)) (.int .i64 0) (.int .i64 ((n : Int) - 1))) h).bind fun z => S.z65 W z.1 z.2.1 z.2.2)
      fun z => z.1 = .tup [] ∧ Sw h0 b N z.2 (heapPop lt fi n d) := by
  refine z0j (α := Nat × Array Int) (fun q => S.z3h (.sl b 0 N c) (.fn f cs) (.int .i64 (fi : Int)) (.int .i64 0) (.int .i64 ((q.1 : Int) - 1)))
    (fun q h => fi + q.1 ≤ N ∧ Sw h0 b N h q.2 ∧ heapPop lt fi q.1 q.2 = heapPop lt fi n d) (fun q _ => q.1)
    (fun z => z.1 = .exit 2 ∧ z.2.1 = S.z8d ∧ Sw h0 b N z.2.2 (heapPop lt fi n d)) (n, d) rfl ⟨hn, A, rfl⟩ ?_ ?_
  rotate_left
  · rintro ⟨_, _, g⟩ ⟨rfl, rfl, A⟩
    show Ev (S.z65 W (.exit 2) _ _) _
    rw [S.zi3]
    exact Ev.some ⟨rfl, A⟩
  rintro ⟨k, d1⟩ g ⟨hk, A, hd⟩
  dsimp only at hk A hd
  rw [S.zk9]
  cases k with
  | zero =>
    have k1 : decide ((0 : Int) ≤ ((0 : Nat) : Int) - 1) = false := by decide
    simp only [S.z8f, k1]
    exact Ev.some (.inr ⟨by simp, rfl, rfl, hd ▸ A⟩)
  | succ k =>
    have b1 : fi + k < N := hk
    have b2 : fi < N := Nat.lt_of_le_of_lt (Nat.le_add_right _ _) b1
    have l9 : fi + k ≤ 9000 := Nat.le_trans (Nat.le_of_lt b1) (Nat.le_trans hN (by decide))
    have i1 := zu (b := b) (c := c) b1
    have i2 := zu (b := b) (c := c) b2
    have l1 := A.ld b1
    have l2 := A.ld b2
    obtain ⟨g1, g2, s1, s2, A2, _⟩ := A.swap b2 b1
    obtain ⟨⟨v3, g3⟩, e3, rfl, A3⟩ := z02e (c := c) A2 K hN (hi := k) (fi := fi) (root := 0) (Nat.le_of_lt b1) (Nat.zero_le _)
    dsimp only at A3
    have e3' : C 487 [.sl b 0 N c, .int .i64 0, .int .i64 (k : Int), .int .i64 (fi : Int), .fn f cs] g2 = some (.tup [], g3) := e3
    rw [z0c7.2]
    have k1 : decide ((0 : Int) ≤ (k : Int)) = true := decide_eq_true (Int.natCast_nonneg k)
    have w1 := z9o (i := fi) (j := k) l9
    have w2 := zxs (k := k) (Nat.le_trans (Nat.le_add_left _ _) l9)
    obtain ⟨kI, hki⟩ : ∃ x : Int, x = (k : Int) := ⟨_, rfl⟩
    obtain ⟨fI, hfi⟩ : ∃ x : Int, x = (fi : Int) := ⟨_, rfl⟩
    rw [← hki] at k1 w1 w2 e3' ⊢
    rw [← hfi] at w1 i2 e3' ⊢
    simp only [S.z8f, k1, w1, w2, i1, i2, zd, zb, l1, l2, s1, s2, zh, e3']
    subst hki hfi
    exact Ev.some (.inl ⟨(k, _), rfl, rfl, ⟨Nat.le_of_lt b1, A3, hd⟩, Nat.lt_succ_self k⟩)
theorem z09e (A : Sw h0 b N h d) (K : Cmp h0 b N f cs lt) (hN : N ≤ 1000) {a e : Nat} (hae : a ≤ e) (he : e ≤ N) :
    Ev (C 451 [.sl b 0 N c, .int .i64 (a : Int), .int .i64 (e : Int), .fn f cs] h) fun z => z.1 = .tup [] ∧ Sw h0 b N z.2 (Go.Sort.heapSort lt d a e) := by
  refine z0i (af := F.z0b) (by kernel_rfl) rfl ?_
  rw [S.zn7]
  have he9 : e ≤ 9000 := Nat.le_trans he (Nat.le_trans hN (by decide))
  have hn9 : e - a ≤ 9000 := Nat.le_trans (Nat.sub_le _ _) he9
  have w1 := z1q hae he9
  have w2 := z09s hn9
  unfold Go.Sort.heapSort
  have hn : a + (e - a) ≤ N := by rw [Nat.add_sub_cancel' hae]; exact he
  generalize e - a = n at w1 w2 hn9 hn ⊢
  simp only [S.z0b, w1, w2]
  clear w1 w2
  have hm : (n - 1) / 2 + 1 ≤ N + 1 := by omega
  generalize (n - 1) / 2 + 1 = m at hm ⊢
  refine z0j (α := Nat × Array Int) (fun q => S.z5s (.sl b 0 N c) (.fn f cs) (.int .i64 (a : Int)) (.int .i64 0) (.int .i64 (n : Int)) (.int .i64 ((q.1 : Int) - 1)))
    (fun q h => q.1 ≤ N + 1 ∧ Sw h0 b N h q.2 ∧ heapBuild lt n a q.1 q.2 = heapBuild lt n a m d) (fun q _ => q.1)
    (fun z => z.1 = .exit 0 ∧ z.2.1 = S.z8h (.sl b 0 N c) (.fn f cs) (.int .i64 (a : Int)) (.int .i64 0) (.int .i64 (n : Int)) ∧ Sw h0 b N z.2.2 (heapBuild lt n a m d)) (m, d) rfl ⟨hm, A, rfl⟩ ?_ ?_
  rotate_left
  · rintro ⟨_, _, g⟩ ⟨rfl, rfl, A⟩
    show Ev (S.za2 W (.exit 0) _ _) _
    rw [S.zib]
    have w3 := zxs hn9
    simp only [S.zct, w3]
    exact z04w A K hN hn
  rintro ⟨k, d1⟩ g ⟨hk, A, hd⟩
  dsimp only at hk A hd
  rw [S.zke]
  cases k with
  | zero =>
    have k1 : decide ((0 : Int) ≤ ((0 : Nat) : Int) - 1) = false := by decide
    simp only [S.z8b, k1]
    exact Ev.some (.inr ⟨by simp, rfl, rfl, hd ▸ A⟩)
  | succ k =>
    have hkN : k ≤ N := Nat.le_of_succ_le_succ hk
    obtain ⟨⟨v3, g3⟩, e3, rfl, A3⟩ := z02e (c := c) A K hN (hi := n) (fi := a) (root := k) hn hkN
    dsimp only at A3
    rw [z0c7.2]
    have k1 : decide ((0 : Int) ≤ (k : Int)) = true := decide_eq_true (Int.natCast_nonneg k)
    have w2 := zxs (k := k) (Nat.le_trans hkN (Nat.le_trans hN (by decide)))
    simp only [S.z8b, k1, w2, zd, zh, e3]
    exact Ev.some (.inl ⟨(k, _), rfl, rfl, ⟨Nat.le_succ_of_le hkN, A3, hd⟩, Nat.lt_succ_self k⟩)
end
open Go.Sort (swp scanUp scanDown partEqLoop)
section
variable {h0 h : H} {b N f : Nat} {cs : List V} {lt : Int → Int → Bool} {d : Array Int} {c : Cap}
theorem zwx (p : Int → Bool) (d : Array Int) (j i : Nat) : scanUp p d j i = if i ≤ j ∧ p d[i]! = true then scanUp p d j (i + 1) else i := by
  rw [scanUp]
  by_cases h : i ≤ j ∧ p d[i]! = true
  · rw [if_pos h, if_pos (by simp [h.1, h.2])]
  · rw [if_neg h, if_neg (by simpa using h)]
theorem zt1 (p : Int → Bool) (d : Array Int) {i : Nat} (h1 : 1 ≤ i) : ∀ j, scanDown p d i j = if i ≤ j ∧ p d[j]! = true then scanDown p d i (j - 1) else j
  | 0 => by rw [if_neg (fun q => absurd (Nat.le_trans h1 q.1) (by decide))]; rfl
  | j + 1 => by
    rw [scanDown, Nat.add_sub_cancel]
    by_cases h : i ≤ j + 1 ∧ p d[j + 1]! = true
    · rw [if_pos h, if_pos (by simp [h.1, h.2])]
    · rw [if_neg h, if_neg (by simpa using h)]
def zzx (h0 : H) (b N : Nat) (c : Cap) (f : Nat) (cs : List V) (a i2 j2 : Nat) (d : Array Int) (z : AX × List V × H) : Prop :=
  if i2 > j2 then z.1 = .exit 0 ∧ z.2.1 = S.z3k (.int .i64 (i2 : Int)) ∧ Sw h0 b N z.2.2 d
  else z.1 = .normal ∧ z.2.1 = S.z24 (.sl b 0 N c) (.int .i64 (a : Int)) (.fn f cs) (.int .i64 ((i2 + 1 : Nat) : Int)) (.int .i64 ((j2 - 1 : Nat) : Int)) ∧ Sw h0 b N z.2.2 (swp d i2 j2)
theorem z06a (A : Sw h0 b N h d) (K : Cmp h0 b N f cs lt) (hN : N ≤ 1000) {a i j : Nat} (ha : a < N) (hi1 : 1 ≤ i) (hi : i ≤ N) (hj : j < N) :
    Ev ((W.loop (S.z63 W) (S.z20 (.sl b 0 N c) (.int .i64 (a : Int)) (.fn f cs) (.int .i64 (i : Int)) (.int .i64 (j : Int))) h).bind fun z => S.z46 W z.1 z.2.1 z.2.2)
      (zzx h0 b N c f cs a i (scanDown (fun x => lt d[a]! x) d i j) d) := by
  refine z0j (α := Nat) (fun q => S.z20 (.sl b 0 N c) (.int .i64 (a : Int)) (.fn f cs) (.int .i64 (i : Int)) (.int .i64 (q : Int)))
    (fun q h => q < N ∧ Sw h0 b N h d ∧ scanDown (fun x => lt d[a]! x) d i q = scanDown (fun x => lt d[a]! x) d i j) (fun q _ => q)
    (fun z => ∃ q, q < N ∧ z.1 = .exit 4 ∧ z.2.1 = S.z3l (.sl b 0 N c) (.int .i64 (a : Int)) (.fn f cs) (.int .i64 (i : Int)) (.int .i64 (q : Int)) ∧ Sw h0 b N z.2.2 d ∧ q = scanDown (fun x => lt d[a]! x) d i j) j rfl ⟨hj, A, rfl⟩ ?_ ?_
  rotate_left
  · rintro ⟨_, _, g⟩ ⟨q, hq, rfl, rfl, A, hqe⟩
    rw [← hqe]
    clear hqe
    dsimp only at A ⊢
    show Ev (S.z46 W (.exit 4) _ _) _
    rw [S.zfk]
    unfold zzx
    by_cases hqi : q < i
    · simp only [S.z5t, z1y hqi, if_pos (show i > q from hqi)]
      exact Ev.some ⟨rfl, rfl, A⟩
    · simp only [if_neg (show ¬ i > q from hqi)]
      have hiN : i < N := Nat.lt_of_le_of_lt (Nat.not_lt.mp hqi) hq
      have n9 : N ≤ 9000 := Nat.le_trans hN (by decide)
      obtain ⟨m, rfl⟩ : ∃ m, q = m + 1 := ⟨q - 1, by omega⟩
      have k1 := z2n hqi
      have w1 := z1o (i := i) (Nat.le_trans hi n9)
      have w2 := z2x (i := m) (Nat.le_trans (Nat.le_of_lt hq) n9)
      have i1 := zu (b := b) (c := c) hiN
      have i2 := zu (b := b) (c := c) hq
      have l1 := A.ld hiN
      have l2 := A.ld hq
      obtain ⟨g1, g2, s1, s2, A2, _⟩ := A.swap hiN hq
      simp only [S.z5t, k1, w1, w2, i1, i2, zd, zb, l1, l2, s1, s2]
      exact Ev.some ⟨rfl, rfl, A2⟩
  rintro q g ⟨hq, A, hd⟩
  rw [S.zgb]
  rw [zt1 _ _ hi1] at hd
  by_cases hiq : i ≤ q
  · have i1 := zu (b := b) (c := c) ha
    have i2 := zu (b := b) (c := c) hq
    have l1 := A.ld ha
    have l2 := A.ld hq
    have k1 := zfn hiq
    obtain ⟨n, g1, ec, hn, A1, _⟩ := A.cmp K ha hq
    obtain ⟨m, rfl⟩ : ∃ m, q = m + 1 := ⟨q - 1, by omega⟩
    have w2 := z2x (i := m) (Nat.le_trans (Nat.le_of_lt hq) (Nat.le_trans hN (by decide)))
    cases hl : lt d[a]! d[m + 1]! with
    | true =>
      rw [if_pos ⟨hiq, hl⟩, Nat.add_sub_cancel] at hd
      simp only [S.z3m, k1, i1, i2, zd, zb, l1, l2, ec, ze, hn, hl, w2]
      exact Ev.some (.inl ⟨m, rfl, rfl, ⟨Nat.lt_of_succ_lt hq, A1, hd⟩, Nat.lt_succ_self m⟩)
    | false =>
      rw [if_neg (fun z => by rw [hl] at z; cases z.2)] at hd
      simp only [S.z3m, k1, i1, i2, zd, zb, l1, l2, ec, ze, hn, hl]
      exact Ev.some (.inr ⟨by simp, m + 1, hq, rfl, rfl, A1, hd⟩)
  · rw [if_neg (fun z => hiq z.1)] at hd
    simp only [S.z3m, zd5 hiq]
    exact Ev.some (.inr ⟨by simp, q, hq, rfl, rfl, A, hd⟩)
theorem z0af (A : Sw h0 b N h d) (K : Cmp h0 b N f cs lt) (hN : N ≤ 1000) {a i j : Nat} (ha : a < N) (hi1 : 1 ≤ i) (hi : i ≤ N) (hj : j < N) :
    Ev ((W.loop (S.z62 W) (S.z23 (.sl b 0 N c) (.int .i64 (a : Int)) (.fn f cs) (.int .i64 (i : Int)) (.int .i64 (j : Int))) h).bind fun z => S.z44 W z.1 z.2.1 z.2.2)
      (zzx h0 b N c f cs a (scanUp (fun x => !lt d[a]! x) d j i) (scanDown (fun x => lt d[a]! x) d (scanUp (fun x => !lt d[a]! x) d j i) j) d) := by
  refine z0j (α := Nat) (fun q => S.z23 (.sl b 0 N c) (.int .i64 (a : Int)) (.fn f cs) (.int .i64 (q : Int)) (.int .i64 (j : Int)))
    (fun q h => (1 ≤ q ∧ q ≤ N) ∧ Sw h0 b N h d ∧ scanUp (fun x => !lt d[a]! x) d j q = scanUp (fun x => !lt d[a]! x) d j i) (fun q _ => N - q)
    (fun z => ∃ q, (1 ≤ q ∧ q ≤ N) ∧ z.1 = .exit 2 ∧ z.2.1 = S.z3o (.sl b 0 N c) (.int .i64 (a : Int)) (.fn f cs) (.int .i64 (q : Int)) (.int .i64 (j : Int)) ∧ Sw h0 b N z.2.2 d ∧ q = scanUp (fun x => !lt d[a]! x) d j i) i rfl ⟨⟨hi1, hi⟩, A, rfl⟩ ?_ ?_
  rotate_left
  · rintro ⟨_, _, g⟩ ⟨q, ⟨hq1, hq⟩, rfl, rfl, A, hqe⟩
    rw [← hqe]
    clear hqe
    dsimp only at A ⊢
    show Ev (S.z44 W (.exit 2) _ _) _
    rw [S.zf9]
    simp only [S.za7]
    exact z06a A K hN ha hq1 hq hj
  rintro q g ⟨⟨hq1, hq⟩, A, hd⟩
  rw [S.zgc]
  rw [zwx] at hd
  by_cases hqj : q ≤ j
  · have hqN : q < N := Nat.lt_of_le_of_lt hqj hj
    have i1 := zu (b := b) (c := c) ha
    have i2 := zu (b := b) (c := c) hqN
    have l1 := A.ld ha
    have l2 := A.ld hqN
    have k1 := zfn hqj
    obtain ⟨n, g1, ec, hn, A1, _⟩ := A.cmp K ha hqN
    have w2 := z1o (i := q) (Nat.le_trans hq (Nat.le_trans hN (by decide)))
    cases hl : lt d[a]! d[q]! with
    | false =>
      rw [if_pos ⟨hqj, by rw [hl]; rfl⟩] at hd
      simp only [S.z3n, k1, i1, i2, zd, zb, l1, l2, ec, ze, hn, hl, w2, Bool.not_false]
      exact Ev.some (.inl ⟨q + 1, rfl, rfl, ⟨⟨Nat.le_succ_of_le hq1, hqN⟩, A1, hd⟩, Nat.sub_lt_sub_left hqN (Nat.lt_succ_self q)⟩)
    | true =>
      rw [if_neg (fun z => by rw [hl] at z; cases z.2)] at hd
      simp only [S.z3n, k1, i1, i2, zd, zb, l1, l2, ec, ze, hn, hl, Bool.not_true]
      exact Ev.some (.inr ⟨by simp, q, ⟨hq1, hq⟩, rfl, rfl, A1, hd⟩)
  · rw [if_neg (fun z => hqj z.1)] at hd
    simp only [S.z3n, zd5 hqj]
    exact Ev.some (.inr ⟨by simp, q, ⟨hq1, hq⟩, rfl, rfl, A, hd⟩)
theorem zvv (A : Sw h0 b N h d) (K : Cmp h0 b N f cs lt) (hN : N ≤ 1000) {a e pv : Nat} (hae : a < e) (he : e ≤ N) (hp : pv < N) :
    Ev (C 456 [.sl b 0 N c, .int .i64 (a : Int), .int .i64 (e : Int), .int .i64 (pv : Int), .fn f cs] h) fun z => z.1 = .int .i64 ((Go.Sort.partitionEqual lt d a e pv).1 : Int) ∧ Sw h0 b N z.2 (Go.Sort.partitionEqual lt d a e pv).2 := by
  refine z0i (af := F.zt) (by kernel_rfl) rfl ?_
  rw [S.zhm]
  obtain ⟨m, rfl⟩ : ∃ m, e = m + 1 := ⟨e - 1, by omega⟩
  have n9 : N ≤ 9000 := Nat.le_trans hN (by decide)
  have ha : a < N := Nat.lt_of_lt_of_le hae he
  have w1 := z1o (i := a) (Nat.le_trans (Nat.le_of_lt ha) n9)
  have w2 := z2x (i := m) (Nat.le_trans he n9)
  have i1 := zu (b := b) (c := c) ha
  have i2 := zu (b := b) (c := c) hp
  have l1 := A.ld ha
  have l2 := A.ld hp
  obtain ⟨g1, g2, s1, s2, A2, _⟩ := A.swap ha hp
  simp only [S.zt, w1, w2, i1, i2, zd, zb, l1, l2, s1, s2]
  unfold Go.Sort.partitionEqual
  rw [Nat.add_sub_cancel]
  generalize swp d a pv = d2 at A2 ⊢
  refine z0j (α := Nat × Nat × Array Int) (fun q => S.z24 (.sl b 0 N c) (.int .i64 (a : Int)) (.fn f cs) (.int .i64 (q.1 : Int)) (.int .i64 (q.2.1 : Int)))
    (fun q h => (1 ≤ q.1 ∧ q.1 ≤ N) ∧ q.2.1 < N ∧ Sw h0 b N h q.2.2 ∧ partEqLoop lt a q.1 q.2.1 q.2.2 = partEqLoop lt a (a + 1) m d2) (fun q _ => q.2.1 + 1 - q.1)
    (fun z => z.1 = .exit 0 ∧ z.2.1 = S.z3k (.int .i64 ((partEqLoop lt a (a + 1) m d2).1 : Int)) ∧ Sw h0 b N z.2.2 (partEqLoop lt a (a + 1) m d2).2) (a + 1, m, d2) rfl ⟨⟨Nat.succ_le_succ (Nat.zero_le _), ha⟩, he, A2, rfl⟩ ?_ ?_
  rotate_left
  · rintro ⟨_, _, g⟩ ⟨rfl, rfl, A⟩
    show Ev (S.z6x W (.exit 0) _ _) _
    rw [S.zf1]
    exact Ev.some ⟨rfl, A⟩
  generalize partEqLoop lt a (a + 1) m d2 = D
  rintro ⟨i, j, d1⟩ g ⟨⟨hi1, hi⟩, hj, A, hd⟩
  dsimp only at hi1 hi hj A hd
  rw [S.zgg]
  simp only [S.zag]
  refine (z0af A K hN ha hi1 hi hj).mono ?_
  rw [Go.Sort.partEqLoop_eq] at hd
  have u1 := Go.Sort.scanUp_ge (fun x => !lt d1[a]! x) d1 j i
  generalize scanUp (fun x => !lt d1[a]! x) d1 j i = i2 at hd u1 ⊢
  have u2 := Go.Sort.scanDown_le (fun x => lt d1[a]! x) d1 i2 j
  generalize scanDown (fun x => lt d1[a]! x) d1 i2 j = j2 at hd u2 ⊢
  rintro ⟨x1, e1, g1⟩ hz
  unfold zzx at hz
  by_cases hc : i2 > j2
  · rw [if_pos hc] at hd hz
    obtain ⟨rfl, rfl, A1⟩ := hz
    subst hd
    exact .inr ⟨by simp, rfl, rfl, A1⟩
  · rw [if_neg hc] at hd hz
    obtain ⟨rfl, rfl, A1⟩ := hz
    exact .inl ⟨(i2 + 1, j2 - 1, _), rfl, rfl, ⟨⟨Nat.succ_le_succ (Nat.zero_le _), Nat.lt_of_le_of_lt (Nat.le_trans (Nat.not_lt.mp hc) u2) hj⟩, Nat.lt_of_le_of_lt (Nat.sub_le _ _) (Nat.lt_of_le_of_lt u2 hj), A1, hd⟩, Go.Sort.guard_of u1 u2 hc⟩
end
open Go.Sort (swp scanUp scanDown partLoop)
section
variable {h0 h : H} {b N f : Nat} {cs : List V} {lt : Int → Int → Bool} {d : Array Int} {c : Cap}
theorem z0et {R : Type} {kk : AX × List V × H → Option R} {Q : R → Prop} (A : Sw h0 b N h d) (K : Cmp h0 b N f cs lt) (hN : N ≤ 1000) {a i j : Nat} (ha : a < N) (hi1 : 1 ≤ i) (hi : i ≤ N) (hj : j < N)
    (out : ∀ q, 1 ≤ q → q ≤ N → q = scanUp (fun x => lt x d[a]!) d j i → ∀ g, Sw h0 b N g d → Ev (kk (.exit 0, S.z37 (.sl b 0 N c) (.int .i64 (a : Int)) (.fn f cs) (.int .i64 (q : Int)) (.int .i64 (j : Int)), g)) Q) :
    Ev ((W.loop (S.z7z W) (S.z2y (.sl b 0 N c) (.int .i64 (a : Int)) (.fn f cs) (.int .i64 (i : Int)) (.int .i64 (j : Int))) h).bind kk) Q := by
  refine z0j (α := Nat) (fun q => S.z2y (.sl b 0 N c) (.int .i64 (a : Int)) (.fn f cs) (.int .i64 (q : Int)) (.int .i64 (j : Int)))
    (fun q h => (1 ≤ q ∧ q ≤ N) ∧ Sw h0 b N h d ∧ scanUp (fun x => lt x d[a]!) d j q = scanUp (fun x => lt x d[a]!) d j i) (fun q _ => N - q)
    (fun z => ∃ q, (1 ≤ q ∧ q ≤ N) ∧ z.1 = .exit 0 ∧ z.2.1 = S.z37 (.sl b 0 N c) (.int .i64 (a : Int)) (.fn f cs) (.int .i64 (q : Int)) (.int .i64 (j : Int)) ∧ Sw h0 b N z.2.2 d ∧ q = scanUp (fun x => lt x d[a]!) d j i) i rfl ⟨⟨hi1, hi⟩, A, rfl⟩ ?_ ?_
  rotate_left
  · rintro ⟨_, _, g⟩ ⟨q, ⟨hq1, hq⟩, rfl, rfl, A, hqe⟩
    exact out q hq1 hq hqe g A
  rintro q g ⟨⟨hq1, hq⟩, A, hd⟩
  rw [S.zja]
  rw [zwx] at hd
  by_cases hqj : q ≤ j
  · have hqN : q < N := Nat.lt_of_le_of_lt hqj hj
    have i1 := zu (b := b) (c := c) ha
    have i2 := zu (b := b) (c := c) hqN
    have l1 := A.ld ha
    have l2 := A.ld hqN
    have k1 := zfn hqj
    obtain ⟨n, g1, ec, hn, A1, _⟩ := A.cmp K hqN ha
    have w2 := z1o (i := q) (Nat.le_trans hq (Nat.le_trans hN (by decide)))
    cases hl : lt d[q]! d[a]! with
    | true =>
      rw [if_pos ⟨hqj, hl⟩] at hd
      simp only [S.z5a, k1, i1, i2, zd, zb, l1, l2, ec, ze, hn, hl, w2]
      exact Ev.some (.inl ⟨q + 1, rfl, rfl, ⟨⟨Nat.le_succ_of_le hq1, hqN⟩, A1, hd⟩, Nat.sub_lt_sub_left hqN (Nat.lt_succ_self q)⟩)
    | false =>
      rw [if_neg (fun z => by rw [hl] at z; cases z.2)] at hd
      simp only [S.z5a, k1, i1, i2, zd, zb, l1, l2, ec, ze, hn, hl]
      exact Ev.some (.inr ⟨by simp, q, ⟨hq1, hq⟩, rfl, rfl, A1, hd⟩)
  · rw [if_neg (fun z => hqj z.1)] at hd
    simp only [S.z5a, zd5 hqj]
    exact Ev.some (.inr ⟨by simp, q, ⟨hq1, hq⟩, rfl, rfl, A, hd⟩)
theorem z0cj {R : Type} {kk : AX × List V × H → Option R} {Q : R → Prop} (A : Sw h0 b N h d) (K : Cmp h0 b N f cs lt) (hN : N ≤ 1000) {a i j : Nat} (ha : a < N) (hi1 : 1 ≤ i) (hj : j < N)
    (out : ∀ q, q < N → q = scanDown (fun x => !lt x d[a]!) d i j → ∀ g, Sw h0 b N g d → Ev (kk (.exit 2, S.z31 (.sl b 0 N c) (.int .i64 (a : Int)) (.fn f cs) (.int .i64 (i : Int)) (.int .i64 (q : Int)), g)) Q) :
    Ev ((W.loop (S.z7q W) (S.z33 (.sl b 0 N c) (.int .i64 (a : Int)) (.fn f cs) (.int .i64 (i : Int)) (.int .i64 (j : Int))) h).bind kk) Q := by
  refine z0j (α := Nat) (fun q => S.z33 (.sl b 0 N c) (.int .i64 (a : Int)) (.fn f cs) (.int .i64 (i : Int)) (.int .i64 (q : Int)))
    (fun q h => q < N ∧ Sw h0 b N h d ∧ scanDown (fun x => !lt x d[a]!) d i q = scanDown (fun x => !lt x d[a]!) d i j) (fun q _ => q)
    (fun z => ∃ q, q < N ∧ z.1 = .exit 2 ∧ z.2.1 = S.z31 (.sl b 0 N c) (.int .i64 (a : Int)) (.fn f cs) (.int .i64 (i : Int)) (.int .i64 (q : Int)) ∧ Sw h0 b N z.2.2 d ∧ q = scanDown (fun x => !lt x d[a]!) d i j) j rfl ⟨hj, A, rfl⟩ ?_ ?_
  rotate_left
  · rintro ⟨_, _, g⟩ ⟨q, hq, rfl, rfl, A, hqe⟩
    exact out q hq hqe g A
  rintro q g ⟨hq, A, hd⟩
  rw [S.zjm]
  rw [zt1 _ _ hi1] at hd
  by_cases hiq : i ≤ q
  · have i1 := zu (b := b) (c := c) ha
    have i2 := zu (b := b) (c := c) hq
    have l1 := A.ld ha
    have l2 := A.ld hq
    have k1 := zfn hiq
    obtain ⟨n, g1, ec, hn, A1, _⟩ := A.cmp K hq ha
    obtain ⟨m, rfl⟩ : ∃ m, q = m + 1 := ⟨q - 1, by omega⟩
    have w2 := z2x (i := m) (Nat.le_trans (Nat.le_of_lt hq) (Nat.le_trans hN (by decide)))
    cases hl : lt d[m + 1]! d[a]! with
    | false =>
      rw [if_pos ⟨hiq, by rw [hl]; rfl⟩, Nat.add_sub_cancel] at hd
      simp only [S.z5e, k1, i1, i2, zd, zb, l1, l2, ec, ze, hn, hl, w2, Bool.not_false]
      exact Ev.some (.inl ⟨m, rfl, rfl, ⟨Nat.lt_of_succ_lt hq, A1, hd⟩, Nat.lt_succ_self m⟩)
    | true =>
      rw [if_neg (fun z => by rw [hl] at z; cases z.2)] at hd
      simp only [S.z5e, k1, i1, i2, zd, zb, l1, l2, ec, ze, hn, hl, Bool.not_true]
      exact Ev.some (.inr ⟨by simp, m + 1, hq, rfl, rfl, A1, hd⟩)
  · rw [if_neg (fun z => hiq z.1)] at hd
    simp only [S.z5e, zd5 hiq]
    exact Ev.some (.inr ⟨by simp, q, hq, rfl, rfl, A, hd⟩)
theorem z0f4 {R : Type} {kk : AX × List V × H → Option R} {Q : R → Prop} (A : Sw h0 b N h d) (K : Cmp h0 b N f cs lt) (hN : N ≤ 1000) {a i j : Nat} (ha : a < N) (hi1 : 1 ≤ i) (hi : i ≤ N) (hj : j < N)
    (out : ∀ q, 1 ≤ q → q ≤ N → q = scanUp (fun x => lt x d[a]!) d j i → ∀ g, Sw h0 b N g d → Ev (kk (.exit 6, S.z34 (.sl b 0 N c) (.int .i64 (a : Int)) (.fn f cs) (.int .i64 (q : Int)) (.int .i64 (j : Int)), g)) Q) :
    Ev ((W.loop (S.z7x W) (S.z2w (.sl b 0 N c) (.int .i64 (a : Int)) (.fn f cs) (.int .i64 (i : Int)) (.int .i64 (j : Int))) h).bind kk) Q := by
  refine z0j (α := Nat) (fun q => S.z2w (.sl b 0 N c) (.int .i64 (a : Int)) (.fn f cs) (.int .i64 (q : Int)) (.int .i64 (j : Int)))
    (fun q h => (1 ≤ q ∧ q ≤ N) ∧ Sw h0 b N h d ∧ scanUp (fun x => lt x d[a]!) d j q = scanUp (fun x => lt x d[a]!) d j i) (fun q _ => N - q)
    (fun z => ∃ q, (1 ≤ q ∧ q ≤ N) ∧ z.1 = .exit 6 ∧ z.2.1 = S.z34 (.sl b 0 N c) (.int .i64 (a : Int)) (.fn f cs) (.int .i64 (q : Int)) (.int .i64 (j : Int)) ∧ Sw h0 b N z.2.2 d ∧ q = scanUp (fun x => lt x d[a]!) d j i) i rfl ⟨⟨hi1, hi⟩, A, rfl⟩ ?_ ?_
  rotate_left
  · rintro ⟨_, _, g⟩ ⟨q, ⟨hq1, hq⟩, rfl, rfl, A, hqe⟩
    exact out q hq1 hq hqe g A
  rintro q g ⟨⟨hq1, hq⟩, A, hd⟩
  rw [S.zjg]
  rw [zwx] at hd
  by_cases hqj : q ≤ j
  · have hqN : q < N := Nat.lt_of_le_of_lt hqj hj
    have i1 := zu (b := b) (c := c) ha
    have i2 := zu (b := b) (c := c) hqN
    have l1 := A.ld ha
    have l2 := A.ld hqN
    have k1 := zfn hqj
    obtain ⟨n, g1, ec, hn, A1, _⟩ := A.cmp K hqN ha
    have w2 := z1o (i := q) (Nat.le_trans hq (Nat.le_trans hN (by decide)))
    cases hl : lt d[q]! d[a]! with
    | true =>
      rw [if_pos ⟨hqj, hl⟩] at hd
      simp only [S.z5b, k1, i1, i2, zd, zb, l1, l2, ec, ze, hn, hl, w2]
      exact Ev.some (.inl ⟨q + 1, rfl, rfl, ⟨⟨Nat.le_succ_of_le hq1, hqN⟩, A1, hd⟩, Nat.sub_lt_sub_left hqN (Nat.lt_succ_self q)⟩)
    | false =>
      rw [if_neg (fun z => by rw [hl] at z; cases z.2)] at hd
      simp only [S.z5b, k1, i1, i2, zd, zb, l1, l2, ec, ze, hn, hl]
      exact Ev.some (.inr ⟨by simp, q, ⟨hq1, hq⟩, rfl, rfl, A1, hd⟩)
  · rw [if_neg (fun z => hqj z.1)] at hd
    simp only [S.z5b, zd5 hqj]
    exact Ev.some (.inr ⟨by simp, q, ⟨hq1, hq⟩, rfl, rfl, A, hd⟩)
theorem z0d2 {R : Type} {kk : AX × List V × H → Option R} {Q : R → Prop} (A : Sw h0 b N h d) (K : Cmp h0 b N f cs lt) (hN : N ≤ 1000) {a i j : Nat} (ha : a < N) (hi1 : 1 ≤ i) (hj : j < N)
    (out : ∀ q, q < N → q = scanDown (fun x => !lt x d[a]!) d i j → ∀ g, Sw h0 b N g d → Ev (kk (.exit 8, S.z36 (.sl b 0 N c) (.int .i64 (a : Int)) (.fn f cs) (.int .i64 (i : Int)) (.int .i64 (q : Int)), g)) Q) :
    Ev ((W.loop (S.z7y W) (S.z2z (.sl b 0 N c) (.int .i64 (a : Int)) (.fn f cs) (.int .i64 (i : Int)) (.int .i64 (j : Int))) h).bind kk) Q := by
  refine z0j (α := Nat) (fun q => S.z2z (.sl b 0 N c) (.int .i64 (a : Int)) (.fn f cs) (.int .i64 (i : Int)) (.int .i64 (q : Int)))
    (fun q h => q < N ∧ Sw h0 b N h d ∧ scanDown (fun x => !lt x d[a]!) d i q = scanDown (fun x => !lt x d[a]!) d i j) (fun q _ => q)
    (fun z => ∃ q, q < N ∧ z.1 = .exit 8 ∧ z.2.1 = S.z36 (.sl b 0 N c) (.int .i64 (a : Int)) (.fn f cs) (.int .i64 (i : Int)) (.int .i64 (q : Int)) ∧ Sw h0 b N z.2.2 d ∧ q = scanDown (fun x => !lt x d[a]!) d i j) j rfl ⟨hj, A, rfl⟩ ?_ ?_
  rotate_left
  · rintro ⟨_, _, g⟩ ⟨q, hq, rfl, rfl, A, hqe⟩
    exact out q hq hqe g A
  rintro q g ⟨hq, A, hd⟩
  rw [S.zjq]
  rw [zt1 _ _ hi1] at hd
  by_cases hiq : i ≤ q
  · have i1 := zu (b := b) (c := c) ha
    have i2 := zu (b := b) (c := c) hq
    have l1 := A.ld ha
    have l2 := A.ld hq
    have k1 := zfn hiq
    obtain ⟨n, g1, ec, hn, A1, _⟩ := A.cmp K hq ha
    obtain ⟨m, rfl⟩ : ∃ m, q = m + 1 := ⟨q - 1, by omega⟩
    have w2 := z2x (i := m) (Nat.le_trans (Nat.le_of_lt hq) (Nat.le_trans hN (by decide)))
    cases hl : lt d[m + 1]! d[a]! with
    | false =>
      rw [if_pos ⟨hiq, by rw [hl]; rfl⟩, Nat.add_sub_cancel] at hd
      simp only [S.z5d, k1, i1, i2, zd, zb, l1, l2, ec, ze, hn, hl, w2, Bool.not_false]
      exact Ev.some (.inl ⟨m, rfl, rfl, ⟨Nat.lt_of_succ_lt hq, A1, hd⟩, Nat.lt_succ_self m⟩)
    | true =>
      rw [if_neg (fun z => by rw [hl] at z; cases z.2)] at hd
      simp only [S.z5d, k1, i1, i2, zd, zb, l1, l2, ec, ze, hn, hl, Bool.not_true]
      exact Ev.some (.inr ⟨by simp, m + 1, hq, rfl, rfl, A1, hd⟩)
  · rw [if_neg (fun z => hiq z.1)] at hd
    simp only [S.z5d, zd5 hiq]
    exact Ev.some (.inr ⟨by simp, q, hq, rfl, rfl, A, hd⟩)
theorem z04z (A : Sw h0 b N h d) (K : Cmp h0 b N f cs lt) (hN : N ≤ 1000) {a i j : Nat} (ha : a < N) (hi1 : 1 ≤ i) (hi : i ≤ N) (hj : j < N) :
    Ev (S.z7s W (.sl b 0 N c) (a : Int) (.fn f cs) (i : Int) (j : Int) h) fun z => ∃ i2 j2, i2 = scanUp (fun x => lt x d[a]!) d j i ∧ j2 = scanDown (fun x => !lt x d[a]!) d i2 j ∧ j2 < N ∧ i2 ≤ N ∧
      ((j2 < i2 ∧ z.1 = .exit 4 ∧ z.2.1 = S.z58 (.sl b 0 N c) (.int .i64 (a : Int)) (.int .i64 (j2 : Int)) ∧ Sw h0 b N z.2.2 d) ∨
       (¬ j2 < i2 ∧ z.1 = .normal ∧ z.2.1 = S.z1x (.sl b 0 N c) (.int .i64 (a : Int)) (.fn f cs) (.int .i64 ((i2 + 1 : Nat) : Int)) (.int .i64 ((j2 - 1 : Nat) : Int)) ∧ Sw h0 b N z.2.2 (swp d i2 j2))) := by
  simp only [S.z7s]
  refine z0f4 A K hN ha hi1 hi hj ?_
  intro i2 hq1 hq hqe g A
  show Ev (S.z8o W (.exit 6) _ _) _
  rw [S.zha]
  simp only [S.zcf]
  refine z0d2 A K hN ha hq1 hj ?_
  intro j2 hj2 hje g A
  show Ev (S.z8k W (.exit 8) _ _) _
  rw [S.zhf]
  by_cases hqi : j2 < i2
  · simp only [S.z7g, z1y hqi]
    exact Ev.some ⟨i2, j2, hqe, hje, hj2, hq, .inl ⟨hqi, rfl, rfl, A⟩⟩
  · have hiN : i2 < N := Nat.lt_of_le_of_lt (Nat.not_lt.mp hqi) hj2
    have n9 : N ≤ 9000 := Nat.le_trans hN (by decide)
    have k1 := z2n hqi
    obtain ⟨m, hm⟩ : ∃ m, j2 = m + 1 := ⟨j2 - 1, by omega⟩
    have w1 := z1o (i := i2) (Nat.le_trans hq n9)
    have w2 : wr .i64 ((j2 : Int) - 1) = ((j2 - 1 : Nat) : Int) := by rw [hm]; exact z2x (i := m) (Nat.le_trans (hm ▸ Nat.le_of_lt hj2) n9)
    have i1 := zu (b := b) (c := c) hiN
    have i2' := zu (b := b) (c := c) hj2
    have l1 := A.ld hiN
    have l2 := A.ld hj2
    obtain ⟨g1, g2, s1, s2, A2, _⟩ := A.swap hiN hj2
    simp only [S.z7g, k1, w1, w2, i1, i2', zd, zb, l1, l2, s1, s2]
    exact Ev.some ⟨i2, j2, hqe, hje, hj2, hq, .inr ⟨hqi, rfl, rfl, A2⟩⟩
theorem z06b (A : Sw h0 b N h d) (K : Cmp h0 b N f cs lt) (hN : N ≤ 1000) {a i j : Nat} (ha : a < N) (hi1 : 1 ≤ i) (hi : i ≤ N) (hj : j < N) :
    Ev ((W.loop (S.z7l W) (S.z1x (.sl b 0 N c) (.int .i64 (a : Int)) (.fn f cs) (.int .i64 (i : Int)) (.int .i64 (j : Int))) h).bind fun z => S.z5w W z.1 z.2.1 z.2.2)
      fun z => z.1 = .tup [.int .i64 ((partLoop lt a i j d).1 : Int), .bool false] ∧ Sw h0 b N z.2 (swp (partLoop lt a i j d).2 (partLoop lt a i j d).1 a) := by
  refine z0j (α := Nat × Nat × Array Int) (fun q => S.z1x (.sl b 0 N c) (.int .i64 (a : Int)) (.fn f cs) (.int .i64 (q.1 : Int)) (.int .i64 (q.2.1 : Int)))
    (fun q h => (1 ≤ q.1 ∧ q.1 ≤ N) ∧ q.2.1 < N ∧ Sw h0 b N h q.2.2 ∧ partLoop lt a q.1 q.2.1 q.2.2 = partLoop lt a i j d) (fun q _ => q.2.1 + 1 - q.1)
    (fun z => z.1 = .exit 4 ∧ z.2.1 = S.z58 (.sl b 0 N c) (.int .i64 (a : Int)) (.int .i64 ((partLoop lt a i j d).1 : Int)) ∧ (partLoop lt a i j d).1 < N ∧ Sw h0 b N z.2.2 (partLoop lt a i j d).2) (i, j, d) rfl ⟨⟨hi1, hi⟩, hj, A, rfl⟩ ?_ ?_
  rotate_left
  · rintro ⟨_, _, g⟩ ⟨rfl, rfl, hD, A⟩
    show Ev (S.z5w W (.exit 4) _ _) _
    rw [S.zhb]
    generalize partLoop lt a i j d = D at hD A ⊢
    dsimp only at A
    have i1 := zu (b := b) (c := c) hD
    have i2 := zu (b := b) (c := c) ha
    have l1 := A.ld hD
    have l2 := A.ld ha
    obtain ⟨g1, g2, s1, s2, A2, _⟩ := A.swap hD ha
    simp only [S.zcc, i1, i2, zd, zb, l1, l2, s1, s2]
    exact Ev.some ⟨rfl, A2⟩
  generalize partLoop lt a i j d = D
  clear hi1 hi hj A
  rintro ⟨i, j, d1⟩ g ⟨⟨hi1, hi⟩, hj, A, hd⟩
  dsimp only at hi1 hi hj A hd
  rw [S.zjd]
  refine (z04z A K hN ha hi1 hi hj).mono ?_
  rw [Go.Sort.partLoop_eq] at hd
  have u1 := Go.Sort.scanUp_ge (fun x => lt x d1[a]!) d1 j i
  rintro ⟨x1, e1, g1⟩ ⟨i2, j2, hi2, hj2, hjN, hiN, hz⟩
  have u2 := Go.Sort.scanDown_le (fun x => !lt x d1[a]!) d1 i2 j
  rw [← hi2] at u1 hd
  rw [← hj2] at u2 hd
  rcases hz with ⟨hc, rfl, rfl, A1⟩ | ⟨hc, rfl, rfl, A1⟩
  · rw [if_pos (show i2 > j2 from hc)] at hd
    subst hd
    exact .inr ⟨by simp, rfl, rfl, hjN, A1⟩
  · rw [if_neg (show ¬ i2 > j2 from hc)] at hd
    exact .inl ⟨(i2 + 1, j2 - 1, _), rfl, rfl, ⟨⟨Nat.succ_le_succ (Nat.zero_le _), Nat.lt_of_le_of_lt (Nat.not_lt.mp hc) hjN⟩, Nat.lt_of_le_of_lt (Nat.sub_le _ _) hjN, A1, hd⟩, Go.Sort.guard_of u1 u2 hc⟩
theorem z011 (A : Sw h0 b N h d) (K : Cmp h0 b N f cs lt) (hN : N ≤ 1000) {a e pv : Nat} (hae : a < e) (he : e ≤ N) (hp : pv < N) :
    Ev (C 457 [.sl b 0 N c, .int .i64 (a : Int), .int .i64 (e : Int), .int .i64 (pv : Int), .fn f cs] h) fun z => z.1 = .tup [.int .i64 ((Go.Sort.partition lt d a e pv).1 : Int), .bool (Go.Sort.partition lt d a e pv).2.1] ∧ Sw h0 b N z.2 (Go.Sort.partition lt d a e pv).2.2 := by
  refine z0i (af := F.zq) (by kernel_rfl) rfl ?_
  rw [S.zm0]
  obtain ⟨m, rfl⟩ : ∃ m, e = m + 1 := ⟨e - 1, by omega⟩
  have n9 : N ≤ 9000 := Nat.le_trans hN (by decide)
  have ha : a < N := Nat.lt_of_lt_of_le hae he
  have w1 := z1o (i := a) (Nat.le_trans (Nat.le_of_lt ha) n9)
  have w2 := z2x (i := m) (Nat.le_trans he n9)
  have i1 := zu (b := b) (c := c) ha
  have i2 := zu (b := b) (c := c) hp
  have l1 := A.ld ha
  have l2 := A.ld hp
  obtain ⟨g1, g2, s1, s2, A2, _⟩ := A.swap ha hp
  simp only [S.zq, w1, w2, i1, i2, zd, zb, l1, l2, s1, s2]
  unfold Go.Sort.partition
  dsimp only
  rw [Nat.add_sub_cancel]
  clear A s1 s2 l1 l2 w1 w2
  generalize swp d a pv = d2 at A2 ⊢
  refine z0et A2 K hN ha (Nat.succ_le_succ (Nat.zero_le _)) ha he ?_
  intro i3 hq1 hq hqe g A
  rw [← hqe]
  clear hqe
  show Ev (S.z8y W (.exit 0) _ _) _
  rw [S.zh8]
  simp only [S.zcb]
  refine z0cj A K hN ha hq1 he ?_
  intro j2 hj2 hje g A
  rw [← hje]
  clear hje
  show Ev (S.z8z W (.exit 2) _ _) _
  rw [S.zhe]
  by_cases hqi : j2 < i3
  · have i4 := zu (b := b) (c := c) hj2
    have l1 := A.ld ha
    have l2 := A.ld hj2
    obtain ⟨g1, g2, s1, s2, A2, _⟩ := A.swap hj2 ha
    simp only [S.z7f, z1y hqi, i1, i4, zd, zb, l1, l2, s1, s2, if_pos (show i3 > j2 from hqi)]
    exact Ev.some ⟨rfl, A2⟩
  · have hiN : i3 < N := Nat.lt_of_le_of_lt (Nat.not_lt.mp hqi) hj2
    have k1 := z2n hqi
    obtain ⟨m2, hm⟩ : ∃ m, j2 = m + 1 := ⟨j2 - 1, by omega⟩
    have w1 := z1o (i := i3) (Nat.le_trans hq n9)
    have w2 : wr .i64 ((j2 : Int) - 1) = ((j2 - 1 : Nat) : Int) := by rw [hm]; exact z2x (i := m2) (Nat.le_trans (hm ▸ Nat.le_of_lt hj2) n9)
    have i3' := zu (b := b) (c := c) hiN
    have i4 := zu (b := b) (c := c) hj2
    have l1 := A.ld hiN
    have l2 := A.ld hj2
    obtain ⟨g1, g2, s1, s2, A2, _⟩ := A.swap hiN hj2
    simp only [S.z7f, k1, w1, w2, i3', i4, zd, zb, l1, l2, s1, s2, if_neg (show ¬ i3 > j2 from hqi)]
    exact z06b A2 K hN ha (Nat.succ_le_succ (Nat.zero_le _)) hiN (Nat.lt_of_le_of_lt (Nat.sub_le _ _) hj2)
end
open Go.Sort (swp PermIn permIn_trans permIn_refl permIn_mono)
def swpR (d : Array Int) (a b : Nat) : Nat → Array Int
  | 0 => d
  | n + 1 => swp (swpR d a b n) (a + n) (b + n)
theorem zrp (d : Array Int) (a b : Nat) : ∀ n, (swpR d a b n).size = d.size
  | 0 => rfl
  | n + 1 => by rw [swpR, Go.Sort.swp_size, zrp d a b n]
theorem zrr {d : Array Int} {a b lo hi : Nat} (hhi : hi ≤ d.size) : ∀ n, lo ≤ a → a + n ≤ hi → lo ≤ b → b + n ≤ hi → PermIn lo hi d (swpR d a b n)
  | 0, _, _, _, _ => permIn_refl _ _ _
  | n + 1, h1, h2, h3, h4 => by
    have ih := zrr (d := d) (a := a) (b := b) (lo := lo) hhi n h1 (by omega) h3 (by omega)
    exact permIn_trans _ _ _ _ _ ih (Go.Sort.swp_permIn _ lo hi _ _ (by omega) (by omega) (by omega) (by omega) (by rw [zrp]; exact hhi))
theorem zuk {d : Array Int} {a b : Nat} : ∀ n, a + n ≤ b → b + n ≤ d.size → ∀ k, (swpR d a b n)[k]! = if a ≤ k ∧ k < a + n then d[b + (k - a)]! else if b ≤ k ∧ k < b + n then d[a + (k - b)]! else d[k]!
  | 0, _, _, k => by rw [if_neg (by omega), if_neg (by omega)]; rfl
  | n + 1, h1, h2, k => by
    have ih := zuk (d := d) (a := a) (b := b) n (by omega) (by omega)
    rw [swpR]
    by_cases k1 : k = b + n
    · subst k1
      rw [Go.Sort.swp_right _ _ _ (by rw [zrp]; omega), ih, if_neg (by omega), if_neg (by omega), if_neg (by omega), if_pos (by omega)]
      congr 2; omega
    by_cases k2 : k = a + n
    · subst k2
      rw [Go.Sort.swp_left _ _ _ (by rw [zrp]; omega) (by omega), ih, if_neg (by omega), if_neg (by omega), if_pos (by omega)]
      congr 2; omega
    · rw [Go.Sort.swp_other _ _ _ _ k2 k1, ih]
      by_cases q1 : a ≤ k ∧ k < a + n
      · rw [if_pos q1, if_pos (by omega)]
      · rw [if_neg q1, if_neg (show ¬ (a ≤ k ∧ k < a + (n + 1)) by omega)]
        by_cases q2 : b ≤ k ∧ k < b + n
        · rw [if_pos q2, if_pos (by omega)]
        · rw [if_neg q2, if_neg (by omega)]
def rotA (d : Array Int) (a m b k : Nat) : Int :=
  if k < a ∨ b ≤ k then d[k]! else if k < a + (b - m) then d[m + (k - a)]! else d[k - (b - m)]!
theorem z0b2 {d : Array Int} {m i j : Nat} (hj : j < i) (hi : i ≤ m) (hb : m + j ≤ d.size) (k : Nat) : rotA (swpR d (m - i) m j) (m - (i - j)) m (m + j) k = rotA d (m - i) m (m + j) k := by
  have g := zuk (d := d) (a := m - i) (b := m) j (by omega) hb
  unfold rotA
  by_cases c1 : k < m - i ∨ m + j ≤ k
  · rw [if_pos (show k < m - (i - j) ∨ m + j ≤ k by omega), if_pos c1, g, if_neg (by omega), if_neg (by omega)]
  rw [if_neg c1]
  by_cases c2 : k < m - i + j
  · rw [if_pos (show k < m - (i - j) ∨ m + j ≤ k by omega), if_pos (show k < m - i + (m + j - m) by omega), g, if_pos (by omega)]
  rw [if_neg (show ¬ (k < m - (i - j) ∨ m + j ≤ k) by omega), if_neg (show ¬ k < m - i + (m + j - m) by omega)]
  by_cases c3 : k < m - (i - j) + (m + j - m)
  · rw [if_pos c3, g, if_neg (by omega), if_pos (by omega)]
    congr 1; omega
  · rw [if_neg c3, g, if_neg (by omega), if_neg (by omega)]
theorem z0bi {d : Array Int} {m i j : Nat} (hj : i < j) (hi : i ≤ m) (hb : m + j ≤ d.size) (k : Nat) : rotA (swpR d (m - i) (m + j - i) i) (m - i) m (m + (j - i)) k = rotA d (m - i) m (m + j) k := by
  have g := zuk (d := d) (a := m - i) (b := m + j - i) i (by omega) (by omega)
  unfold rotA
  by_cases c1 : k < m - i ∨ m + j ≤ k
  · rw [if_pos (show k < m - i ∨ m + (j - i) ≤ k by omega), if_pos c1, g, if_neg (by omega), if_neg (by omega)]
  rw [if_neg c1]
  by_cases c2 : m + (j - i) ≤ k
  · rw [if_pos (show k < m - i ∨ m + (j - i) ≤ k by omega), if_neg (show ¬ k < m - i + (m + j - m) by omega), g, if_neg (by omega), if_pos (by omega)]
    congr 1; omega
  rw [if_neg (show ¬ (k < m - i ∨ m + (j - i) ≤ k) by omega), if_pos (show k < m - i + (m + j - m) by omega)]
  by_cases c3 : k < m - i + (m + (j - i) - m)
  · rw [if_pos c3, g, if_neg (by omega), if_neg (by omega)]
  · rw [if_neg c3, g, if_pos (by omega)]
    congr 1; omega
theorem z0bj {d : Array Int} {m i : Nat} (hi : i ≤ m) (hb : m + i ≤ d.size) (k : Nat) : (swpR d (m - i) m i)[k]! = rotA d (m - i) m (m + i) k := by
  rw [zuk (d := d) (a := m - i) (b := m) i (by omega) hb]
  unfold rotA
  by_cases c1 : k < m - i ∨ m + i ≤ k
  · rw [if_pos c1, if_neg (by omega), if_neg (by omega)]
  rw [if_neg c1]
  by_cases c2 : k < m - i + i
  · rw [if_pos (by omega), if_pos (by omega)]
  · rw [if_neg (by omega), if_pos (by omega), if_neg (by omega)]
    congr 1; omega
section
variable {h0 h : H} {b N : Nat} {d : Array Int} {c : Cap}
theorem zon (A : Sw h0 b N h d) (hN : N ≤ 1000) {a m n : Nat} (ha : a + n ≤ N) (hm : m + n ≤ N) (x : V) :
    Ev (C 513 [.sl b 0 N c, .int .i64 (a : Int), .int .i64 (m : Int), .int .i64 (n : Int), x] h) fun z => z.1 = .tup [] ∧ Sw h0 b N z.2 (swpR d a m n) := by
  refine z0i (af := F.z0m) (by kernel_rfl) rfl ?_
  rw [S.zlt]
  simp only [S.z0m]
  refine z0j (α := Nat) (fun q => S.z55 (.sl b 0 N c) (.int .i64 (a : Int)) (.int .i64 (m : Int)) (.int .i64 (n : Int)) (.int .i64 (q : Int)))
    (fun q h => q ≤ n ∧ Sw h0 b N h (swpR d a m q)) (fun q _ => n - q)
    (fun z => z.1 = .exit 0 ∧ z.2.1 = S.z7u ∧ Sw h0 b N z.2.2 (swpR d a m n)) 0 rfl ⟨Nat.zero_le _, A⟩ ?_ ?_
  rotate_left
  · rintro ⟨_, _, g⟩ ⟨rfl, rfl, A⟩
    show Ev (S.z94 W (.exit 0) _ _) _
    rw [S.zhc]
    exact Ev.some ⟨rfl, A⟩
  clear A
  rintro q g ⟨hq, A⟩
  rw [S.zjn]
  by_cases hqn : q < n
  · have h1 : a + q < N := by omega
    have h2 : m + q < N := by omega
    have q9 : q ≤ 9000 := by omega
    have w1 := z9o (i := m) (j := q) (by omega)
    have w2 := z9o (i := a) (j := q) (by clear w1; omega)
    have w3 := z1o q9
    have i1 := zu (b := b) (c := c) h1
    have i2 := zu (b := b) (c := c) h2
    have l1 := A.ld h1
    have l2 := A.ld h2
    obtain ⟨g1, g2, s1, s2, A2, _⟩ := A.swap h1 h2
    simp only [S.z7n, z1y hqn, w1, w2, w3, i1, i2, zd, zb, l1, l2, s1, s2]
    exact Ev.some (.inl ⟨q + 1, rfl, rfl, ⟨hqn, A2⟩, Nat.sub_lt_sub_left hqn (Nat.lt_succ_self q)⟩)
  · have hqe : q = n := Nat.le_antisymm hq (Nat.le_of_not_lt hqn)
    subst hqe
    simp only [S.z7n, z2n hqn]
    exact Ev.some (.inr ⟨by simp, rfl, rfl, A⟩)
theorem z0a6 {i j : Nat} : decide ((i : Int) = (j : Int)) = decide (i = j) := by rw [decide_eq_decide]; omega
theorem z064 (A : Sw h0 b N h d) (hN : N ≤ 1000) {a m e : Nat} (ham : a < m) (hme : m < e) (he : e ≤ N) (x : V) :
    Ev (C 492 [.sl b 0 N c, .int .i64 (a : Int), .int .i64 (m : Int), .int .i64 (e : Int), x] h) fun z => ∃ R, z.1 = .tup [] ∧ PermIn a e d R ∧ (∀ k, R[k]! = rotA d a m e k) ∧ Sw h0 b N z.2 R := by
  refine z0i (af := F.z0p) (by kernel_rfl) rfl ?_
  rw [S.zok]
  have n9 : N ≤ 9000 := Nat.le_trans hN (by decide)
  have m9 : m ≤ 9000 := by omega
  have w1 := z1q (i := m) (j := a) (Nat.le_of_lt ham) m9
  have w2 := z1q (i := e) (j := m) (Nat.le_of_lt hme) (Nat.le_trans he n9)
  simp only [S.z0p, w1, w2]
  clear w1 w2
  refine z0j (α := Nat × Nat × Array Int) (fun q => S.z4a (.sl b 0 N c) (.int .i64 (m : Int)) x (.int .i64 (q.1 : Int)) (.int .i64 (q.2.1 : Int)))
    (fun q h => (0 < q.1 ∧ 0 < q.2.1 ∧ q.1 ≤ m - a ∧ q.2.1 ≤ e - m) ∧ Sw h0 b N h q.2.2 ∧ PermIn a e d q.2.2 ∧ ∀ k, rotA q.2.2 (m - q.1) m (m + q.2.1) k = rotA d a m e k) (fun q _ => q.1 + q.2.1)
    (fun z => ∃ i d', (0 < i ∧ i ≤ m - a ∧ i ≤ e - m) ∧ z.1 = .exit 0 ∧ z.2.1 = S.z9x (.sl b 0 N c) (.int .i64 (m : Int)) x (.int .i64 (i : Int)) ∧ Sw h0 b N z.2.2 d' ∧ PermIn a e d d' ∧ ∀ k, rotA d' (m - i) m (m + i) k = rotA d a m e k) (m - a, e - m, d) rfl
    ⟨⟨by dsimp only; omega, by dsimp only; omega, Nat.le_refl _, Nat.le_refl _⟩, A, permIn_refl _ _ _, fun k => by dsimp only; rw [show m - (m - a) = a by omega, show m + (e - m) = e by omega]⟩ ?_ ?_
  · clear A
    rintro ⟨i, j, d1⟩ g ⟨⟨i0, j0, hi, hj⟩, A, hp, hr⟩
    dsimp only at i0 j0 hi hj A hp hr
    have hsz := A.sz
    rw [S.zlg]
    by_cases hij : i = j
    · subst hij
      simp only [S.z68, decide_true, Bool.not_true]
      exact Ev.some (.inr ⟨by simp, i, d1, ⟨i0, hi, hj⟩, rfl, rfl, A, hp, hr⟩)
    have i9 : i ≤ m := by omega
    have z1 : m - i + i ≤ N := by omega
    by_cases hlt : j < i
    · have w1 := z1q (i := m) (j := i) i9 m9
      have w2 := z1q (i := i) (j := j) (Nat.le_of_lt hlt) (by clear w1; omega)
      obtain ⟨⟨v, g1⟩, e1, rfl, A1⟩ := zon (c := c) (a := m - i) (m := m) (n := j) A hN (by clear w1 w2; omega) (by clear w1 w2; omega) x
      dsimp only at A1
      simp only [S.z68, z0a6, decide_eq_false hij, Bool.not_false, z1y hlt, w1, w2, zh, e1, zd]
      clear w1 w2 e1
      refine Ev.some (.inl ⟨(i - j, j, _), rfl, rfl, ⟨⟨by dsimp only; omega, j0, by dsimp only; omega, hj⟩, A1, permIn_trans _ _ _ _ _ hp (zrr (by rw [hsz]; exact he) j (by omega) (by omega) (by omega) (by omega)), fun k => ?_⟩, by dsimp only; omega⟩)
      exact (z0b2 hlt i9 (by rw [hsz]; omega) k).trans (hr k)
    · have hlt' : i < j := by omega
      have w1 := z1q (i := m) (j := i) i9 m9
      have w2 := z9o (i := m) (j := j) (by clear w1; omega)
      have w3 := z1q (i := m + j) (j := i) (by clear w1 w2; omega) (by clear w1 w2; omega)
      have w4 := z1q (i := j) (j := i) (Nat.le_of_lt hlt') (by clear w1 w2 w3; omega)
      obtain ⟨⟨v, g1⟩, e1, rfl, A1⟩ := zon (c := c) (a := m - i) (m := m + j - i) (n := i) A hN z1 (by clear w1 w2 w3 w4; omega) x
      dsimp only at A1
      simp only [S.z68, z0a6, decide_eq_false hij, Bool.not_false, z2n hlt, w1, w2, w3, w4, zh, e1, zd]
      clear w1 w2 w3 w4 e1
      refine Ev.some (.inl ⟨(i, j - i, _), rfl, rfl, ⟨⟨i0, by dsimp only; omega, hi, by dsimp only; omega⟩, A1, permIn_trans _ _ _ _ _ hp (zrr (by rw [hsz]; exact he) i (by omega) (by omega) (by omega) (by omega)), fun k => ?_⟩, by dsimp only; omega⟩)
      exact (z0bi hlt' i9 (by rw [hsz]; omega) k).trans (hr k)
  rintro ⟨_, _, g⟩ ⟨i, d1, ⟨i0, hi, hj⟩, rfl, rfl, A, hp, hr⟩
  dsimp only at A
  have hsz := A.sz
  show Ev (S.zam W (.exit 0) _ _) _
  rw [S.zjc]
  have i9 : i ≤ m := by omega
  have z1 : m - i + i ≤ N := by omega
  have z2 : m + i ≤ N := by omega
  obtain ⟨⟨v, g1⟩, e1, rfl, A1⟩ := zon (c := c) (a := m - i) (m := m) (n := i) A hN z1 z2 x
  dsimp only at A1
  have w1 := z1q (i := m) (j := i) i9 m9
  simp only [S.zdq, w1, zh, e1, zd]
  clear w1 e1
  exact Ev.some ⟨_, rfl, permIn_trans _ _ _ _ _ hp (zrr (by rw [hsz]; exact he) i (by omega) (by omega) (by omega) (by omega)), fun k => (z0bj i9 (by rw [hsz]; exact z2) k).trans (hr k), A1⟩
end
end Wm
end
noncomputable section
namespace Wm
open Go.Sort (swp PermIn SortedIn SWO permIn_trans permIn_refl permIn_mono permIn_all insInner insOuter)
def ltS (lt : Int → Int → Bool) (x y : Int) : Bool := lt x y || (!lt y x && decide (x < y))
theorem z044 {lt : Int → Int → Bool} (h : SWO lt) {x y : Int} (hxy : x < y) : ltS lt x y = !lt y x := by
  unfold ltS
  cases h1 : lt y x with
  | true => rw [h.asymm h1]; rfl
  | false => simp [hxy]
theorem ztj {lt : Int → Int → Bool} {x y : Int} (hxy : x < y) : ltS lt y x = lt y x := by
  unfold ltS
  rw [decide_eq_false (show ¬ y < x by omega), Bool.and_false, Bool.or_false]
theorem zx9 {lt : Int → Int → Bool} {x y : Int} : ltS lt x y = false ↔ lt x y = false ∧ (lt y x = true ∨ y ≤ x) := by
  unfold ltS
  cases h1 : lt x y <;> cases h2 : lt y x <;> simp
theorem zxy {lt : Int → Int → Bool} (h : SWO lt) : SWO (ltS lt) where
  irrefl x := by unfold ltS; simp [h.irrefl x]
  trans x y z h1 h2 := by
    have e1 : lt x y = true ∨ (lt y x = false ∧ x < y) := by unfold ltS at h1; simpa using h1
    have e2 : lt y z = true ∨ (lt z y = false ∧ y < z) := by unfold ltS at h2; simpa using h2
    unfold ltS
    cases h3 : lt x z with
    | true => rfl
    | false =>
      have h4 : lt z x = false := by
        cases h5 : lt z x with
        | false => rfl
        | true =>
          rcases e1 with q | ⟨q, _⟩
          · have := h.trans _ _ _ h5 q
            rcases e2 with r | ⟨r, _⟩
            · rw [h.asymm r] at this; cases this
            · rw [r] at this; cases this
          · rcases e2 with r | ⟨r, _⟩
            · have := h.trans _ _ _ r h5
              rw [q] at this; cases this
            · have := h.ntrans _ _ _ r q
              rw [h5] at this; cases this
      rcases e1 with q | ⟨q, q2⟩
      · rcases e2 with r | ⟨r, r2⟩
        · rw [h.trans _ _ _ q r] at h3; cases h3
        · exfalso
          cases h5 : lt y z with
          | true => rw [h.trans _ _ _ q h5] at h3; cases h3
          | false =>
            have := h.ntrans _ _ _ h3 r
            rw [q] at this; cases this
      · rcases e2 with r | ⟨r, r2⟩
        · exfalso
          cases h5 : lt x y with
          | true => rw [h.trans _ _ _ h5 r] at h3; cases h3
          | false =>
            have := h.ntrans _ _ _ q h3
            rw [r] at this; cases this
        · simp [h4]; omega
  ntrans x y z h1 h2 := by
    rw [zx9] at h1 h2 ⊢
    refine ⟨h.ntrans _ _ _ h1.1 h2.1, ?_⟩
    rcases h1.2 with q | q
    · rcases h2.2 with r | r
      · exact .inl (h.trans _ _ _ r q)
      · cases h5 : lt z x with
        | true => exact .inl rfl
        | false =>
          have := h.ntrans _ _ _ h2.1 h5
          rw [q] at this; cases this
    · rcases h2.2 with r | r
      · cases h5 : lt z x with
        | true => exact .inl rfl
        | false =>
          have := h.ntrans _ _ _ h5 h1.1
          rw [r] at this; cases this
      · exact .inr (by omega)
theorem z0a8 {lt : Int → Int → Bool} (x y : Int) (h1 : ltS lt x y = false) (h2 : ltS lt y x = false) : x = y := by
  rw [zx9] at h1 h2
  rcases h1.2 with q | q
  · rw [h2.1] at q; cases q
  · rcases h2.2 with r | r
    · rw [h1.1] at r; cases r
    · omega
structure Mg (lt : Int → Int → Bool) (a m e : Nat) (d : Array Int) : Prop where
  s1 : SortedIn (ltS lt) a m d
  s2 : SortedIn (ltS lt) m e d
  old : ∀ i j, a ≤ i → i < m → m ≤ j → j < e → d[i]! < d[j]!
section
variable {lt : Int → Int → Bool} {d R : Array Int} {a m e i : Nat}
theorem z069 (hlt : SWO lt) (M : Mg lt a m e d) (ham : m = a + 1) (hi1 : m ≤ i) (hi : i ≤ e) (h1 : ∀ k, m ≤ k → k < i → lt d[k]! d[a]! = true) (h2 : ∀ k, i ≤ k → k < e → lt d[k]! d[a]! = false) (hR : ∀ k, R[k]! = rotA d a m i k) : SortedIn (ltS lt) a e R := by
  subst ham
  have v : ∀ k, a ≤ k → R[k]! = if k < i - 1 then d[k + 1]! else if k = i - 1 then d[a]! else d[k]! := fun k hk => by
    rw [hR]; unfold rotA
    by_cases c1 : k < i - 1
    · rw [if_neg (by omega), if_pos (by omega), if_pos c1]; congr 1; omega
    · rw [if_neg c1]
      by_cases c2 : k = i - 1
      · rw [if_neg (by omega), if_neg (by omega), if_pos c2]; congr 1; omega
      · rw [if_pos (by omega), if_neg c2]
  intro p q hp hpq hq
  rw [v p hp, v q (by omega)]
  by_cases p1 : p < i - 1
  · rw [if_pos p1]
    by_cases q1 : q < i - 1
    · rw [if_pos q1]; exact M.s2 _ _ (by omega) (by omega) (by omega)
    · rw [if_neg q1]
      by_cases q2 : q = i - 1
      · rw [if_pos q2, z044 hlt (M.old a (p + 1) (Nat.le_refl _) (by omega) (by omega) (by omega)), h1 (p + 1) (by omega) (by omega)]; rfl
      · rw [if_neg q2]; exact M.s2 _ _ (by omega) (by omega) (by omega)
  · rw [if_neg p1]
    by_cases p2 : p = i - 1
    · rw [if_pos p2, if_neg (by omega), if_neg (by omega), ztj (M.old a q (Nat.le_refl _) (by omega) (by omega) hq)]
      exact h2 q (by omega) hq
    · rw [if_neg p2, if_neg (by omega), if_neg (by omega)]; exact M.s2 _ _ (by omega) hpq hq
theorem z06k (hlt : SWO lt) (M : Mg lt a m e d) (hme : e = m + 1) (hi1 : a ≤ i) (hi : i ≤ m) (h1 : ∀ k, a ≤ k → k < i → lt d[m]! d[k]! = false) (h2 : ∀ k, i ≤ k → k < m → lt d[m]! d[k]! = true) (hR : ∀ k, R[k]! = rotA d i m e k) : SortedIn (ltS lt) a e R := by
  subst hme
  have v : ∀ k, k < m + 1 → R[k]! = if k < i then d[k]! else if k = i then d[m]! else d[k - 1]! := fun k hk => by
    rw [hR]; unfold rotA
    by_cases c1 : k < i
    · rw [if_pos (by omega), if_pos c1]
    · rw [if_neg c1]
      by_cases c2 : k = i
      · rw [if_neg (by omega), if_pos (by omega), if_pos c2]; congr 1; omega
      · rw [if_neg (by omega), if_neg (by omega), if_neg c2]; congr 1; omega
  intro p q hp hpq hq
  rw [v p (by omega), v q hq]
  by_cases p1 : p < i
  · rw [if_pos p1]
    by_cases q1 : q < i
    · rw [if_pos q1]; exact M.s1 _ _ hp hpq (by omega)
    · rw [if_neg q1]
      by_cases q2 : q = i
      · rw [if_pos q2, ztj (M.old p m hp (by omega) (Nat.le_refl _) (by omega))]; exact h1 p hp p1
      · rw [if_neg q2]; exact M.s1 _ _ hp (by omega) (by omega)
  · rw [if_neg p1, if_neg (show ¬ q < i by omega), if_neg (show ¬ q = i by omega)]
    by_cases p2 : p = i
    · rw [if_pos p2, z044 hlt (M.old (q - 1) m (by omega) (by omega) (Nat.le_refl _) (by omega)), h2 (q - 1) (by omega) (by omega)]; rfl
    · rw [if_neg p2]; exact M.s1 _ _ (by omega) (by omega) (by omega)
theorem z05z (hlt : SWO lt) (M : Mg lt a m e d) {s t : Nat} (hs1 : a ≤ s) (hs : s ≤ m) (ht1 : m ≤ t) (ht : t ≤ e) (c1 : a < s → t < e → lt d[t]! d[s - 1]! = false) (c2 : s < m → m < t → lt d[t - 1]! d[s]! = true) (hR : ∀ k, R[k]! = rotA d s m t k) :
    Mg lt a s (s + (t - m)) R ∧ Mg lt (s + (t - m)) t e R ∧ ∀ x y, a ≤ x → x < s + (t - m) → s + (t - m) ≤ y → y < e → ltS lt R[y]! R[x]! = false := by
  have hS := zxy hlt
  have v1 : ∀ k, k < s → R[k]! = d[k]! := fun k hk => by rw [hR]; unfold rotA; rw [if_pos (by omega)]
  have v2 : ∀ k, s ≤ k → k < s + (t - m) → R[k]! = d[m + (k - s)]! := fun k h1 h2 => by rw [hR]; unfold rotA; rw [if_neg (by omega), if_pos (by omega)]
  have v3 : ∀ k, s + (t - m) ≤ k → k < t → R[k]! = d[k - (t - m)]! := fun k h1 h2 => by rw [hR]; unfold rotA; rw [if_neg (by omega), if_neg (by omega)]
  have v4 : ∀ k, t ≤ k → R[k]! = d[k]! := fun k hk => by rw [hR]; unfold rotA; rw [if_pos (by omega)]
  -- cross
  have le1 : ∀ x y, a ≤ x → x < s → t ≤ y → y < e → ltS lt d[y]! d[x]! = false := fun x y h1 h2 h3 h4 => by
    have k1 := c1 (by omega) (by omega)
    rw [← ztj (lt := lt) (M.old (s - 1) t (by omega) (by omega) ht1 (by omega))] at k1
    have k2 : ltS lt d[s - 1]! d[x]! = false := by
      rcases Nat.lt_or_eq_of_le (show x ≤ s - 1 by omega) with q | q
      · exact M.s1 x (s - 1) h1 q (by omega)
      · rw [q]; exact hS.irrefl _
    have k3 : ltS lt d[y]! d[t]! = false := by
      rcases Nat.lt_or_eq_of_le h3 with q | q
      · exact M.s2 t y ht1 q h4
      · rw [q]; exact hS.irrefl _
    exact hS.ntrans _ _ _ k3 (hS.ntrans _ _ _ k1 k2)
  have lt2 : ∀ x y, s ≤ x → x < m → m ≤ y → y < t → ltS lt d[x]! d[y]! = false := fun x y h1 h2 h3 h4 => by
    have k1 := c2 (by omega) (by omega)
    have k0 : ltS lt d[s]! d[t - 1]! = false := by
      rw [z044 hlt (M.old s (t - 1) hs1 (by omega) (by omega) (by omega)), k1]; rfl
    have k2 : ltS lt d[x]! d[s]! = false := by
      rcases Nat.lt_or_eq_of_le h1 with q | q
      · exact M.s1 s x hs1 q h2
      · rw [q]; exact hS.irrefl _
    have k3 : ltS lt d[t - 1]! d[y]! = false := by
      rcases Nat.lt_or_eq_of_le (show y ≤ t - 1 by omega) with q | q
      · exact M.s2 y (t - 1) h3 q (by omega)
      · rw [q]; exact hS.irrefl _
    exact hS.ntrans _ _ _ k2 (hS.ntrans _ _ _ k0 k3)
  refine ⟨⟨fun p q h1 h2 h3 => ?_, fun p q h1 h2 h3 => ?_, fun p q h1 h2 h3 h4 => ?_⟩, ⟨fun p q h1 h2 h3 => ?_, fun p q h1 h2 h3 => ?_, fun p q h1 h2 h3 h4 => ?_⟩, fun x y h1 h2 h3 h4 => ?_⟩
  · rw [v1 p (by omega), v1 q h3]; exact M.s1 p q h1 h2 (by omega)
  · rw [v2 p h1 (by omega), v2 q (by omega) h3]; exact M.s2 _ _ (by omega) (by omega) (by omega)
  · rw [v1 p h2, v2 q h3 h4]; exact M.old _ _ h1 (by omega) (by omega) (by omega)
  · rw [v3 p h1 (by omega), v3 q (by omega) h3]; exact M.s1 _ _ (by omega) (by omega) (by omega)
  · rw [v4 p h1, v4 q (by omega)]; exact M.s2 _ _ (by omega) h2 h3
  · rw [v3 p h1 h2, v4 q h3]; exact M.old _ _ (by omega) (by omega) (by omega) h4
  · by_cases x1 : x < s
    · rw [v1 x x1]
      by_cases y1 : y < t
      · rw [v3 y h3 y1]; exact M.s1 x (y - (t - m)) h1 (by omega) (by omega)
      · rw [v4 y (by omega)]; exact le1 x y h1 x1 (by omega) h4
    · rw [v2 x (by omega) h2]
      by_cases y1 : y < t
      · rw [v3 y h3 y1]; exact lt2 (y - (t - m)) (m + (x - s)) (by omega) (by omega) (by omega) (by omega)
      · rw [v4 y (by omega)]; exact M.s2 _ _ (by omega) (by omega) h4
theorem z0ev {f : Int → Int → Bool} {mid : Nat} (hL : SortedIn f a mid R) (hR : SortedIn f mid e R) (hx : ∀ x y, a ≤ x → x < mid → mid ≤ y → y < e → f R[y]! R[x]! = false) : SortedIn f a e R := fun p q h1 h2 h3 => by
  by_cases p1 : p < mid
  · by_cases q1 : q < mid
    · exact hL p q h1 h2 q1
    · exact hx p q h1 p1 (by omega) h3
  · exact hR p q (by omega) h2 h3
theorem z08w {f : Int → Int → Bool} {mid : Nat} {R1 R2 : Array Int} (ham : a ≤ mid) (hme : mid ≤ e) (he : e ≤ R.size) (hx : ∀ x y, a ≤ x → x < mid → mid ≤ y → y < e → f R[y]! R[x]! = false) (p1 : PermIn a mid R R1) (s1 : SortedIn f a mid R1) (p2 : PermIn mid e R1 R2) (s2 : SortedIn f mid e R2) : PermIn a e R R2 ∧ SortedIn f a e R2 := by
  have he1 : e ≤ R1.size := by rw [p1.1]; exact he
  refine ⟨permIn_trans _ _ _ a e (permIn_mono _ _ a mid a e (Nat.le_refl _) hme he p1) (permIn_mono _ _ mid e a e ham (Nat.le_refl _) he1 p2), ?_⟩
  have eq2 : ∀ k, k < mid → R2[k]! = R1[k]! := fun k hk => p2.2.1 k (.inl hk)
  refine z0ev (s1.congr fun k h1 h2 => eq2 k h2) s2 fun x y h1 h2 h3 h4 => ?_
  have k1 := permIn_all R R1 a mid (fun v => ∀ y, mid ≤ y → y < e → f R[y]! v = false) (by omega) p1 (fun i h1 h2 y h3 h4 => hx i y h1 h2 h3 h4) x h1 h2
  have k2 := permIn_all R1 R2 mid e (fun v => f v R1[x]! = false) he1 p2 (fun y h3 h4 => by rw [p1.2.1 y (.inr h3)]; exact k1 y h3 h4) y h3 h4
  rw [eq2 x h2]; exact k2
end
end Wm
end
noncomputable section
namespace Wm
attribute [local congr] zk
attribute [local irreducible] wr
open Go.Sort (swp PermIn SortedIn SWO permIn_trans permIn_refl permIn_mono permIn_all)
theorem zrx {x y : Nat} (h : x + y ≤ 9000) : wr .i64 ((wr .u64 (wr .i64 ((x : Int) + (y : Int)))) / 2 ^ (min (Int.toNat 1) (Go.IntKind.bits .u64))) = (((x + y) / 2 : Nat) : Int) := by
  have e1 : wr .i64 ((x : Int) + (y : Int)) = ((x + y : Nat) : Int) := by rw [wr64 (by omega) (by omega)]; omega
  have e2 : wr .u64 ((x + y : Nat) : Int) = ((x + y : Nat) : Int) := zzc (by omega) (by omega)
  have e3 : (2 : Int) ^ (min (Int.toNat 1) (Go.IntKind.bits .u64)) = 2 := by decide
  rw [e1, e2, e3, wr64 (by omega) (by omega)]; omega
def shU (d : Array Int) (a : Nat) : Nat → Array Int
  | 0 => d
  | n + 1 => swp (shU d a n) (a + n) (a + n + 1)
theorem zu8 (d : Array Int) (a : Nat) : ∀ n, (shU d a n).size = d.size
  | 0 => rfl
  | n + 1 => by rw [shU, Go.Sort.swp_size, zu8 d a n]
theorem z05o {d : Array Int} {a lo hi : Nat} (hhi : hi ≤ d.size) (h1 : lo ≤ a) : ∀ n, a + n < hi → PermIn lo hi d (shU d a n)
  | 0, _ => permIn_refl _ _ _
  | n + 1, h2 => permIn_trans _ _ _ _ _ (z05o hhi h1 n (by omega)) (Go.Sort.swp_permIn _ lo hi _ _ (by omega) (by omega) (by omega) (by omega) (by rw [zu8]; exact hhi))
theorem z06s {d : Array Int} {a : Nat} : ∀ n, a + n < d.size → ∀ k, (shU d a n)[k]! = if k < a ∨ a + n < k then d[k]! else if k = a + n then d[a]! else d[k + 1]!
  | 0, _, k => by
    show d[k]! = _
    by_cases h : k = a
    · rw [if_neg (by omega), if_pos (by omega), h]
    · rw [if_pos (by omega)]
  | n + 1, h, k => by
    have ih := z06s (d := d) (a := a) n (by omega)
    rw [shU]
    by_cases k1 : k = a + n + 1
    · rw [k1, Go.Sort.swp_right _ _ _ (by rw [zu8]; omega), ih, if_neg (by omega), if_pos rfl, if_neg (by omega), if_pos (by omega)]
    by_cases k2 : k = a + n
    · rw [k2, Go.Sort.swp_left _ _ _ (by rw [zu8]; omega) (by omega), ih, if_pos (by omega), if_neg (by omega), if_neg (by omega)]
    · rw [Go.Sort.swp_other _ _ _ _ k2 k1, ih]
      by_cases c : k < a ∨ a + n < k
      · rw [if_pos c, if_pos (by omega)]
      · rw [if_neg c, if_neg k2, if_neg (by omega), if_neg (by omega)]
theorem z0d6 {d : Array Int} {a i : Nat} (h1 : a + 1 ≤ i) (h2 : i ≤ d.size) (k : Nat) : (shU d a (i - 1 - a))[k]! = rotA d a (a + 1) i k := by
  rw [z06s _ (by omega)]
  unfold rotA
  by_cases c : k < a ∨ i ≤ k
  · rw [if_pos (by omega), if_pos c]
  · rw [if_neg (by omega), if_neg c]
    by_cases c2 : k = a + (i - 1 - a)
    · rw [if_pos c2, if_neg (by omega)]; congr 1; omega
    · rw [if_neg c2, if_pos (by omega)]; congr 1; omega
def shD (d : Array Int) (m : Nat) : Nat → Array Int
  | 0 => d
  | n + 1 => swp (shD d m n) (m - n) (m - n - 1)
theorem ztv (d : Array Int) (a : Nat) : ∀ n, (shD d a n).size = d.size
  | 0 => rfl
  | n + 1 => by rw [shD, Go.Sort.swp_size, ztv d a n]
theorem z04a {d : Array Int} {m lo hi : Nat} (hhi : hi ≤ d.size) (h1 : m < hi) : ∀ n, lo + n ≤ m → PermIn lo hi d (shD d m n)
  | 0, _ => permIn_refl _ _ _
  | n + 1, h2 => permIn_trans _ _ _ _ _ (z04a hhi h1 n (by omega)) (Go.Sort.swp_permIn _ lo hi _ _ (by omega) (by omega) (by omega) (by omega) (by rw [ztv]; exact hhi))
theorem z073 {d : Array Int} {m : Nat} (hm : m < d.size) : ∀ n, n ≤ m → ∀ k, (shD d m n)[k]! = if k < m - n ∨ m < k then d[k]! else if k = m - n then d[m]! else d[k - 1]!
  | 0, _, k => by
    show d[k]! = _
    by_cases h : k = m
    · rw [if_neg (by omega), if_pos (by omega), h]
    · rw [if_pos (by omega)]
  | n + 1, h, k => by
    have ih := z073 (d := d) hm n (by omega)
    rw [shD]
    by_cases k1 : k = m - n - 1
    · rw [k1, Go.Sort.swp_right _ _ _ (by rw [ztv]; omega), ih, if_neg (by omega), if_pos rfl, if_neg (by omega), if_pos (by omega)]
    by_cases k2 : k = m - n
    · rw [k2, Go.Sort.swp_left _ _ _ (by rw [ztv]; omega) (by omega), ih, if_pos (by omega), if_neg (by omega), if_neg (by omega)]
    · rw [Go.Sort.swp_other _ _ _ _ k2 k1, ih]
      by_cases c : k < m - n ∨ m < k
      · rw [if_pos c, if_pos (by omega)]
      · rw [if_neg c, if_neg k2, if_neg (by omega), if_neg (by omega)]
theorem z0cg {d : Array Int} {m i : Nat} (h1 : i ≤ m) (h2 : m < d.size) (k : Nat) : (shD d m (m - i))[k]! = rotA d i m (m + 1) k := by
  rw [z073 h2 _ (by omega)]
  unfold rotA
  by_cases c : k < i ∨ m + 1 ≤ k
  · rw [if_pos (by omega), if_pos c]
  · rw [if_neg (by omega), if_neg c]
    by_cases c2 : k = m - (m - i)
    · rw [if_pos c2, if_pos (by omega)]; congr 1; omega
    · rw [if_neg c2, if_neg (by omega)]; congr 1; omega
section
variable {h0 h : H} {b N f : Nat} {cs : List V} {lt : Int → Int → Bool} {d : Array Int} {c : Cap}
theorem z01p {i j : Nat} (h : i < j) : i ≤ (i + j) / 2 ∧ (i + j) / 2 < j := by omega
theorem z0du {R : Type} {kk : AX × List V × H → Option R} {Q : R → Prop} (A : Sw h0 b N h d) (K : Cmp h0 b N f cs lt) (hN : N ≤ 1000) {a m e : Nat} (ha : a < N) (hme : m ≤ e) (he : e ≤ N)
    (mon : ∀ k k', m ≤ k → k ≤ k' → k' < e → lt d[k']! d[a]! = true → lt d[k]! d[a]! = true)
    (out : ∀ i, m ≤ i → i ≤ e → (∀ k, m ≤ k → k < i → lt d[k]! d[a]! = true) → (∀ k, i ≤ k → k < e → lt d[k]! d[a]! = false) → ∀ g, Sw h0 b N g d → Ev (kk (.exit 0, S.z5h (.sl b 0 N c) (.int .i64 (a : Int)) (.int .i64 (i : Int)), g)) Q) :
    Ev ((W.loop (S.z5p W) (S.z1g (.sl b 0 N c) (.int .i64 (a : Int)) (.fn f cs) (.int .i64 (m : Int)) (.int .i64 (e : Int))) h).bind kk) Q := by
  refine z0j (α := Nat × Nat) (fun q => S.z1g (.sl b 0 N c) (.int .i64 (a : Int)) (.fn f cs) (.int .i64 (q.1 : Int)) (.int .i64 (q.2 : Int)))
    (fun q h => (m ≤ q.1 ∧ q.1 ≤ q.2 ∧ q.2 ≤ e) ∧ Sw h0 b N h d ∧ (∀ k, m ≤ k → k < q.1 → lt d[k]! d[a]! = true) ∧ (∀ k, q.2 ≤ k → k < e → lt d[k]! d[a]! = false)) (fun q _ => q.2 - q.1)
    (fun z => ∃ i, (m ≤ i ∧ i ≤ e) ∧ z.1 = .exit 0 ∧ z.2.1 = S.z5h (.sl b 0 N c) (.int .i64 (a : Int)) (.int .i64 (i : Int)) ∧ Sw h0 b N z.2.2 d ∧ (∀ k, m ≤ k → k < i → lt d[k]! d[a]! = true) ∧ (∀ k, i ≤ k → k < e → lt d[k]! d[a]! = false)) (m, e) rfl ⟨⟨Nat.le_refl _, hme, Nat.le_refl _⟩, A, fun k h1 h2 => absurd h2 (Nat.not_lt.mpr h1), fun k h1 h2 => absurd h2 (Nat.not_lt.mpr h1)⟩ ?_ ?_
  rotate_left
  · rintro ⟨_, _, g⟩ ⟨i, ⟨h1, h2⟩, rfl, rfl, A, h3, h4⟩
    exact out i h1 h2 h3 h4 g A
  clear A out
  rintro ⟨i, j⟩ g ⟨⟨h1, h2, h3⟩, A, h4, h5⟩
  dsimp only at h1 h2 h3 h4 h5
  rw [S.zk2]
  by_cases hij : i < j
  · obtain ⟨q1, q2⟩ := z01p hij
    have j9 : i + j ≤ 9000 := by omega
    have hc : (i + j) / 2 < N := by omega
    have c9 : (i + j) / 2 ≤ 9000 := by omega
    have wh := zrx j9
    generalize (i + j) / 2 = q at q1 q2 hc c9 wh
    have w1 := z1o c9
    have i1 := zu (b := b) (c := c) hc
    have i2 := zu (b := b) (c := c) ha
    have l1 := A.ld hc
    have l2 := A.ld ha
    obtain ⟨n, g1, ec, hn, A1, _⟩ := A.cmp K hc ha
    cases hl : lt d[q]! d[a]! with
    | true =>
      simp only [S.z5o, z1y hij, wh, w1, i1, i2, zd, zb, l1, l2, ec, ze, hn, hl]
      clear wh w1
      exact Ev.some (.inl ⟨(q + 1, j), rfl, rfl, ⟨⟨Nat.le_succ_of_le (Nat.le_trans h1 q1), q2, h3⟩, A1, fun k r1 r2 => mon k q r1 (Nat.le_of_lt_succ r2) (Nat.lt_of_lt_of_le q2 h3) hl, h5⟩, by dsimp only; omega⟩)
    | false =>
      simp only [S.z5o, z1y hij, wh, i1, i2, zd, zb, l1, l2, ec, ze, hn, hl]
      clear wh w1
      refine Ev.some (.inl ⟨(i, q), rfl, rfl, ⟨⟨h1, q1, Nat.le_trans (Nat.le_of_lt q2) h3⟩, A1, h4, fun k r1 r2 => ?_⟩, by dsimp only; omega⟩)
      cases hk : lt d[k]! d[a]! with
      | false => rfl
      | true => rw [mon q k (Nat.le_trans h1 q1) r1 r2 hk] at hl; cases hl
  · have he' : i = j := Nat.le_antisymm h2 (Nat.le_of_not_lt hij)
    subst he'
    simp only [S.z5o, z2n hij]
    exact Ev.some (.inr ⟨by simp, i, ⟨h1, h3⟩, rfl, rfl, A, h4, h5⟩)
theorem z0dt {R : Type} {kk : AX × List V × H → Option R} {Q : R → Prop} (A : Sw h0 b N h d) (K : Cmp h0 b N f cs lt) (hN : N ≤ 1000) {a m : Nat} (hm : m < N) (ham : a ≤ m)
    (mon : ∀ k k', a ≤ k → k ≤ k' → k' < m → lt d[m]! d[k]! = true → lt d[m]! d[k']! = true)
    (out : ∀ i, a ≤ i → i ≤ m → (∀ k, a ≤ k → k < i → lt d[m]! d[k]! = false) → (∀ k, i ≤ k → k < m → lt d[m]! d[k]! = true) → ∀ g, Sw h0 b N g d → Ev (kk (.exit 4, S.z5n (.sl b 0 N c) (.int .i64 (m : Int)) (.int .i64 (i : Int)), g)) Q) :
    Ev ((W.loop (S.z5g W) (S.z1f (.sl b 0 N c) (.int .i64 (m : Int)) (.fn f cs) (.int .i64 (a : Int)) (.int .i64 (m : Int))) h).bind kk) Q := by
  refine z0j (α := Nat × Nat) (fun q => S.z1f (.sl b 0 N c) (.int .i64 (m : Int)) (.fn f cs) (.int .i64 (q.1 : Int)) (.int .i64 (q.2 : Int)))
    (fun q h => (a ≤ q.1 ∧ q.1 ≤ q.2 ∧ q.2 ≤ m) ∧ Sw h0 b N h d ∧ (∀ k, a ≤ k → k < q.1 → lt d[m]! d[k]! = false) ∧ (∀ k, q.2 ≤ k → k < m → lt d[m]! d[k]! = true)) (fun q _ => q.2 - q.1)
    (fun z => ∃ i, (a ≤ i ∧ i ≤ m) ∧ z.1 = .exit 4 ∧ z.2.1 = S.z5n (.sl b 0 N c) (.int .i64 (m : Int)) (.int .i64 (i : Int)) ∧ Sw h0 b N z.2.2 d ∧ (∀ k, a ≤ k → k < i → lt d[m]! d[k]! = false) ∧ (∀ k, i ≤ k → k < m → lt d[m]! d[k]! = true)) (a, m) rfl ⟨⟨Nat.le_refl _, ham, Nat.le_refl _⟩, A, fun k h1 h2 => absurd h2 (Nat.not_lt.mpr h1), fun k h1 h2 => absurd h2 (Nat.not_lt.mpr h1)⟩ ?_ ?_
  rotate_left
  · rintro ⟨_, _, g⟩ ⟨i, ⟨h1, h2⟩, rfl, rfl, A, h3, h4⟩
    exact out i h1 h2 h3 h4 g A
  clear A out
  rintro ⟨i, j⟩ g ⟨⟨h1, h2, h3⟩, A, h4, h5⟩
  dsimp only at h1 h2 h3 h4 h5
  rw [S.zka]
  by_cases hij : i < j
  · obtain ⟨q1, q2⟩ := z01p hij
    have j9 : i + j ≤ 9000 := by omega
    have hc : (i + j) / 2 < N := by omega
    have c9 : (i + j) / 2 ≤ 9000 := by omega
    have wh := zrx j9
    generalize (i + j) / 2 = q at q1 q2 hc c9 wh
    have w1 := z1o c9
    have i1 := zu (b := b) (c := c) hc
    have i2 := zu (b := b) (c := c) hm
    have l1 := A.ld hc
    have l2 := A.ld hm
    obtain ⟨n, g1, ec, hn, A1, _⟩ := A.cmp K hm hc
    cases hl : lt d[m]! d[q]! with
    | false =>
      simp only [S.z5q, z1y hij, wh, w1, i1, i2, zd, zb, l1, l2, ec, ze, hn, hl, Bool.not_false]
      clear wh w1
      refine Ev.some (.inl ⟨(q + 1, j), rfl, rfl, ⟨⟨Nat.le_succ_of_le (Nat.le_trans h1 q1), q2, h3⟩, A1, fun k r1 r2 => ?_, h5⟩, by dsimp only; omega⟩)
      cases hk : lt d[m]! d[k]! with
      | false => rfl
      | true => rw [mon k q r1 (Nat.le_of_lt_succ r2) (Nat.lt_of_lt_of_le q2 h3) hk] at hl; cases hl
    | true =>
      simp only [S.z5q, z1y hij, wh, i1, i2, zd, zb, l1, l2, ec, ze, hn, hl, Bool.not_true]
      clear wh w1
      exact Ev.some (.inl ⟨(i, q), rfl, rfl, ⟨⟨h1, q1, Nat.le_trans (Nat.le_of_lt q2) h3⟩, A1, h4, fun k r1 r2 => mon q k (Nat.le_trans h1 q1) r1 r2 hl⟩, by dsimp only; omega⟩)
  · have he' : i = j := Nat.le_antisymm h2 (Nat.le_of_not_lt hij)
    subst he'
    simp only [S.z5q, z2n hij]
    exact Ev.some (.inr ⟨by simp, i, ⟨h1, h3⟩, rfl, rfl, A, h4, h5⟩)
theorem z0cu {R : Type} {kk : AX × List V × H → Option R} {Q : R → Prop} (A : Sw h0 b N h d) (K : Cmp h0 b N f cs lt) (hN : N ≤ 1000) {s0 r0 p : Nat} {x1 x2 x3 x18 x19 : Int} (hsr : s0 ≤ r0) (hr : r0 ≤ N) (hp : ∀ k, s0 ≤ k → k < r0 → k ≤ p ∧ p - k < N) (hp9 : p ≤ 9000)
    (mon : ∀ k k', s0 ≤ k → k ≤ k' → k' < r0 → lt d[p - k]! d[k]! = true → lt d[p - k']! d[k']! = true)
    (out : ∀ i, s0 ≤ i → i ≤ r0 → (∀ k, s0 ≤ k → k < i → lt d[p - k]! d[k]! = false) → (∀ k, i ≤ k → k < r0 → lt d[p - k]! d[k]! = true) → ∀ g, Sw h0 b N g d → Ev (kk (.exit 8, S.z54 (.sl b 0 N c) (.int .i64 x1) (.int .i64 x2) (.int .i64 x3) (.fn f cs) (.int .i64 x18) (.int .i64 x19) (.int .i64 (i : Int)), g)) Q) :
    Ev ((W.loop (S.z80 W) (S.z1z (.sl b 0 N c) (.int .i64 x1) (.int .i64 x2) (.int .i64 x3) (.fn f cs) (.int .i64 x18) (.int .i64 x19) (.int .i64 (s0 : Int)) (.int .i64 (r0 : Int)) (.int .i64 (p : Int))) h).bind kk) Q := by
  refine z0j (α := Nat × Nat) (fun q => S.z1z (.sl b 0 N c) (.int .i64 x1) (.int .i64 x2) (.int .i64 x3) (.fn f cs) (.int .i64 x18) (.int .i64 x19) (.int .i64 (q.1 : Int)) (.int .i64 (q.2 : Int)) (.int .i64 (p : Int)))
    (fun q h => (s0 ≤ q.1 ∧ q.1 ≤ q.2 ∧ q.2 ≤ r0) ∧ Sw h0 b N h d ∧ (∀ k, s0 ≤ k → k < q.1 → lt d[p - k]! d[k]! = false) ∧ (∀ k, q.2 ≤ k → k < r0 → lt d[p - k]! d[k]! = true)) (fun q _ => q.2 - q.1)
    (fun z => ∃ i, (s0 ≤ i ∧ i ≤ r0) ∧ z.1 = .exit 8 ∧ z.2.1 = S.z54 (.sl b 0 N c) (.int .i64 x1) (.int .i64 x2) (.int .i64 x3) (.fn f cs) (.int .i64 x18) (.int .i64 x19) (.int .i64 (i : Int)) ∧ Sw h0 b N z.2.2 d ∧ (∀ k, s0 ≤ k → k < i → lt d[p - k]! d[k]! = false) ∧ (∀ k, i ≤ k → k < r0 → lt d[p - k]! d[k]! = true)) (s0, r0) rfl ⟨⟨Nat.le_refl _, hsr, Nat.le_refl _⟩, A, fun k h1 h2 => absurd h2 (Nat.not_lt.mpr h1), fun k h1 h2 => absurd h2 (Nat.not_lt.mpr h1)⟩ ?_ ?_
  rotate_left
  · rintro ⟨_, _, g⟩ ⟨i, ⟨h1, h2⟩, rfl, rfl, A, h3, h4⟩
    exact out i h1 h2 h3 h4 g A
  clear A out
  rintro ⟨i, j⟩ g ⟨⟨h1, h2, h3⟩, A, h4, h5⟩
  dsimp only at h1 h2 h3 h4 h5
  rw [S.zjj]
  by_cases hij : i < j
  · obtain ⟨q1, q2⟩ := z01p hij
    have j9 : i + j ≤ 9000 := by omega
    have hc : (i + j) / 2 < N := by omega
    have c9 : (i + j) / 2 ≤ 9000 := by omega
    have wh := zrx j9
    generalize (i + j) / 2 = q at q1 q2 hc c9 wh
    obtain ⟨p1, p2⟩ := hp q (Nat.le_trans h1 q1) (Nat.lt_of_lt_of_le q2 h3)
    have w1 := z1o c9
    have w2 := z1q p1 hp9
    have i1 := zu (b := b) (c := c) p2
    have i2 := zu (b := b) (c := c) hc
    have l1 := A.ld p2
    have l2 := A.ld hc
    obtain ⟨n, g1, ec, hn, A1, _⟩ := A.cmp K p2 hc
    cases hl : lt d[p - q]! d[q]! with
    | false =>
      simp only [S.z59, z1y hij, wh, w1, w2, i1, i2, zd, zb, l1, l2, ec, ze, hn, hl, Bool.not_false]
      clear wh w1 w2
      refine Ev.some (.inl ⟨(q + 1, j), rfl, rfl, ⟨⟨Nat.le_succ_of_le (Nat.le_trans h1 q1), q2, h3⟩, A1, fun k r1 r2 => ?_, h5⟩, by dsimp only; omega⟩)
      cases hk : lt d[p - k]! d[k]! with
      | false => rfl
      | true => rw [mon k q r1 (Nat.le_of_lt_succ r2) (Nat.lt_of_lt_of_le q2 h3) hk] at hl; cases hl
    | true =>
      simp only [S.z59, z1y hij, wh, w2, i1, i2, zd, zb, l1, l2, ec, ze, hn, hl, Bool.not_true]
      clear wh w1 w2
      exact Ev.some (.inl ⟨(i, q), rfl, rfl, ⟨⟨h1, q1, Nat.le_trans (Nat.le_of_lt q2) h3⟩, A1, h4, fun k r1 r2 => mon q k (Nat.le_trans h1 q1) r1 r2 hl⟩, by dsimp only; omega⟩)
  · have he' : i = j := Nat.le_antisymm h2 (Nat.le_of_not_lt hij)
    subst he'
    simp only [S.z59, z2n hij]
    exact Ev.some (.inr ⟨by simp, i, ⟨h1, h3⟩, rfl, rfl, A, h4, h5⟩)
theorem smUp {R : Type} {kk : AX × List V × H → Option R} {Q : R → Prop} (A : Sw h0 b N h d) (hN : N ≤ 1000) {a i : Nat} (hai : a < i) (hi : i ≤ N)
    (out : ∀ g, Sw h0 b N g (shU d a (i - 1 - a)) → Ev (kk (.exit 2, S.z5j, g)) Q) :
    Ev ((W.loop (S.z8n W) (S.z3e (.sl b 0 N c) (.int .i64 (i : Int)) (.int .i64 (a : Int))) h).bind kk) Q := by
  refine z0j (α := Nat) (fun q => S.z3e (.sl b 0 N c) (.int .i64 (i : Int)) (.int .i64 ((a + q : Nat) : Int)))
    (fun q h => q ≤ i - 1 - a ∧ Sw h0 b N h (shU d a q)) (fun q _ => i - 1 - a - q)
    (fun z => z.1 = .exit 2 ∧ z.2.1 = S.z5j ∧ Sw h0 b N z.2.2 (shU d a (i - 1 - a))) 0 rfl ⟨Nat.zero_le _, A⟩ ?_ ?_
  rotate_left
  · rintro ⟨_, _, g⟩ ⟨rfl, rfl, A⟩
    exact out g A
  clear A out
  rintro q g ⟨hq, A⟩
  rw [S.zkf]
  obtain ⟨n, hn⟩ : ∃ n, i = n + 1 := ⟨i - 1, by omega⟩
  have w0 : wr .i64 ((i : Int) - 1) = ((i - 1 : Nat) : Int) := by rw [hn]; exact z2x (i := n) (by omega)
  by_cases hqn : a + q < i - 1
  · have h1 : a + q < N := by clear w0; omega
    have h2 : a + q + 1 < N := by clear w0; omega
    have w1 := z1o (i := a + q) (by clear w0; omega)
    have i1 := zu (b := b) (c := c) h1
    have i2 := zu (b := b) (c := c) h2
    have l1 := A.ld h1
    have l2 := A.ld h2
    obtain ⟨g1, g2, s1, s2, A2, _⟩ := A.swap h1 h2
    simp only [S.z8c, w0, z1y hqn, w1, i1, i2, zd, zb, l1, l2, s1, s2]
    clear w0 w1
    exact Ev.some (.inl ⟨q + 1, rfl, rfl, ⟨by omega, A2⟩, by omega⟩)
  · have hqe : q = i - 1 - a := by clear w0; omega
    subst hqe
    simp only [S.z8c, w0, z2n hqn]
    exact Ev.some (.inr ⟨by simp, rfl, rfl, A⟩)
theorem z0e9 {R : Type} {kk : AX × List V × H → Option R} {Q : R → Prop} (A : Sw h0 b N h d) (hN : N ≤ 1000) {m i : Nat} (him : i ≤ m) (hm : m < N)
    (out : ∀ g, Sw h0 b N g (shD d m (m - i)) → Ev (kk (.exit 6, S.z5i, g)) Q) :
    Ev ((W.loop (S.z8g W) (S.z3j (.sl b 0 N c) (.int .i64 (i : Int)) (.int .i64 (m : Int))) h).bind kk) Q := by
  refine z0j (α := Nat) (fun q => S.z3j (.sl b 0 N c) (.int .i64 (i : Int)) (.int .i64 ((m - q : Nat) : Int)))
    (fun q h => q ≤ m - i ∧ Sw h0 b N h (shD d m q)) (fun q _ => m - i - q)
    (fun z => z.1 = .exit 6 ∧ z.2.1 = S.z5i ∧ Sw h0 b N z.2.2 (shD d m (m - i))) 0 rfl ⟨Nat.zero_le _, A⟩ ?_ ?_
  rotate_left
  · rintro ⟨_, _, g⟩ ⟨rfl, rfl, A⟩
    exact out g A
  clear A out
  rintro q g ⟨hq, A⟩
  rw [S.zjv]
  by_cases hqn : i < m - q
  · have h1 : m - q < N := by omega
    have h2 : m - q - 1 < N := by omega
    obtain ⟨n, hn⟩ : ∃ n, m - q = n + 1 := ⟨m - q - 1, by omega⟩
    have w0 : wr .i64 (((m - q : Nat) : Int) - 1) = ((m - q - 1 : Nat) : Int) := by rw [hn]; exact z2x (i := n) (by omega)
    have i1 := zu (b := b) (c := c) h1
    have i2 := zu (b := b) (c := c) h2
    have l1 := A.ld h1
    have l2 := A.ld h2
    obtain ⟨g1, g2, s1, s2, A2, _⟩ := A.swap h1 h2
    simp only [S.z8j, w0, z1y hqn, i1, i2, zd, zb, l1, l2, s1, s2]
    clear w0
    exact Ev.some (.inl ⟨q + 1, rfl, rfl, ⟨by omega, A2⟩, by omega⟩)
  · have hqe : q = m - i := by omega
    subst hqe
    simp only [S.z8j, z2n hqn]
    exact Ev.some (.inr ⟨by simp, rfl, rfl, A⟩)
end
open Go.Sort (swp PermIn SortedIn SWO permIn_trans permIn_refl permIn_mono permIn_all)
section
variable {h0 h : H} {b N f : Nat} {cs : List V} {lt : Int → Int → Bool} {d : Array Int} {c : Cap}
def zgj (h0 : H) (b N : Nat) (lt : Int → Int → Bool) (a e : Nat) (d : Array Int) (z : V × H) : Prop :=
  ∃ R, z.1 = .tup [] ∧ PermIn a e d R ∧ SortedIn (ltS lt) a e R ∧ Sw h0 b N z.2 R
def z005 (h0 : H) (b N : Nat) (c : Cap) (f : Nat) (cs : List V) (lt : Int → Int → Bool) (n : Nat) : Prop :=
  ∀ (a m e : Nat) (d : Array Int) (h : H), e - a < n → a < m → m < e → e ≤ N → Sw h0 b N h d → Mg lt a m e d →
    Ev (C 460 [.sl b 0 N c, .int .i64 (a : Int), .int .i64 (m : Int), .int .i64 (e : Int), .fn f cs] h) (zgj h0 b N lt a e d)
theorem Mg.none {a m e : Nat} (M : Mg lt a m e d) (h : m ≤ a ∨ e ≤ m) : SortedIn (ltS lt) a e d := by
  intro p q h1 h2 h3
  rcases h with h | h
  · exact M.s2 p q (by omega) h2 h3
  · exact M.s1 p q h1 h2 (by omega)
theorem Mg.congr {a m e : Nat} {d' : Array Int} (M : Mg lt a m e d) (h : ∀ k, a ≤ k → k < e → d'[k]! = d[k]!) (ham : a ≤ m) (hme : m ≤ e) : Mg lt a m e d' :=
  ⟨M.s1.congr fun k h1 h2 => h k h1 (by omega), M.s2.congr fun k h1 h2 => h k (by omega) h2, fun i j h1 h2 h3 h4 => by rw [h i h1 (by omega), h j (by omega) h4]; exact M.old i j h1 h2 h3 h4⟩
theorem z0eb (A : Sw h0 b N h d) {mid t e n : Nat} (ih : z005 h0 b N c f cs lt n) (hn : e - mid < n) (M : Mg lt mid t e d) (he : e ≤ N) :
    Ev (S.z35 W (.sl b 0 N c) (e : Int) (.fn f cs) (mid : Int) (t : Int) h) (zgj h0 b N lt mid e d) := by
  by_cases h1 : mid < t
  · by_cases h2 : t < e
    · obtain ⟨⟨v, g⟩, e1, R, rfl, r1, r2, A1⟩ := ih mid t e d h hn h1 h2 he A M
      simp only [S.z35, z1y h1, z1y h2, zh, e1, zd]
      exact Ev.some ⟨R, rfl, r1, r2, A1⟩
    · simp only [S.z35, z1y h1, z2n h2]
      exact Ev.some ⟨d, rfl, permIn_refl _ _ _, M.none (.inr (Nat.le_of_not_lt h2)), A⟩
  · simp only [S.z35, z2n h1]
    exact Ev.some ⟨d, rfl, permIn_refl _ _ _, M.none (.inl (Nat.le_of_not_lt h1)), A⟩
theorem z0f3 (A : Sw h0 b N h d) {a s mid t e n : Nat} (ih : z005 h0 b N c f cs lt n) (hn1 : mid - a < n) (hn : e - mid < n) (M1 : Mg lt a s mid d) (M2 : Mg lt mid t e d) (hx : ∀ x y, a ≤ x → x < mid → mid ≤ y → y < e → ltS lt d[y]! d[x]! = false) (ham : a ≤ mid) (hmt : mid ≤ t) (hte : t ≤ e) (he : e ≤ N) :
    Ev (S.z85 W (.sl b 0 N c) (a : Int) (e : Int) (.fn f cs) (mid : Int) (s : Int) (t : Int) h) (zgj h0 b N lt a e d) := by
  have hme : mid ≤ e := Nat.le_trans hmt hte
  have key : ∀ (R : Array Int) (g : H), PermIn a mid d R → SortedIn (ltS lt) a mid R → Sw h0 b N g R → Ev (S.z9d W .normal (S.z32 (.sl b 0 N c) (.int .i64 (e : Int)) (.fn f cs) (.int .i64 (mid : Int)) (.int .i64 (t : Int))) g) (zgj h0 b N lt a e d) := by
    intro R g r1 r2 A1
    rw [S.zia]
    refine (z0eb A1 ih hn (M2.congr (fun k h1 h2 => r1.2.1 k (.inr h1)) hmt hte) he).mono ?_
    rintro ⟨v, g2⟩ ⟨R2, rfl, q1, q2, A2⟩
    obtain ⟨z1, z2⟩ := z08w ham hme (by rw [A.sz]; exact he) hx r1 r2 q1 q2
    exact ⟨R2, rfl, z1, z2, A2⟩
  simp only [S.z85]
  rw [S.zjt]
  by_cases h1 : a < s
  · by_cases h2 : s < mid
    · obtain ⟨⟨v, g⟩, e1, R, rfl, r1, r2, A1⟩ := ih a s mid d h hn1 h1 h2 (Nat.le_trans hme he) A M1
      dsimp only at A1
      simp only [S.z56, z1y h1, z1y h2, zh, e1, zd]
      exact key R g r1 r2 A1
    · simp only [S.z56, z1y h1, z2n h2, zd]
      exact key d h (permIn_refl _ _ _) (M1.none (.inr (Nat.le_of_not_lt h2))) A
  · simp only [S.z56, z2n h1, zd]
    exact key d h (permIn_refl _ _ _) (M1.none (.inl (Nat.le_of_not_lt h1))) A
theorem z0ae {d : Array Int} {m t k : Nat} : rotA d m m t k = d[k]! := by
  unfold rotA
  by_cases h : k < m ∨ t ≤ k
  · rw [if_pos h]
  · rw [if_neg h, if_pos (by omega)]; congr 1; omega
theorem z09t {d : Array Int} {s m k : Nat} : rotA d s m m k = d[k]! := by
  unfold rotA
  by_cases h : k < s ∨ m ≤ k
  · rw [if_pos h]
  · rw [if_neg h, if_neg (by omega)]; congr 1; omega
theorem z0f7 (A : Sw h0 b N h d) (hlt : SWO lt) (hN : N ≤ 1000) {a m e s t mid n : Nat} (ih : z005 h0 b N c f cs lt n) (hn1 : mid - a < n) (hn : e - mid < n) (M : Mg lt a m e d) (has : a ≤ s) (hsm : s ≤ m) (hmt : m ≤ t) (hte : t ≤ e) (he : e ≤ N) (hmid : mid = s + (t - m))
    (c1 : a < s → t < e → lt d[t]! d[s - 1]! = false) (c2 : s < m → m < t → lt d[t - 1]! d[s]! = true) {x19 : Int} (ht : wr .i64 (x19 - (s : Int)) = (t : Int)) :
    Ev (S.z7e W (.sl b 0 N c) (a : Int) (m : Int) (e : Int) (.fn f cs) (mid : Int) x19 (s : Int) h) (zgj h0 b N lt a e d) := by
  have key : ∀ (R : Array Int) (g : H), PermIn s t d R → (∀ k, R[k]! = rotA d s m t k) → Sw h0 b N g R → Ev (S.z96 W .normal (S.z30 (.sl b 0 N c) (.int .i64 (a : Int)) (.int .i64 (e : Int)) (.fn f cs) (.int .i64 (mid : Int)) (.int .i64 (s : Int)) (.int .i64 (t : Int))) g) (zgj h0 b N lt a e d) := by
    intro R g r1 hR A1
    rw [S.zi1]
    obtain ⟨M1, M2, hx⟩ := z05z hlt M has hsm hmt hte c1 c2 hR
    rw [← hmid] at M1 M2 hx
    refine (z0f3 A1 ih hn1 hn M1 M2 hx (by omega) (by omega) hte he).mono ?_
    rintro ⟨v, g2⟩ ⟨R2, rfl, q1, q2, A2⟩
    exact ⟨R2, rfl, permIn_trans _ _ _ _ _ (permIn_mono _ _ s t a e has hte (by rw [A.sz]; exact he) r1) q1, q2, A2⟩
  simp only [S.z7e, ht]
  rw [S.zji]
  by_cases h1 : s < m
  · by_cases h2 : m < t
    · obtain ⟨⟨v, g⟩, e1, R, rfl, r1, r2, A1⟩ := z064 (c := c) A hN h1 h2 (Nat.le_trans hte he) (.fn f cs)
      dsimp only at A1
      simp only [S.z5c, z1y h1, z1y h2, zh, e1, zd]
      exact key R g r1 r2 A1
    · have : t = m := by omega
      subst this
      simp only [S.z5c, z1y h1, z2n h2, zd]
      exact key d h (permIn_refl _ _ _) (fun k => z09t.symm) A
  · have : s = m := by omega
    subst this
    simp only [S.z5c, z2n h1, zd]
    exact key d h (permIn_refl _ _ _) (fun k => z0ae.symm) A
theorem z0cq {a m e mid : Nat} (hmid : mid = (a + e) / 2) (h1 : a + 2 ≤ m) (h2 : m + 2 ≤ e) : a < mid ∧ mid < e ∧ mid - a < e - a ∧ e - mid < e - a ∧
    (mid < m → (e ≤ mid + m ∧ a ≤ mid + m - e ∧ mid + m - e ≤ mid ∧ mid + m - e ≤ m)) ∧ (¬ mid < m → m ≤ mid ∧ mid + m - 1 - a < e ∧ ∀ k, k < m → k ≤ mid + m - 1 ∧ m ≤ mid + m - 1 - k) := by
  refine ⟨by omega, by omega, by omega, by omega, fun h => ⟨by omega, by omega, by omega, by omega⟩, fun h => ⟨by omega, by omega, fun k hk => ⟨by omega, by omega⟩⟩⟩
theorem z04b (A : Sw h0 b N h d) (K : Cmp h0 b N f cs lt) (hlt : SWO lt) (hN : N ≤ 1000) {a m e mid s0 r0 n : Nat} (ih : z005 h0 b N c f cs lt n) (M : Mg lt a m e d) (he : e ≤ N) (hn1 : mid - a < n) (hn : e - mid < n)
    (z1 : a ≤ s0) (z2 : s0 ≤ r0) (z3 : r0 ≤ m) (z4 : ∀ k, s0 ≤ k → k < r0 → k ≤ mid + m - 1 ∧ m ≤ mid + m - 1 - k ∧ mid + m - 1 - k < e) (z5 : ∀ s, s0 ≤ s → s ≤ r0 → m ≤ mid + m - s ∧ mid + m - s ≤ e ∧ s ≤ mid) (z6 : s0 = a ∨ s0 + e = mid + m) (z7 : r0 = m ∨ r0 = mid) (z8 : 1 ≤ m) (z9 : mid + m ≤ 9000) :
    Ev (S.z7r W (.sl b 0 N c) (a : Int) (m : Int) (e : Int) (.fn f cs) (mid : Int) ((mid + m : Nat) : Int) (s0 : Int) (r0 : Int) h) (zgj h0 b N lt a e d) := by
  have hS := zxy hlt
  have hme : m ≤ e := Nat.le_trans (z5 r0 z2 (Nat.le_refl _)).1 (z5 r0 z2 (Nat.le_refl _)).2.1
  obtain ⟨p, hp⟩ : ∃ p, mid + m = p + 1 := ⟨mid + m - 1, by omega⟩
  have hp' : mid + m - 1 = p := by omega
  have w1 : wr .i64 (((mid + m : Nat) : Int) - 1) = (p : Int) := by rw [hp]; exact z2x (i := p) (by omega)
  have cross : ∀ i j, a ≤ i → i < m → m ≤ j → j < e → lt d[j]! d[i]! = ltS lt d[j]! d[i]! := fun i j h1 h2 h3 h4 => (ztj (lt := lt) (M.old i j h1 h2 h3 h4)).symm
  have ge1 : ∀ k k', a ≤ k → k ≤ k' → k' < m → ltS lt d[k']! d[k]! = false := fun k k' h1 h2 h3 => by
    rcases Nat.lt_or_eq_of_le h2 with q | q
    · exact M.s1 k k' h1 q h3
    · rw [q]; exact hS.irrefl _
  have ge2 : ∀ k k', m ≤ k → k ≤ k' → k' < e → ltS lt d[k']! d[k]! = false := fun k k' h1 h2 h3 => by
    rcases Nat.lt_or_eq_of_le h2 with q | q
    · exact M.s2 k k' h1 q h3
    · rw [q]; exact hS.irrefl _
  rw [hp'] at z4
  simp only [S.z7r, w1]
  clear w1
  refine z0cu A K hN z2 (by omega) (fun k h1 h2 => ⟨(z4 k h1 h2).1, Nat.lt_of_lt_of_le (z4 k h1 h2).2.2 he⟩) (by omega) ?_ ?_
  · intro k k' h1 h2 h3 hk
    obtain ⟨y1, y2, y3⟩ := z4 k h1 (Nat.lt_of_le_of_lt h2 h3)
    obtain ⟨x1, x2, x3⟩ := z4 k' (Nat.le_trans h1 h2) h3
    rw [cross k' (p - k') (by omega) (by omega) x2 x3]
    rw [cross k (p - k) (by omega) (by omega) y2 y3] at hk
    cases hq : ltS lt d[p - k']! d[k']! with
    | true => rfl
    | false =>
      have q1 := hS.ntrans _ _ _ hq (ge1 k k' (by omega) h2 (by omega))
      have q2 := hS.ntrans _ _ _ (ge2 (p - k') (p - k) x2 (by omega) y3) q1
      rw [hk] at q2; cases q2
  · intro s hs1 hs2 hlo hhi g A1
    show Ev (S.z9a W (.exit 8) _ _) _
    rw [S.zh9]
    obtain ⟨y1, y2, y3⟩ := z5 s hs1 hs2
    have wt : wr .i64 (((mid + m : Nat) : Int) - (s : Int)) = ((mid + m - s : Nat) : Int) := z1q (by omega) z9
    refine z0f7 A1 hlt hN ih hn1 hn M (Nat.le_trans z1 hs1) (Nat.le_trans hs2 z3) y1 y2 he (by clear wt; omega) ?_ ?_ wt
    · clear wt
      intro q1 q2
      by_cases r : s0 < s
      · have := hlo (s - 1) (by omega) (by omega)
        rw [show p - (s - 1) = mid + m - s by omega] at this
        exact this
      · exfalso; rcases z6 with z | z <;> omega
    · clear wt
      intro q1 q2
      by_cases r : s < r0
      · have := hhi s (Nat.le_refl _) r
        rw [show p - s = mid + m - s - 1 by omega] at this
        exact this
      · exfalso; rcases z7 with z | z <;> omega
theorem z051 {a m : Nat} : decide (((m - a : Nat) : Int) = 1) = decide (m - a = 1) := by rw [decide_eq_decide]; omega
theorem zr7 (K : Cmp h0 b N f cs lt) (hlt : SWO lt) (hN : N ≤ 1000) : ∀ n, z005 h0 b N c f cs lt n
  | 0 => fun a m e d h hn => absurd hn (Nat.not_lt_zero _)
  | n + 1 => by
    intro a m e d h hn ham hme he A M
    have ih := zr7 K hlt hN n
    have hS := zxy hlt
    have n9 : N ≤ 9000 := Nat.le_trans hN (by decide)
    refine z0i (af := F.zi) (by kernel_rfl) rfl ?_
    rw [S.zn0]
    have ge1 : ∀ k k', a ≤ k → k ≤ k' → k' < m → ltS lt d[k']! d[k]! = false := fun k k' h1 h2 h3 => by
      rcases Nat.lt_or_eq_of_le h2 with q | q
      · exact M.s1 k k' h1 q h3
      · rw [q]; exact hS.irrefl _
    have ge2 : ∀ k k', m ≤ k → k ≤ k' → k' < e → ltS lt d[k']! d[k]! = false := fun k k' h1 h2 h3 => by
      rcases Nat.lt_or_eq_of_le h2 with q | q
      · exact M.s2 k k' h1 q h3
      · rw [q]; exact hS.irrefl _
    have cross : ∀ i j, a ≤ i → i < m → m ≤ j → j < e → lt d[j]! d[i]! = ltS lt d[j]! d[i]! := fun i j h1 h2 h3 h4 => (ztj (lt := lt) (M.old i j h1 h2 h3 h4)).symm
    have m9 : m ≤ 9000 := by omega
    have haN : a < N := by omega
    have hmN : m < N := by omega
    by_cases c1 : m - a = 1
    · -- one on the left
      have hm1 : m = a + 1 := by omega
      have fnd : Ev ((W.loop (S.z5p W) (S.z1g (.sl b 0 N c) (.int .i64 (a : Int)) (.fn f cs) (.int .i64 (m : Int)) (.int .i64 (e : Int))) h).bind fun p0 => S.z6c W p0.1 p0.2.1 p0.2.2) (zgj h0 b N lt a e d) := by
        refine z0du A K hN haN (Nat.le_of_lt hme) he ?_ ?_
        · intro k k' h1 h2 h3 hk
          rw [cross a k' (Nat.le_refl _) ham (by omega) h3] at hk
          rw [cross a k (Nat.le_refl _) ham h1 (by omega)]
          cases hq : ltS lt d[k]! d[a]! with
          | true => rfl
          | false => rw [hS.ntrans _ _ _ (ge2 k k' h1 h2 h3) hq] at hk; cases hk
        · intro i h1 h2 h3 h4 g A1
          show Ev (S.z6c W (.exit 0) _ _) _
          rw [S.zi7]
          simp only [S.zci]
          have hiN : i ≤ N := Nat.le_trans h2 he
          refine smUp A1 hN (Nat.lt_of_lt_of_le ham h1) hiN ?_
          intro g2 A2
          show Ev (S.z9j W (.exit 2) _ _) _
          rw [S.zhr]
          have hsz : i ≤ d.size := by rw [A.sz]; exact hiN
          exact Ev.some ⟨_, rfl, z05o (by rw [A.sz]; exact he) (Nat.le_refl _) _ (by omega), z069 hlt M hm1 h1 h2 h3 h4 fun k => by rw [z0d6 (by omega) hsz, hm1], A2⟩
      have w1 := z1q (i := m) (j := a) (Nat.le_of_lt ham) m9
      obtain ⟨aI, haI⟩ : ∃ x : Int, x = (a : Int) := ⟨_, rfl⟩
      obtain ⟨mI, hmI⟩ : ∃ x : Int, x = (m : Int) := ⟨_, rfl⟩
      rw [← haI] at fnd w1 ⊢; rw [← hmI] at fnd w1 ⊢
      simp only [S.zi, w1, z051, decide_eq_true c1]
      exact fnd
    by_cases c2 : e - m = 1
    · -- one on the right
      have he1 : e = m + 1 := by omega
      have fnd : Ev ((W.loop (S.z5g W) (S.z1f (.sl b 0 N c) (.int .i64 (m : Int)) (.fn f cs) (.int .i64 (a : Int)) (.int .i64 (m : Int))) h).bind fun p0 => S.z6b W p0.1 p0.2.1 p0.2.2) (zgj h0 b N lt a e d) := by
        refine z0dt A K hN hmN (Nat.le_of_lt ham) ?_ ?_
        · intro k k' h1 h2 h3 hk
          rw [cross k m h1 (by omega) (Nat.le_refl _) hme] at hk
          rw [cross k' m (by omega) h3 (Nat.le_refl _) hme]
          cases hq : ltS lt d[m]! d[k']! with
          | true => rfl
          | false => rw [hS.ntrans _ _ _ hq (ge1 k k' h1 h2 h3)] at hk; cases hk
        · intro i h1 h2 h3 h4 g A1
          show Ev (S.z6b W (.exit 4) _ _) _
          rw [S.zhn]
          simp only [S.zch]
          refine z0e9 A1 hN h2 hmN ?_
          intro g2 A2
          show Ev (S.z9e W (.exit 6) _ _) _
          rw [S.zhj]
          have hsz : m < d.size := by rw [A.sz]; exact hmN
          exact Ev.some ⟨_, rfl, z04a (by rw [A.sz]; exact he) hme _ (by omega), z06k hlt M he1 h1 h2 h3 h4 fun k => by rw [z0cg h2 hsz, he1], A2⟩
      have w1 := z1q (i := m) (j := a) (Nat.le_of_lt ham) m9
      have w2 := z1q (i := e) (j := m) (Nat.le_of_lt hme) (Nat.le_trans he n9)
      obtain ⟨aI, haI⟩ : ∃ x : Int, x = (a : Int) := ⟨_, rfl⟩
      obtain ⟨mI, hmI⟩ : ∃ x : Int, x = (m : Int) := ⟨_, rfl⟩
      obtain ⟨eI, heI⟩ : ∃ x : Int, x = (e : Int) := ⟨_, rfl⟩
      rw [← haI] at fnd w1 ⊢; rw [← hmI] at fnd w1 w2 ⊢; rw [← heI] at w2 ⊢
      simp only [S.zi, w1, w2, z051, decide_eq_false c1, decide_eq_true c2]
      exact fnd
    -- both longer
    obtain ⟨mid, hmid⟩ : ∃ mid, mid = (a + e) / 2 := ⟨_, rfl⟩
    obtain ⟨u1, u2, u3, u4, u5, u6⟩ := z0cq hmid (show a + 2 ≤ m by omega) (show m + 2 ≤ e by omega)
    have hmm : mid + m ≤ 9000 := by omega
    have hml : 1 ≤ m := by omega
    have big : Ev ((S.z7o W (S.z7p (.sl b 0 N c) (.int .i64 (a : Int)) (.int .i64 (m : Int)) (.int .i64 (e : Int)) (.fn f cs) (.int .i64 (mid : Int)) (.int .i64 ((mid + m : Nat) : Int))) h).bind fun p0 => S.z48 W p0.1 p0.2.1 p0.2.2) (zgj h0 b N lt a e d) := by
      rw [S.zjr]
      by_cases hc : mid < m
      · obtain ⟨v1, v2, v3, v4⟩ := u5 hc
        have w3 := z1q (i := mid + m) (j := e) v1 hmm
        simp only [S.z7t, z1y hc, w3, zd]
        clear w3
        show Ev (S.z48 W .normal _ _) _
        rw [S.zbu]
        exact z04b A K hlt hN ih M he (by omega) (by omega) v2 v3 (Nat.le_of_lt hc) (fun k h1 h2 => ⟨by omega, by omega, by omega⟩) (fun s h1 h2 => ⟨by omega, by omega, h2⟩) (.inr (by omega)) (.inr rfl) hml hmm
      · obtain ⟨v1, v2, v3⟩ := u6 hc
        simp only [S.z7t, z2n hc, zd]
        show Ev (S.z48 W .normal _ _) _
        rw [S.zbu]
        exact z04b A K hlt hN ih M he (by omega) (by omega) (Nat.le_refl _) (Nat.le_of_lt ham) (Nat.le_refl _) (fun k h1 h2 => ⟨(v3 k h2).1, (v3 k h2).2, by omega⟩) (fun s h1 h2 => ⟨by omega, by omega, by omega⟩) (.inl rfl) (.inl rfl) hml hmm
    have ae9 : a + e ≤ 9000 := by omega
    have w1 := z1q (i := m) (j := a) (Nat.le_of_lt ham) m9
    have w2 := z1q (i := e) (j := m) (Nat.le_of_lt hme) (Nat.le_trans he n9)
    have w3 := zrx (x := a) (y := e) ae9
    have w4 := z9o (i := mid) (j := m) hmm
    rw [← hmid] at w3
    obtain ⟨aI, haI⟩ : ∃ x : Int, x = (a : Int) := ⟨_, rfl⟩
    obtain ⟨mI, hmI⟩ : ∃ x : Int, x = (m : Int) := ⟨_, rfl⟩
    obtain ⟨eI, heI⟩ : ∃ x : Int, x = (e : Int) := ⟨_, rfl⟩
    rw [← haI] at big w1 w3 ⊢; rw [← hmI] at big w1 w2 w4 ⊢; rw [← heI] at big w2 w3 ⊢
    simp only [S.zi, w1, w2, z051, decide_eq_false c1, decide_eq_false c2, w3, w4]
    exact big
end
open Go.Sort (swp scanSorted shiftDown shiftUp partialIns)
section
variable {h0 h : H} {b N f : Nat} {cs : List V} {lt : Int → Int → Bool} {d : Array Int} {c : Cap}
theorem z0e3 {R : Type} {kk : AX × List V × H → Option R} {Q : R → Prop} (A : Sw h0 b N h d) (K : Cmp h0 b N f cs lt) (hN : N ≤ 1000) {a e i : Nat} {x : Int} (hi1 : 1 ≤ i) (hi : i ≤ e) (he : e ≤ N)
    (out : ∀ p, i ≤ p → p ≤ e → p = scanSorted lt d e i → ∀ g, Sw h0 b N g d → Ev (kk (.exit 2, S.z17 (.sl b 0 N c) (.int .i64 (a : Int)) (.int .i64 (e : Int)) (.fn f cs) (.int .i64 (p : Int)) (.int .i64 x), g)) Q) :
    Ev ((W.loop (S.z4h W) (S.z1a (.sl b 0 N c) (.int .i64 (a : Int)) (.int .i64 (e : Int)) (.fn f cs) (.int .i64 (i : Int)) (.int .i64 x)) h).bind kk) Q := by
  refine z0j (α := Nat) (fun q => S.z1a (.sl b 0 N c) (.int .i64 (a : Int)) (.int .i64 (e : Int)) (.fn f cs) (.int .i64 (q : Int)) (.int .i64 x))
    (fun q h => (i ≤ q ∧ q ≤ e) ∧ Sw h0 b N h d ∧ scanSorted lt d e q = scanSorted lt d e i) (fun q _ => e - q)
    (fun z => ∃ q, (i ≤ q ∧ q ≤ e) ∧ z.1 = .exit 2 ∧ z.2.1 = S.z17 (.sl b 0 N c) (.int .i64 (a : Int)) (.int .i64 (e : Int)) (.fn f cs) (.int .i64 (q : Int)) (.int .i64 x) ∧ Sw h0 b N z.2.2 d ∧ q = scanSorted lt d e i) i rfl ⟨⟨Nat.le_refl _, hi⟩, A, rfl⟩ ?_ ?_
  rotate_left
  · rintro ⟨_, _, g⟩ ⟨q, ⟨hq1, hq⟩, rfl, rfl, A, hqe⟩
    exact out q hq1 hq hqe g A
  rintro q g ⟨⟨hq1, hq⟩, A, hd⟩
  rw [S.zef]
  rw [scanSorted] at hd
  by_cases hqe : q < e
  · have hqN : q < N := Nat.lt_of_lt_of_le hqe he
    obtain ⟨m, rfl⟩ : ∃ m, q = m + 1 := ⟨q - 1, by omega⟩
    have hmN : m < N := Nat.lt_of_succ_lt hqN
    have i1 := zu (b := b) (c := c) hqN
    have i2 := zu (b := b) (c := c) hmN
    have l1 := A.ld hqN
    have l2 := A.ld hmN
    have k1 := z1y hqe
    obtain ⟨n, g1, ec, hn, A1, _⟩ := A.cmp K hqN hmN
    have n9 : m + 1 ≤ 9000 := Nat.le_trans (Nat.le_of_lt hqN) (Nat.le_trans hN (by decide))
    have w1 := z2x n9
    have w2 := z1o n9
    rw [Nat.add_sub_cancel] at hd
    cases hl : lt d[m + 1]! d[m]! with
    | false =>
      rw [if_pos (by rw [hl]; simpa using hqe)] at hd
      simp only [S.z2g, k1, w1, i1, i2, zd, zb, l1, l2, ec, ze, hn, hl, w2, Bool.not_false]
      exact Ev.some (.inl ⟨m + 1 + 1, rfl, rfl, ⟨⟨Nat.le_succ_of_le hq1, hqe⟩, A1, hd⟩, Nat.sub_lt_sub_left hqe (Nat.lt_succ_self _)⟩)
    | true =>
      rw [if_neg (by rw [hl]; simp)] at hd
      simp only [S.z2g, k1, w1, i1, i2, zd, zb, l1, l2, ec, ze, hn, hl, Bool.not_true]
      exact Ev.some (.inr ⟨by simp, m + 1, ⟨hq1, hq⟩, rfl, rfl, A1, hd⟩)
  · rw [if_neg (by simpa using fun z => absurd z hqe)] at hd
    simp only [S.z2g, z2n hqe]
    exact Ev.some (.inr ⟨by simp, q, ⟨hq1, hq⟩, rfl, rfl, A, hd⟩)
theorem z0ed {R : Type} {kk : AX × List V × H → Option R} {Q : R → Prop} (A : Sw h0 b N h d) (K : Cmp h0 b N f cs lt) (hN : N ≤ 1000) {a e i j : Nat} {x : Int} (hj : j < N)
    (out : ∀ g, Sw h0 b N g (shiftDown lt j d) → Ev (kk (.exit 4, S.z19 (.sl b 0 N c) (.int .i64 (a : Int)) (.int .i64 (e : Int)) (.fn f cs) (.int .i64 (i : Int)) (.int .i64 x), g)) Q) :
    Ev ((W.loop (S.z4j W) (S.z1c (.sl b 0 N c) (.int .i64 (a : Int)) (.int .i64 (e : Int)) (.fn f cs) (.int .i64 (i : Int)) (.int .i64 x) (.int .i64 (j : Int))) h).bind kk) Q := by
  refine z0j (α := Nat × Array Int) (fun q => S.z1c (.sl b 0 N c) (.int .i64 (a : Int)) (.int .i64 (e : Int)) (.fn f cs) (.int .i64 (i : Int)) (.int .i64 x) (.int .i64 (q.1 : Int)))
    (fun q h => q.1 < N ∧ Sw h0 b N h q.2 ∧ shiftDown lt q.1 q.2 = shiftDown lt j d) (fun q _ => q.1)
    (fun z => z.1 = .exit 4 ∧ z.2.1 = S.z19 (.sl b 0 N c) (.int .i64 (a : Int)) (.int .i64 (e : Int)) (.fn f cs) (.int .i64 (i : Int)) (.int .i64 x) ∧ Sw h0 b N z.2.2 (shiftDown lt j d)) (j, d) rfl ⟨hj, A, rfl⟩ ?_ ?_
  rotate_left
  · rintro ⟨_, _, g⟩ ⟨rfl, rfl, A⟩
    exact out g A
  generalize shiftDown lt j d = D
  clear out hj A
  rintro ⟨q, d1⟩ g ⟨hq, A, hd⟩
  dsimp only at hq A hd
  rw [S.ze5]
  cases q with
  | zero =>
    rw [shiftDown] at hd
    have k1 : decide (1 ≤ ((0 : Nat) : Int)) = false := rfl
    simp only [S.z2j, k1]
    exact Ev.some (.inr ⟨by simp, rfl, rfl, hd ▸ A⟩)
  | succ m =>
    have hm : m < N := Nat.lt_of_succ_lt hq
    have k1 : decide (1 ≤ ((m + 1 : Nat) : Int)) = true := decide_eq_true (by omega)
    have w1 := z2x (i := m) (Nat.le_trans (Nat.le_of_lt hq) (Nat.le_trans hN (by decide)))
    have i1 := zu (b := b) (c := c) hq
    have i2 := zu (b := b) (c := c) hm
    have l1 := A.ld hq
    have l2 := A.ld hm
    obtain ⟨n, g1, ec, hn, A1, _⟩ := A.cmp K hq hm
    have l3 := A1.ld hq
    have l4 := A1.ld hm
    obtain ⟨g2, g3, s1, s2, A3, _⟩ := A1.swap hq hm
    rw [shiftDown] at hd
    cases hl : lt d1[m + 1]! d1[m]! with
    | true =>
      rw [if_neg (by rw [hl]; simp)] at hd
      simp only [S.z2j, k1, w1, i1, i2, zd, zb, l1, l2, ec, ze, hn, hl, Bool.not_true, l3, l4, s1, s2]
      exact Ev.some (.inl ⟨(m, _), rfl, rfl, ⟨hm, A3, hd⟩, Nat.lt_succ_self m⟩)
    | false =>
      rw [if_pos (by rw [hl]; rfl)] at hd
      simp only [S.z2j, k1, w1, i1, i2, zd, zb, l1, l2, ec, ze, hn, hl, Bool.not_false]
      exact Ev.some (.inr ⟨by simp, rfl, rfl, hd ▸ A1⟩)
theorem piUp {R : Type} {kk : AX × List V × H → Option R} {Q : R → Prop} (A : Sw h0 b N h d) (K : Cmp h0 b N f cs lt) (hN : N ≤ 1000) {a e i j : Nat} {x : Int} (hj1 : 1 ≤ j) (he : e ≤ N)
    (out : ∀ g, Sw h0 b N g (shiftUp lt e j d) → Ev (kk (.exit 6, S.z1b (.sl b 0 N c) (.int .i64 (a : Int)) (.int .i64 (e : Int)) (.fn f cs) (.int .i64 (i : Int)) (.int .i64 x), g)) Q) :
    Ev ((W.loop (S.z2i W) (S.z0l (.sl b 0 N c) (.int .i64 (a : Int)) (.int .i64 (e : Int)) (.fn f cs) (.int .i64 (i : Int)) (.int .i64 x) (.int .i64 (j : Int))) h).bind kk) Q := by
  refine z0j (α := Nat × Array Int) (fun q => S.z0l (.sl b 0 N c) (.int .i64 (a : Int)) (.int .i64 (e : Int)) (.fn f cs) (.int .i64 (i : Int)) (.int .i64 x) (.int .i64 (q.1 : Int)))
    (fun q h => 1 ≤ q.1 ∧ Sw h0 b N h q.2 ∧ shiftUp lt e q.1 q.2 = shiftUp lt e j d) (fun q _ => e - q.1)
    (fun z => z.1 = .exit 6 ∧ z.2.1 = S.z1b (.sl b 0 N c) (.int .i64 (a : Int)) (.int .i64 (e : Int)) (.fn f cs) (.int .i64 (i : Int)) (.int .i64 x) ∧ Sw h0 b N z.2.2 (shiftUp lt e j d)) (j, d) rfl ⟨hj1, A, rfl⟩ ?_ ?_
  rotate_left
  · rintro ⟨_, _, g⟩ ⟨rfl, rfl, A⟩
    exact out g A
  generalize shiftUp lt e j d = D
  clear out hj1 A
  rintro ⟨q, d1⟩ g ⟨hq1, A, hd⟩
  dsimp only at hq1 A hd
  rw [S.ze6]
  rw [shiftUp] at hd
  by_cases hqe : q < e
  · have hq : q < N := Nat.lt_of_lt_of_le hqe he
    obtain ⟨m, rfl⟩ : ∃ m, q = m + 1 := ⟨q - 1, by omega⟩
    have hm : m < N := Nat.lt_of_succ_lt hq
    have k1 := z1y hqe
    have n9 : m + 1 ≤ 9000 := Nat.le_trans (Nat.le_of_lt hq) (Nat.le_trans hN (by decide))
    have w1 := z2x n9
    have w2 := z1o n9
    have i1 := zu (b := b) (c := c) hq
    have i2 := zu (b := b) (c := c) hm
    have l1 := A.ld hq
    have l2 := A.ld hm
    obtain ⟨n, g1, ec, hn, A1, _⟩ := A.cmp K hq hm
    have l3 := A1.ld hq
    have l4 := A1.ld hm
    obtain ⟨g2, g3, s1, s2, A3, _⟩ := A1.swap hq hm
    rw [if_pos hqe, Nat.add_sub_cancel] at hd
    cases hl : lt d1[m + 1]! d1[m]! with
    | true =>
      rw [if_neg (by rw [hl]; simp)] at hd
      simp only [S.z2h, k1, w1, w2, i1, i2, zd, zb, l1, l2, ec, ze, hn, hl, Bool.not_true, l3, l4, s1, s2]
      exact Ev.some (.inl ⟨(m + 1 + 1, _), rfl, rfl, ⟨Nat.le_succ_of_le hq1, A3, hd⟩, Nat.sub_lt_sub_left hqe (Nat.lt_succ_self _)⟩)
    | false =>
      rw [if_pos (by rw [hl]; rfl)] at hd
      simp only [S.z2h, k1, w1, w2, i1, i2, zd, zb, l1, l2, ec, ze, hn, hl, Bool.not_false]
      exact Ev.some (.inr ⟨by simp, rfl, rfl, hd ▸ A1⟩)
  · rw [if_neg hqe] at hd
    simp only [S.z2h, z2n hqe]
    exact Ev.some (.inr ⟨by simp, rfl, rfl, hd ▸ A⟩)
theorem z0em {k : Nat} (hk : k ≤ 9000) : wr .i64 ((k : Int) + 1) = ((k + 1 : Nat) : Int) := z1o hk
theorem z06t {k : Nat} : decide ((k : Int) < 5) = decide (k < 5) := by rw [decide_eq_decide]; omega
theorem z03u {i a : Nat} : decide (2 ≤ ((i - a : Nat) : Int)) = decide (i - a ≥ 2) := by rw [decide_eq_decide]; omega
theorem z013 {i a : Nat} : decide (((i - a : Nat) : Int) < 50) = decide (i - a < 50) := by rw [decide_eq_decide]; omega
theorem piEq {i a : Nat} : decide ((i : Int) = (a : Int)) = decide (i = a) := by rw [decide_eq_decide]; omega
def z09v (h0 : H) (b N : Nat) (c : Cap) (f : Nat) (cs : List V) (lt : Int → Int → Bool) (a e s i k : Nat) (d : Array Int) (z : AX × List V × H) : Prop :=
  (z.1 = .ret ∧ z.2.1 = S.z05 (.bool (partialIns lt a e (s + 1) i d).2) ∧ Sw h0 b N z.2.2 (partialIns lt a e (s + 1) i d).1) ∨
  (∃ i' d', (i ≤ i' ∧ i' ≤ e) ∧ z.1 = .normal ∧ z.2.1 = S.zx (.sl b 0 N c) (.int .i64 (a : Int)) (.int .i64 (e : Int)) (.fn f cs) (.int .i64 (i' : Int)) (.int .i64 ((k + 1 : Nat) : Int)) ∧ Sw h0 b N z.2.2 d' ∧ partialIns lt a e (s + 1) i d = partialIns lt a e s i' d')
theorem z01z (A : Sw h0 b N h d) (K : Cmp h0 b N f cs lt) (hN : N ≤ 1000) {a e i k : Nat} (hk : k ≤ 100) (hie : i < e) (he : e ≤ N) {Q : AX × List V × H → Prop}
    (out : ∀ g, Sw h0 b N g (if e - i ≥ 2 then shiftUp lt e (i + 1) d else d) → Q (.normal, S.zx (.sl b 0 N c) (.int .i64 (a : Int)) (.int .i64 (e : Int)) (.fn f cs) (.int .i64 (i : Int)) (.int .i64 ((k + 1 : Nat) : Int)), g)) :
    Ev (S.z26 W (.sl b 0 N c) (a : Int) (e : Int) (.fn f cs) (i : Int) (k : Int) h) Q := by
  have n9 : N ≤ 9000 := Nat.le_trans hN (by decide)
  have w1 := z0em (k := k) (Nat.le_trans hk (by decide))
  have w2 := z1q (i := e) (j := i) (Nat.le_of_lt hie) (Nat.le_trans he n9)
  have w3 := z1o (i := i) (Nat.le_trans (Nat.le_of_lt (Nat.lt_of_lt_of_le hie he)) n9)
  by_cases h2 : e - i ≥ 2
  · rw [if_pos h2] at out
    simp only [S.z26, w2, w3, z03u, decide_eq_true h2]
    refine piUp A K hN (Nat.succ_le_succ (Nat.zero_le _)) he ?_
    intro g A
    show Ev (S.z2o W (.exit 6) _ _) _
    rw [S.zdh]
    simp only [S.z7j, w1]
    exact Ev.some (out g A)
  · rw [if_neg h2] at out
    simp only [S.z26, w2, w1, z03u, decide_eq_false h2]
    exact Ev.some (out h A)
theorem z05b (A : Sw h0 b N h d) (K : Cmp h0 b N f cs lt) (hN : N ≤ 1000) {a e i k s : Nat} (hk : k < 5) (hai : a < i) (hie : i ≤ e) (he : e ≤ N) :
    Ev (S.z2k W (.sl b 0 N c) (a : Int) (e : Int) (.fn f cs) (i : Int) (k : Int) h) (z09v h0 b N c f cs lt a e s i k d) := by
  have n9 : N ≤ 9000 := Nat.le_trans hN (by decide)
  have hk1 : k ≤ 100 := Nat.le_trans (Nat.le_of_lt hk) (by decide)
  simp only [S.z2k, z06t, decide_eq_true hk]
  refine z0e3 A K hN (Nat.lt_of_le_of_lt (Nat.zero_le _) hai) hie he ?_
  intro p hp1 hp hpe g A
  show Ev (S.z51 W (.exit 2) _ _) _
  rw [S.zdd]
  unfold z09v
  rw [partialIns]
  dsimp only
  rw [← hpe]
  clear hpe
  by_cases hpe : p = e
  · rw [if_pos hpe]
    simp only [S.z15, piEq, decide_eq_true hpe]
    exact Ev.some (.inl ⟨rfl, rfl, A⟩)
  rw [if_neg hpe]
  have hlt : p < e := Nat.lt_of_le_of_ne hp hpe
  have hap : a < p := Nat.lt_of_lt_of_le hai hp1
  have hpN : p < N := Nat.lt_of_lt_of_le hlt he
  have w0 := z1q (i := e) (j := a) (Nat.le_trans (Nat.le_of_lt hap) hp) (Nat.le_trans he n9)
  by_cases hf : e - a < 50
  · rw [if_pos hf]
    simp only [S.z15, piEq, decide_eq_false hpe, w0, z013, decide_eq_true hf]
    exact Ev.some (.inl ⟨rfl, rfl, A⟩)
  rw [if_neg hf]
  obtain ⟨m, rfl⟩ : ∃ m, p = m + 1 := ⟨p - 1, by omega⟩
  have hmN : m < N := Nat.lt_of_succ_lt hpN
  have w1 := z2x (i := m) (Nat.le_trans (Nat.le_of_lt hpN) n9)
  have w2 := z1q (i := m + 1) (j := a) (Nat.le_of_lt hap) (Nat.le_trans (Nat.le_of_lt hpN) n9)
  have i1 := zu (b := b) (c := c) hpN
  have i2 := zu (b := b) (c := c) hmN
  have l1 := A.ld hpN
  have l2 := A.ld hmN
  obtain ⟨g1, g2, s1, s2, A2, _⟩ := A.swap hpN hmN
  rw [Nat.add_sub_cancel]
  clear A
  by_cases h2 : m + 1 - a ≥ 2
  · rw [if_pos h2]
    simp only [S.z15, piEq, decide_eq_false hpe, w0, z013, decide_eq_false hf, w1, w2, i1, i2, zd, zb, l1, l2, s1, s2, z03u, decide_eq_true h2]
    refine z0ed A2 K hN hmN ?_
    intro g A
    show Ev (S.z50 W (.exit 4) _ _) _
    rw [S.zcx]
    exact z01z A K hN hk1 hlt he fun g A => .inr ⟨m + 1, _, ⟨hp1, hp⟩, rfl, rfl, A, rfl⟩
  · rw [if_neg h2]
    simp only [S.z15, piEq, decide_eq_false hpe, w0, z013, decide_eq_false hf, w1, w2, i1, i2, zd, zb, l1, l2, s1, s2, z03u, decide_eq_false h2]
    exact z01z A2 K hN hk1 hlt he fun g A => .inr ⟨m + 1, _, ⟨hp1, hp⟩, rfl, rfl, A, rfl⟩
theorem zte (A : Sw h0 b N h d) (K : Cmp h0 b N f cs lt) (hN : N ≤ 1000) {a e : Nat} (hae : a < e) (he : e ≤ N) :
    Ev (C 455 [.sl b 0 N c, .int .i64 (a : Int), .int .i64 (e : Int), .fn f cs] h) fun z => z.1 = .bool (Go.Sort.partialInsertionSort lt d a e).2 ∧ Sw h0 b N z.2 (Go.Sort.partialInsertionSort lt d a e).1 := by
  refine z0i (af := F.zl) (by kernel_rfl) rfl ?_
  rw [S.zfd]
  have n9 : N ≤ 9000 := Nat.le_trans hN (by decide)
  have w1 := z1o (i := a) (Nat.le_trans (Nat.le_of_lt (Nat.lt_of_lt_of_le hae he)) n9)
  simp only [S.zl, w1]
  unfold Go.Sort.partialInsertionSort
  refine z0j (α := Nat × Nat × Array Int) (fun q => S.zx (.sl b 0 N c) (.int .i64 (a : Int)) (.int .i64 (e : Int)) (.fn f cs) (.int .i64 (q.2.1 : Int)) (.int .i64 ((5 - q.1 : Nat) : Int)))
    (fun q h => q.1 ≤ 5 ∧ (a < q.2.1 ∧ q.2.1 ≤ e) ∧ Sw h0 b N h q.2.2 ∧ partialIns lt a e q.1 q.2.1 q.2.2 = partialIns lt a e 5 (a + 1) d) (fun q _ => q.1)
    (fun z => ((∃ v, z.1 = .exit 0 ∧ z.2.1 = S.z05 v ∧ (partialIns lt a e 5 (a + 1) d).2 = false) ∨ z.1 = .ret ∧ z.2.1 = S.z05 (.bool (partialIns lt a e 5 (a + 1) d).2)) ∧ Sw h0 b N z.2.2 (partialIns lt a e 5 (a + 1) d).1) (5, a + 1, d) rfl ⟨Nat.le_refl _, ⟨Nat.lt_succ_self a, hae⟩, A, rfl⟩ ?_ ?_
  rotate_left
  · generalize partialIns lt a e 5 (a + 1) d = D
    rintro ⟨_, _, g⟩ ⟨⟨v, rfl, rfl, hD⟩ | ⟨rfl, rfl⟩, A⟩
    · show Ev (S.z1j W (.exit 0) _ _) _
      rw [S.zd2, hD]
      exact Ev.some ⟨rfl, A⟩
    · show Ev (S.z1j W .ret _ _) _
      rw [S.zdm]
      exact Ev.some ⟨rfl, A⟩
  generalize partialIns lt a e 5 (a + 1) d = D
  clear A
  rintro ⟨s, i, d1⟩ g ⟨hs, ⟨hi1, hi⟩, A, hd⟩
  dsimp only at hs hi1 hi A hd
  rw [S.zec]
  cases s with
  | zero =>
    rw [partialIns] at hd
    subst hd
    simp only [S.z2k, z06t, Nat.sub_zero, Nat.lt_irrefl, decide_false]
    exact Ev.some (.inr ⟨by simp, .inl ⟨_, rfl, rfl, trivial⟩, A⟩)
  | succ s =>
    have hk : 5 - (s + 1) < 5 := by omega
    refine (z05b (s := s) A K hN hk hi1 hi he).mono ?_
    rintro ⟨x1, e1, g1⟩ (⟨rfl, rfl, A1⟩ | ⟨i', d', ⟨hi1', hi'⟩, rfl, rfl, A1, hp⟩)
    · rw [hd] at A1 ⊢
      exact .inr ⟨by simp, .inr ⟨rfl, rfl⟩, A1⟩
    · rw [hp] at hd
      refine .inl ⟨(s, i', d'), rfl, ?_, ⟨Nat.le_of_succ_le hs, ⟨Nat.lt_of_lt_of_le hi1 hi1', hi'⟩, A1, hd⟩, Nat.lt_succ_self s⟩
      show S.zx _ _ _ _ _ _ = S.zx _ _ _ _ _ _
      rw [show 5 - (s + 1) + 1 = 5 - s from by omega]
end
open Go.Sort (swp bitsLen PermIn)
theorem zrl {prog : Nat → Option AFunc} {meth : Nat → Nat → Option Nat} {r n f : Nat} {af : AFunc} (hf : prog f = some af) (hc : af.closed = true) {args : List V} {v : V} (ha : V.flats args = true) (hr : run prog meth r n f args .empty = some (v, .empty)) (h : H) : callW prog meth f args h = some (v, h) := by
  cases n with
  | zero => simp [run] at hr
  | succ n =>
    refine zww (r := r) (n := n + 1) ?_
    simp only [run, hf] at hr ⊢
    unfold zb2 at hr ⊢
    simp only [hc, ha] at hr ⊢
    simp only [Option.bind_eq_some_iff] at hr ⊢
    obtain ⟨p, hp, hr⟩ := hr
    refine ⟨p, hp, ?_⟩
    split at hr
    · cases hr; rfl
    · cases hr
set_option maxRecDepth 100000 in
theorem z0ay : (List.range 65).map (fun n : Nat => runF prog meth 20 6 488 [.int .i64 (n : Int)] .empty) = (List.range 65).map fun n : Nat => some (.int .u64 ((2 ^ bitsLen n : Nat) : Int), .empty) := by kernel_rfl
theorem z08y {n : Nat} (hn : n < 65) (h : H) : C 488 [.int .i64 (n : Int)] h = some (.int .u64 ((2 ^ bitsLen n : Nat) : Int), h) := by
  refine zrl (r := 20) (n := 6) (af := F.zbx) (by kernel_rfl) rfl (by rfl) ?_ h
  rw [← ztp]
  exact (List.map_inj_left.mp z0ay) n (List.mem_range.mpr hn)
set_option maxRecDepth 100000 in
theorem z0b1 : (List.range 65).map (fun n : Nat => runF prog meth 20 5 406 [.int .u64 (n : Int)] .empty) = (List.range 65).map fun n : Nat => some (.int .i64 (bitsLen n : Int), .empty) := by kernel_rfl
theorem z0ep {n : Nat} (hn : n < 65) (h : H) : C 406 [.int .u64 (n : Int)] h = some (.int .i64 (bitsLen n : Int), h) := by
  refine zrl (r := 20) (n := 5) (af := F.zkj) (by kernel_rfl) rfl (by rfl) ?_ h
  rw [← ztp]
  exact (List.map_inj_left.mp z0b1) n (List.mem_range.mpr hn)
theorem z0as (x : Int) {m : Nat} (hm : m < 2 ^ 64) : ∃ o : Nat, zzk x (m : Int) = (o : Int) ∧ o ≤ m := by
  refine ⟨_, rfl, ?_⟩
  rw [BitVec.toNat_and]
  refine Nat.le_trans Nat.and_le_right ?_
  rw [BitVec.toNat_ofInt]
  omega
section
variable {h0 h : H} {b N f : Nat} {cs : List V} {lt : Int → Int → Bool} {d : Array Int} {c : Cap}
theorem z0b3 {q : Nat} {r : Int} (ok : h.ok) (hq : h.get q = some (.cells [.int .u64 r] .rw)) :
    Ev (C 489 [.ptr q 0] h) fun z => ∃ r', z.1 = .int .u64 r' ∧ z.2 = h.put q (some (.cells [.int .u64 r'] .rw)) := by
  refine z0i (af := F.z47) (by kernel_rfl) rfl ?_
  rw [S.zro]
  have ld : ∀ {g : H} {x : Int}, g.get q = some (.cells [.int .u64 x] .rw) → ldB (g.get q) 0 = some (.int .u64 x) := fun e => by rw [e]; rfl
  have l1 := ld hq
  have st : ∀ {g : H} {x : Int} (y : Int), g.get q = some (.cells [.int .u64 x] .rw) → g.st 1 (.ptr q 0) (.int .u64 y) = some (g.put q (some (.cells [.int .u64 y] .rw))) := fun y e => zl9 (o := 0) e (by simp) (zm _ _) (by simp)
  simp only [S.z47, zj, zd, zb, l1, ze]
  generalize wr .u64 _ = x1
  generalize zqo _ x1 = y1
  have s1 := st y1 hq
  have g1 : (h.put q (some (.cells [.int .u64 y1] .rw))).get q = some (.cells [.int .u64 y1] .rw) := z0a _ _ _
  have l2 := ld g1
  simp only [s1, zd, l2, ze]
  generalize y1 / _ = x2
  generalize zqo _ x2 = y2
  have s2 := st y2 g1
  rw [z9g] at s2
  have g2 : (h.put q (some (.cells [.int .u64 y2] .rw))).get q = some (.cells [.int .u64 y2] .rw) := z0a _ _ _
  have l3 := ld g2
  simp only [s2, zd, l3, ze]
  generalize wr .u64 _ = x3
  generalize zqo _ x3 = y3
  have s3 := st y3 g2
  rw [z9g] at s3
  have g3 : (h.put q (some (.cells [.int .u64 y3] .rw))).get q = some (.cells [.int .u64 y3] .rw) := z0a _ _ _
  have l4 := ld g3
  simp only [s3, zd, l4]
  exact Ev.some ⟨y3, rfl, rfl⟩
theorem z0bs {a e N : Nat} (he : e ≤ N) (hN : N ≤ 64) (h8 : 8 ≤ e - a) : a + (e - a) / 4 * 2 - 1 + 3 ≤ e ∧ a ≤ a + (e - a) / 4 * 2 - 1 ∧ a + (e - a) / 4 * 2 - 1 + 2 = a + (e - a) / 4 * 2 + 1 ∧ a ≤ e ∧ e - a < 65 ∧ e - a ≤ 64 ∧ (e - a) / 4 ≤ 64 ∧ a + (e - a) / 4 * 2 ≤ 200 ∧ 1 ≤ a + (e - a) / 4 * 2 ∧ a + (e - a) / 4 * 2 ≤ 9000 ∧ 0 < e - a ∧ a + (e - a) / 4 * 2 - 1 ≤ e := by omega
theorem z09u {a e N P o i : Nat} (he : e ≤ N) (hN : N ≤ 64) (h8 : 8 ≤ e - a) (b1 : 1 ≤ P) (b2 : P ≤ 2 * (e - a)) (ho : o ≤ P - 1) : o < 2 * (e - a) ∧ o ≤ 200 ∧ o ≤ 9000 ∧ (e - a ≤ o → o - (e - a) < e - a) ∧ (¬ e - a ≤ o → o < e - a) := by omega
theorem z0a4 {a e N o : Nat} (he : e ≤ N) (hN : N ≤ 64) (ho : o < e - a) : a + o < N ∧ a + o ≤ 9000 ∧ a + o < e := by omega
theorem z09q {a e i : Nat} (h8 : 8 ≤ e - a) (hl : i ≤ a + (e - a) / 4 * 2 + 1) : i < e := by omega
theorem z0cw {e a P : Nat} (h : e - a ≤ 64) (b2 : P ≤ 2 * (e - a)) : P ≤ 200 ∧ P - 1 < 2 ^ 64 := by omega
theorem z028 {n : Nat} : decide (8 ≤ (n : Int)) = decide (8 ≤ n) := by rw [decide_eq_decide]; omega
theorem z0b9 {n : Nat} (hn : n ≤ 64) : wr .i64 (Int.tdiv (n : Int) 4) = ((n / 4 : Nat) : Int) := by
  have : Int.tdiv (n : Int) 4 = ((n / 4 : Nat) : Int) := rfl
  rw [this, wr64 (by omega) (by omega)]
theorem z0ch {n : Nat} (hn : n ≤ 64) : wr .i64 ((n : Int) * 2) = ((n * 2 : Nat) : Int) := by
  rw [wr64 (by omega) (by omega)]; omega
theorem z072 {n : Nat} (hn : n ≤ 64) : wr .u64 (n : Int) = (n : Int) := zzc (by omega) (by omega)
theorem z0bc {n : Nat} (h1 : 1 ≤ n) (hn : n ≤ 200) : wr .u64 ((n : Int) - 1) = ((n - 1 : Nat) : Int) := by rw [zzc (by omega) (by omega)]; omega
theorem z0ck {n : Nat} (hn : n ≤ 200) : wr .i64 (n : Int) = (n : Int) := wr64 (by omega) (by omega)
theorem z09d {n : Nat} (h1 : 1 ≤ n) (hn : n ≤ 200) : wr .i64 ((n : Int) - 1) = ((n - 1 : Nat) : Int) := by rw [wr64 (by omega) (by omega)]; omega
theorem z07t (A : Sw h0 b N h d) (hN : N ≤ 64) {a e : Nat} (hae : a ≤ e) (he : e ≤ N) (x3 : V) :
    Ev (C 452 [.sl b 0 N c, .int .i64 (a : Int), .int .i64 (e : Int), x3] h) fun z => ∃ d', z.1 = .tup [] ∧ PermIn a e d d' ∧ Sw h0 b N z.2 d' := by
  refine z0i (af := F.zo) (by kernel_rfl) rfl ?_
  rw [S.zit]
  have n9 : e ≤ 9000 := Nat.le_trans he (Nat.le_trans hN (by decide))
  by_cases h8 : 8 ≤ e - a
  rotate_left
  · have w0 := z1q (i := e) (j := a) hae n9
    have k0 : decide (8 ≤ ((e - a : Nat) : Int)) = false := z028.trans (decide_eq_false h8)
    obtain ⟨nI, hnI⟩ : ∃ x : Int, x = ((e - a : Nat) : Int) := ⟨_, rfl⟩
    obtain ⟨aI, haI⟩ : ∃ x : Int, x = (a : Int) := ⟨_, rfl⟩
    obtain ⟨eI, heI⟩ : ∃ x : Int, x = (e : Int) := ⟨_, rfl⟩
    rw [← haI, ← heI]
    rw [← haI, ← heI, ← hnI] at w0
    rw [← hnI] at k0
    simp only [S.zo, w0, k0]
    exact Ev.some ⟨d, rfl, Go.Sort.permIn_refl _ _ _, A⟩
  obtain ⟨m1, m2, m3, m4, hn, hn', m5, m6, m7, m8, m9, m10⟩ := z0bs he hN h8
  have w0 := z1q (i := e) (j := a) hae n9
  have k0 : decide (8 ≤ ((e - a : Nat) : Int)) = true := z028.trans (decide_eq_true h8)
  have wu := z072 hn'
  have wd := z0b9 hn'
  have wm := z0ch (n := (e - a) / 4) m5
  have wa := z9o (i := a) (j := (e - a) / 4 * 2) m8
  have wp := z09d (n := a + (e - a) / 4 * 2) m7 m6
  have ws := z1o (i := a + (e - a) / 4 * 2) m8
  obtain ⟨q, hq⟩ : ∃ q, q = h.next := ⟨_, rfl⟩
  have hq0 : h0.next ≤ q := hq ▸ A.fr.le
  have hqb : q ≠ b := by rw [hq]; exact fun z => absurd (A.ok.lt A.at_) (by rw [z]; exact Nat.lt_irrefl _)
  have g0 : (h.new (.cells [.int .u64 0] .rw)).get q = some (.cells [.int .u64 0] .rw) := hq ▸ zp _ _
  have A0 : Sw h0 b N (h.new (.cells [.int .u64 0] .rw)) d := A.fr0 ((Fr.refl A.ok).new _)
  have s0 : (h.new (.cells [.int .u64 0] .rw)).st 1 (.ptr q 0) (.int .u64 ((e - a : Nat) : Int)) = some ((h.new (.cells [.int .u64 0] .rw)).put q (some (.cells [.int .u64 ((e - a : Nat) : Int)] .rw))) := zl9 (o := 0) g0 (by simp) (zm _ _) (by simp)
  have A1 : Sw h0 b N ((h.new (.cells [.int .u64 0] .rw)).put q (some (.cells [.int .u64 ((e - a : Nat) : Int)] .rw))) d := A0.fr' ((Fr.refl A0.ok).put (.inl (by simp)) (A0.ok.lt g0) _) hq0 hqb
  have g1 := z0a (h.new (.cells [.int .u64 0] .rw)) q (some (.cells [.int .u64 ((e - a : Nat) : Int)] .rw))
  have p2 := z08y hn ((h.new (.cells [.int .u64 0] .rw)).put q (some (.cells [.int .u64 ((e - a : Nat) : Int)] .rw)))
  have b1 : 1 ≤ 2 ^ bitsLen (e - a) := Nat.one_le_two_pow
  have b2 : 2 ^ bitsLen (e - a) ≤ 2 * (e - a) := Go.Sort.two_pow_bitsLen_le m9
  obtain ⟨nI, hnI⟩ : ∃ x : Int, x = ((e - a : Nat) : Int) := ⟨_, rfl⟩
  obtain ⟨aI, haI⟩ : ∃ x : Int, x = (a : Int) := ⟨_, rfl⟩
  obtain ⟨eI, heI⟩ : ∃ x : Int, x = (e : Int) := ⟨_, rfl⟩
  obtain ⟨q4, hq4⟩ : ∃ x : Int, x = (((e - a) / 4 : Nat) : Int) := ⟨_, rfl⟩
  obtain ⟨q5, hq5⟩ : ∃ x : Int, x = (((e - a) / 4 * 2 : Nat) : Int) := ⟨_, rfl⟩
  obtain ⟨q6, hq6⟩ : ∃ x : Int, x = ((a + (e - a) / 4 * 2 : Nat) : Int) := ⟨_, rfl⟩
  rw [← haI, ← heI]
  rw [← haI, ← heI, ← hnI] at w0
  rw [← hnI] at k0 wu wd s0 p2 A1 g1
  rw [← hq4] at wd wm
  rw [← hq5] at wm
  rw [← haI, ← hq5, ← hq6] at wa
  rw [← hq6] at wp ws
  simp only [S.zo, w0, k0, ← hq, wu, s0, zd, zh, p2, wd, wm, wa, wp]
  subst haI heI hnI hq4 hq5 hq6
  generalize 2 ^ bitsLen (e - a) = P at b1 b2
  generalize (h.new (.cells [.int .u64 0] .rw)).put q (some (.cells [.int .u64 ((e - a : Nat) : Int)] .rw)) = g at A1 g1
  clear p2 s0 g0 A0
  refine z0j (α := Nat × Array Int) (fun z => S.z2c (.sl b 0 N c) (.int .i64 (a : Int)) (.int .i64 ((e - a : Nat) : Int)) (.ptr q 0) (.int .u64 (P : Int)) (.int .i64 (z.1 : Int)))
    (fun z g => (a ≤ z.1 ∧ z.1 ≤ e) ∧ (∃ r, g.get q = some (.cells [.int .u64 r] .rw)) ∧ Sw h0 b N g z.2 ∧ PermIn a e d z.2) (fun z _ => e - z.1)
    (fun z => z.1 = .exit 0 ∧ z.2.1 = S.z42 ∧ ∃ d', PermIn a e d d' ∧ Sw h0 b N z.2.2 d') (a + (e - a) / 4 * 2 - 1, d) rfl ⟨⟨m2, m10⟩, ⟨_, g1⟩, A1, Go.Sort.permIn_refl _ _ _⟩ ?_ ?_
  rotate_left
  · rintro ⟨_, _, g⟩ ⟨rfl, rfl, d', hp, A⟩
    show Ev (S.z7b W (.exit 0) _ _) _
    rw [S.zfz]
    exact Ev.some ⟨d', rfl, hp, A⟩
  clear A A1 g1 g
  rintro ⟨i, d1⟩ g ⟨⟨hi1, hi⟩, ⟨r, gq⟩, A, hp⟩
  dsimp only at hi1 hi A hp
  rw [S.zgl]
  simp only [S.zat]
  rw [S.zgw]
  by_cases hlast : i ≤ a + (e - a) / 4 * 2 + 1
  rotate_left
  · simp only [S.z6e, wd, wm, wa, ws, zd5 hlast, zd]
    show Ev (S.z4m W .normal _ _) _
    rw [S.z9q]
    simp only [S.z6j]
    exact Ev.some (.inr ⟨by simp, rfl, rfl, d1, hp, A⟩)
  have hie : i < e := z09q h8 hlast
  obtain ⟨P1, P2⟩ := z0cw hn' b2
  obtain ⟨⟨v1, g1⟩, e1, r', rfl, rfl⟩ := z0b3 A.ok gq
  obtain ⟨o, eo, ho⟩ := z0as r' (m := P - 1) P2
  obtain ⟨o1, o2, o3, o4, o5⟩ := z09u (i := i) he hN h8 b1 b2 ho
  have wP := z0bc b1 P1
  have wo := z0ck (n := o) o2
  simp only [S.z6e, wd, wm, wa, ws, zfn hlast, zd]
  show Ev (S.z4m W .normal _ _) _
  rw [S.z9q]
  simp only [S.z6j]
  rw [S.zgp]
  simp only [S.zaw, zh, e1, zd, ze, wP, eo, wo]
  show Ev (S.z78 W .normal _ _) _
  rw [S.zg5]
  simp only [S.zax]
  have A1 : Sw h0 b N (g.put q (some (.cells [.int .u64 r'] .rw))) d1 := A.fr' ((Fr.refl A.ok).put (.inl (by simp)) (A.ok.lt gq) _) hq0 hqb
  have g1 := z0a g q (some (.cells [.int .u64 r'] .rw))
  generalize g.put q (some (.cells [.int .u64 r'] .rw)) = g2 at A1 g1
  have key : ∀ o2 : Nat, o2 < e - a → Ev (S.z6l W (.sl b 0 N c) (a : Int) ((e - a : Nat) : Int) (.ptr q 0) (P : Int) (i : Int) (o2 : Int) g2) fun r => (∃ a' : Nat × Array Int, r.1 = .normal ∧ r.2.1 = S.z2c (.sl b 0 N c) (.int .i64 (a : Int)) (.int .i64 ((e - a : Nat) : Int)) (.ptr q 0) (.int .u64 (P : Int)) (.int .i64 (a'.1 : Int)) ∧ ((a ≤ a'.1 ∧ a'.1 ≤ e) ∧ (∃ r', r.2.2.get q = some (.cells [.int .u64 r'] .rw)) ∧ Sw h0 b N r.2.2 a'.2 ∧ PermIn a e d a'.2) ∧ e - a'.1 < e - i) ∨ (r.1 ≠ .normal ∧ (r.1 = .exit 0 ∧ r.2.1 = S.z42 ∧ ∃ d', PermIn a e d d' ∧ Sw h0 b N r.2.2 d')) := by
    intro o2 ho2
    obtain ⟨hx, hx9, hxe⟩ := z0a4 he hN ho2
    have hiN : i < N := Nat.lt_of_lt_of_le hie he
    have w3 := z9o (i := a) (j := o2) hx9
    have w4 := z1o (i := i) (Nat.le_trans hi n9)
    have i1 := zu (b := b) (c := c) hx
    have i2 := zu (b := b) (c := c) hiN
    have l1 := A1.ld hx
    have l2 := A1.ld hiN
    obtain ⟨h5, h6, s1, s2, A2, F2⟩ := A1.swap hiN hx
    have g3 := F2.get A1.ok g1 (by simpa using hqb)
    simp only [S.z6l, w3, w4, i1, i2, zd, zb, l1, l2, s1, s2]
    exact Ev.some (.inl ⟨(i + 1, _), rfl, rfl, ⟨⟨Nat.le_succ_of_le hi1, hie⟩, ⟨_, g3⟩, A2, Go.Sort.permIn_trans _ _ _ a e hp (Go.Sort.swp_permIn _ a e _ _ hi1 hie (Nat.le_add_right _ _) hxe (by rw [A1.sz]; exact he))⟩, Nat.sub_lt_sub_left hie (Nat.lt_succ_self i)⟩)
  rw [S.zgv]
  by_cases hb : e - a ≤ o
  · have w5 := z1q (i := o) (j := e - a) hb o3
    simp only [S.z6g, zfn hb, w5, zd]
    show Ev (S.z4l W .normal _ _) _
    rw [S.z9u]
    exact key _ (o4 hb)
  · simp only [S.z6g, zd5 hb, zd]
    show Ev (S.z4l W .normal _ _) _
    rw [S.z9u]
    exact key _ (o5 hb)
end
open Go.Sort (swp reverseLoop order2 median medianAdjacent)
section
variable {h0 h : H} {b N f : Nat} {cs : List V} {lt : Int → Int → Bool} {d : Array Int} {c : Cap}
theorem z04h (A : Sw h0 b N h d) (hN : N ≤ 1000) {a e : Nat} (hae : a < e) (he : e ≤ N) (x3 : V) :
    Ev (C 454 [.sl b 0 N c, .int .i64 (a : Int), .int .i64 (e : Int), x3] h) fun z => z.1 = .tup [] ∧ Sw h0 b N z.2 (Go.Sort.reverseRange d a e) := by
  refine z0i (af := F.z0c) (by kernel_rfl) rfl ?_
  rw [S.zjl]
  obtain ⟨m, rfl⟩ : ∃ m, e = m + 1 := ⟨e - 1, by omega⟩
  simp only [S.z0c, z2x (i := m) (Nat.le_trans he (Nat.le_trans hN (by decide)))]
  unfold Go.Sort.reverseRange
  rw [Nat.add_sub_cancel]
  refine z0j (α := Nat × Nat × Array Int) (fun q => S.z4d (.sl b 0 N c) (.int .i64 (q.1 : Int)) (.int .i64 (q.2.1 : Int)))
    (fun q h => q.2.1 < N ∧ Sw h0 b N h q.2.2 ∧ reverseLoop q.1 q.2.1 q.2.2 = reverseLoop a m d) (fun q _ => q.2.1)
    (fun z => z.1 = .exit 0 ∧ z.2.1 = S.z71 ∧ Sw h0 b N z.2.2 (reverseLoop a m d)) (a, m, d) rfl ⟨he, A, rfl⟩ ?_ ?_
  rotate_left
  · rintro ⟨_, _, g⟩ ⟨rfl, rfl, A⟩
    show Ev (S.z7h W (.exit 0) _ _) _
    rw [S.zg6]
    exact Ev.some ⟨rfl, A⟩
  rintro ⟨i, j, d1⟩ g ⟨hj, A, hd⟩
  dsimp only at hj A hd
  rw [S.zhd]
  rw [reverseLoop] at hd
  by_cases hij : i < j
  · rw [if_pos hij] at hd
    obtain ⟨k, rfl⟩ : ∃ k, j = k + 1 := ⟨j - 1, by omega⟩
    rw [Nat.add_sub_cancel] at hd
    have hi : i < N := Nat.lt_trans hij hj
    have k9 : k + 1 ≤ 9000 := Nat.le_trans (Nat.le_of_lt hj) (Nat.le_trans hN (by decide))
    have k1 := z1y hij
    have w1 := z1o (i := i) (Nat.le_trans (Nat.le_of_lt hij) k9)
    have w2 := z2x k9
    have i1 := zu (b := b) (c := c) hi
    have i2 := zu (b := b) (c := c) hj
    have l1 := A.ld hi
    have l2 := A.ld hj
    obtain ⟨g1, g2, s1, s2, A2, _⟩ := A.swap hi hj
    simp only [S.z77, k1, w1, w2, i1, i2, zd, zb, l1, l2, s1, s2]
    exact Ev.some (.inl ⟨(i + 1, k, _), rfl, rfl, ⟨Nat.lt_of_succ_lt hj, A2, hd⟩, Nat.lt_succ_self k⟩)
  · rw [if_neg hij] at hd
    simp only [S.z77, z2n hij]
    exact Ev.some (.inr ⟨by simp, rfl, rfl, hd ▸ A⟩)
structure Ct (h0 : H) (b q s : Nat) (h : H) : Prop where
  at_ : h.get q = some (.cells [.int .i64 (s : Int)] .rw)
  new : h0.next ≤ q
  ne : q ≠ b
theorem zso (A : Sw h0 b N h d) (K : Cmp h0 b N f cs lt) {q s : Nat} (T : Ct h0 b q s h) (hs : s ≤ 100) {i j : Nat} (hi : i < N) (hj : j < N) :
    Ev (C 512 [.sl b 0 N c, .int .i64 (i : Int), .int .i64 (j : Int), .ptr q 0, .fn f cs] h) fun z => z.1 = .tup [.int .i64 ((order2 lt d i j s).1 : Int), .int .i64 ((order2 lt d i j s).2.1 : Int)] ∧ Sw h0 b N z.2 d ∧ Ct h0 b q (order2 lt d i j s).2.2 z.2 := by
  refine z0i (af := F.z1k) (by kernel_rfl) rfl ?_
  rw [S.zos]
  have i1 := zu (b := b) (c := c) hi
  have i2 := zu (b := b) (c := c) hj
  have l1 := A.ld hi
  have l2 := A.ld hj
  obtain ⟨n, g1, ec, hn, A1, F1⟩ := A.cmp K hj hi
  have hq1 := F1.get A.ok T.at_ (by simp)
  unfold order2
  cases hl : lt d[j]! d[i]! with
  | false =>
    simp only [S.z1k, i1, i2, zd, zb, l1, l2, ec, ze, hn, hl]
    exact Ev.some ⟨rfl, A1, hq1, T.new, T.ne⟩
  | true =>
    have lq : ldB (g1.get q) 0 = some (.int .i64 (s : Int)) := by rw [hq1]; rfl
    have w1 := z1o (i := s) (Nat.le_trans hs (by decide))
    have sq := zl9 (o := 0) (v := .int .i64 ((s + 1 : Nat) : Int)) hq1 (by simp) (zm _ _) (by simp)
    have F2 : Fr [q] g1 (g1.put q (some (.cells [.int .i64 ((s + 1 : Nat) : Int)] .rw))) := (Fr.refl A1.ok).put (.inl (by simp)) (A1.ok.lt hq1) _
    have sq' : g1.st 1 (.ptr q 0) (.int .i64 ((s + 1 : Nat) : Int)) = some (g1.put q (some (.cells [.int .i64 ((s + 1 : Nat) : Int)] .rw))) := sq
    simp only [S.z1k, i1, i2, zd, zb, l1, l2, ec, ze, hn, hl, zj, lq, w1, sq']
    exact Ev.some ⟨rfl, A1.fr' F2 T.new T.ne, z0a _ _ _, T.new, T.ne⟩
theorem z024 (lt : Int → Int → Bool) (d : Array Int) {i j s N : Nat} (hi : i < N) (hj : j < N) : (order2 lt d i j s).1 < N ∧ (order2 lt d i j s).2.1 < N ∧ (order2 lt d i j s).2.2 ≤ s + 1 := by
  unfold order2
  split
  · exact ⟨hj, hi, Nat.le_refl _⟩
  · exact ⟨hi, hj, Nat.le_succ _⟩
theorem zsl (A : Sw h0 b N h d) (K : Cmp h0 b N f cs lt) {q s : Nat} (T : Ct h0 b q s h) (hs : s ≤ 90) {i j k : Nat} (hi : i < N) (hj : j < N) (hk : k < N) :
    Ev (C 491 [.sl b 0 N c, .int .i64 (i : Int), .int .i64 (j : Int), .int .i64 (k : Int), .ptr q 0, .fn f cs] h) fun z => z.1 = .int .i64 ((median lt d i j k s).1 : Int) ∧ Sw h0 b N z.2 d ∧ Ct h0 b q (median lt d i j k s).2 z.2 := by
  refine z0i (af := F.z25) (by kernel_rfl) rfl ?_
  rw [S.zoz]
  unfold median
  dsimp only
  obtain ⟨⟨v1, g1⟩, e1, rfl, A1, T1⟩ := zso (c := c) A K T (Nat.le_trans hs (by decide)) hi hj
  dsimp only at A1 T1
  obtain ⟨p1, p2, p3⟩ := z024 lt d (s := s) hi hj
  generalize order2 lt d i j s = r1 at e1 T1 p1 p2 p3 ⊢
  have s1 : r1.2.2 ≤ 91 := Nat.le_trans p3 (Nat.succ_le_succ hs)
  obtain ⟨⟨v2, g2⟩, e2, rfl, A2, T2⟩ := zso (c := c) A1 K T1 (Nat.le_trans s1 (by decide)) p2 hk
  dsimp only at A2 T2
  obtain ⟨q1, q2, q3⟩ := z024 lt d (s := r1.2.2) p2 hk
  generalize order2 lt d r1.2.1 k r1.2.2 = r2 at e2 T2 q1 q2 q3 ⊢
  have s2 : r2.2.2 ≤ 92 := Nat.le_trans q3 (Nat.succ_le_succ s1)
  obtain ⟨⟨v3, g3⟩, e3, rfl, A3, T3⟩ := zso (c := c) A2 K T2 (Nat.le_trans s2 (by decide)) p1 q1
  dsimp only at A3 T3
  simp only [S.z25, zd, zh, e1, List.getElem?_cons_zero, List.getElem?_cons_succ, e2, e3]
  exact Ev.some ⟨rfl, A3, T3⟩
theorem zgz (A : Sw h0 b N h d) (K : Cmp h0 b N f cs lt) (hN : N ≤ 1000) {q s : Nat} (T : Ct h0 b q s h) (hs : s ≤ 90) {i : Nat} (hi : 1 ≤ i) (hi' : i + 1 < N) :
    Ev (C 490 [.sl b 0 N c, .int .i64 (i : Int), .ptr q 0, .fn f cs] h) fun z => z.1 = .int .i64 ((medianAdjacent lt d i s).1 : Int) ∧ Sw h0 b N z.2 d ∧ Ct h0 b q (medianAdjacent lt d i s).2 z.2 := by
  refine z0i (af := F.z0q) (by kernel_rfl) rfl ?_
  rw [S.zhp]
  obtain ⟨m, rfl⟩ : ∃ m, i = m + 1 := ⟨i - 1, by omega⟩
  have w1 := z2x (i := m) (Nat.le_trans (Nat.le_of_lt (Nat.lt_of_succ_lt hi')) (Nat.le_trans hN (by decide)))
  have w2 := z1o (i := m + 1) (Nat.le_trans (Nat.le_of_lt (Nat.lt_of_succ_lt hi')) (Nat.le_trans hN (by decide)))
  unfold medianAdjacent
  rw [Nat.add_sub_cancel]
  obtain ⟨⟨v1, g1⟩, e1, rfl, A1, T1⟩ := zsl (c := c) A K T hs (i := m) (j := m + 1) (k := m + 1 + 1) (Nat.lt_of_succ_lt (Nat.lt_of_succ_lt hi')) (Nat.lt_of_succ_lt hi') hi'
  dsimp only at A1 T1
  simp only [S.z0q, w1, w2, zd, zh, e1]
  exact Ev.some ⟨rfl, A1, T1⟩
end
end Wm
end
