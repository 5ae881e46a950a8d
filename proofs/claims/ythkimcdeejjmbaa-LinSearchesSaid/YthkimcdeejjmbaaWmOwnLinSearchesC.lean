/- What the functions come to, and the law: of my machine. -/
import Derived.Test.YthkimcdeejjmbaaWmOwnLinSearchesB
import Derived.Test.YthkimcdeejjmbaaWmTxtLinSearchesC
import Derived.Test.YthkimcdeejjmbaaWmOwnLinSearchesA
import Derived.KernelRfl
import Derived.Test.YthkimcdeejjmbaaWmShal
import Derived.Test.YthkimcdeejjmbaaWmCore
import Derived.Test.YthkimcdeejjmbaaWmFnsLinSearches
import Derived.Test.YthkimcdeejjmbaaWmFnc
import Derived.Test.YthkimcdeejjmbaaWmProgLinSearches
import Derived.Sort.LotA
import Derived.Sort.LotC
import Derived.Sort.Lot0
import Derived.Sort.LotD3
import Derived.Test.YthkimcdeejjmbaaWmFast
import Derived.Sort.LotD1
import Derived.Sort.LotD4
import Derived.Sort.LotB
import Derived.Test.YthkimcdeejjmbaaWmTxtLinSearchesB
import Derived.Test.YthkimcdeejjmbaaWmEv
import Derived.Test.YthkimcdeejjmbaaWmTxtLinSearchesD
import Derived.Test.YthkimcdeejjmbaaWmPOp0
set_option linter.all false
noncomputable section
namespace Wm
attribute [local congr] zl
attribute [local irreducible] wr
structure Clo (g g' : H) (e n : Nat) (cs : List V) (y : V) (q : Nat) : Prop where
  fr : Fr [] g g'
  sl : ∃ c k, y = .sl q 0 n c ∧ g'.get q = some (.cells cs k) ∧ ((c = .op e ∧ k = .gr e) ∨ (c = .ex 0 ∧ n = 0 ∧ k = .rw))
  nq : g.next ≤ q
theorem zx9 {g : H} (ok : g.ok) {e bytes n : Nat} {x : V} {cs : List V} (hx : lenSl x = some n) (hs : (g.new (.cells [] .rw)).slc e x = some cs) (h1 : cs.all V.one = true) (h2 : (n + n / 2 + 1000) * bytes ≤ 281474976710656) (he : 0 < e) (hb : 0 < bytes) (hl : cs.length = n * e) :
    ∃ y g' q, (g.new (.cells [] .rw)).append e bytes (.sl g.next 0 0 (.ex 0)) x = some (y, g') ∧ Clo g g' e n cs y q := by
  have z := zuq (e := e) (o := 0) (c := .ex 0) (ze g (.cells [] .rw)) (by simp)
  cases n with
  | succ n =>
    refine ⟨_, _, _, z015 hx hs z h1 h2 he hb (Nat.succ_pos n), ((Fr.refl ok).new _).new _, ⟨_, _, rfl, ze _ _, .inl ⟨rfl, rfl⟩⟩, Nat.le_succ _⟩
  | zero =>
    have hcs : cs = [] := List.eq_nil_of_length_eq_zero (by simpa using hl)
    subst hcs
    have h3 : lenSl (.sl g.next 0 0 (.ex 0)) = some 0 := rfl
    have hst : (g.new (.cells [] .rw)).stc g.next (0 + 0 * e) [] = some ((g.new (.cells [] .rw)).put g.next (some (.cells [] .rw))) := by
      rw [Nat.zero_mul]
      rw [zpo (ze g _) (by simp) rfl (by simp)]; rfl
    have d1 : decide ((0 + 0 + (0 + 0) / 2 + 1000) * bytes ≤ 281474976710656) = true := decide_eq_true (by simpa using h2)
    have d2 : decide (0 < e) = true := decide_eq_true he
    have d3 : decide (0 < bytes) = true := decide_eq_true hb
    refine ⟨.sl g.next 0 0 (.ex 0), _, g.next, ?_, ((Fr.refl ok).new (.cells [] .rw)).put (.inr (Nat.le_refl _)) (by rw [H.next_new]; omega) _, ⟨_, _, rfl, zs _ _ _, .inr ⟨rfl, rfl, rfl⟩⟩, Nat.le_refl _⟩
    simp only [H.append, hx, hs, h3, z, d1, d2, d3, List.all_nil, Bool.and_self, Nat.add_zero, Nat.le_refl, decide_true, hst]
theorem zxs {g : H} (ok : g.ok) {b : Nat} {c : Cap} {k : Bk} {l : List Int} (hb : g.get b = some (.cells (l.map (.int .i64)) k)) (hl : l.length ≤ 100000) :
    Ev (C 287 [.sl b 0 l.length c] g) fun z => ∃ q, Clo g z.2 1 l.length (l.map (.int .i64)) z.1 q := by
  refine z1y (af := F.z26) (by kernel_rfl) rfl ?_
  rw [S.zki]
  have hs : (g.new (.cells [] .rw)).slc 1 (.sl b 0 l.length c) = some (l.map (.int .i64)) := by
    rw [z5b (((Fr.refl (L := []) ok).new (.cells [] .rw)).get ok hb (by simp)) (by simp), List.drop_zero, List.take_of_length_le (by simp)]
  obtain ⟨y, g', q, e1, Z⟩ := zx9 (bytes := 8) ok (x := .sl b 0 l.length c) rfl hs (zn3 .i64 l) (by omega) (by decide) (by decide) (by simp)
  simp only [S.z26, eqV, zay, z9, e1]
  exact Ev.some ⟨q, Z⟩
theorem zvt : ∀ {l : List Int} {m : List V}, (∀ v ∈ m, v.one = true) → (z1n l m).all V.one = true
  | [], _, _ => by unfold z1n; rfl
  | _ :: _, [], _ => rfl
  | a :: l, v :: m, h => by
    have ih := zvt (l := l) (m := m) (fun u hu => h u (List.mem_cons_of_mem _ hu))
    simp only [z1n, List.all_cons, zf, h v (List.mem_cons_self), ih, Bool.and_self]
theorem zwu {g : H} (ok : g.ok) {b n : Nat} {c : Cap} {k : Bk} {cs : List V} (hb : g.get b = some (.cells cs k)) (hl : cs.length = n * 2) (h1 : cs.all V.one = true) (hn : n ≤ 100000) :
    Ev (C 285 [.sl b 0 n c] g) fun z => ∃ q, Clo g z.2 2 n cs z.1 q := by
  refine z1y (af := F.z0c) (by kernel_rfl) rfl ?_
  rw [S.zdp]
  have hs : (g.new (.cells [] .rw)).slc 2 (.sl b 0 n c) = some cs := by
    rw [z5b (((Fr.refl (L := []) ok).new (.cells [] .rw)).get ok hb (by simp)) (by rw [hl]; omega), List.drop_zero, List.take_of_length_le (by rw [hl]; omega)]
  obtain ⟨y, g', q, e1, Z⟩ := zx9 (bytes := 32) ok (x := .sl b 0 n c) rfl hs h1 (by omega) (by decide) (by decide) hl
  simp only [S.z0c, eqV, zay, z9, e1]
  exact Ev.some ⟨q, Z⟩
theorem zr4 {g : H} {m : Nat} {es : List (V × V)} (hm : g.get m = some (.map es)) : C 286 [.map m] g = some (.map g.next, g.new (.map es)) := by
  have e : Ev (C 286 [.map m] g) fun z => z = (.map g.next, g.new (.map es)) := by
    refine z1y (af := F.z0b) (by kernel_rfl) rfl ?_
    rw [S.zdw]
    have e1 : eqV .map (.map m) .nilmap = some false := rfl
    have e2 : g.cloneM (.ifc 159 (.map m)) = some (.ifc 159 (.map g.next), g.new (.map es)) := by simp only [H.cloneM, hm]
    have e3 : zv7 159 (.ifc 159 (.map g.next)) = some (.map g.next) := rfl
    simp only [S.z0b, e1, z9, e2, e3]
    exact Ev.some rfl
  obtain ⟨z, e, rfl⟩ := e
  exact e
theorem zwv {g : H} (ok : g.ok) {p o bytes : Nat} {cs : List V} {x v : V} {l : List V} (hp : g.get p = some (.cells cs .rw)) (ho : o < cs.length) (G : Grown g.get x 1 l) (hv : v.one = true) (hl : l.length ≤ 1000000) (hb : 0 < bytes ∧ bytes ≤ 1000) :
    ∃ x' g2 g3, (g.new (.cells [v] .rw)).append 1 bytes x (.sl g.next 0 1 (.ex 1)) = some (x', g2) ∧ g2.st 1 (.ptr p o) x' = some g3 ∧ Fr (p :: x.blk) g g3 ∧ Grown g3.get x' 1 (l ++ [v]) ∧ g3.get p = some (.cells (cs.set o x') .rw) ∧ (∃ c, x'.blk = [c] ∧ g.next ≤ c) := by
  have F1 : Fr [] g (g.new (.cells [v] .rw)) := (Fr.refl ok).new _
  have hpx := G.ne hp (by simp)
  obtain ⟨x', g2, ea, F2, G2, hb2, hne⟩ := Grown.push F1.ok (G.fr ok F1 (by simp)) (nb := g.next) (new := [v]) (k := .rw) (bytes := bytes) (ze _ _) rfl (by simp [hv]) (by decide) hb hl
  have hp2 : g2.get p = some (.cells cs .rw) := F2.get F1.ok (F1.get ok hp (by simp)) hpx
  have hx1 : x'.one = true := by
    obtain ⟨rfl, _⟩ | ⟨b, n, rfl, _⟩ := G2 <;> rfl
  have s3 := zu2 (o := o) (v := x') hp2 (by simp) hx1 ho
  have F3 : Fr [p] g2 (g2.put p (some (.cells (cs.set o x') .rw))) := (Fr.refl F2.ok).put (.inl (by simp)) (F2.ok.lt hp2) _
  have hpl := ok.lt hp
  have hpx' : p ∉ x'.blk := fun q => by
    have := hb2 p q
    rw [H.next_new] at this; omega
  refine ⟨x', g2, _, ea, s3, ?_, G2.fr F2.ok F3 (fun b hb e => hpx' (by rw [List.mem_singleton] at e; exact e ▸ hb)), zs _ _ _, ?_⟩
  · have F12 : Fr (p :: x.blk) g g2 := (F1.mono (by simp)).trans F2 (fun b hb => .inl (List.mem_cons_of_mem _ hb))
    exact F12.trans F3 (fun b hb => .inl (by rw [List.mem_singleton] at hb; rw [hb]; exact List.mem_cons_self))
  · obtain ⟨rfl, _⟩ | ⟨b, n, rfl, _⟩ := G2
    · simp [V.blk] at hne
    · refine ⟨b, rfl, ?_⟩
      have := hb2 b (by simp [V.blk])
      rw [H.next_new] at this; omega
theorem zya {g : Nat → Option Blk} {x : V} {l : List V} (G : Grown g x 1 l) : ckB (some x) x = true := by
  obtain ⟨rfl, _⟩ | ⟨b, n, rfl, _⟩ := G
  · rfl
  · simp [ckB, V.beq]
theorem zo7 {g : Nat → Option Blk} {x : V} {l : List V} (G : Grown g x 1 l) : x.one = true := by
  obtain ⟨rfl, _⟩ | ⟨b, n, rfl, _⟩ := G <;> rfl
def RowC (g : Nat → Option Blk) (v : V) (b : Nat) (l : List Int) : Prop := ∃ c k, v = .sl b 0 l.length c ∧ g b = some (.cells (l.map (.int .i64)) k) ∧ k ≠ .ro ∧ (c = .op 1 ∨ ∃ n, c = .ex n ∧ l.length ≤ n)
theorem RowC.fr {g g' : H} {v : V} {b : Nat} {l : List Int} {L : List Nat} (R : RowC g.get v b l) (ok : g.ok) (F : Fr L g g') (hb : b ∉ L) : RowC g'.get v b l := by
  obtain ⟨c, k, e, h1, h2, h3⟩ := R
  exact ⟨c, k, e, F.get ok h1 hb, h2, h3⟩
theorem Clo.row {g g' : H} {y : V} {q : Nat} {l : List Int} (Z : Clo g g' 1 l.length (l.map (.int .i64)) y q) : RowC g'.get y q l := by
  obtain ⟨c, k, e, h1, h2⟩ := Z.sl
  rcases h2 with ⟨rfl, rfl⟩ | ⟨rfl, hn, rfl⟩
  · exact ⟨_, _, e, h1, by simp, .inl rfl⟩
  · exact ⟨_, _, e, h1, by simp, .inr ⟨0, rfl, by omega⟩⟩
structure CpF (k : Cfg) (h : H) (B : MdB) (r : RSt) (p bw gm i : Nat) (x6 : V) (vs : List V) (bs : List Nat) (g : H) : Prop where
  fr : Fr [] h g
  own : g.get p = some (.cells (k.cs ++ [x6, .nilsl, .sl bw 0 k.C (.op 2), .map gm]) .rw)
  wo : g.get bw = some (.cells (z1n r.Wk B.ns) (.gr 2))
  gv : g.get gm = some (.map (z44 r.Gv))
  fo : Grown g.get x6 1 vs
  fl : vs.length = i ∧ bs.length = i
  row : ∀ (j : Nat) (v : V) (b : Nat) (l : List Int), vs[j]? = some v → bs[j]? = some b → r.F[j]? = some l → RowC g.get v b l
  inc : ([bw, gm, p] ++ bs).Pairwise (· < ·)
  lo : h.next ≤ bw
  hi : ∀ y ∈ [bw, gm, p] ++ bs, y < g.next
  x6c : x6.blk = [] ∨ ∃ c, x6.blk = [c] ∧ ∀ y ∈ [bw, gm, p] ++ bs, y < c
structure CpH (k : Cfg) (h : H) (B : MdB) (r : RSt) (p bw gm : Nat) (x6 : V) (vs : List V) (bs : List Nat) (j : Nat) (x7 : V) (ms : List Nat) (g : H) : Prop where
  fr : Fr [] h g
  own : g.get p = some (.cells (k.cs ++ [x6, x7, .sl bw 0 k.C (.op 2), .map gm]) .rw)
  wo : g.get bw = some (.cells (z1n r.Wk B.ns) (.gr 2))
  gv : g.get gm = some (.map (z44 r.Gv))
  fo : Grown g.get x6 1 vs
  fl : vs.length = r.F.length ∧ bs.length = r.F.length
  row : ∀ (j : Nat) (v : V) (b : Nat) (l : List Int), vs[j]? = some v → bs[j]? = some b → r.F[j]? = some l → RowC g.get v b l
  ho : Grown g.get x7 1 (ms.map .map)
  hl : ms.length = j
  hm : ∀ (i m : Nat), ms[i]? = some m → g.get m = some (.map (z1v r.Hs i))
  inc : ([bw, gm, p] ++ bs ++ x6.blk ++ ms).Pairwise (· < ·)
  lo : h.next ≤ bw
  hi : ∀ y ∈ [bw, gm, p] ++ bs ++ x6.blk ++ ms, y < g.next
  x7c : x7.blk = [] ∨ ∃ c, x7.blk = [c] ∧ ∀ y ∈ [bw, gm, p] ++ bs ++ x6.blk ++ ms, y < c
theorem z075 {l : List Nat} {a : Nat} (h : (a :: l).Pairwise (· < ·)) : ∀ y ∈ a :: l, a ≤ y := fun y hy => by
  rcases List.mem_cons.mp hy with rfl | hy
  · exact Nat.le_refl _
  · exact Nat.le_of_lt ((List.pairwise_cons.mp h).1 y hy)
theorem zqn {l : List Nat} {q : Nat} (h : l.Pairwise (· < ·)) (hq : ∀ y ∈ l, y < q) : (l ++ [q]).Pairwise (· < ·) := by
  rw [List.pairwise_append]
  exact ⟨h, List.pairwise_singleton _ _, fun a ha b hb => by rw [List.mem_singleton] at hb; subst hb; exact hq a ha⟩
theorem z02w {k : Cfg} {h : H} {B : MdB} {r : RSt} (ok : h.ok) (M : MdAt k h.get B r) (hF : r.F.length ≤ 100000) (hL : ∀ l ∈ r.F, l.length ≤ 100000) {p bw gm i : Nat} {x6 : V} {vs : List V} {bs : List Nat} {g : H} (Z : CpF k h B r p bw gm i x6 vs bs g) (hi : i < r.F.length) (x0 : V) :
    Ev (S.z9u W x0 (.ptr p 0) B.xF (r.F.length : Nat) (i : Nat) g) fun z => ∃ x6' v b, z.1 = .normal ∧ z.2.1 = S.z6s x0 (.ptr p 0) B.xF (.int .i64 (r.F.length : Nat)) (.int .i64 (i + 1 : Nat)) ∧ CpF k h B r p bw gm (i + 1) x6' (vs ++ [v]) (bs ++ [b]) z.2.2 := by
  obtain ⟨l, hl⟩ : ∃ l, r.F[i]? = some l := ⟨_, List.getElem?_eq_getElem hi⟩
  obtain ⟨f1, f2⟩ := M.fl
  obtain ⟨v0, hv0⟩ : ∃ v, B.vs[i]? = some v := ⟨_, List.getElem?_eq_getElem (by omega)⟩
  obtain ⟨b0, hb0⟩ : ∃ v, B.bs[i]? = some v := ⟨_, List.getElem?_eq_getElem (by omega)⟩
  obtain ⟨c, kk, rfl, hcell, _⟩ := M.fr i v0 b0 l hv0 hb0 hl
  have hlen := hL l (List.mem_of_getElem? hl)
  have dk : decide ((i : Int) < (r.F.length : Int)) = true := decide_eq_true (by omega)
  have wi : wr .i64 ((i : Int) + 1) = ((i + 1 : Nat) : Int) := by rw [wr64 (by omega) (by omega)]; rfl
  obtain ⟨bx, ix, lx⟩ := (M.fo.fr ok Z.fr (by simp)).at1 hv0 rfl
  obtain ⟨⟨y, g1⟩, e1, q, C1⟩ := zxs Z.fr.ok (c := c) (Z.fr.get ok hcell (by simp)) hlen
  have F1 := C1.fr
  dsimp only at C1 F1
  have own1 := F1.get Z.fr.ok Z.own (by simp)
  have l6 : g.ld1 (.ptr p 6) = some x6 := z8a Z.own rfl (zo7 Z.fo)
  have l61 : g1.ld1 (.ptr p 6) = some x6 := z8a own1 rfl (zo7 Z.fo)
  have fo1 := Z.fo.fr Z.fr.ok F1 (by simp)
  obtain ⟨c1, k1, rfl, hq, hck⟩ := C1.sl
  obtain ⟨x6', g2, g3, ea, es, F3, fo3, own3, cc, hcc, hge⟩ := zwv (bytes := 24) F1.ok own1 (o := 6) (by simp [Cfg.cs]) fo1 (v := .sl q 0 l.length c1) rfl (by rw [Z.fl.1]; omega) (by decide)
  have hck6 := zya Z.fo
  have fl1 : fill (repl [.nilsl] 1) [] [(0, 1, .c (.sl q 0 l.length c1))] = some [.sl q 0 l.length c1] := rfl
  have l6a : ldB (g.get p) 6 = some x6 := by rw [← z8]; exact l6
  have l6b : ldB (g1.get p) 6 = some x6 := by rw [← z8]; exact l61
  simp only [S.z9u, dk, ix, z9, lx, zi, z7, Nat.zero_add, l6, zh, e1, l61, hck6, fl1, ea, es, wi]
  have hql := F1.ok.lt hq
  have inL : ∀ y ∈ [bw, gm, p] ++ bs, y ≠ p → y ∉ p :: x6.blk := fun y hy hne hm => by
    rcases List.mem_cons.mp hm with e | hm
    · exact hne e
    · rcases Z.x6c with e | ⟨c6, e, hlt⟩
      · rw [e] at hm; simp at hm
      · rw [e, List.mem_singleton] at hm
        have := hlt y hy; omega
  have hinc := Z.inc
  rw [List.cons_append, List.pairwise_cons] at hinc
  have hinc2 := hinc.2
  rw [List.cons_append, List.pairwise_cons] at hinc2
  have hinc3 := hinc2.2
  rw [List.cons_append, List.pairwise_cons] at hinc3
  have bwp : bw < p := hinc.1 p (by simp)
  have gmp : gm < p := hinc2.1 p (by simp)
  have bsp : ∀ y ∈ bs, p < y := fun y hy => hinc3.1 y (by simp [hy])
  have qp : q ≠ p := by have := C1.nq; have := Z.hi p (by simp); omega
  have qn : q ∉ p :: x6.blk := fun hm => by
    rcases List.mem_cons.mp hm with e | hm
    · exact qp e
    · have := Z.fo.lt Z.fr.ok q hm
      have := C1.nq; omega
  refine Ev.some ⟨x6', _, q, rfl, rfl, ?_, ?_, ?_, ?_, fo3, ⟨by rw [List.length_append, Z.fl.1]; rfl, by rw [List.length_append, Z.fl.2]; rfl⟩, fun j v b l' h1 h2 h3 => ?_, ?_, Z.lo, fun y hy => ?_, .inr ⟨cc, hcc, fun y hy => ?_⟩⟩
  · refine (Z.fr.trans F1 (by simp)).trans F3 (fun b hb => ?_)
    rcases List.mem_cons.mp hb with rfl | hb
    · exact .inr (by have := Z.lo; omega)
    · rcases Z.x6c with e | ⟨c6, e, hlt⟩
      · rw [e] at hb; simp at hb
      · rw [e, List.mem_singleton] at hb
        subst hb
        exact .inr (by have := hlt bw (by simp); have := Z.lo; omega)
  · exact own3
  · exact F3.get F1.ok (F1.get Z.fr.ok Z.wo (by simp)) (inL bw (by simp) (by omega))
  · exact F3.get F1.ok (F1.get Z.fr.ok Z.gv (by simp)) (inL gm (by simp) (by omega))
  · by_cases hj : j < i
    · rw [List.getElem?_append_left (by rw [Z.fl.1]; exact hj)] at h1
      rw [List.getElem?_append_left (by rw [Z.fl.2]; exact hj)] at h2
      have hbm := List.mem_of_getElem? h2
      have R := (Z.row j v b l' h1 h2 h3).fr Z.fr.ok F1 (by simp)
      refine R.fr F1.ok F3 (inL b (by simp [hbm]) (by have := bsp b hbm; omega))
    · have hlt1 := z03 h1
      rw [List.length_append, Z.fl.1] at hlt1
      have hji : j = i := by simp at hlt1; omega
      subst hji
      rw [List.getElem?_append_right (by rw [Z.fl.1]; omega), Z.fl.1] at h1
      rw [List.getElem?_append_right (by rw [Z.fl.2]; omega), Z.fl.2] at h2
      simp at h1 h2
      subst h1; subst h2
      rw [hl] at h3; cases h3
      exact C1.row.fr F1.ok F3 qn
  · rw [← List.append_assoc]
    exact zqn Z.inc fun y hy => Nat.lt_of_lt_of_le (Z.hi y hy) C1.nq
  · rw [← List.append_assoc] at hy
    rcases List.mem_append.mp hy with hy | hy
    · exact Nat.lt_of_lt_of_le (Z.hi y hy) (Nat.le_trans F1.le F3.le)
    · rw [List.mem_singleton] at hy; subst hy; exact Nat.lt_of_lt_of_le hql F3.le
  · rw [← List.append_assoc] at hy
    rcases List.mem_append.mp hy with hy | hy
    · exact Nat.lt_of_lt_of_le (Z.hi y hy) (Nat.le_trans F1.le hge)
    · rw [List.mem_singleton] at hy; subst hy; exact Nat.lt_of_lt_of_le hql hge
theorem z01q {k : Cfg} {h : H} {B : MdB} {r : RSt} (ok : h.ok) (M : MdAt k h.get B r) (hC : k.C ≤ 1000) {p bw gm j : Nat} {x6 x7 : V} {vs : List V} {bs ms : List Nat} {g : H} (Z : CpH k h B r p bw gm x6 vs bs j x7 ms g) (hj : j < k.C) :
    Ev (S.z9x W (.ptr p 0) (.sl B.bh 0 k.C (.op 1)) (k.C : Nat) (j : Nat) g) fun z => ∃ x7' m, z.1 = .normal ∧ z.2.1 = S.z6p (.ptr p 0) (.sl B.bh 0 k.C (.op 1)) (.int .i64 (k.C : Nat)) (.int .i64 (j + 1 : Nat)) ∧ CpH k h B r p bw gm x6 vs bs (j + 1) x7' (ms ++ [m]) z.2.2 := by
  have hCc : (k.C : Int) = k.c := by unfold Cfg.C at hj ⊢; omega
  obtain ⟨j', m0, hjj, hm0, ix, lx, hmap⟩ := (M.fr0 ok Z.fr).map (w := (j : Int)) (by omega) (by omega)
  have : j' = j := by omega
  subst this
  have dk : decide ((j' : Int) < (k.C : Int)) = true := decide_eq_true (by omega)
  have wi : wr .i64 ((j' : Int) + 1) = ((j' + 1 : Nat) : Int) := by rw [wr64 (by omega) (by omega)]; rfl
  have e1 := zr4 hmap
  have F1 : Fr [] g (g.new (.map (z1v r.Hs j'))) := (Fr.refl Z.fr.ok).new _
  have hq : (g.new (.map (z1v r.Hs j'))).get g.next = some (.map (z1v r.Hs j')) := ze _ _
  have hn1 : (g.new (.map (z1v r.Hs j'))).next = g.next + 1 := rfl
  generalize g.new (.map (z1v r.Hs j')) = g1 at e1 F1 hq hn1
  have own1 := F1.get Z.fr.ok Z.own (by simp)
  have l7 : g.ld1 (.ptr p 7) = some x7 := z8a Z.own rfl (zo7 Z.ho)
  have l71 : g1.ld1 (.ptr p 7) = some x7 := z8a own1 rfl (zo7 Z.ho)
  have ho1 := Z.ho.fr Z.fr.ok F1 (by simp)
  obtain ⟨x7', g2, g3, ea, es, F3, ho3, own3, cc, hcc, hge⟩ := zwv (bytes := 8) F1.ok own1 (o := 7) (by simp [Cfg.cs]) ho1 (v := .map g.next) rfl (by rw [List.length_map, Z.hl]; omega) (by decide)
  have hck7 := zya Z.ho
  have fl1 : fill (repl [.nilmap] 1) [] [(0, 1, .c (.map g.next))] = some [.map g.next] := rfl
  have lx' : g.ld1 (.ptr B.bh j') = some (.map m0) := by rw [z8]; exact lx
  simp only [S.z9x, dk, ix, z9, lx', zi, z7, Nat.zero_add, l7, zh, e1, l71, hck7, fl1, ea, es, wi]
  have inL : ∀ y ∈ [bw, gm, p] ++ bs ++ x6.blk ++ ms, y ≠ p → y ∉ p :: x7.blk := fun y hy hne hm => by
    rcases List.mem_cons.mp hm with e | hm
    · exact hne e
    · rcases Z.x7c with e | ⟨c6, e, hlt⟩
      · rw [e] at hm; simp at hm
      · rw [e, List.mem_singleton] at hm
        have := hlt y hy; omega
  have hinc := Z.inc
  rw [List.append_assoc, List.append_assoc, List.cons_append, List.pairwise_cons] at hinc
  have hinc2 := hinc.2
  rw [List.cons_append, List.pairwise_cons] at hinc2
  have hinc3 := hinc2.2
  rw [List.cons_append, List.pairwise_cons] at hinc3
  have bwp : bw < p := hinc.1 p (by simp)
  have gmp : gm < p := hinc2.1 p (by simp)
  have bsp : ∀ y, y ∈ bs ∨ y ∈ x6.blk ∨ y ∈ ms → p < y := fun y hy => hinc3.1 y (by simpa using hy)
  have qn : g.next ∉ p :: x7.blk := fun hm => by
    rcases List.mem_cons.mp hm with e | hm
    · have := Z.hi p (by simp); omega
    · have := Z.ho.lt Z.fr.ok _ hm; omega
  refine Ev.some ⟨x7', g.next, rfl, rfl, ?_, own3, F3.get F1.ok (F1.get Z.fr.ok Z.wo (by simp)) (inL bw (by simp) (by omega)), F3.get F1.ok (F1.get Z.fr.ok Z.gv (by simp)) (inL gm (by simp) (by omega)), ?_, Z.fl, fun i v b l' h1 h2 h3 => ?_, ?_, ?_, fun i m h1 => ?_, ?_, Z.lo, fun y hy => ?_, .inr ⟨cc, hcc, fun y hy => ?_⟩⟩
  · refine (Z.fr.trans F1 (by simp)).trans F3 (fun b hb => ?_)
    rcases List.mem_cons.mp hb with rfl | hb
    · exact .inr (by have := Z.lo; omega)
    · rcases Z.x7c with e | ⟨c6, e, hlt⟩
      · rw [e] at hb; simp at hb
      · rw [e, List.mem_singleton] at hb
        subst hb
        exact .inr (by have := hlt bw (by simp); have := Z.lo; omega)
  · exact (Z.fo.fr Z.fr.ok F1 (by simp)).fr F1.ok F3 (fun b hb => inL b (by simp [hb]) (by have := bsp b (.inr (.inl hb)); omega))
  · have hbm := List.mem_of_getElem? h2
    exact ((Z.row i v b l' h1 h2 h3).fr Z.fr.ok F1 (by simp)).fr F1.ok F3 (inL b (by simp [hbm]) (by have := bsp b (.inl hbm); omega))
  · rw [List.map_append]; exact ho3
  · rw [List.length_append, Z.hl]; rfl
  · by_cases hi : i < j'
    · rw [List.getElem?_append_left (by rw [Z.hl]; exact hi)] at h1
      have hbm := List.mem_of_getElem? h1
      exact F3.get F1.ok (F1.get Z.fr.ok (Z.hm i m h1) (by simp)) (inL m (by simp [hbm]) (by have := bsp m (.inr (.inr hbm)); omega))
    · have hlt1 := z03 h1
      rw [List.length_append, Z.hl] at hlt1
      have hji : i = j' := by simp at hlt1; omega
      subst hji
      rw [List.getElem?_append_right (by rw [Z.hl]; omega), Z.hl] at h1
      simp at h1
      subst h1
      exact F3.get F1.ok hq qn
  · rw [← List.append_assoc]
    exact zqn Z.inc fun y hy => Z.hi y hy
  · rw [← List.append_assoc] at hy
    rcases List.mem_append.mp hy with hy | hy
    · exact Nat.lt_of_lt_of_le (Z.hi y hy) (Nat.le_trans F1.le F3.le)
    · rw [List.mem_singleton] at hy; subst hy
      exact Nat.lt_of_lt_of_le (F1.ok.lt hq) F3.le
  · rw [← List.append_assoc] at hy
    rcases List.mem_append.mp hy with hy | hy
    · exact Nat.lt_of_lt_of_le (Z.hi y hy) (Nat.le_trans F1.le hge)
    · rw [List.mem_singleton] at hy; subst hy; omega
theorem z00n {k : Cfg} {h : H} {B : MdB} {r : RSt} (ok : h.ok) (M : MdAt k h.get B r) (hr : k.R = true) (hF : r.F.length ≤ 100000) (hL : ∀ l ∈ r.F, l.length ≤ 100000) :
    Ev (C 115 [.ptr B.b 0] h) fun z => ∃ B', z.1 = .ptr B'.b 0 ∧ Fr [] h z.2 ∧ MdAt k z.2.get B' r ∧ (∀ x ∈ B'.l, h.next ≤ x) ∧ B'.nb = B.nb := by
  refine z1y (af := F.z1r) (by kernel_rfl) rfl ?_
  rw [S.zrk]
  have hB := Cfg.R_iff.mp hr
  have hC : (k.C : Int) = k.c := by unfold Cfg.C; omega
  have hC8 := (Cfg.bounds hr).2.2.1
  have hC1 : 1 ≤ k.C := by omega
  have hC9 : k.C ≤ 1000 := by omega
  obtain ⟨w1, w2, w3⟩ := M.wl
  have hwl : (z1n r.Wk B.ns).length = k.C * 2 := by rw [zh5 (by omega), w1]
  have hw1 : (z1n r.Wk B.ns).all V.one = true := zvt fun v hv => by
    obtain ⟨i, hi, he⟩ := List.getElem_of_mem hv
    exact (M.wr i v _ (by rw [List.getElem?_eq_getElem hi, he]) (List.getElem?_eq_getElem (by omega))).one
  have lN : h.ldN 6 (.ptr B.b 0) = some (.agg (k.cs)) := by rw [zd6 M.own (by simp)]; rfl
  have l8 : h.ld1 (.ptr B.b 8) = some (.sl B.bw 0 k.C (B.cw k.C)) := z8a M.own rfl rfl
  have l9 : h.ld1 (.ptr B.b 9) = some (.map B.gm) := z8a M.own rfl rfl
  obtain ⟨⟨y, g1⟩, e1, bw, C1⟩ := zwu ok (c := B.cw k.C) M.wo hwl hw1 (by omega)
  have F1 := C1.fr
  dsimp only at C1 F1
  obtain ⟨c1, k1, rfl, hbw, hck⟩ := C1.sl
  have hc1 : c1 = .op 2 ∧ k1 = .gr 2 := by
    rcases hck with h | ⟨_, h, _⟩
    · exact h
    · omega
  obtain ⟨rfl, rfl⟩ := hc1
  have M1 := M.fr0 ok F1
  have lN1 : g1.ldN 6 (.ptr B.b 0) = some (.agg (k.cs)) := by rw [zd6 M1.own (by simp)]; rfl
  have l91 : g1.ld1 (.ptr B.b 9) = some (.map B.gm) := z8a M1.own rfl rfl
  have e2 := zr4 M1.gv
  have F2 : Fr [] g1 (g1.new (.map (z44 r.Gv))) := (Fr.refl F1.ok).new _
  have hgm : (g1.new (.map (z44 r.Gv))).get g1.next = some (.map (z44 r.Gv)) := ze _ _
  have hn2 : (g1.new (.map (z44 r.Gv))).next = g1.next + 1 := rfl
  generalize g1.new (.map (z44 r.Gv)) = g2 at e2 F2 hgm hn2
  have M2 := M1.fr0 F1.ok F2
  have lN2 : g2.ldN 6 (.ptr B.b 0) = some (.agg (k.cs)) := by rw [zd6 M2.own (by simp)]; rfl
  have ckm : ckB (some (.map B.gm)) (.map B.gm) = true := by simp [ckB, V.beq]
  have ckc : ckB (some (.agg (k.cs))) (.agg (k.cs)) = true := by simp [ckB, V.beq, V.beqs, Cfg.cs]
  have hfill : fill [(.int .i64 0), (.int .i64 0), (.int .i64 0), (.int .i64 0), (.int .i64 0), (.int .i64 0), .nilsl, .nilsl, .nilsl, .nilmap] [] [(0, 6, .c (.agg (k.cs))), (8, 1, .c (.sl bw 0 k.C (.op 2))), (9, 1, .c (.map g1.next))] = some (k.cs ++ [.nilsl, .nilsl, .sl bw 0 k.C (.op 2), .map g1.next]) := rfl
  have hbox : boxc (.agg (k.cs ++ [.nilsl, .nilsl, .sl bw 0 k.C (.op 2), .map g1.next])) = some (k.cs ++ [.nilsl, .nilsl, .sl bw 0 k.C (.op 2), .map g1.next]) := rfl
  have F3 : Fr [] g2 (g2.new (.cells (k.cs ++ [.nilsl, .nilsl, .sl bw 0 k.C (.op 2), .map g1.next]) .rw)) := (Fr.refl F2.ok).new _
  have hp : (g2.new (.cells (k.cs ++ [.nilsl, .nilsl, .sl bw 0 k.C (.op 2), .map g1.next]) .rw)).get g2.next = some (.cells (k.cs ++ [.nilsl, .nilsl, .sl bw 0 k.C (.op 2), .map g1.next]) .rw) := ze _ _
  have hn3 : (g2.new (.cells (k.cs ++ [.nilsl, .nilsl, .sl bw 0 k.C (.op 2), .map g1.next]) .rw)).next = g2.next + 1 := rfl
  obtain ⟨g3, hg3⟩ : ∃ g3, g3 = g2.new (.cells (k.cs ++ [.nilsl, .nilsl, .sl bw 0 k.C (.op 2), .map g1.next]) .rw) := ⟨_, rfl⟩
  rw [← hg3] at F3 hp hn3
  have M3 := M2.fr0 F2.ok F3
  have l63 : g3.ld1 (.ptr B.b 6) = some B.xF := z8a M3.own rfl M.fo.slv.one
  have hlF : lenSl B.xF = some r.F.length := M.rows.len
  have hbwn := F1.ok.lt hbw
  have Z0 : CpF k h B r g2.next bw g1.next 0 .nilsl [] [] g3 := ⟨(F1.trans F2 (by simp)).trans F3 (by simp), hp, F3.get F2.ok (F2.get F1.ok hbw (by simp)) (by simp), F3.get F2.ok hgm (by simp), Grown.nil _ _, ⟨rfl, rfl⟩, fun j v b l h1 => by simp at h1, by
      simp only [List.append_nil, List.pairwise_cons, List.mem_cons, List.not_mem_nil, or_false, forall_eq_or_imp, forall_eq, List.Pairwise.nil, and_true]
      refine ⟨⟨hbwn, by omega⟩, by omega, by simp⟩, C1.nq, fun y hy => by
      simp only [List.append_nil, List.mem_cons, List.not_mem_nil, or_false] at hy
      rcases hy with rfl | rfl | rfl <;> omega, .inl rfl⟩
  have hbl : eqV .ptr (.ptr B.b 0) .nilp = some false := rfl
  simp only [S.z1r, hbl, z9, zi, z7, Nat.zero_add, lN, l8, l9, zh, e1, l91, ckm, lN1, ckc, e2, lN2, hfill, hbox, ← hg3, l63, hlF]
  generalize g2.next = p at Z0 hp
  generalize g1.next = gm at Z0 hp
  refine z32 (α := Nat × V × List V × List Nat) (fun y => S.z6s (.ptr B.b 0) (.ptr p 0) B.xF (.int .i64 (r.F.length : Nat)) (.int .i64 (y.1 : Nat)))
    (fun y g => y.1 ≤ r.F.length ∧ CpF k h B r p bw gm y.1 y.2.1 y.2.2.1 y.2.2.2 g) (fun y _ => r.F.length - y.1)
    (fun z => ∃ x6 vs bs, z.1 = .exit 0 ∧ z.2.1 = S.zcr (.ptr B.b 0) (.ptr p 0) ∧ CpF k h B r p bw gm r.F.length x6 vs bs z.2.2) (0, .nilsl, [], []) rfl ⟨Nat.zero_le _, Z0⟩ ?_ ?_
  · rintro ⟨i, x6, vs, bs⟩ g ⟨hi, Z⟩
    dsimp only at hi Z
    rw [S.zop]
    by_cases hil : i < r.F.length
    · refine (z02w ok M hF hL Z hil _).mono ?_
      rintro ⟨_, _, g'⟩ ⟨x6', v, b, rfl, rfl, Z'⟩
      exact .inl ⟨(i + 1, x6', vs ++ [v], bs ++ [b]), rfl, rfl, ⟨hil, Z'⟩, Nat.sub_lt_sub_left hil (Nat.lt_succ_self i)⟩
    · have hie : i = r.F.length := Nat.le_antisymm hi (Nat.le_of_not_lt hil)
      subst hie
      have dk : decide ((r.F.length : Int) < (r.F.length : Int)) = false := decide_eq_false (Int.lt_irrefl _)
      simp only [S.z9u, dk]
      exact Ev.some (.inr ⟨by simp, x6, vs, bs, rfl, rfl, Z⟩)
  clear Z0 hp
  rintro ⟨_, _, g4⟩ ⟨x6, vs, bs, rfl, rfl, Z⟩
  dsimp only at Z
  show Ev (S.zec W (.exit 0) _ _) _
  rw [S.zlo]
  have M4 := M.fr0 ok Z.fr
  have l74 : g4.ld1 (.ptr B.b 7) = some (.sl B.bh 0 k.C (.op 1)) := z8a M4.own rfl rfl
  simp only [S.zfi, zi, z9, z7, Nat.zero_add, l74, z47]
  have Z1 : CpH k h B r p bw gm x6 vs bs 0 .nilsl [] g4 := by
    refine ⟨Z.fr, Z.own, Z.wo, Z.gv, Z.fo, Z.fl, Z.row, Grown.nil _ _, rfl, fun i m h1 => by simp at h1, ?_, Z.lo, fun y hy => ?_, .inl rfl⟩
    · rw [List.append_nil]
      rcases Z.x6c with e | ⟨c6, e, hlt⟩
      · rw [e, List.append_nil]; exact Z.inc
      · rw [e]; exact zqn Z.inc hlt
    · rw [List.append_nil] at hy
      rcases List.mem_append.mp hy with hy | hy
      · exact Z.hi y hy
      · exact Z.fo.lt Z.fr.ok y hy
  refine z32 (α := Nat × V × List Nat) (fun y => S.z6p (.ptr p 0) (.sl B.bh 0 k.C (.op 1)) (.int .i64 (k.C : Nat)) (.int .i64 (y.1 : Nat)))
    (fun y g => y.1 ≤ k.C ∧ CpH k h B r p bw gm x6 vs bs y.1 y.2.1 y.2.2 g) (fun y _ => k.C - y.1)
    (fun z => ∃ x7 ms, z.1 = .exit 2 ∧ z.2.1 = S.zd8 (.ptr p 0) ∧ CpH k h B r p bw gm x6 vs bs k.C x7 ms z.2.2) (0, .nilsl, []) rfl ⟨Nat.zero_le _, Z1⟩ ?_ ?_
  · rintro ⟨j, x7, ms⟩ g ⟨hj, Z⟩
    dsimp only at hj Z
    rw [S.zoh]
    by_cases hjl : j < k.C
    · refine (z01q ok M hC9 Z hjl).mono ?_
      rintro ⟨_, _, g'⟩ ⟨x7', m, rfl, rfl, Z'⟩
      exact .inl ⟨(j + 1, x7', ms ++ [m]), rfl, rfl, ⟨hjl, Z'⟩, Nat.sub_lt_sub_left hjl (Nat.lt_succ_self j)⟩
    · have hje : j = k.C := Nat.le_antisymm hj (Nat.le_of_not_lt hjl)
      subst hje
      have dk : decide ((k.C : Int) < (k.C : Int)) = false := decide_eq_false (Int.lt_irrefl _)
      simp only [S.z9x, dk]
      exact Ev.some (.inr ⟨by simp, x7, ms, rfl, rfl, Z⟩)
  clear Z Z1 M4
  rintro ⟨_, _, g5⟩ ⟨x7, ms, rfl, rfl, Z⟩
  dsimp only at Z
  show Ev (S.zea W (.exit 2) _ _) _
  rw [S.zlh]
  have hlo : ∀ y ∈ [bw, gm, p] ++ bs ++ x6.blk ++ ms, h.next ≤ y := fun y hy => by
    have hinc := Z.inc
    rw [List.append_assoc, List.append_assoc, List.cons_append] at hinc hy
    exact Nat.le_trans Z.lo (z075 hinc y hy)
  obtain ⟨rfl, hms⟩ | ⟨bh, n, rfl, hl7, hb7⟩ := Z.ho
  · have := Z.hl
    have hms' : ms = [] := List.map_eq_nil_iff.mp hms
    rw [hms'] at this; simp at this; omega
  have hn : n = k.C := by rw [List.length_map, Z.hl] at hl7; omega
  subst hn
  have hbh : ∀ y ∈ [bw, gm, p] ++ bs ++ x6.blk ++ ms, y < bh := by
    rcases Z.x7c with e | ⟨c, e, hlt⟩
    · simp [V.blk] at e
    · simp only [V.blk, List.cons.injEq, and_true] at e
      subst e; exact hlt
  have hnd : ([bw, gm, p] ++ bs ++ x6.blk ++ ms ++ [bh]).Nodup := (zqn Z.inc hbh).imp fun h => Nat.ne_of_lt h
  have hlow : ∀ x ∈ p :: bh :: bw :: gm :: (ms ++ (x6.blk ++ bs)), h.next ≤ x := fun x hx => by
    by_cases e : x = bh
    · rw [e]; exact Nat.le_trans (hlo bw (by simp)) (Nat.le_of_lt (hbh bw (by simp)))
    · refine hlo x ?_
      simp only [List.mem_cons, List.mem_append] at hx ⊢
      rcases hx with h | h | h | h | h | h | h
      · simp [h]
      · exact absurd h e
      · simp [h]
      · simp [h]
      · simp [h]
      · simp [h]
      · simp [h]
  refine Ev.some ⟨⟨p, x6, vs, bs, bh, ms, bw, B.ns, gm, false⟩, rfl, Z.fr, ⟨?_, fun a ha hm => ?_, Z.own, Z.fo, Z.fl, Z.row, hb7, Z.hl, Z.hm, Z.wo, M.wl, fun i v l h1 h2 => ?_, Z.gv⟩, hlow, rfl⟩
  · show (p :: bh :: bw :: gm :: (ms ++ (x6.blk ++ bs))).Nodup
    refine (List.Perm.nodup_iff ?_).mp hnd
    rw [List.perm_iff_count]
    intro a
    simp only [List.count_append, List.count_cons, List.count_nil]
    omega
  · have h1 := hlow a hm
    have ha' : a ∈ B.nb := ha
    unfold MdB.nb at ha'
    obtain ⟨lb, h2, h3⟩ := List.mem_flatten.mp ha'
    obtain ⟨v, h4, rfl⟩ := List.mem_map.mp h2
    obtain ⟨i, hi, he⟩ := List.getElem_of_mem h4
    have R := M.wr i v _ (by rw [List.getElem?_eq_getElem hi, he]) (List.getElem?_eq_getElem (by omega))
    have := R.lt ok a h3
    omega
  · have R := M.wr i v l h1 h2
    exact R.congr fun b hb => Z.fr.same b (R.lt ok b hb) (by simp)
structure Mod (h0 : H) (k : Cfg) (g : H) (B : MdB) (r : RSt) (n : Nat) : Prop where
  fr : Fr [] h0 g
  M : MdAt k g.get B r
  I : RIn k r
  sz : RSz k n r
  lo : ∀ b ∈ B.l, h0.next ≤ b
def Apart (B D : MdB) : Prop := (∀ b ∈ D.l, b ∉ B.l) ∧ ∀ b ∈ D.nb, b ∉ B.l
section
variable {h0 g g' : H} {k : Cfg} {B B' D : MdB} {r s : RSt} {n m : Nat}
theorem Mod.fr0 (X : Mod h0 k g B r n) (F : Fr [] g g') : Mod h0 k g' B r n := ⟨X.fr.trans F (by simp), X.M.fr0 X.fr.ok F, X.I, X.sz, X.lo⟩
theorem Mod.keep (X : Mod h0 k g D s m) (Y : Mod h0 k g B r n) (F : Fr B.l g g') (A : Apart B D) : Mod h0 k g' D s m :=
  ⟨Y.fr.trans F (fun b hb => .inr (Y.lo b hb)), X.M.fr' X.fr.ok F A.1 A.2, X.I, X.sz, X.lo⟩
theorem Apart.new (X : Mod h0 k g B r n) (h : ∀ b ∈ D.l, g.next ≤ b) : Apart D B :=
  ⟨fun b hb q => by have := h b q; have := X.M.lt X.fr.ok b hb; omega, fun b hb q => by have := h b q; have := X.M.ltn X.fr.ok b hb; omega⟩
theorem Mod.does (X : Mod h0 k g B r n) (hr : k.R = true) (hn : n ≤ 1000) {c : CallR} {a : AnsR} (hu : U64 a.h) (w : Int) :
    Ev (C 103 [.ptr B.b 0, .int .i64 w, .agg c.cs, .agg a.cs] g) fun z => z.1 = .bool (okR k r w c a) ∧ ∃ B', Mod h0 k z.2 B' (doR k r w c a) (n + 1) ∧ Fr B.l g z.2 ∧ B.ext B' g := by
  have hB := Cfg.R_iff.mp hr
  have hC := (Cfg.bounds hr).2.2.1
  refine (z00a (c := c) (a := a) X.fr.ok X.M X.I (X.sz.small X.I (by omega) (by omega) (by omega)) (by omega) hu w).mono ?_
  rintro ⟨v, g'⟩ ⟨hv, F, B', M', E⟩
  exact ⟨hv, B', ⟨X.fr.trans F (fun b hb => .inr (X.lo b hb)), M', X.I.do w c hu, X.sz.do w c a, fun b hb => by
    rcases E.l b hb with h | h
    · exact X.lo b h
    · exact Nat.le_trans X.fr.le h⟩, F, E⟩
theorem Mod.new (hr : k.R = true) (F : Fr [] h0 g) : Ev (C 96 [k.v] g) fun z => ∃ B, z.1 = .ptr B.b 0 ∧ Fr [] g z.2 ∧ Mod h0 k z.2 B (rst0 k) 0 ∧ (∀ b ∈ B.l, g.next ≤ b) ∧ B.nb = [] := by
  refine (z020 hr F.ok).mono ?_
  rintro ⟨v, g'⟩ ⟨B, hv, F', M, hl, hn⟩
  exact ⟨B, hv, F', ⟨F.trans F' (by simp), M, z01e k, z012 k, fun b hb => Nat.le_trans F.le (hl b hb)⟩, hl, hn⟩
theorem Mod.copy (X : Mod h0 k g B r n) (hr : k.R = true) (hn : n ≤ 1000) : Ev (C 115 [.ptr B.b 0] g) fun z => ∃ D, z.1 = .ptr D.b 0 ∧ Fr [] g z.2 ∧ Mod h0 k z.2 D r n ∧ (∀ b ∈ D.l, g.next ≤ b) ∧ D.nb = B.nb := by
  have hB := Cfg.R_iff.mp hr
  refine (z00n X.fr.ok X.M hr (by have := X.sz.f; omega) (fun l hl => by have := X.sz.l l hl; omega)).mono ?_
  rintro ⟨v, g'⟩ ⟨D, hv, F', M, hl, hn⟩
  exact ⟨D, hv, F', ⟨X.fr.trans F' (by simp), M, X.I, X.sz, fun b hb => Nat.le_trans X.fr.le (hl b hb)⟩, hl, hn⟩
end
section
variable {h0 : H} {k : Cfg} {g : H} {pS : Nat} {B : MdB} {s : StV} {r : RSt} {g0 : Nat → Option Blk} {n : Nat}
theorem z062 {cs l : List V} (g : H) (ok : g.ok) (h : l.length = cs.length) (h1 : l.all V.one = true) : ∃ g', (g.new (.cells cs .rw)).st cs.length (.ptr g.next 0) (.agg l) = some g' ∧ Fr [] g g' ∧ g'.get g.next = some (.cells l .rw) ∧ g'.next = g.next + 1 := by
  refine ⟨(g.new (.cells cs .rw)).put g.next (some (.cells l .rw)), ?_, ((Fr.refl ok).new _).put (.inr (Nat.le_refl _)) (Nat.lt_succ_self _) _, zs _ _ _, rfl⟩
  have hb : Nat.beq (V.agg l).cells.length cs.length = true := by
    show Nat.beq l.length cs.length = true
    rw [h]; exact Nat.beq_refl _
  rw [zy, hb, ze]
  show Option.map _ (stB (some (.cells cs .rw)) 0 l) = _
  rw [zme h h1]; rfl
end
def Evt.call (e : Evt) : CallR := ⟨e.kind, e.n, e.h, e.x, e.y⟩
def Evt.ans (e : Evt) : AnsR := ⟨e.err, e.ah, e.yes⟩
def rp1 (k : Cfg) (l : List Evt) (r : RSt) (i : Int) : Option RSt :=
  if i < 0 then none else match l[i.toNat]? with
    | none => none
    | some e => if okR k r e.client e.call e.ans then some (doR k r e.client e.call e.ans) else none
def rpN (k : Cfg) (l : List Evt) : RSt → List Int → Nat
  | _, [] => 0
  | r, i :: o => match rp1 k l r i with
    | none => 0
    | some r' => rpN k l r' o + 1
def rpS (k : Cfg) (l : List Evt) : RSt → List Int → Option RSt
  | r, [] => some r
  | r, i :: o => match rp1 k l r i with
    | none => none
    | some r' => rpS k l r' o
section
variable {k : Cfg} {l : List Evt}
theorem z00w {r : RSt} {i : Nat} {y : Evt} (h : l[i]? = some y) : rp1 k l r (i : Int) = if okR k r y.client y.call y.ans then some (doR k r y.client y.call y.ans) else none := by
  unfold rp1
  rw [if_neg (by omega), Int.toNat_natCast, h]
theorem zzx {r : RSt} {i : Int} (h : i < 0 ∨ (l.length : Int) ≤ i) : rp1 k l r i = none := by
  unfold rp1
  by_cases h0 : i < 0
  · rw [if_pos h0]
  · rw [if_neg h0, List.getElem?_eq_none (by omega)]
theorem znx : ∀ (o : List Int) (r : RSt) (i : Int), rpS k l r (o ++ [i]) = (rpS k l r o).bind fun r' => rp1 k l r' i
  | [], r, i => by
    show rpS k l r [i] = rp1 k l r i
    simp only [rpS]
    cases rp1 k l r i <;> rfl
  | j :: o, r, i => by
    simp only [List.cons_append, rpS]
    cases rp1 k l r j with
    | none => rfl
    | some r' => exact znx o r' i
theorem ztz : ∀ (o : List Int) (r : RSt) {r' : RSt}, rpS k l r o = some r' → rpN k l r o = o.length
  | [], r, _, _ => rfl
  | j :: o, r, r', h => by
    simp only [rpS] at h
    simp only [rpN]
    cases hj : rp1 k l r j with
    | none => rw [hj] at h; cases h
    | some r1 => rw [hj] at h; simp only; rw [ztz o r1 h]; rfl
theorem zqb : ∀ (o : List Int) (n : Nat) (r : RSt) {r' : RSt} {i : Int}, rpS k l r (o.take n) = some r' → o[n]? = some i → rp1 k l r' i = none → rpN k l r o = n
  | [], n, r, _, _, _, h, _ => by simp at h
  | j :: o, 0, r, r', i, h, h1, h2 => by
    simp only [List.take_zero, rpS, Option.some.injEq] at h
    simp only [List.getElem?_cons_zero, Option.some.injEq] at h1
    subst h; subst h1
    simp only [rpN, h2]
  | j :: o, n + 1, r, r', i, h, h1, h2 => by
    simp only [List.take_succ_cons, rpS] at h
    simp only [rpN]
    cases hj : rp1 k l r j with
    | none => rw [hj] at h; cases h
    | some r1 =>
      rw [hj] at h; simp only
      rw [zqb o n r1 h h1 h2]
theorem zva : ∀ (o : List Int) (r : RSt), rpN k l r o = o.length → ∃ r', rpS k l r o = some r'
  | [], r, _ => ⟨r, rfl⟩
  | j :: o, r, h => by
    simp only [rpN] at h
    simp only [rpS]
    cases hj : rp1 k l r j with
    | none => rw [hj] at h; simp at h
    | some r1 =>
      rw [hj] at h
      exact zva o r1 (by simpa using h)
theorem zwt : ∀ (o p : List Int) (r : RSt) {r' : RSt}, rpS k l r (o ++ p) = some r' → ∃ r1, rpS k l r o = some r1 ∧ rpS k l r1 p = some r'
  | [], p, r, r', h => ⟨r, rfl, h⟩
  | j :: o, p, r, r', h => by
    simp only [List.cons_append, rpS] at h ⊢
    cases hj : rp1 k l r j with
    | none => rw [hj] at h; cases h
    | some r1 => rw [hj] at h; exact zwt o p r1 h
theorem z03f {o : List Int} {n : Nat} {i : Int} (h : o[n]? = some i) : o.take (n + 1) = o.take n ++ [i] := by
  rw [List.take_succ, h]; rfl
end
theorem z07y {g : H} (ok : g.ok) {b j : Nat} {v : V} (h : g.ld1 (.ptr b j) = some v) : b < g.next := by
  rw [z8] at h
  cases hb : g.get b with
  | none => rw [hb] at h; cases h
  | some blk => exact ok.lt hb
structure RowP (g : H) (x : V) (ws : List Int) : Prop where
  len : lenSl x = some ws.length
  one : x.one = true
  at' : ∀ (i : Nat) (w : Int), ws[i]? = some w → ∃ b j, zd 1 x (.int .i64 (i : Int)) = some (.ptr b j) ∧ g.ld1 (.ptr b j) = some (.int .i64 w) ∧ b ∈ x.blk
theorem RowP.fr {g g' : H} {L : List Nat} {x : V} {ws : List Int} (h : RowP g x ws) (ok : g.ok) (F : Fr L g g') (hL : ∀ b ∈ x.blk, b ∉ L) : RowP g' x ws :=
  ⟨h.len, h.one, fun i w hw => by
    obtain ⟨b, j, h1, h2, h3⟩ := h.at' i w hw
    refine ⟨b, j, h1, ?_, h3⟩
    have lt := z07y ok h2
    rw [z8] at h2 ⊢
    rw [F.same b lt (hL b h3)]; exact h2⟩
theorem RowN.P {g : H} {x : V} {ws : List Int} (h : RowN .i64 g.get x ws) : RowP g x ws :=
  ⟨h.len, h.one, fun i w hw => by
    obtain ⟨b, h1, h2⟩ := h.at hw
    refine ⟨b, i, h1, h2, ?_⟩
    obtain ⟨rfl, rfl⟩ | ⟨b', c, k, rfl, _⟩ := h
    · simp at hw
    · rw [z28 (z03 hw)] at h1
      simp only [Option.some.injEq, V.ptr.injEq] at h1
      simp [V.blk, h1.1]⟩
theorem zxa {g : H} {x : V} {l : List Evt} (h : RowE g.get x l) {i : Nat} {y : Evt} (hy : l[i]? = some y) :
    ∃ b, zd 14 x (.int .i64 (i : Int)) = some (.ptr b (i * 14)) ∧ g.ld1 (.ptr b (i * 14)) = some (.int .i64 y.client) ∧ g.ldN 5 (.ptr b (i * 14 + 6)) = some (.agg y.call.cs) ∧ g.ldN 3 (.ptr b (i * 14 + 11)) = some (.agg y.ans.cs) := by
  have hi := z03 hy
  obtain ⟨rfl, rfl⟩ | ⟨b, c, k, rfl, hb⟩ := h
  · simp at hy
  · have hn : (l.map Evt.cs).flatten.length = l.length * 14 := by rw [z70 (zy6 l), List.length_map]
    have hp := zji (zy6 l) i y.cs (by rw [List.getElem?_map, hy]; rfl)
    have part' : ∀ j n, j + n ≤ 14 → ((l.map Evt.cs).flatten.drop (i * 14 + j)).take n = (y.cs.drop j).take n := fun j n hj => by
      rw [← hp, List.drop_take, List.take_take, List.drop_drop, Nat.min_eq_left (by omega)]
    refine ⟨b, zt7 hi, ?_, ?_, ?_⟩
    · rw [z8, hb, z6]
      have : (l.map Evt.cs).flatten[i * 14]? = y.cs[0]? := by
        rw [← hp, List.getElem?_take, if_pos (by decide), List.getElem?_drop]; rfl
      rw [this]; rfl
    · rw [zo, hb, zq, decide_eq_true (by rw [hn]; omega), part' 6 5 (by decide)]; rfl
    · rw [zo, hb, zq, decide_eq_true (by rw [hn]; omega), part' 11 3 (by decide)]; rfl
theorem z07m {g : Nat → Option Blk} {by' : Nat} {v : V} (h : CellOk g (.sl by' z061) v) :
    ∃ l, RowE g v l ∧ (∀ y ∈ l, U64 y.ah) ∧ l.length * by' ≤ 140737488351232 ∧ l.length ≤ Go.maxLen := by
  unfold CellOk at h
  rcases h with rfl | ⟨b, n, cs, rfl, ⟨h1, h2⟩, h3, h4, h5⟩
  · exact ⟨[], .inl ⟨rfl, rfl⟩, by simp, by simp, by simp⟩
  · obtain ⟨ws, e1, e2, e3⟩ := z048 (α := Evt) (enc := Evt.cs) (Q := fun y => U64 y.ah) (P := CellsOk g z061) (fun c hc => by
      obtain ⟨_, _, rfl, ⟨y0, rfl, b0⟩, _, _, rfl, ⟨y1, rfl, b1⟩, _, _, rfl, ⟨y2, rfl, b2⟩, _, _, rfl, ⟨y3, rfl, b3⟩, _, _, rfl, ⟨y4, rfl, b4⟩, _, _, rfl, ⟨y5, rfl⟩, _, _, rfl, ⟨y6, rfl, b6⟩, _, _, rfl, ⟨y7, rfl, b7⟩, _, _, rfl, ⟨y8, rfl, b8⟩, _, _, rfl, ⟨y9, rfl, b9⟩, _, _, rfl, ⟨y10, rfl, b10⟩, _, _, rfl, ⟨y11, rfl, b11⟩, _, _, rfl, ⟨y12, rfl, b12⟩, _, _, rfl, ⟨y13, rfl⟩, rfl⟩ := hc
      exact ⟨⟨y0, y1, y2, y3, y4, y5, y6, y7, y8, y9, y10, y11, y12, y13⟩, rfl, z086 b12⟩) n cs h4 h5
    subst e2
    exact ⟨ws, .inr ⟨b, _, .ro, rfl, by rw [h3, e1]⟩, e3, h2, h1⟩
theorem rl_k {n : Nat} (h : n < 9000) : wr .i64 ((n : Int) + 1) = ((n + 1 : Nat) : Int) := by rw [wr64 (by omega) (by omega)]; rfl
section
variable {h : H} {k : Cfg} {x0 x1 : V} {l : List Evt} {o : List Int}
end
structure StA (h0 : H) (k : Cfg) (g : H) (pS : Nat) (s : StV) (r : RSt) (g0 : Nat → Option Blk) (n : Nat) : Prop where
  fr : Fr [] h0 g
  st : g.get pS = some (.cells (tCs k s) .rw)
  Z : StAt g0 s r
  sb : Sub g0 g.get
  ps : g0 pS = none ∧ h0.next ≤ pS
  I : RIn k r
  sz : RSz k n r
theorem StA.next {h0 g g5 g6 : H} {k : Cfg} {pS : Nat} {s t : StV} {r : RSt} {g0 : Nat → Option Blk} {n : Nat} (P : StA h0 k g pS s r g0 n) {c : CallR} {a : AnsR} (hu : U64 a.h) (w : Int) (F5 : Fr [] g g5) (Z5 : StAt (ug g0 g g5) t (doR k r w c a)) (F6 : Fr [] g5 g6) :
    StA h0 k (g6.put pS (some (.cells (tCs k t) .rw))) pS t (doR k r w c a) (ug g0 g g5) (n + 1) := by
  have F56 := F5.trans' F6
  have hlp : pS < g.next := P.fr.ok.lt P.st
  have hu0 : ug g0 g g5 pS = none := by rw [z07r hlp]; exact P.ps.1
  have F06 := P.fr.trans F56 (by simp)
  have hl6 : pS < g6.next := F56.lt hlp
  have Fp : Fr [pS] g6 (g6.put pS (some (.cells (tCs k t) .rw))) := (Fr.refl F56.ok).put (.inl (by simp)) hl6 _
  exact ⟨F06.put (.inr P.ps.2) hl6 _, zs _ _ _, Z5, ((z037 P.sb P.fr.ok F5).fr0 F5.ok F6).fr F6.ok Fp (by simpa using hu0), ⟨hu0, P.ps.2⟩, P.I.do w c hu, P.sz.do w c a⟩
section
variable {h : H} {k : Cfg} {x0 x1 : V} {l : List Evt} {o : List Int}
theorem zyy (ok : h.ok) (hr : k.R = true) (hx : RowE h.get x0 l) (hu : ∀ y ∈ l, U64 y.ah) (ho : RowP h x1 o) (hl : o.length ≤ 60) {n : Nat} (hn : n ≤ o.length) {g : H} {pS : Nat} {s : StV} {r : RSt} {g0 : Nat → Option Blk} (X : StA h k g pS s r g0 n) (hS : rpS k l (rst0 k) (o.take n) = some r) :
    Ev (S.z39 W x0 x1 (.ptr pS 0) (n : Nat) g) fun z =>
      (z.1 = .ret ∧ z.2.1 = S.z1f x1 (.int .i64 (rpN k l (rst0 k) o : Nat)) ∧ Fr [] h z.2.2) ∨
      (z.1 = .exit 0 ∧ z.2.1 = S.z1f x1 .dead ∧ Fr [] h z.2.2 ∧ rpN k l (rst0 k) o = o.length) ∨
      (n < o.length ∧ z.1 = .normal ∧ z.2.1 = S.z6d x0 x1 (.ptr pS 0) (.int .i64 (n + 1 : Nat)) ∧ ∃ s' r' g0', StA h k z.2.2 pS s' r' g0' (n + 1) ∧ rpS k l (rst0 k) (o.take (n + 1)) = some r') := by
  have hol := ho.len
  by_cases hno : n < o.length
  · have d : decide ((n : Int) < (o.length : Int)) = true := zca hno
    obtain ⟨q, hq⟩ : ∃ q, o[n]? = some q := ⟨_, List.getElem?_eq_getElem hno⟩
    obtain ⟨ob, oj, hix, hld, _⟩ := (ho.fr ok X.fr (by simp)).at' n q hq
    have hxl := hx.len
    by_cases hq0 : q < 0
    · have d0 : decide (q < 0) = true := decide_eq_true hq0
      simp only [S.z39, hol, d, hix, z9, hld, za, d0]
      rw [zqb o n _ hS hq (zzx (.inl hq0))]
      exact Ev.some (.inl ⟨rfl, rfl, X.fr⟩)
    have d0 : decide (q < 0) = false := decide_eq_false hq0
    by_cases hqn : (l.length : Int) ≤ q
    · have d1 : decide ((l.length : Int) ≤ q) = true := decide_eq_true hqn
      simp only [S.z39, hol, d, hix, z9, hld, za, d0, hxl, d1]
      rw [zqb o n _ hS hq (zzx (.inr hqn))]
      exact Ev.some (.inl ⟨rfl, rfl, X.fr⟩)
    obtain ⟨i, rfl, hi⟩ : ∃ i : Nat, q = (i : Int) ∧ i < l.length := ⟨q.toNat, by omega, by omega⟩
    have d1 : decide ((l.length : Int) ≤ (i : Int)) = false := decide_eq_false hqn
    obtain ⟨y, hy⟩ : ∃ y, l[i]? = some y := ⟨_, List.getElem?_eq_getElem hi⟩
    obtain ⟨eb, e1, e2, e3, e4⟩ := zxa (hx.fr ok X.fr (by simp)) hy
    have hC := (Cfg.bounds hr).2.2.1
    have hB := Cfg.R_iff.mp hr
    have lS : g.ldN 11 (.ptr pS 0) = some (s.v k) := by rw [zd6 X.st (show 0 + 11 ≤ 11 from Nat.le_refl _)]; rfl
    obtain ⟨⟨v5, g5⟩, e5, t, hv5, F5, Z5⟩ := zym (k := k) (c := y.call) (a := y.ans) X.fr.ok X.sb X.Z X.I (X.sz.small X.I (by omega) (by omega) (by omega)) (by omega) y.client
    dsimp only at hv5 F5 Z5
    subst hv5
    have tl : (tCs k t).all V.one = true := zne k Z5
    obtain ⟨g6, e6, F6, ht6, n6⟩ := z062 (cs := [.int .i64 0, .int .i64 0, .int .i64 0, .int .i64 0, .int .i64 0, .int .i64 0, .nilsl, .nilsl, .nilsl, .nilsl, .nilsl]) (l := tCs k t) g5 F5.ok rfl tl
    simp only [List.length_cons, List.length_nil, Nat.zero_add, Nat.reduceAdd] at e6
    have hvt : t.v k = .agg (tCs k t) := rfl
    have F06 := X.fr.trans (F5.trans' F6) (by simp)
    have hst := z00w (k := k) (r := r) hy
    have wk := rl_k (n := n) (by omega)
    have t0 : ∀ b : Bool, ([.agg (tCs k t), V.bool b] : List V)[0]? = some (.agg (tCs k t)) := fun _ => rfl
    have t1 : ∀ b : Bool, ([.agg (tCs k t), V.bool b] : List V)[1]? = some (.bool b) := fun _ => rfl
    cases hok : okR k r y.client y.call y.ans with
    | false =>
      rw [hok] at e5
      rw [hok, if_neg (by decide)] at hst
      simp only [S.z39, hol, d, hix, z9, hld, za, d0, hxl, d1, lS, e1, z7, Nat.add_zero, e2, e3, e4, zh, e5, t0, t1, hvt, e6, zw, Bool.not_false]
      rw [zqb o n _ hS hq hst]
      exact Ev.some (.inl ⟨rfl, rfl, F06⟩)
    | true =>
      rw [hok] at e5
      rw [hok, if_pos rfl] at hst
      have hp6 := (F5.trans' F6).get X.fr.ok X.st (by simp)
      have lt6 : g6.ldN 11 (.ptr g5.next 0) = some (.agg (tCs k t)) := by rw [zd6 ht6 (show 0 + 11 ≤ 11 from Nat.le_refl _)]; rfl
      have hstp : g6.st 11 (.ptr pS 0) (.agg (tCs k t)) = some (g6.put pS (some (.cells (tCs k t) .rw))) := by
        rw [zy]
        show Option.map _ (stB (g6.get pS) 0 (tCs k t)) = _
        have e := zme (cs := tCs k s) (l := tCs k t) rfl tl
        rw [hp6, e]; rfl
      simp only [S.z39, hol, d, hix, z9, hld, za, d0, hxl, d1, lS, e1, z7, Nat.add_zero, e2, e3, e4, zh, e5, t0, t1, hvt, e6, zw, Bool.not_true, lt6, hstp, wk]
      refine Ev.some (.inr (.inr ⟨hno, rfl, rfl, t, _, _, X.next (hu y (List.mem_of_getElem? hy)) y.client F5 Z5 F6, ?_⟩))
      rw [z03f hq, znx, hS]
      exact hst
  · have hne : n = o.length := by omega
    have d : decide ((n : Int) < (o.length : Int)) = false := decide_eq_false (by omega)
    simp only [S.z39, hol, z9, d]
    rw [hne, List.take_length] at hS
    exact Ev.some (.inr (.inl ⟨rfl, rfl, X.fr, ztz o _ hS⟩))
theorem ztn (ok : h.ok) (hr : k.R = true) (hx : RowE h.get x0 l) (hu : ∀ y ∈ l, U64 y.ah) (ho : RowP h x1 o) (hl : o.length ≤ 60) :
    Ev (C 207 [k.v, x0, x1] h) fun z => z.1 = .int .i64 (rpN k l (rst0 k) o : Nat) ∧ Fr [] h z.2 := by
  refine z1y (af := F.z27) (by kernel_rfl) rfl ?_
  have hv : k.v = .agg [.int .i64 k.s, .int .i64 k.a, .int .i64 k.c, .int .i64 k.hd, .int .i64 k.g, .int .i64 k.st] := rfl
  rw [hv, S.zqm]
  have hp := ze h (.cells [.int .i64 k.s, .int .i64 k.a, .int .i64 k.c, .int .i64 k.hd, .int .i64 k.g, .int .i64 k.st] .rw)
  have F0 : Fr [] h (h.new (.cells [.int .i64 k.s, .int .i64 k.a, .int .i64 k.c, .int .i64 k.hd, .int .i64 k.g, .int .i64 k.st] .rw)) := (Fr.refl ok).new _
  have lk : (h.new (.cells [.int .i64 k.s, .int .i64 k.a, .int .i64 k.c, .int .i64 k.hd, .int .i64 k.g, .int .i64 k.st] .rw)).ldN 6 (.ptr h.next 0) = some k.v := by rw [zd6 hp (show 0 + 6 ≤ 6 from Nat.le_refl _)]; rfl
  simp only [S.z27]
  generalize (h.new (.cells [.int .i64 k.s, .int .i64 k.a, .int .i64 k.c, .int .i64 k.hd, .int .i64 k.g, .int .i64 k.st] .rw)) = g1 at hp F0 lk ⊢
  obtain ⟨⟨v2, g2⟩, e2, s, hv2, F2, Z2⟩ := z009 hr F0.ok (fun _ => none)
  dsimp only at hv2 F2 Z2
  subst hv2
  have tl : (tCs k s).all V.one = true := zne k Z2
  obtain ⟨g3, e3, F3, ht3, n3⟩ := z062 (cs := [.int .i64 0, .int .i64 0, .int .i64 0, .int .i64 0, .int .i64 0, .int .i64 0, .nilsl, .nilsl, .nilsl, .nilsl, .nilsl]) (l := tCs k s) g2 F2.ok rfl tl
  simp only [List.length_cons, List.length_nil, Nat.zero_add, Nat.reduceAdd] at e3
  have hvs : s.v k = .agg (tCs k s) := rfl
  have X : StA h k g3 g2.next s (rst0 k) (ug (fun _ => none) g1 g2) 0 :=
    ⟨(F0.trans F2 (by simp)).trans F3 (by simp), ht3, Z2, (z037 (fun b x hb => by cases hb) F0.ok F2).fr0 F2.ok F3, ⟨by rw [z3x F2.le]; exact F2.ok _ (Nat.le_refl _), Nat.le_trans F0.le F2.le⟩, z01e k, z012 k⟩
  have hol := ho.len
  simp only [lk, z9, zh, e2, hvs, e3]
  refine z32 (α := Nat) (fun n => S.z6d x0 x1 (.ptr g2.next 0) (.int .i64 (n : Nat)))
    (fun n g => n ≤ o.length ∧ ∃ s' r g0, StA h k g g2.next s' r g0 n ∧ rpS k l (rst0 k) (o.take n) = some r) (fun n _ => o.length - n)
    (fun z => (z.1 = .ret ∧ z.2.1 = S.z1f x1 (.int .i64 (rpN k l (rst0 k) o : Nat)) ∧ Fr [] h z.2.2) ∨
      (z.1 = .exit 0 ∧ z.2.1 = S.z1f x1 .dead ∧ Fr [] h z.2.2 ∧ rpN k l (rst0 k) o = o.length)) 0 rfl ⟨Nat.zero_le _, s, _, _, X, rfl⟩ ?_ ?_
  rotate_left
  · rintro ⟨_, _, g'⟩ (⟨rfl, rfl, F⟩ | ⟨rfl, rfl, F, hN⟩)
    · show Ev (S.z7m W .ret _ _) _
      rw [S.zko]
      exact Ev.some ⟨rfl, F⟩
    · show Ev (S.z7m W (.exit 0) _ _) _
      rw [S.zka]
      simp only [S.zf8, z9, hol]
      rw [hN]
      exact Ev.some ⟨rfl, F⟩
  rintro n g ⟨hn, s', r, g0, X', hS⟩
  rw [S.zo0]
  refine (zyy ok hr hx hu ho hl hn X' hS).mono ?_
  rintro ⟨_, _, g2⟩ (⟨rfl, rfl, F⟩ | ⟨rfl, rfl, F, hN⟩ | ⟨hlt, rfl, rfl, s2, r2, g02, X2, hS2⟩)
  · exact .inr ⟨by simp, .inl ⟨rfl, rfl, F⟩⟩
  · exact .inr ⟨by simp, .inr ⟨rfl, rfl, F, hN⟩⟩
  · exact .inl ⟨n + 1, rfl, rfl, ⟨hlt, s2, r2, g02, X2, hS2⟩, Nat.sub_lt_sub_left hlt (Nat.lt_succ_self n)⟩
end
open Go.Sort (swp)
def ints (d : Array Int) : List V := d.toList.map (V.int .i64)
theorem zua (d : Array Int) : (ints d).length = d.size := by unfold ints; rw [List.length_map]; rfl
theorem z05p {d : Array Int} {i : Nat} (h : i < d.size) : (ints d)[i]? = some (.int .i64 d[i]!) := by
  unfold ints
  rw [List.getElem?_map, Array.getElem?_toList, Array.getElem?_eq_getElem h, getElem!_pos d i h]; rfl
theorem zwz {d : Array Int} {i : Nat} {v : Int} : (ints d).set i (.int .i64 v) = ints (d.setIfInBounds i v) := by
  unfold ints
  rw [Array.toList_setIfInBounds, List.map_set]
structure Sw (h0 : H) (b N : Nat) (h : H) (d : Array Int) : Prop where
  fr : Fr [b] h0 h
  at_ : h.get b = some (.cells (ints d) .rw)
  sz : d.size = N
  inr : ∀ i, i < N → 0 ≤ d[i]! ∧ d[i]! < N
section
variable {h0 h : H} {b N : Nat} {d : Array Int}
theorem Sw.ok (S : Sw h0 b N h d) : h.ok := S.fr.ok
theorem Sw.ld (S : Sw h0 b N h d) {i : Nat} (hi : i < N) : ldB (h.get b) i = some (.int .i64 d[i]!) := by
  rw [S.at_, z6, z05p (by rw [S.sz]; exact hi)]; rfl
theorem Sw.fr0 (S : Sw h0 b N h d) {h' : H} (F : Fr [] h h') : Sw h0 b N h' d :=
  ⟨S.fr.trans F (fun _ q => by simp at q), F.get S.ok S.at_ (by simp), S.sz, S.inr⟩
theorem Sw.swap (S : Sw h0 b N h d) {i j : Nat} (hi : i < N) (hj : j < N) :
    ∃ h1 h2, h.st 1 (.ptr b i) (.int .i64 d[j]!) = some h1 ∧ h1.st 1 (.ptr b j) (.int .i64 d[i]!) = some h2 ∧ Sw h0 b N h2 (swp d i j) ∧ Fr [b] h h2 := by
  have hl : b < h.next := S.ok.lt S.at_
  have e1 := zu2 S.at_ (by simp) (zf .i64 d[j]!) (by rw [zua, S.sz]; exact hi)
  rw [zwz] at e1
  have g1 : (h.put b (some (.cells (ints (d.setIfInBounds i d[j]!)) .rw))).get b = some (.cells (ints (d.setIfInBounds i d[j]!)) .rw) := zs _ _ _
  have e2 := zu2 g1 (by simp) (zf .i64 d[i]!) (by rw [zua, Array.size_setIfInBounds, S.sz]; exact hj)
  rw [zwz, zad] at e2
  have F2 : Fr [b] h (h.put b (some (.cells (ints (swp d i j)) .rw))) := (Fr.refl S.ok).put (.inl (by simp)) hl _
  refine ⟨_, _, e1, e2, ⟨S.fr.trans' F2, zs _ _ _, by rw [Go.Sort.swp_size]; exact S.sz, fun k hk => ?_⟩, F2⟩
  by_cases hkj : k = j
  · subst hkj
    rw [Go.Sort.swp_right _ _ _ (by rw [S.sz]; exact hj)]; exact S.inr i hi
  by_cases hki : k = i
  · subst hki
    rw [Go.Sort.swp_left _ _ _ (by rw [S.sz]; exact hi) hkj]; exact S.inr j hj
  · rw [Go.Sort.swp_other _ _ _ _ hki hkj]; exact S.inr k hk
end
open Go.Sort (swp insInner insOuter)
section
variable {h0 h : H} {b N f : Nat} {cs : List V} {lt : Int → Int → Bool} {d : Array Int} {c : Cap}
theorem z070 {i j : Nat} (h : i < j) : decide ((i : Int) < (j : Int)) = true := decide_eq_true (by omega)
theorem z04n {i j : Nat} (h : ¬ i < j) : decide ((i : Int) < (j : Int)) = false := decide_eq_false (by omega)
theorem zxc {i : Nat} (h : i + 1 ≤ 9000) : wr .i64 (((i + 1 : Nat) : Int) - 1) = (i : Int) := by rw [wr64 (by omega) (by omega)]; omega
theorem zjh {i : Nat} (h : i ≤ 9000) : wr .i64 ((i : Int) + 1) = ((i + 1 : Nat) : Int) := by rw [wr64 (by omega) (by omega)]; omega
end
end Wm
end
noncomputable section
namespace Wm
open Go.Sort (swp PermIn SortedIn SWO permIn_trans permIn_refl permIn_mono permIn_all insInner insOuter)
def ltS (lt : Int → Int → Bool) (x y : Int) : Bool := lt x y || (!lt y x && decide (x < y))
structure Mg (lt : Int → Int → Bool) (a m e : Nat) (d : Array Int) : Prop where
  s1 : SortedIn (ltS lt) a m d
  s2 : SortedIn (ltS lt) m e d
  old : ∀ i j, a ≤ i → i < m → m ≤ j → j < e → d[i]! < d[j]!
section
variable {lt : Int → Int → Bool} {d R : Array Int} {a m e i : Nat}
end
end Wm
end
noncomputable section
namespace Wm
attribute [local congr] zl
attribute [local irreducible] wr
def AtO (l : List Evt) (o : List Int) (a : Nat) (y : Evt) : Prop := ∃ i : Nat, o[a]? = some (i : Int) ∧ l[i]? = some y
def GoodAt (l : List Evt) (o : List Int) (b : Nat) : Prop := ∃ (i : Nat) (x : Evt), o[b]? = some (i : Int) ∧ l[i]? = some x ∧ (∀ a, a < b → o[a]? ≠ some (i : Int)) ∧ ∀ a y, a < b → AtO l o a y → ¬ x.ended < y.begun
def GoodO (l : List Evt) (o : List Int) (k : Nat) : Prop := ∀ b, b < k → GoodAt l o b
def Resp (l : List Evt) (o : List Int) : Prop := o.length = l.length ∧ GoodO l o l.length
theorem GoodO.succ {l : List Evt} {o : List Int} {k : Nat} (h : GoodO l o k) (g : GoodAt l o k) : GoodO l o (k + 1) := fun b hb => by
  rcases Nat.lt_succ_iff_lt_or_eq.mp hb with h1 | h1
  · exact h b h1
  · exact h1 ▸ g
theorem z06n {l : List Evt} {o : List Int} {k : Nat} (hk : k < l.length) (h : ¬ GoodAt l o k) : ¬ Resp l o := fun r => h (r.2 k hk)
theorem GoodAt.of {l : List Evt} {o : List Int} {k i : Nat} (hi : o[k]? = some (i : Int)) (g : GoodAt l o k) : ∃ x, l[i]? = some x ∧ (∀ a, a < k → o[a]? ≠ some (i : Int)) ∧ ∀ a y, a < k → AtO l o a y → ¬ x.ended < y.begun := by
  obtain ⟨j, x, h1, h2, h3, h4⟩ := g
  rw [hi] at h1
  have : i = j := Int.ofNat.inj (Option.some.inj h1)
  subst this
  exact ⟨x, h2, h3, h4⟩
theorem GoodAt.pos {l : List Evt} {o : List Int} {k : Nat} {n : Int} (hi : o[k]? = some n) (g : GoodAt l o k) : 0 ≤ n ∧ n < l.length := by
  obtain ⟨j, x, h1, h2, _⟩ := g
  rw [hi] at h1
  have e : n = (j : Int) := Option.some.inj h1
  have := z03 h2
  omega
structure Met (n : Nat) (o : List Int) (k : Nat) (ms : List Bool) : Prop where
  len : ms.length = n
  met : ∀ i, i < n → (ms[i]? = some true ↔ ∃ a, a < k ∧ o[a]? = some (i : Int))
theorem Met.zero (n : Nat) (o : List Int) : Met n o 0 (List.replicate n false) :=
  ⟨List.length_replicate, fun i hi => by
    rw [List.getElem?_replicate, if_pos hi]
    constructor
    · intro h; simp at h
    · rintro ⟨a, h, _⟩; omega⟩
theorem Met.step {n : Nat} {o : List Int} {k i : Nat} {ms : List Bool} (M : Met n o k ms) (hi : i < n) (ho : o[k]? = some (i : Int)) : Met n o (k + 1) (ms.set i true) := by
  refine ⟨by rw [List.length_set]; exact M.len, fun j hj => ?_⟩
  by_cases h : i = j
  · subst h
    rw [List.getElem?_set_self (by rw [M.len]; exact hj)]
    exact ⟨fun _ => ⟨k, Nat.lt_succ_self k, ho⟩, fun _ => rfl⟩
  · rw [List.getElem?_set_ne h, M.met j hj]
    constructor
    · rintro ⟨a, h1, h2⟩; exact ⟨a, Nat.lt_succ_of_lt h1, h2⟩
    · rintro ⟨a, h1, h2⟩
      rcases Nat.lt_succ_iff_lt_or_eq.mp h1 with h3 | h3
      · exact ⟨a, h3, h2⟩
      · subst h3
        rw [ho] at h2
        exact absurd (Int.ofNat.inj (Option.some.inj h2)) h
theorem zzi {ms : List Bool} {p : Nat} (hp : p < ms.length) {v : Bool} : (z3h ms).take p ++ [V.bool v] ++ (z3h ms).drop (p + 1) = z3h (ms.set p v) := by
  rw [← zxn, List.set_eq_take_append_cons_drop, if_pos (by rw [zo3]; exact hp), List.append_assoc]; rfl
structure RespAt (h g : H) (mb : Nat) (ms : List Bool) : Prop where
  fr : Fr [] h g
  nb : h.next ≤ mb
  met : g.get mb = some (.cells (z3h ms) .rw)
theorem RespAt.set {h g : H} {mb : Nat} {ms : List Bool} (Z : RespAt h g mb ms) {i : Nat} (hi : i < ms.length) {cs : List V} (hcs : cs = (z3h ms).take i ++ [V.bool true] ++ (z3h ms).drop (i + 1)) : RespAt h (g.put mb (some (.cells cs .rw))) mb (ms.set i true) :=
  ⟨Z.fr.put (.inr Z.nb) (Z.fr.ok.lt Z.met) _, Z.nb, by rw [zs, hcs, zzi hi]⟩
theorem rs_k {k : Nat} (h : k < 60) : wr .i64 ((k : Int) + 1) = ((k + 1 : Nat) : Int) := by rw [wr64 (by omega) (by omega)]; rfl
theorem z08i {a b : Nat} : decide ((a : Int) = (b : Int)) = decide (a = b) := by congr 1; apply propext; omega
theorem z02q {h : H} (ok : h.ok) {x0 : V} {l : List Evt} (hx : RowE h.get x0 l) {x1 : V} {o : List Int} (ho : RowN .i64 h.get x1 o) (hl : l.length ≤ 60) {mb : Nat} {ms : List Bool} {g : H} (Z : RespAt h g mb ms) {k : Nat} (hk : k < l.length)
    (G : GoodO l o k) {i : Nat} {x : Evt} (hxi : l[i]? = some x) (x5 : V) (K : AX × List V × H → Option (AX × List V × H)) (R : AX × List V × H → Prop)
    (hbad : (∃ a y, a < k ∧ AtO l o a y ∧ x.ended < y.begun) → Ev (K (.ret, S.z21 x0 x1 (.bool false) x5 (.int .i64 (k : Nat)), g)) R)
    (hgood : (∀ a y, a < k → AtO l o a y → ¬ x.ended < y.begun) → Ev (K (.exit 2, S.z21 x0 x1 .dead x5 (.int .i64 (k : Nat)), g)) R) :
    Ev ((W.loop (S.zb5 W) (S.z55 x0 x1 x5 (.int .i64 (k : Nat)) (.int .i64 (i : Nat)) (.int .i64 0)) g).bind K) R := by
  refine z32 (α := Nat) (fun y => S.z55 x0 x1 x5 (.int .i64 (k : Nat)) (.int .i64 (i : Nat)) (.int .i64 (y : Nat)))
    (fun y g' => y ≤ k ∧ g' = g ∧ ∀ a z, a < y → AtO l o a z → ¬ x.ended < z.begun) (fun y _ => k - y)
    (fun r => r.2.2 = g ∧ ((r.1 = .ret ∧ r.2.1 = S.z21 x0 x1 (.bool false) x5 (.int .i64 (k : Nat)) ∧ ∃ a y, a < k ∧ AtO l o a y ∧ x.ended < y.begun) ∨ (r.1 = .exit 2 ∧ r.2.1 = S.z21 x0 x1 .dead x5 (.int .i64 (k : Nat)) ∧ ∀ a y, a < k → AtO l o a y → ¬ x.ended < y.begun)))
    0 rfl ⟨Nat.zero_le _, rfl, fun a z ha => absurd ha (Nat.not_lt_zero a)⟩ ?_ ?_
  rotate_left
  · rintro ⟨_, _, g'⟩ ⟨rfl, (⟨rfl, rfl, hb⟩ | ⟨rfl, rfl, hb⟩)⟩
    · exact hbad hb
    · exact hgood hb
  rintro j g' ⟨hj, rfl, hN⟩
  rw [S.zkl]
  by_cases hjk : j < k
  · have hd : decide ((j : Int) < (k : Int)) = true := decide_eq_true (by omega)
    obtain ⟨i2, y, hq, hyi, _⟩ := G j hjk
    obtain ⟨ob, hix, hld⟩ := (ho.fr ok Z.fr (by simp)).at hq
    obtain ⟨eb, e1, e2, _⟩ := (hx.fr ok Z.fr (by simp)).at hxi
    obtain ⟨fb, f1, f2, _⟩ := (hx.fr ok Z.fr (by simp)).at hyi
    have wj := rs_k (Nat.lt_trans hjk (Nat.lt_of_lt_of_le hk hl))
    have ha := fun h => zy2 x y h
    have aty : AtO l o j y := ⟨i2, hq, hyi⟩
    by_cases hlt : x.ended < y.begun
    · have d2 : decide (x.ended < y.begun) = true := decide_eq_true hlt
      simp only [S.z7n, Option.bind_some, zo, Nat.reduceAdd, zw, zh, hd, hix, hld, e1, e2, f1, f2, ha, d2]
      exact Ev.some (.inr ⟨by simp, rfl, .inl ⟨rfl, rfl, j, y, hjk, aty, hlt⟩⟩)
    · have d2 : decide (x.ended < y.begun) = false := decide_eq_false hlt
      simp only [S.z7n, Option.bind_some, zo, Nat.reduceAdd, zw, zh, hd, hix, hld, e1, e2, f1, f2, ha, d2, wj]
      refine Ev.some (.inl ⟨j + 1, rfl, rfl, ⟨hjk, rfl, fun a z ha hz => ?_⟩, Nat.sub_lt_sub_left hjk (Nat.lt_succ_self j)⟩)
      rcases Nat.lt_succ_iff_lt_or_eq.mp ha with h1 | h1
      · exact hN a z h1 hz
      · subst h1
        obtain ⟨j2, hj1, hj2⟩ := hz
        rw [hq] at hj1
        have : i2 = j2 := Int.ofNat.inj (Option.some.inj hj1)
        subst this
        rw [hyi] at hj2; cases hj2; exact hlt
  · have he : j = k := Nat.le_antisymm hj (Nat.le_of_not_lt hjk)
    subst he
    have hd : decide ((j : Int) < (j : Int)) = false := decide_eq_false (Int.lt_irrefl _)
    simp only [S.z7n, hd]
    exact Ev.some (.inr ⟨by simp, rfl, .inr ⟨rfl, rfl, hN⟩⟩)
theorem zz7 {h : H} (ok : h.ok) {x0 : V} {l : List Evt} (hx : RowE h.get x0 l) {x1 : V} {o : List Int} (ho : RowN .i64 h.get x1 o) (hlen : o.length = l.length) (hl : l.length ≤ 60) {mb : Nat} {ms : List Bool} {g : H} (Z : RespAt h g mb ms) {k : Nat} (hk : k < l.length)
    (G : GoodO l o k) (M : Met l.length o k ms) :
    Ev (S.z2i W x0 x1 (.sl mb 0 l.length (.ex l.length)) (k : Nat) g) fun r =>
      (r.1 = .ret ∧ r.2.1 = S.z0f (.bool false) ∧ Fr [] h r.2.2 ∧ ¬ Resp l o) ∨
      ∃ ms', r.1 = .normal ∧ r.2.1 = S.z3r x0 x1 (.sl mb 0 l.length (.ex l.length)) (.int .i64 (k + 1 : Nat)) ∧ RespAt h r.2.2 mb ms' ∧ GoodO l o (k + 1) ∧ Met l.length o (k + 1) ms' := by
  obtain ⟨q, hq⟩ : ∃ q, o[k]? = some q := ⟨_, List.getElem?_eq_getElem (hlen ▸ hk)⟩
  obtain ⟨ob, hix, hld⟩ := (ho.fr ok Z.fr (by simp)).at hq
  have hol := ho.len
  rw [hlen] at hol
  have hdk : decide ((k : Int) < (l.length : Int)) = true := decide_eq_true (by omega)
  have wk := rs_k (Nat.lt_of_lt_of_le hk hl)
  have hxl := hx.len
  have bad : ∀ {g' : H}, Fr [] h g' → ¬ GoodAt l o k → Ev (some (AX.ret, S.z0f (.bool false), g')) fun r =>
      (r.1 = .ret ∧ r.2.1 = S.z0f (.bool false) ∧ Fr [] h r.2.2 ∧ ¬ Resp l o) ∨
      ∃ ms', r.1 = .normal ∧ r.2.1 = S.z3r x0 x1 (.sl mb 0 l.length (.ex l.length)) (.int .i64 (k + 1 : Nat)) ∧ RespAt h r.2.2 mb ms' ∧ GoodO l o (k + 1) ∧ Met l.length o (k + 1) ms' :=
    fun F hb => Ev.some (.inl ⟨rfl, rfl, F, z06n hk hb⟩)
  by_cases hq0 : q < 0
  · have d : decide (q < 0) = true := decide_eq_true hq0
    simp only [S.z2i, Option.bind_some, za, hol, hdk, hix, hld, d]
    exact bad Z.fr fun g => by have := (g.pos hq).1; omega
  have d0 : decide (q < 0) = false := decide_eq_false hq0
  by_cases hqn : (l.length : Int) ≤ q
  · have d : decide ((l.length : Int) ≤ q) = true := decide_eq_true hqn
    simp only [S.z2i, Option.bind_some, za, hol, hdk, hix, hld, d0, hxl, d]
    exact bad Z.fr fun g => by have := (g.pos hq).2; omega
  obtain ⟨i, rfl, hi⟩ : ∃ i : Nat, q = (i : Int) ∧ i < l.length := ⟨q.toNat, by omega, by omega⟩
  have d1 : decide ((l.length : Int) ≤ (i : Int)) = false := decide_eq_false hqn
  have him : zd 1 (.sl mb 0 l.length (.ex l.length)) (.int .i64 (i : Int)) = some (.ptr mb i) := z28 hi
  obtain ⟨m, hm⟩ : ∃ m, ms[i]? = some m := ⟨_, List.getElem?_eq_getElem (M.len ▸ hi)⟩
  have hmb := zz1 hm
  have hmet := Z.met
  cases m with
  | true =>
    simp only [S.z2i, Option.bind_some, z8, zy, z6, z0e, Nat.zero_add, V.one, V.cells, za, zw, List.length_cons, List.length_nil, Nat.beq_refl, List.all_cons, List.all_nil, Bool.not_true, Bool.false_or, Bool.or_self, Bool.and_self, decide_false, z02, reduceCtorEq, hol, hdk, hix, hld, d0, hxl, d1, him, hmet, hmb]
    refine bad Z.fr fun g => ?_
    obtain ⟨x, _, h3, _⟩ := g.of hq
    obtain ⟨a, ha, hb⟩ := (M.met i hi).mp hm
    exact h3 a ha hb
  | false =>
    have hfresh : ∀ a, a < k → o[a]? ≠ some (i : Int) := fun a ha hb => by
      have := (M.met i hi).mpr ⟨a, ha, hb⟩
      rw [hm] at this; cases this
    have him2 : i < ms.length := M.len ▸ hi
    have hle : decide (i + 1 ≤ (z3h ms).length) = true := decide_eq_true (by rw [zo3]; exact him2)
    have hne0 : decide (Bk.rw = Bk.ro) = false := rfl
    obtain ⟨x, hxi⟩ : ∃ x, l[i]? = some x := ⟨_, List.getElem?_eq_getElem hi⟩
    have Z1 := Z.set him2 rfl
    have M1 := M.step hi hq
    generalize hcs : (z3h ms).take i ++ [V.bool true] ++ (z3h ms).drop (i + 1) = cs at Z1
    simp only [S.z2i, Option.bind_some, Option.map_some, z8, zy, z6, z0e, Nat.zero_add, V.one, V.cells, za, zw, List.length_cons, List.length_nil, Nat.beq_refl, List.all_cons, List.all_nil, Bool.not_true, Bool.or_self, Bool.and_self, decide_false, z02, reduceCtorEq, hol, hdk, hix, hld, d0, hxl, d1, him, hmet, hmb, hle, hcs]
    refine z02q ok hx ho hl Z1 hk G hxi _ _ _ ?_ ?_
    · rintro ⟨a, y, ha, hy, hlt⟩
      show Ev (S.z67 W .ret _ _) _
      rw [S.zix]
      refine bad Z1.fr fun g => ?_
      obtain ⟨x', h2, _, h4⟩ := g.of hq
      rw [hxi] at h2; cases h2
      exact h4 a y ha hy hlt
    · intro h4
      show Ev (S.z67 W (.exit 2) _ _) _
      rw [S.zi0]
      simp only [S.zem, wk]
      exact Ev.some (.inr ⟨_, rfl, rfl, Z1, G.succ ⟨i, x, hq, hxi, hfresh, h4⟩, M1⟩)
theorem zmu {h : H} (ok : h.ok) {x0 : V} {l : List Evt} (hx : RowE h.get x0 l) {x1 : V} {o : List Int} (ho : RowN .i64 h.get x1 o) (hl : l.length ≤ 60) : Ev (C 186 [x0, x1] h) fun r => ∃ b, r.1 = .bool b ∧ (b = true ↔ Resp l o) ∧ Fr [] h r.2 := by
  refine z1y (af := F.z0t) (by kernel_rfl) rfl ?_
  rw [S.zpg]
  have hxl := hx.len
  have hol := ho.len
  have he := z08i (a := o.length) (b := l.length)
  by_cases hlen : o.length = l.length
  rotate_left
  · rw [decide_eq_false hlen] at he
    simp only [S.z0t, Option.bind_some, Bool.not_false, hxl, hol, he]
    exact Ev.some ⟨false, rfl, ⟨fun h => (absurd h (by decide)), fun h => absurd h.1 hlen⟩, .refl ok⟩
  rw [decide_eq_true hlen] at he
  have hmk := z01d (h := h) (n := l.length) (Nat.le_trans hl (by decide))
  simp only [S.z0t, Option.bind_some, Bool.not_true, hxl, hol, he, hmk]
  have Z0 : RespAt h (h.new (.cells (z3h (List.replicate l.length false)) .rw)) h.next (List.replicate l.length false) := ⟨(Fr.refl ok).new _, Nat.le_refl _, ze _ _⟩
  refine z32 (α := Nat × List Bool) (fun y => S.z3r x0 x1 (.sl h.next 0 l.length (.ex l.length)) (.int .i64 (y.1 : Nat)))
    (fun y g => y.1 ≤ l.length ∧ RespAt h g h.next y.2 ∧ GoodO l o y.1 ∧ Met l.length o y.1 y.2) (fun y _ => l.length - y.1)
    (fun r => Fr [] h r.2.2 ∧ ((r.1 = .ret ∧ r.2.1 = S.z0f (.bool false) ∧ ¬ Resp l o) ∨ (r.1 = .exit 0 ∧ r.2.1 = S.z0f .dead ∧ Resp l o)))
    (0, List.replicate l.length false) rfl ⟨Nat.zero_le _, Z0, fun b hb => absurd hb (Nat.not_lt_zero b), Met.zero _ _⟩ ?_ ?_
  · rintro ⟨k, ms⟩ g ⟨hk, Z, G, M⟩
    dsimp only at hk Z G M ⊢
    rw [S.zlg]
    by_cases hkl : k < l.length
    · refine (zz7 ok hx ho hlen hl Z hkl G M).mono ?_
      rintro ⟨_, _, g'⟩ (⟨rfl, rfl, F, hb⟩ | ⟨ms', rfl, rfl, Z', G', M'⟩)
      · exact .inr ⟨by simp, F, .inl ⟨rfl, rfl, hb⟩⟩
      · exact .inl ⟨(k + 1, ms'), rfl, rfl, ⟨hkl, Z', G', M'⟩, Nat.sub_lt_sub_left hkl (Nat.lt_succ_self k)⟩
    · have hke : k = l.length := Nat.le_antisymm hk (Nat.le_of_not_lt hkl)
      subst hke
      have hd : decide ((l.length : Int) < (o.length : Int)) = false := decide_eq_false (by omega)
      simp only [S.z2i, hol, Option.bind_some, hd]
      exact Ev.some (.inr ⟨by simp, Z.fr, .inr ⟨rfl, rfl, hlen, G⟩⟩)
  rintro ⟨_, _, g⟩ ⟨F, (⟨rfl, rfl, hb⟩ | ⟨rfl, rfl, hb⟩)⟩
  · show Ev (S.z65 W .ret _ g) _
    rw [S.zip]
    exact Ev.some ⟨false, rfl, ⟨fun h => (absurd h (by decide)), fun h => absurd h hb⟩, F⟩
  · show Ev (S.z65 W (.exit 0) _ g) _
    rw [S.zi6]
    exact Ev.some ⟨true, rfl, ⟨fun _ => hb, fun _ => rfl⟩, F⟩
open Go.Sort (swp PermIn SortedIn Below SWO)
section
variable {h0 h : H} {b N f : Nat} {cs : List V} {lt : Int → Int → Bool} {d : Array Int} {c : Cap}
end
def idA (n : Nat) : Array Int := ((List.range n).map (fun i : Nat => (i : Int))).toArray
theorem zzp (n : Nat) : (idA n).size = n := by simp [idA]
theorem z06c {n i : Nat} (hi : i < n) : (idA n)[i]! = (i : Int) := by
  rw [getElem!_pos (idA n) i (by rw [zzp]; exact hi)]
  simp [idA]
open Go.Sort (swp PermIn SortedIn Below SWO)
theorem z07s {g : H} {q n : Nat} {z vs : List V} (hq : g.get q = some (.cells z .rw)) (hz : z.length = n) (hv : vs.length = n) (h1 : vs.all V.one = true) : g.st n (.ptr q 0) (.agg vs) = some (g.put q (some (.cells vs .rw))) := by
  have e1 : Nat.beq (V.cells (.agg vs)).length n = true := by rw [z0o, hv]; exact Nat.beq_refl n
  rw [zy, e1]
  simp only [z0o, hq, z0e, h1, hv, hz, Nat.zero_add, Nat.le_refl, decide_true, Bool.not_true, Bool.or_false, reduceCtorEq, decide_false, Option.map_some, z02, List.take_zero, List.nil_append]
  rw [List.drop_of_length_le (by rw [hz]; exact Nat.le_refl _), List.append_nil]
theorem z07e {g : H} {q n : Nat} {vs : List V} {k : Bk} (hq : g.get q = some (.cells vs k)) (hv : vs.length = n) : g.ldN n (.ptr q 0) = some (.agg vs) := by
  rw [zd6 hq (by rw [hv]; omega), List.drop_zero, ← hv, List.take_length]
def z8g (n k : Nat) : List V := (List.range n).map fun i => .int .i64 (if i < k then (i : Int) else 0)
theorem zg5 (n k : Nat) : (z8g n k).length = n := by unfold z8g; rw [List.length_map, List.length_range]
theorem ztp {n k i : Nat} (hi : i < n) : (z8g n k)[i]? = some (.int .i64 (if i < k then (i : Int) else 0)) := by
  unfold z8g; rw [List.getElem?_map, List.getElem?_range hi]; rfl
theorem z035 {n k : Nat} (hk : k < n) : (z8g n k).set k (.int .i64 (k : Int)) = z8g n (k + 1) := by
  apply List.ext_getElem?
  intro i
  by_cases hi : i < n
  · rw [ztp hi]
    by_cases hik : k = i
    · subst hik
      rw [List.getElem?_set_self (by rw [zg5]; exact hk), if_pos (Nat.lt_succ_self k)]
    · rw [List.getElem?_set_ne hik, ztp hi]
      by_cases h1 : i < k
      · rw [if_pos h1, if_pos (Nat.lt_succ_of_lt h1)]
      · rw [if_neg h1, if_neg (by omega)]
  · rw [List.getElem?_eq_none (by rw [List.length_set, zg5]; omega), List.getElem?_eq_none (by rw [zg5]; omega)]
theorem z041 (n : Nat) : z8g n n = ints (idA n) := by
  unfold z8g ints idA
  rw [List.map_map]
  apply List.map_congr_left
  intro i hi
  rw [if_pos (List.mem_range.mp hi)]; rfl
theorem zvl (n : Nat) : repl [V.int .i64 0] n = z8g n 0 := by
  apply List.ext_getElem?
  intro i
  have hl : ∀ n, (repl [V.int .i64 0] n) = List.replicate n (V.int .i64 0) := fun n => by
    induction n with
    | zero => rfl
    | succ n ih => simp only [repl, ih, List.replicate_succ, List.cons_append, List.nil_append]
  rw [hl]
  by_cases hi : i < n
  · rw [ztp hi, List.getElem?_replicate, if_pos hi]; rfl
  · rw [List.getElem?_eq_none (by rw [List.length_replicate]; omega), List.getElem?_eq_none (by rw [zg5]; omega)]
theorem z07j {h : H} {n : Nat} (hn : n ≤ 1000000) : h.mkSl 1 8 [(.int .i64 0)] (n : Int) (n : Int) = some (.sl h.next 0 n (.ex n), h.new (.cells (z8g n 0) .rw)) := by
  have h0 : (0 : Int) ≤ (n : Int) := Int.natCast_nonneg n
  have h1 : (n : Int) * ((8 : Nat) : Int) ≤ 140737488355328 := by omega
  have h2 : (n : Int) ≤ 9223372036854775807 := by omega
  rw [zgc (e := 1) (z := [.int .i64 0]) h0 (Int.le_refl _) h1 h2 rfl (by decide), Int.toNat_natCast, zvl]
def zE : List V := [(.int .i64 0), (.int .i64 0), (.int .i64 0), (.int .i64 0), (.int .i64 0), (.bool false), (.int .i64 0), (.int .i64 0), (.int .u64 0), (.int .u64 0), (.int .u64 0), (.int .i64 0), (.int .u64 0), (.bool false)]
theorem z080 {g : H} (ok : g.ok) {vs : List V} (hv : vs.length = 14) (h1 : vs.all V.one = true) : ∃ g', (g.new (.cells zE .rw)).st 14 (.ptr g.next 0) (.agg vs) = some g' ∧ Fr [] g g' ∧ g'.get g.next = some (.cells vs .rw) ∧ g'.next = g.next + 1 :=
  ⟨_, z07s (z := zE) (ze _ _) rfl hv h1, ((Fr.refl ok).new _).put (.inr (Nat.le_refl _)) (by rw [H.next_new]; exact Nat.lt_succ_self _) _, zs _ _ _, by rw [H.next_put, H.next_new]⟩
theorem z076 (x : Evt) : x.cs.all V.one = true := rfl
open Go.Sort (swp PermIn SortedIn SWO)
def rng (n : Nat) : List Int := (List.range n).map (fun i : Nat => (i : Int))
section
variable {h : H} {k : Cfg} {x0 x1 : V} {l : List Evt} {o : List Int}
theorem z05x (k : Cfg) : k.v = .agg [.int .i64 k.s, .int .i64 k.a, .int .i64 k.c, .int .i64 k.hd, .int .i64 k.g, .int .i64 k.st] := rfl
theorem zwe (k : Cfg) (ok : h.ok) : ∃ g, g = h.new (.cells [.int .i64 k.s, .int .i64 k.a, .int .i64 k.c, .int .i64 k.hd, .int .i64 k.g, .int .i64 k.st] .rw) ∧ Fr [] h g ∧ g.get h.next = some (.cells k.cs .rw) :=
  ⟨_, rfl, (Fr.refl ok).new _, ze _ _⟩
theorem zbc {g : H} {q : Nat} (hq : g.get q = some (.cells k.cs .rw)) : g.ldN 6 (.ptr q 0) = some k.v := by rw [zd6 hq (show 0 + 6 ≤ 6 from Nat.le_refl _)]; rfl
end
def zl6 (l : List Evt) (o : List Int) (p n : Nat) : Prop := ∀ (i : Nat) y x, i < n → l[i]? = some y → l[p]? = some x → i ≠ p → (i : Int) ∉ o → ¬ y.ended < x.begun
def May (l : List Evt) (o : List Int) (p : Nat) : Prop := (p : Int) ∉ o ∧ zl6 l o p l.length
theorem z04u {h : H} (ok : h.ok) {x0 x1 : V} {l : List Evt} {o : List Int} (hx : RowE h.get x0 l) (ho : RowO .i64 h.get x1 o) (hol : o.length ≤ 100000) (hl : l.length ≤ 60) {p : Nat} (hp : p < l.length) {g : H} (F : Fr [] h g) (hob : ∀ b, (∃ x, h.get b = some x) → b < h.next) {i : Nat} (hi : i ≤ l.length) (hM : zl6 l o p i) :
    Ev (S.zb8 W x0 x1 (p : Nat) x0 (l.length : Nat) (i : Nat) g) fun z =>
      (z.1 = .ret ∧ z.2.1 = S.z8z (.bool false) ∧ Fr [] h z.2.2 ∧ ¬ zl6 l o p l.length) ∨
      (z.1 = .exit 0 ∧ z.2.1 = S.z8z .dead ∧ Fr [] h z.2.2 ∧ zl6 l o p l.length) ∨
      (i < l.length ∧ z.1 = .normal ∧ z.2.1 = S.zbf x0 x1 (.int .i64 (p : Nat)) x0 (.int .i64 (l.length : Nat)) (.int .i64 (i + 1 : Nat)) ∧ Fr [] h z.2.2 ∧ zl6 l o p (i + 1)) := by
  by_cases hil : i < l.length
  · have d : decide ((i : Int) < (l.length : Int)) = true := zca hil
    obtain ⟨y, hy⟩ : ∃ y, l[i]? = some y := ⟨_, List.getElem?_eq_getElem hil⟩
    obtain ⟨x, hpx⟩ : ∃ x, l[p]? = some x := ⟨_, List.getElem?_eq_getElem hp⟩
    obtain ⟨b, ix, ly, _⟩ := (hx.fr ok F (by simp)).at hy
    obtain ⟨g', en, Fn, hn, _⟩ := z080 F.ok (vs := y.cs) rfl (z076 y)
    have F' := F.trans' Fn
    have wi := rl_k (n := i) (by omega)
    have next : (i ≠ p → (i : Int) ∉ o → ¬ y.ended < x.begun) → zl6 l o p (i + 1) := fun hh j y' x' hj h1 h2 h3 h4 => by
      rcases Nat.lt_succ_iff_lt_or_eq.mp hj with q | q
      · exact hM j y' x' q h1 h2 h3 h4
      · subst q
        rw [hy] at h1; rw [hpx] at h2
        cases h1; cases h2
        exact hh h3 h4
    have ldy : g.ldN 14 (.ptr b (i * 14)) = some (.agg y.cs) := by rw [zo]; exact ly
    have zE' : ([(.int .i64 0), (.int .i64 0), (.int .i64 0), (.int .i64 0), (.int .i64 0), (.bool false), (.int .i64 0), (.int .i64 0), (.int .u64 0), (.int .u64 0), (.int .u64 0), (.int .i64 0), (.int .u64 0), (.bool false)] : List V) = zE := rfl
    by_cases hip : i = p
    · have d1 : decide ((i : Int) = (p : Int)) = true := decide_eq_true (by omega)
      simp only [S.zb8, d, ix, z9, ldy, zE', en, d1, Bool.not_true, wi]
      exact Ev.some (.inr (.inr ⟨hil, rfl, rfl, F', next fun h3 => absurd hip h3⟩))
    have d1 : decide ((i : Int) = (p : Int)) = false := decide_eq_false (by omega)
    have hc := zk8 (ho.sub (fun b x hb => F'.get ok hb (by simp))) hol (i : Int)
    by_cases hio : (i : Int) ∈ o
    · have hct : o.contains (i : Int) = true := List.contains_iff_mem.mpr hio
      rw [hct] at hc
      simp only [S.zb8, d, ix, z9, ldy, zE', en, d1, Bool.not_false, zh, hc, zw, Bool.not_true, wi]
      exact Ev.some (.inr (.inr ⟨hil, rfl, rfl, F', next fun _ h4 => absurd hio h4⟩))
    · have hct : o.contains (i : Int) = false := by
        cases hq : o.contains (i : Int) with
        | false => rfl
        | true => exact absurd (List.contains_iff_mem.mp hq) hio
      rw [hct] at hc
      obtain ⟨b2, ix2, ly2, _⟩ := (hx.fr ok F' (by simp)).at hpx
      have ld2 : g'.ldN 14 (.ptr b2 (p * 14)) = some (.agg x.cs) := by rw [zo]; exact ly2
      have ld1' : g'.ldN 14 (.ptr g.next 0) = some (.agg y.cs) := z07e hn rfl
      have ha := z01j y x g'
      by_cases hlt : y.ended < x.begun
      · have d2 : decide (y.ended < x.begun) = true := decide_eq_true hlt
        rw [d2] at ha
        simp only [S.zb8, d, ix, z9, ldy, zE', en, d1, Bool.not_false, zh, hc, zw, ld1', ix2, ld2, ha]
        exact Ev.some (.inl ⟨rfl, rfl, F', fun hh => hh i y x hil hy hpx hip hio hlt⟩)
      · have d2 : decide (y.ended < x.begun) = false := decide_eq_false hlt
        rw [d2] at ha
        simp only [S.zb8, d, ix, z9, ldy, zE', en, d1, Bool.not_false, zh, hc, zw, ld1', ix2, ld2, ha, wi]
        exact Ev.some (.inr (.inr ⟨hil, rfl, rfl, F', next fun _ _ => hlt⟩))
  · have hie : i = l.length := Nat.le_antisymm hi (Nat.le_of_not_lt hil)
    have d : decide ((i : Int) < (l.length : Int)) = false := decide_eq_false (by omega)
    simp only [S.zb8, d]
    exact Ev.some (.inr (.inl ⟨rfl, rfl, F, hie ▸ hM⟩))
theorem z057 {h : H} (ok : h.ok) {x0 x1 : V} {l : List Evt} {o : List Int} (hx : RowE h.get x0 l) (ho : RowO .i64 h.get x1 o) (hol : o.length ≤ 100000) (hl : l.length ≤ 60) {p : Nat} (hp : p < l.length) :
    Ev (C 349 [x0, x1, .int .i64 (p : Nat)] h) fun z => ∃ v, z.1 = .bool v ∧ (v = true ↔ May l o p) ∧ Fr [] h z.2 := by
  refine z1y (af := F.zbq) (by kernel_rfl) rfl ?_
  rw [S.z01m]
  have hc := zk8 ho hol (p : Int)
  by_cases hpo : (p : Int) ∈ o
  · have hct : o.contains (p : Int) = true := List.contains_iff_mem.mpr hpo
    rw [hct] at hc
    simp only [S.zbq, zh, hc, z9, zw]
    exact Ev.some ⟨false, rfl, Iff.intro (fun q => nomatch q) (fun q => absurd hpo q.1), Fr.refl ok⟩
  have hct : o.contains (p : Int) = false := by
    cases hq : o.contains (p : Int) with
    | false => rfl
    | true => exact absurd (List.contains_iff_mem.mp hq) hpo
  rw [hct] at hc
  have hxl := hx.len
  simp only [S.zbq, zh, hc, z9, zw, hxl]
  refine z32 (α := Nat) (fun i => S.zbf x0 x1 (.int .i64 (p : Nat)) x0 (.int .i64 (l.length : Nat)) (.int .i64 (i : Nat)))
    (fun i g => i ≤ l.length ∧ Fr [] h g ∧ zl6 l o p i) (fun i _ => l.length - i)
    (fun z => (z.1 = .ret ∧ z.2.1 = S.z8z (.bool false) ∧ Fr [] h z.2.2 ∧ ¬ zl6 l o p l.length) ∨
      (z.1 = .exit 0 ∧ z.2.1 = S.z8z .dead ∧ Fr [] h z.2.2 ∧ zl6 l o p l.length)) 0 rfl ⟨Nat.zero_le _, Fr.refl ok, fun _ _ _ hj => absurd hj (Nat.not_lt_zero _)⟩ ?_ ?_
  rotate_left
  · rintro ⟨_, _, g'⟩ (⟨rfl, rfl, F, hN⟩ | ⟨rfl, rfl, F, hN⟩)
    · show Ev (S.zh2 W .ret _ _) _
      rw [S.zv2]
      exact Ev.some ⟨false, rfl, Iff.intro (fun q => nomatch q) (fun q => absurd q.2 hN), F⟩
    · show Ev (S.zh2 W (.exit 0) _ _) _
      rw [S.zur]
      exact Ev.some ⟨true, rfl, Iff.intro (fun _ => ⟨hpo, hN⟩) (fun _ => rfl), F⟩
  rintro i g ⟨hi, F, hM⟩
  rw [S.zy1]
  refine (z04u ok hx ho hol hl hp F (fun b ⟨x, hb⟩ => ok.lt hb) hi hM).mono ?_
  rintro ⟨_, _, g2⟩ (⟨rfl, rfl, F2, hN⟩ | ⟨rfl, rfl, F2, hN⟩ | ⟨hlt, rfl, rfl, F2, hM2⟩)
  · exact .inr ⟨by simp, .inl ⟨rfl, rfl, F2, hN⟩⟩
  · exact .inr ⟨by simp, .inr ⟨rfl, rfl, F2, hN⟩⟩
  · exact .inl ⟨i + 1, rfl, rfl, ⟨hlt, F2, hM2⟩, Nat.sub_lt_sub_left hlt (Nat.lt_succ_self i)⟩
end Wm
end
noncomputable section
namespace Wm
section
variable {k : Cfg} {l : List Evt}
def nI (o : List Nat) : List Int := o.map fun i : Nat => (i : Int)
theorem z9i (o : List Nat) : (nI o).length = o.length := List.length_map _
theorem zi9 (o : List Nat) (p : Nat) : nI (o ++ [p]) = nI o ++ [(p : Int)] := by simp [nI]
theorem zex {o : List Nat} {j : Nat} : (nI o)[j]? = (o[j]?).map fun i : Nat => (i : Int) := by simp [nI]
theorem zmq {o : List Nat} {p : Nat} : (p : Int) ∈ nI o ↔ p ∈ o := by
  simp only [nI, List.mem_map]
  exact ⟨fun ⟨a, h, e⟩ => Int.ofNat.inj e ▸ h, fun h => ⟨p, h, rfl⟩⟩
structure OkF (k : Cfg) (l : List Evt) (o : List Nat) : Prop where
  tak : ∃ r, rpS k l (rst0 k) (nI o) = some r
  may : ∀ j i, o[j]? = some i → i < l.length ∧ May l (nI (o.take j)) i
theorem z00u : OkF k l [] := ⟨⟨_, rfl⟩, fun j i h => by simp at h⟩
theorem OkF.snoc {o : List Nat} (A : OkF k l o) {p : Nat} (hp : p < l.length) (hm : May l (nI o) p) {r r' : RSt} (hr : rpS k l (rst0 k) (nI o) = some r) (h1 : rp1 k l r (p : Int) = some r') : OkF k l (o ++ [p]) := by
  refine ⟨⟨r', by rw [zi9, znx, hr]; exact h1⟩, fun j i h => ?_⟩
  by_cases hj : j < o.length
  · rw [List.getElem?_append_left hj] at h
    rw [List.take_append_of_le_length (Nat.le_of_lt hj)]
    exact A.may j i h
  · have hl := z03 h
    simp only [List.length_append, List.length_cons, List.length_nil] at hl
    have hj' : j = o.length := by omega
    subst hj'
    simp only [List.getElem?_append_right (Nat.le_refl _), Nat.sub_self, List.getElem?_cons_zero, Option.some.injEq] at h
    subst h
    rw [List.take_append_of_le_length (Nat.le_refl _), List.take_length]
    exact ⟨hp, hm⟩
theorem OkF.next {q o : List Nat} (A : OkF k l q) (h : q.take o.length = o) {p : Nat} (hp : q[o.length]? = some p) : p < l.length ∧ May l (nI o) p ∧ ∃ r r', rpS k l (rst0 k) (nI o) = some r ∧ rp1 k l r (p : Int) = some r' := by
  have h1 := A.may _ _ hp
  rw [h] at h1
  obtain ⟨r, hr⟩ := A.tak
  have e : q = (o ++ [p]) ++ q.drop (o.length + 1) := by
    have : q.take (o.length + 1) = o ++ [p] := by rw [List.take_succ, h, hp]; rfl
    rw [← this, List.take_append_drop]
  rw [e] at hr
  have hr' : rpS k l (rst0 k) (nI (o ++ [p]) ++ nI (q.drop (o.length + 1))) = some r := by
    rw [← hr]; simp [nI]
  obtain ⟨r1, h2, _⟩ := zwt _ _ _ hr'
  rw [zi9, znx] at h2
  cases h3 : rpS k l (rst0 k) (nI o) with
  | none => rw [h3] at h2; cases h2
  | some r0 => rw [h3] at h2; exact ⟨h1.1, h1.2, r0, r1, rfl, h2⟩
def Past (c q : List Nat) : Prop := ∃ j a b, q.take j = c.take j ∧ q[j]? = some a ∧ c[j]? = some b ∧ a < b
theorem z6q {o q : List Nat} {p : Nat} : Past (o ++ [p]) q ↔ Past o q ∨ (q.take o.length = o ∧ ∃ a, q[o.length]? = some a ∧ a < p) := by
  constructor
  · rintro ⟨j, a, b, h1, h2, h3, h4⟩
    by_cases hj : j < o.length
    · rw [List.getElem?_append_left hj] at h3
      rw [List.take_append_of_le_length (Nat.le_of_lt hj)] at h1
      exact .inl ⟨j, a, b, h1, h2, h3, h4⟩
    · have hl := z03 h3
      simp only [List.length_append, List.length_cons, List.length_nil] at hl
      have hj' : j = o.length := by omega
      subst hj'
      simp only [List.getElem?_append_right (Nat.le_refl _), Nat.sub_self, List.getElem?_cons_zero, Option.some.injEq] at h3
      subst h3
      rw [List.take_append_of_le_length (Nat.le_refl _), List.take_length] at h1
      exact .inr ⟨h1, a, h2, h4⟩
  · rintro (⟨j, a, b, h1, h2, h3, h4⟩ | ⟨h1, a, h2, h4⟩)
    · have hj := z03 h3
      exact ⟨j, a, b, by rw [List.take_append_of_le_length (Nat.le_of_lt hj)]; exact h1, h2, by rw [List.getElem?_append_left hj]; exact h3, h4⟩
    · exact ⟨o.length, a, p, by rw [List.take_append_of_le_length (Nat.le_refl _), List.take_length]; exact h1, h2, by simp, h4⟩
def SInv (k : Cfg) (l : List Evt) (o : List Nat) (p : Nat) : Prop := ∀ q, OkF k l q → q.length = l.length → ¬ Past (o ++ [p]) q
theorem z068 : SInv k l [] 0 := fun q _ _ h => by
  rcases z6q.mp h with ⟨j, a, b, _, _, h3, _⟩ | ⟨_, a, _, h⟩
  · simp at h3
  · omega
theorem SInv.skip {o : List Nat} {p : Nat} (A : SInv k l o p) (h : ¬ (May l (nI o) p ∧ ∃ r r', rpS k l (rst0 k) (nI o) = some r ∧ rp1 k l r (p : Int) = some r')) : SInv k l o (p + 1) := fun q hq hn hP => by
  rcases z6q.mp hP with h1 | ⟨h1, a, h2, h3⟩
  · exact A q hq hn (z6q.mpr (.inl h1))
  · rcases Nat.lt_succ_iff_lt_or_eq.mp h3 with h4 | h4
    · exact A q hq hn (z6q.mpr (.inr ⟨h1, a, h2, h4⟩))
    · subst h4; exact h (hq.next h1 h2).2
theorem SInv.push {o : List Nat} {p : Nat} (A : SInv k l o p) : SInv k l (o ++ [p]) 0 := fun q hq hn hP => by
  rcases z6q.mp hP with h1 | ⟨_, a, _, h3⟩
  · exact A q hq hn h1
  · omega
theorem SInv.back {o : List Nat} {x : Nat} (A : SInv k l (o ++ [x]) l.length) (hl : o.length + 1 < l.length) : SInv k l o (x + 1) := fun q hq hn hP => by
  rcases z6q.mp hP with h1 | ⟨h1, a, h2, h3⟩
  · exact A q hq hn (z6q.mpr (.inl (z6q.mpr (.inl h1))))
  · rcases Nat.lt_succ_iff_lt_or_eq.mp h3 with h4 | h4
    · exact A q hq hn (z6q.mpr (.inl (z6q.mpr (.inr ⟨h1, a, h2, h4⟩))))
    · subst h4
      obtain ⟨b, hb⟩ : ∃ b, q[o.length + 1]? = some b := ⟨_, List.getElem?_eq_getElem (by omega)⟩
      refine A q hq hn (z6q.mpr (.inr ⟨?_, b, ?_, (hq.may _ _ hb).1⟩))
      · rw [List.length_append, List.length_singleton, List.take_succ, h1, h2]; rfl
      · rw [List.length_append, List.length_singleton]; exact hb
theorem SInv.none (A : SInv k l [] l.length) (hl : 0 < l.length) (q : List Nat) (hq : OkF k l q) (hn : q.length = l.length) : False := by
  obtain ⟨b, hb⟩ : ∃ b, q[0]? = some b := ⟨_, List.getElem?_eq_getElem (by omega)⟩
  exact A q hq hn (z6q.mpr (.inr ⟨by simp, b, hb, (hq.may _ _ hb).1⟩))
def cod : Nat → List Nat → Nat
  | 0, _ => 0
  | _ + 1, [] => 0
  | w + 1, d :: ds => (d + 1) * 10 ^ w + cod w ds
theorem zv5 : ∀ (w : Nat) (ds : List Nat), (∀ d ∈ ds, d ≤ 8) → cod w ds < 10 ^ w
  | 0, _, _ => by simp [cod]
  | w + 1, [], _ => Nat.pow_pos (by decide)
  | w + 1, d :: ds, h => by
    have h1 := zv5 w ds (fun x hx => h x (by simp [hx]))
    have h2 : d + 1 ≤ 9 := by have := h d (by simp); omega
    have h3 : (d + 1) * 10 ^ w ≤ 9 * 10 ^ w := Nat.mul_le_mul_right _ h2
    simp only [cod, Nat.pow_succ]
    omega
theorem zzf : ∀ (w : Nat) (o : List Nat) (p : Nat), o.length < w → cod w (o ++ [p]) < cod w (o ++ [p + 1])
  | 0, o, p, h => by omega
  | w + 1, [], p, _ => by
    simp only [List.nil_append, cod]
    have : 0 < 10 ^ w := Nat.pow_pos (by decide)
    have h2 : (p + 1 + 1) * 10 ^ w = (p + 1) * 10 ^ w + 10 ^ w := by rw [Nat.succ_mul]
    have h0 : cod w [] = 0 := by cases w <;> rfl
    omega
  | w + 1, d :: o, p, h => by
    have := zzf w o p (by simpa using h)
    simp only [List.cons_append, cod]; omega
theorem zz3 : ∀ (w : Nat) (o : List Nat) (p : Nat), o.length < w → cod w o < cod w (o ++ [p])
  | 0, o, p, h => by omega
  | w + 1, [], p, _ => by
    have : 0 < 10 ^ w := Nat.pow_pos (by decide)
    have h0 : cod w [] = 0 := by cases w <;> rfl
    have h2 : 10 ^ w ≤ (p + 1) * 10 ^ w := Nat.le_mul_of_pos_left _ (Nat.succ_pos p)
    simp only [List.nil_append, cod]; omega
  | w + 1, d :: o, p, h => by
    have := zz3 w o p (by simpa using h)
    simp only [List.cons_append, cod]; omega
theorem zzm : ∀ (w : Nat) (o : List Nat) (x n : Nat), o.length < w → n ≤ 8 → cod w (o ++ [x] ++ [n]) < cod w (o ++ [x + 1])
  | 0, o, x, n, h, _ => by omega
  | w + 1, [], x, n, _, hn => by
    have h1 := zv5 w [n] (by simpa using hn)
    have h2 : (x + 1 + 1) * 10 ^ w = (x + 1) * 10 ^ w + 10 ^ w := by rw [Nat.succ_mul]
    have h0 : cod w [] = 0 := by cases w <;> rfl
    simp only [List.nil_append, List.cons_append, cod]; omega
  | w + 1, d :: o, x, n, h, hn => by
    have := zzm w o x n (by simpa using h) hn
    simp only [List.cons_append, cod]; omega
theorem zzn {q : List Nat} (hn : q.length = l.length) : OkF k l q ↔ Resp l (nI q) ∧ ∃ r, rpS k l (rst0 k) (nI q) = some r := by
  constructor
  · intro A
    refine ⟨⟨by rw [z9i]; exact hn, fun b hb => ?_⟩, A.tak⟩
    obtain ⟨i, hi⟩ : ∃ i, q[b]? = some i := ⟨_, List.getElem?_eq_getElem (by omega)⟩
    obtain ⟨hil, hnot, _⟩ := A.may b i hi
    obtain ⟨x, hx⟩ : ∃ x, l[i]? = some x := ⟨_, List.getElem?_eq_getElem hil⟩
    refine ⟨i, x, by rw [zex, hi]; rfl, hx, fun a ha he => hnot ?_, fun a y ha hy hlt => ?_⟩
    · rw [zex] at he
      cases hqa : q[a]? with
      | none => rw [hqa] at he; cases he
      | some i' =>
        rw [hqa] at he
        have : i' = i := Int.ofNat.inj (Option.some.inj he)
        subst this
        exact zmq.mpr (List.mem_of_getElem? (i := a) (by rw [List.getElem?_take, if_pos ha]; exact hqa))
    · obtain ⟨j, hj, hyj⟩ := hy
      have hqa : q[a]? = some j := by
        rw [zex] at hj
        cases hqa : q[a]? with
        | none => rw [hqa] at hj; cases hj
        | some i' => rw [hqa] at hj; rw [Int.ofNat.inj (Option.some.inj hj)]
      obtain ⟨_, _, hm⟩ := A.may a j hqa
      refine hm i x y hil hx hyj ?_ ?_ hlt
      · intro e; subst e
        exact hnot (zmq.mpr (List.mem_of_getElem? (i := a) (by rw [List.getElem?_take, if_pos ha]; exact hqa)))
      · intro hmem
        have hmem := zmq.mp hmem
        obtain ⟨c, hc⟩ := List.mem_iff_getElem?.mp hmem
        rw [List.getElem?_take] at hc
        split at hc
        · rename_i hca
          exact hnot (zmq.mpr (List.mem_of_getElem? (i := c) (by rw [List.getElem?_take, if_pos (by omega)]; exact hc)))
        · cases hc
  · rintro ⟨⟨hlen, G⟩, ht⟩
    refine ⟨ht, fun j i hj => ?_⟩
    obtain ⟨i', x, h1, h2, h3, h4⟩ := G j (by have := z03 hj; omega)
    rw [zex, hj] at h1
    have : i = i' := Int.ofNat.inj (Option.some.inj h1)
    subst this
    refine ⟨z03 h2, fun hm => ?_, fun i' y x' hi' hy hx' hne hno hlt => ?_⟩
    · obtain ⟨a, ha⟩ := List.mem_iff_getElem?.mp (zmq.mp hm)
      rw [List.getElem?_take] at ha
      split at ha
      · rename_i haj
        exact h3 a haj (by rw [zex, ha]; rfl)
      · cases ha
    · have hnd : q.Nodup := by
        rw [List.Nodup, List.pairwise_iff_getElem]
        intro a b ha hb hab he
        have he : q[a]? = q[b]? := by rw [List.getElem?_eq_getElem ha, List.getElem?_eq_getElem hb, he]
        obtain ⟨i2, x2, g1, _, g3, _⟩ := G b (by omega)
        exact g3 a hab (by rw [zex, he, ← zex]; exact g1)
      have hlt' : ∀ v ∈ q, v < l.length := fun v hv => by
        obtain ⟨a, ha⟩ := List.mem_iff_getElem?.mp hv
        obtain ⟨i2, x2, g1, g2, _⟩ := G a (by have := z03 ha; omega)
        rw [zex, ha] at g1
        have : v = i2 := Int.ofNat.inj (Option.some.inj g1)
        subst this
        exact z03 g2
      have hmem : i' ∈ q := by
        refine Classical.byContradiction fun hn' => ?_
        have nd : (i' :: q).Nodup := List.nodup_cons.mpr ⟨hn', hnd⟩
        have : (i' :: q) ⊆ List.range l.length := fun v hv => by
          rcases List.mem_cons.mp hv with rfl | hv
          · exact List.mem_range.mpr hi'
          · exact List.mem_range.mpr (hlt' v hv)
        have := nd.length_le_of_subset this
        rw [List.length_range, List.length_cons] at this
        omega
      obtain ⟨c, hc⟩ := List.mem_iff_getElem?.mp hmem
      have hjc : j < c := by
        rcases Nat.lt_trichotomy c j with q1 | q1 | q1
        · exact absurd (zmq.mpr (List.mem_of_getElem? (i := c) (by rw [List.getElem?_take, if_pos q1]; exact hc))) hno
        · subst q1; rw [hj] at hc; exact absurd (Option.some.inj hc).symm hne
        · exact q1
      obtain ⟨i2, x2, g1, g2, _, g4⟩ := G c (by have := z03 hc; omega)
      rw [zex, hc] at g1
      have : i' = i2 := Int.ofNat.inj (Option.some.inj g1)
      subst this
      rw [hy] at g2; cases g2
      exact g4 j x' hjc ⟨i, by rw [zex, hj]; rfl, hx'⟩ hlt
end
theorem zuc {b : Nat → List V → H → Option (AX × List V × H)} {l j : Nat} {e e' : List V} {h h' : H} {r : AX × List V × H} (hb : b l e h = some (.goto j, e', h')) (hr : scopeW b (j + 1) e' h' = some r) : scopeW b l e h = some r := by
  obtain ⟨n, hn⟩ := zfe hr
  refine ziw (n := n + 1) ?_
  simp only [z1o, hb]
  exact hn
theorem zv6 {b : Nat → List V → H → Option (AX × List V × H)} {l : Nat} {e : List V} {h : H} {x : AX} {e' : List V} {h' : H} (hb : b l e h = some (x, e', h')) (hx : ∀ j, x ≠ .goto j) : scopeW b l e h = some (x, e', h') := by
  refine ziw (n := 1) ?_
  simp only [z1o, hb]
  cases x with
  | goto j => exact absurd rfl (hx j)
  | _ => rfl
end Wm
end
noncomputable section
namespace Wm
attribute [local congr] zl
attribute [local irreducible] wr
theorem z021 {α : Type} {b : Nat → List V → H → Option (AX × List V × H)} (lab : α → Nat) (enc : α → List V) (I : α → H → Prop) (μ : α → H → Nat) {Q : AX × List V × H → Prop}
    (step : ∀ a h, I a h → Ev (b (lab a + 1) (enc a) h) fun r => (∃ a', r.1 = .goto (lab a') ∧ r.2.1 = enc a' ∧ I a' r.2.2 ∧ μ a' r.2.2 < μ a h) ∨ ((∀ j, r.1 ≠ .goto j) ∧ Q r)) :
    ∀ (a : α) (h : H), I a h → Ev (scopeW b (lab a + 1) (enc a) h) Q := by
  have key : ∀ (n : Nat) (a : α) (h : H), μ a h = n → I a h → Ev (scopeW b (lab a + 1) (enc a) h) Q := by
    intro n
    induction n using Nat.strongRecOn with
    | ind n ih =>
      intro a h hn hI
      obtain ⟨⟨x, e', h'⟩, hb, hr⟩ := step a h hI
      rcases hr with ⟨a', hx, he, hI', hlt⟩ | ⟨hx, hQ⟩
      · simp only at hx he hI' hlt
        subst hx; subst he
        obtain ⟨r, hl, hq⟩ := ih _ (by omega) a' h' rfl hI'
        exact ⟨r, zuc hb hl, hq⟩
      · exact ⟨_, zv6 hb hx, hQ⟩
  exact fun a h hI => key _ a h rfl hI
theorem zxd {α : Type} {call : Nat → List V → H → Option (V × H)} {meth : Nat → Nat → Option Nat} {b : Nat → List V → H → Option (AX × List V × H)} {R : Type} {k : AX × List V × H → Option R} {Q : R → Prop} {e : List V} {h : H} (lab : α → Nat) (enc : α → List V) (I : α → H → Prop) (μ : α → H → Nat) (P : AX × List V × H → Prop)
    (start : Ev (b 0 e h) fun r => (∃ a', r.1 = .goto (lab a') ∧ r.2.1 = enc a' ∧ I a' r.2.2) ∨ ((∀ j, r.1 ≠ .goto j) ∧ P r))
    (step : ∀ a h, I a h → Ev (b (lab a + 1) (enc a) h) fun r => (∃ a', r.1 = .goto (lab a') ∧ r.2.1 = enc a' ∧ I a' r.2.2 ∧ μ a' r.2.2 < μ a h) ∨ ((∀ j, r.1 ≠ .goto j) ∧ P r)) (out : ∀ r, P r → Ev (k r) Q) : Ev (((envW meth call).scope b 0 e h).bind k) Q := by
  refine Ev.bind (Q := P) ?_ out
  obtain ⟨⟨x, e', h'⟩, hb, hr⟩ := start
  rcases hr with ⟨a', hx, he, hI⟩ | ⟨hx, hP⟩
  · simp only at hx he hI
    subst hx; subst he
    obtain ⟨r, hl, hq⟩ := z021 lab enc I μ step a' h' hI
    exact ⟨r, zuc hb hl, hq⟩
  · exact ⟨_, zv6 hb hx, hP⟩
theorem zmi {j n : Nat} (h : j ≤ n) (d : Nat) : z1c d n (some (.int .i64 (j : Int))) = some j := by
  have d0 : decide ((0 : Int) ≤ (j : Int)) = true := decide_eq_true (by omega)
  have d1 : decide ((j : Int) ≤ (n : Int)) = true := decide_eq_true (by omega)
  show (match decide ((0 : Int) ≤ (j : Int)) && decide ((j : Int) ≤ (n : Int)) with | true => some (j : Int).toNat | false => none) = _
  rw [d0, d1]; rfl
theorem z055 {mb n j : Nat} {c : Cap} (hc : c = .op 1 ∨ c = .ex n) (hj : j ≤ n) (h0 : 0 < j) :
    z4f 1 (.sl mb 0 n c) none (some (.int .i64 (j : Int))) (some (.int .i64 (j : Int))) = some (.sl mb 0 j (.ex j)) := by
  have b0 : z1c 0 j none = some 0 := rfl
  have hz : Nat.beq 1 1 = true := rfl
  have hn : Nat.beq n 0 = false := by
    cases h : Nat.beq n 0 with
    | false => rfl
    | true => have := Nat.eq_of_beq_eq_true h; omega
  have hj0 : Nat.beq j 0 = false := by
    cases h : Nat.beq j 0 with
    | false => rfl
    | true => have := Nat.eq_of_beq_eq_true h; omega
  rcases hc with rfl | rfl
  · simp only [z4f, zmi hj, hn, zmi (Nat.le_refl j), b0, hj0, Nat.zero_mul, Nat.add_zero, Nat.sub_zero]
  · simp only [z4f, zmi hj, zmi (Nat.le_refl j), b0, hj0, Nat.zero_mul, Nat.add_zero, Nat.sub_zero]
theorem z04y {b n N j : Nat} (hj : j ≤ n) (hN : n ≤ N) (h0 : 0 < N) :
    z4f 1 (.sl b 0 n (.ex N)) none (some (.int .i64 (j : Int))) none = some (.sl b 0 j (.ex N)) := by
  have b0 : z1c 0 j none = some 0 := rfl
  have bN : z1c N N none = some N := rfl
  have hN0 : Nat.beq N 0 = false := by
    cases h : Nat.beq N 0 with
    | false => rfl
    | true => have := Nat.eq_of_beq_eq_true h; omega
  simp only [z4f, bN, zmi (Nat.le_trans hj hN), b0, hN0, Nat.zero_mul, Nat.add_zero, Nat.sub_zero]
theorem z02y {g : H} {b m N nb : Nat} {cs : List V} {v : V} {kd : Bk} {c : Cap} (hb : g.get b = some (.cells cs .rw)) (hN : cs.length = N) (hm : m < N) (h8 : N ≤ 1000) (hn : g.get nb = some (.cells [v] kd)) (h1 : v.one = true) :
    g.append 1 8 (.sl b 0 m (.ex N)) (.sl nb 0 1 c) = some (.sl b 0 (m + 1) (.ex N), g.put b (some (.cells (cs.set m v) .rw))) := by
  have e1 : g.slc 1 (.sl nb 0 1 c) = some [v] := by rw [z5b hn (by simp)]; rfl
  have e2 : g.slc 1 (.sl b 0 m (.ex N)) = some ((cs.drop 0).take (m * 1)) := z5b hb (by omega)
  have a1 : [v].all V.one = true := by simp [h1]
  have d1 : decide ((m + 1 + (m + 1) / 2 + 1000) * 8 ≤ 281474976710656) = true := decide_eq_true (by omega)
  have d2 : decide (m + 1 ≤ N) = true := decide_eq_true (by omega)
  have d3 : decide (m * 1 + [v].length ≤ cs.length) = true := decide_eq_true (by simp only [List.length_cons, List.length_nil]; omega)
  have d4 : decide (Bk.rw = Bk.ro) = false := rfl
  have sp : z02 cs (m * 1) [v] = cs.set m v := by
    rw [Nat.mul_one]
    unfold z02
    rw [List.set_eq_take_append_cons_drop, if_pos (by omega)]
    simp
  have d5 : decide (0 < 1) = true := rfl
  have d6 : decide (0 < 8) = true := rfl
  simp only [H.append, lenSl, e1, e2, a1, d1, d5, d6, Bool.and_self, d2, H.stc, hb, d3, d4, Bool.not_true, Bool.or_self, Nat.zero_add, sp]
theorem z02r {g : H} {mb j nb : Nat} {cs : List V} {v : V} {k1 k2 : Bk} {c : Cap} (hb : g.get mb = some (.cells cs k1)) (hj : j ≤ cs.length) (h8 : j ≤ 1000) (hn : g.get nb = some (.cells [v] k2)) (h1 : v.one = true) :
    g.append 1 8 (.sl mb 0 j (.ex j)) (.sl nb 0 1 c) = some (.sl g.next 0 (j + 1) (.op 1), g.new (.cells (cs.take j ++ [v]) (.gr 1))) := by
  have e1 : g.slc 1 (.sl nb 0 1 c) = some [v] := by rw [z5b hn (by simp)]; rfl
  have e2 : g.slc 1 (.sl mb 0 j (.ex j)) = some (cs.take j) := by rw [z5b hb (by omega), Nat.mul_one]; rfl
  have a1 : [v].all V.one = true := by simp [h1]
  have d1 : decide ((j + 1 + (j + 1) / 2 + 1000) * 8 ≤ 281474976710656) = true := decide_eq_true (by omega)
  have d2 : decide (j + 1 ≤ j) = false := decide_eq_false (by omega)
  have d5 : decide (0 < 1) = true := rfl
  have d6 : decide (0 < 8) = true := rfl
  simp only [H.append, lenSl, e1, e2, a1, d1, d5, d6, Bool.and_self, d2]
structure SrAt (h g : H) (k : Cfg) (l : List Evt) (o : List Nat) (b : Nat) (x8 : V) : Prop where
  fr : Fr [] h g
  nb : h.next ≤ b
  ord : ∃ cs, g.get b = some (.cells cs .rw) ∧ cs.length = l.length ∧ cs.take o.length = (nI o).map (.int .i64)
  mods : ∃ mb c n cs kd, x8 = .sl mb 0 n c ∧ (c = .op 1 ∨ c = .ex n) ∧ g.get mb = some (.cells cs kd) ∧ n ≤ cs.length ∧ o.length < n ∧ mb ≠ b ∧ ∀ j, j ≤ o.length → ∃ B r, cs[j]? = some (.ptr B.b 0) ∧ rpS k l (rst0 k) (nI (o.take j)) = some r ∧ Mod h k g B r j ∧ b ∉ B.l ∧ b ∉ B.nb
section
variable {h g : H} {k : Cfg} {x0 x8 : V} {l : List Evt} {o : List Nat} {b p : Nat}
theorem SrAt.fr0 {g' : H} (Z : SrAt h g k l o b x8) (F : Fr [] g g') : SrAt h g' k l o b x8 := by
  obtain ⟨f, nb, ⟨cs, h1, h2, h3⟩, mb, c, n, ms, kd, q1, q2, q3, q4, q5, q6, q7⟩ := Z
  exact ⟨f.trans' F, nb, ⟨cs, F.get f.ok h1 (by simp), h2, h3⟩, mb, c, n, ms, kd, q1, q2, F.get f.ok q3 (by simp), q4, q5, q6, fun j hj => by
    obtain ⟨B, r, a1, a2, a3, a4⟩ := q7 j hj
    exact ⟨B, r, a1, a2, a3.fr0 F, a4⟩⟩
theorem SrAt.row (Z : SrAt h g k l o b x8) (ho : o.length ≤ l.length) : RowO .i64 g.get (.sl b 0 o.length (.ex l.length)) (nI o) := by
  obtain ⟨cs, h1, h2, h3⟩ := Z.ord
  refine .inr ⟨b, 0, .ex l.length, .rw, cs, by rw [z9i], h1, by rw [z9i, List.drop_zero]; exact h3, by rw [z9i]; omega, .inr ⟨_, rfl, by rw [z9i]; exact ho⟩⟩
theorem SrAt.lt (Z : SrAt h g k l o b x8) : b < g.next := by
  obtain ⟨cs, h1, _⟩ := Z.ord
  exact Z.fr.ok.lt h1
theorem SrAt.keep {g1 g2 : H} {K : MdB} {r : RSt} {m : Nat} (Z : SrAt h g k l o b x8) (F1 : Fr [] g g1) (Y : Mod h k g1 K r m) (hK : ∀ x ∈ K.l, g.next ≤ x) (F2 : Fr K.l g1 g2) : SrAt h g2 k l o b x8 := by
  have hb := Z.lt
  have Z1 := Z.fr0 F1
  obtain ⟨f, nb, ⟨cs, h1, h2, h3⟩, mb, c, n, ms, kd, q1, q2, q3, q4, q5, q6, q7⟩ := Z
  obtain ⟨f', _, ⟨cs', h1', h2', h3'⟩, mb', c', n', ms', kd', q1', q2', q3', q4', q5', q6', q7'⟩ := Z1
  have e : V.sl mb 0 n c = V.sl mb' 0 n' c' := q1.symm.trans q1'
  cases e
  have hmb : mb < g.next := f.ok.lt q3
  refine ⟨f'.trans F2 (fun x hx => .inr (Y.lo x hx)), nb, ⟨cs', F2.get f'.ok h1' (fun q => by have := hK b q; omega), h2', h3'⟩, mb, c, n, ms', kd', q1', q2', F2.get f'.ok q3' (fun q => by have := hK mb q; omega), q4', q5', q6', fun j hj => ?_⟩
  obtain ⟨B, r, a1, a2, a3, a4⟩ := q7 j hj
  have ap : Apart K B := Apart.new a3 hK
  have hms : ms = ms' := by
    have := F1.get f.ok q3 (by simp)
    rw [q3'] at this
    simp only [Option.some.injEq, Blk.cells.injEq] at this
    exact this.1.symm
  subst hms
  exact ⟨B, r, a1, a2, (a3.fr0 F1).keep Y F2 ap, a4⟩
theorem Mod.putb {B : MdB} {r : RSt} {m : Nat} (X : Mod h k g B r m) (h1 : b ∉ B.l) (h2 : b ∉ B.nb) (hb : h.next ≤ b) (hg : b < g.next) (cs : List V) : Mod h k (g.put b (some (.cells cs .rw))) B r m := by
  have F : Fr [b] g (g.put b (some (.cells cs .rw))) := (Fr.refl X.fr.ok).put (.inl (by simp)) hg _
  exact ⟨X.fr.put (.inr hb) hg _, X.M.fr' X.fr.ok F (fun x hx q => by simp only [List.mem_singleton] at q; exact h1 (q ▸ hx)) (fun x hx q => by simp only [List.mem_singleton] at q; exact h2 (q ▸ hx)), X.I, X.sz, X.lo⟩
theorem z05b {cs : List V} {m : Nat} {v : V} (h : m < cs.length) : (cs.set m v).take (m + 1) = cs.take m ++ [v] := by
  rw [List.take_succ, List.getElem?_set_self h, List.take_set_of_le (Nat.le_refl m)]; rfl
theorem SrAt.push {K : MdB} {r' : RSt} {cs ms : List V} {mb n : Nat} {c : Cap} {kd : Bk} (Z : SrAt h g k l o b x8) (hx8 : x8 = .sl mb 0 n c) (hb : g.get b = some (.cells cs .rw)) (hmb : g.get mb = some (.cells ms kd)) (ho : o.length < l.length)
    (Y : Mod h k g K r' (o.length + 1)) (hS : rpS k l (rst0 k) (nI (o ++ [p])) = some r') (y1 : b ∉ K.l) (y2 : b ∉ K.nb) :
    ∀ g5 : H, g5 = (((g.new (.cells [.int .i64 (p : Int)] .rw)).put b (some (.cells (cs.set o.length (.int .i64 (p : Int))) .rw))).new (.cells [.ptr K.b 0] .rw)) → SrAt h (g5.new (.cells (ms.take (o.length + 1) ++ [.ptr K.b 0]) (.gr 1))) k l (o ++ [p]) b (.sl g5.next 0 (o.length + 1 + 1) (.op 1)) := by
  intro g5 hg5
  have hlt := Z.lt
  obtain ⟨f, nb, ⟨cs', h1, h2, h3⟩, mb', c', n', ms', kd', q1, q2, q3, q4, q5, q6, q7⟩ := Z
  rw [hb] at h1
  simp only [Option.some.injEq, Blk.cells.injEq, and_true] at h1
  subst h1
  rw [hx8] at q1
  cases q1
  rw [hmb] at q3
  simp only [Option.some.injEq, Blk.cells.injEq] at q3
  obtain ⟨rfl, rfl⟩ := q3
  have F1 : Fr [] g (g.new (.cells [.int .i64 (p : Int)] .rw)) := (Fr.refl f.ok).new _
  have hlt1 : b < (g.new (.cells [.int .i64 (p : Int)] .rw)).next := Nat.lt_succ_of_lt hlt
  have mv : ∀ {B : MdB} {r : RSt} {m : Nat}, Mod h k g B r m → b ∉ B.l → b ∉ B.nb → Mod h k (g5.new (.cells (ms.take (o.length + 1) ++ [.ptr K.b 0]) (.gr 1))) B r m := by
    intro B r m X b1 b2
    have X1 := (X.fr0 F1).putb b1 b2 nb hlt1 (cs.set o.length (.int .i64 (p : Int)))
    have X2 := X1.fr0 ((Fr.refl X1.fr.ok).new (.cells [.ptr K.b 0] .rw))
    rw [← hg5] at X2
    exact X2.fr0 ((Fr.refl X2.fr.ok).new _)
  have Y' := mv Y y1 y2
  have ok4 : ((g.new (.cells [.int .i64 (p : Int)] .rw)).put b (some (.cells (cs.set o.length (.int .i64 (p : Int))) .rw))).ok := ((Y.fr0 F1).putb y1 y2 nb hlt1 (cs.set o.length (.int .i64 (p : Int)))).fr.ok
  have hbn : b ≠ g5.next := by
    rw [hg5]
    show b ≠ g.next + 1 + 1
    omega
  have hb5 : (g5.new (.cells (ms.take (o.length + 1) ++ [.ptr K.b 0]) (.gr 1))).get b = some (.cells (cs.set o.length (.int .i64 (p : Int))) .rw) := by
    have F5 : Fr [] ((g.new (.cells [.int .i64 (p : Int)] .rw)).put b (some (.cells (cs.set o.length (.int .i64 (p : Int))) .rw))) g5 := by rw [hg5]; exact (Fr.refl ok4).new _
    have F6 : Fr [] g5 (g5.new (.cells (ms.take (o.length + 1) ++ [.ptr K.b 0]) (.gr 1))) := (Fr.refl F5.ok).new _
    exact (F5.trans' F6).get ok4 (zs _ _ _) (by simp)
  have hlen : (ms.take (o.length + 1)).length = o.length + 1 := by rw [List.length_take]; omega
  refine ⟨Y'.fr, nb, ⟨_, hb5, by rw [List.length_set]; exact h2, ?_⟩, g5.next, .op 1, o.length + 1 + 1, _, .gr 1, rfl, .inl rfl, ze _ _, by rw [List.length_append, hlen]; exact Nat.le_refl _, by rw [List.length_append]; exact Nat.lt_succ_self _, Ne.symm hbn, fun j hj => ?_⟩
  · rw [List.length_append, List.length_singleton, z05b (by omega), h3, zi9, List.map_append]; rfl
  · rw [List.length_append, List.length_singleton] at hj
    by_cases hjo : j ≤ o.length
    · obtain ⟨B, r, a1, a2, a3, a4, a5⟩ := q7 j hjo
      refine ⟨B, r, ?_, ?_, mv a3 a4 a5, a4, a5⟩
      · rw [List.getElem?_append_left (by omega), List.getElem?_take, if_pos (by omega)]; exact a1
      · rw [List.take_append_of_le_length hjo]; exact a2
    · have hj' : j = o.length + 1 := by omega
      subst hj'
      refine ⟨K, r', ?_, ?_, Y', y1, y2⟩
      · rw [List.getElem?_append_right (by omega), hlen, Nat.sub_self]; rfl
      · rw [List.take_of_length_le (by simp)]; exact hS
end
section
variable {h g : H} {k : Cfg} {x0 x8 : V} {l : List Evt} {o : List Nat} {b p : Nat}
theorem z01v (ok : h.ok) (hr : k.R = true) (hx : RowE h.get x0 l) (hu : ∀ y ∈ l, U64 y.ah) (hl : l.length ≤ 7) (Z : SrAt h g k l o b x8) (A : OkF k l o) (Sv : SInv k l o p) (ho : o.length < l.length) (hp : p ≤ l.length) :
    Ev (S.z46 W x0 (.sl b 0 o.length (.ex l.length)) x8 (p : Nat) g) fun z =>
      ∃ lb o' p' x8', z.1 = .goto lb ∧ z.2.1 = S.z0d x0 (.sl b 0 o'.length (.ex l.length)) x8' (.int .i64 (p' : Nat)) ∧ SrAt h z.2.2 k l o' b x8' ∧ OkF k l o' ∧ SInv k l o' p' ∧ p' ≤ l.length ∧
        ((lb = 1 ∧ o' = o ∧ p' = p ∧ p = l.length) ∨ (lb = 2 ∧ o' = o ∧ p' = p + 1) ∨ (lb = 0 ∧ o' = o ++ [p] ∧ p' = 0)) := by
  have hxl := hx.len
  by_cases hpn : p = l.length
  · have d : decide ((p : Int) = (l.length : Int)) = true := decide_eq_true (by omega)
    simp only [S.z46, hxl, z9, d]
    exact Ev.some ⟨1, o, p, x8, rfl, rfl, Z, A, Sv, hp, .inl ⟨rfl, rfl, rfl, hpn⟩⟩
  have hpl : p < l.length := by omega
  have d : decide ((p : Int) = (l.length : Int)) = false := decide_eq_false (by omega)
  have hol : (nI o).length ≤ 100000 := by rw [z9i]; omega
  obtain ⟨⟨v1, g1⟩, e1, b1, rfl, hb1, F1⟩ := z057 Z.fr.ok (hx.fr ok Z.fr (by simp)) (Z.row (Nat.le_of_lt ho)) hol (by omega) hpl
  dsimp only at F1
  have wk := rl_k (n := p) (by omega)
  have Z1 := Z.fr0 F1
  cases b1 with
  | false =>
    simp only [S.z46, hxl, z9, d, zh, e1, zw, wk]
    exact Ev.some ⟨2, o, p + 1, x8, rfl, rfl, Z1, A, Sv.skip (fun q => absurd (hb1.mpr q.1) (by decide)), hpl, .inr (.inl ⟨rfl, rfl, rfl⟩)⟩
  | true =>
    have hm := hb1.mp rfl
    obtain ⟨mb, c, n, ms, kd, rfl, hc, hmb, hn, hon, hne, hall⟩ := Z1.mods
    obtain ⟨B, r, a1, a2, a3, a4, a5⟩ := hall o.length (Nat.le_refl _)
    rw [List.take_length] at a2
    have ix8 : zd 1 (.sl mb 0 n c) (.int .i64 (o.length : Nat)) = some (.ptr mb o.length) := z28 hon
    have l8 : g1.ld1 (.ptr mb o.length) = some (.ptr B.b 0) := z8a hmb a1 rfl
    obtain ⟨⟨v2, g2⟩, e2, K, rfl, F2, XK, hK, nK⟩ := a3.copy hr (by omega)
    dsimp only at F2 XK
    obtain ⟨y, hy⟩ : ∃ y, l[p]? = some y := ⟨_, List.getElem?_eq_getElem hpl⟩
    obtain ⟨eb, q1, q2, q3, q4⟩ := zxa (hx.fr ok XK.fr (by simp)) hy
    obtain ⟨⟨v3, g3⟩, e3, hv, K', XK', F3, E3⟩ := XK.does (c := y.call) (a := y.ans) hr (by omega) (hu y (List.mem_of_getElem? hy)) y.client
    dsimp only at hv XK' F3
    subst hv
    have Z3 := Z1.keep F2 XK hK F3
    have hst := z00w (k := k) (r := r) hy
    have ls7 : lenSl (.sl b 0 o.length (.ex l.length)) = some o.length := rfl
    cases hok : okR k r y.client y.call y.ans with
    | false =>
      rw [hok] at e3
      rw [hok, if_neg (by decide)] at hst
      simp only [S.z46, hxl, z9, d, zh, e1, zw, ls7, ix8, l8, e2, q1, z7, Nat.add_zero, q2, q3, q4, e3, wk]
      refine Ev.some ⟨2, o, p + 1, .sl mb 0 n c, rfl, rfl, Z3, A, Sv.skip ?_, hpl, .inr (.inl ⟨rfl, rfl, rfl⟩)⟩
      rintro ⟨_, r1, r2, t1, t2⟩
      rw [a2] at t1
      cases t1
      rw [hst] at t2; cases t2
    | true =>
      rw [hok] at e3
      rw [hok, if_pos rfl] at hst
      have hS : rpS k l (rst0 k) (nI (o ++ [p])) = some (doR k r y.client y.call y.ans) := by rw [zi9, znx, a2]; exact hst
      obtain ⟨cs, h1, h2, h3⟩ := Z3.ord
      have hmb1 : mb < g1.next := Z1.fr.ok.lt hmb
      have hb1' : b < g1.next := Z1.lt
      have hmb3 : g3.get mb = some (.cells ms kd) := F3.get F2.ok (F2.get Z1.fr.ok hmb (by simp)) (fun q => by have := hK mb q; omega)
      have y1 : b ∉ K'.l := fun q => by
        rcases E3.l b q with q | q
        · have := hK b q; omega
        · have := F2.le; omega
      have y2 : b ∉ K'.nb := fun q => by
        rcases E3.n b q with q | q
        · rw [nK] at q; exact a5 q
        · have := F2.le; omega
      have P := Z3.push (p := p) rfl h1 hmb3 ho XK' hS y1 y2 _ rfl
      rw [E3.b] at P
      have Fa : Fr [] g3 (g3.new (.cells [.int .i64 (p : Int)] .rw)) := (Fr.refl Z3.fr.ok).new _
      have hlt3 : b < g3.next := Z3.lt
      have ap1 := z02y (v := .int .i64 (p : Int)) (c := .ex 1) (Fa.get Z3.fr.ok h1 (by simp)) h2 ho (by omega) (ze g3 (.cells [.int .i64 (p : Int)] .rw)) rfl
      have Fb : Fr [b] (g3.new (.cells [.int .i64 (p : Int)] .rw)) ((g3.new (.cells [.int .i64 (p : Int)] .rw)).put b (some (.cells (cs.set o.length (.int .i64 (p : Int))) .rw))) := (Fr.refl Fa.ok).put (.inl (by simp)) (Nat.lt_succ_of_lt hlt3) _
      have hmb4 := Fb.get Fa.ok (Fa.get Z3.fr.ok hmb3 (by simp)) (by simpa using hne)
      have ls19 : lenSl (.sl b 0 (o.length + 1) (.ex l.length)) = some (o.length + 1) := rfl
      have sm := z055 (mb := mb) hc (j := o.length + 1) (by omega) (by omega)
      have hf : fill (repl [.nilp] 1) [] [(0, 1, .c (.ptr K.b 0))] = some [.ptr K.b 0] := rfl
      have Fc : Fr [] ((g3.new (.cells [.int .i64 (p : Int)] .rw)).put b (some (.cells (cs.set o.length (.int .i64 (p : Int))) .rw))) (((g3.new (.cells [.int .i64 (p : Int)] .rw)).put b (some (.cells (cs.set o.length (.int .i64 (p : Int))) .rw))).new (.cells [.ptr K.b 0] .rw)) := (Fr.refl Fb.ok).new _
      have ap2 := z02r (v := .ptr K.b 0) (c := .ex 1) (j := o.length + 1) (Fc.get Fb.ok hmb4 (by simp)) (by omega) (by omega) (ze ((g3.new (.cells [.int .i64 (p : Int)] .rw)).put b (some (.cells (cs.set o.length (.int .i64 (p : Int))) .rw))) (.cells [.ptr K.b 0] .rw)) rfl
      simp only [S.z46, hxl, z9, d, zh, e1, zw, ls7, ix8, l8, e2, q1, z7, Nat.add_zero, q2, q3, q4, e3, ap1, ls19, sm, hf, ap2]
      refine Ev.some ⟨0, o ++ [p], 0, _, rfl, ?_, P, A.snoc hpl hm a2 hst, Sv.push, Nat.zero_le _, .inr (.inr ⟨rfl, rfl, rfl⟩)⟩
      rw [List.length_append, List.length_singleton]; rfl
end
theorem z08h (M : Env) (x1 x7 x8 : V) (x9 : Int) (h : H) : S.zmg M x1 x7 x8 x9 h = (lenSl x7).bind fun n0 => (lenSl x1).bind fun n1 => match decide (((n0 : Nat) : Int) = ((n1 : Nat) : Int)) with
    | true => some (.ret, (S.z1p x7 (.bool true) (.int .i64 0)), h)
    | false => S.z46 M x1 x7 x8 x9 h := by kernel_rfl
theorem z05y (M : Env) (x0 x1 x2 x4 : V) (x5 : Bool) (x6 : Int) (h : H) : S.zo9 M x0 x1 x2 x4 x5 x6 h = (h.ldN 6 x2).bind fun v0 => (M.call 263 [v0] h).bind fun p1 => (asB p1.1).bind fun b2 => match (!b2) with
    | true => some (.ret, (S.z1p .nilsl (.bool false) (.int .i64 1)), p1.2)
    | false => (lenSl x1).bind fun n3 => match decide (7 < ((n3 : Nat) : Int)) with
      | true => some (.ret, (S.z1p .nilsl (.bool false) (.int .i64 10)), p1.2)
      | false => (lenSl x1).bind fun n4 => (p1.2.mkSl 1 8 [(.int .i64 0)] 0 ((n4 : Nat) : Int)).bind fun p5 => (p5.2.ldN 6 x2).bind fun v6 => (M.call 96 [v6] p5.2).bind fun p7 => (fill (repl [.nilp] 1) [] [(0, 1, .c p7.1)]).bind fun cs8 =>
        let h9 := p7.2.new (.cells cs8 .rw)
        (lenSl p5.1).bind fun n10 => (lenSl x1).bind fun n11 => match decide (((n10 : Nat) : Int) = ((n11 : Nat) : Int)) with
        | true => some (.ret, (S.z1p p5.1 (.bool true) (.int .i64 0)), h9)
        | false => S.z46 M x1 p5.1 (.sl p7.2.next 0 1 (.ex 1)) 0 h9 := by kernel_rfl
section
variable {h g : H} {k : Cfg} {x0 x8 : V} {l : List Evt} {o : List Nat} {b p : Nat}
def z02g (k : Cfg) (l : List Evt) (q : List Nat) : Prop := q.length = l.length ∧ OkF k l q ∧ ∀ q', OkF k l q' → q'.length = l.length → ¬ Past q q'
def z01s (h : H) (k : Cfg) (l : List Evt) (z : AX × List V × H) : Prop :=
  z.1 = .ret ∧ Fr [] h z.2.2 ∧ ((∃ q x, z.2.1 = S.z1p x (.bool true) (.int .i64 0) ∧ RowN .i64 z.2.2.get x (nI q) ∧ z02g k l q) ∨
    (z.2.1 = S.z1p .nilsl (.bool false) (.int .i64 0) ∧ ∀ q, OkF k l q → q.length ≠ l.length))
theorem SrAt.full (Z : SrAt h g k l o b x8) (A : OkF k l o) (Sv : SInv k l o p) (ho : o.length = l.length) : z01s h k l (.ret, S.z1p (.sl b 0 o.length (.ex l.length)) (.bool true) (.int .i64 0), g) := by
  refine ⟨rfl, Z.fr, .inl ⟨o, _, rfl, ?_, ho, A, fun q' h1 h2 h3 => Sv q' h1 h2 (z6q.mpr (.inl h3))⟩⟩
  obtain ⟨cs, h1, h2, h3⟩ := Z.ord
  rw [ho, ← h2, List.take_length] at h3
  exact .inr ⟨b, _, _, by rw [z9i], by rw [h1, h3]⟩
structure LbAt (h : H) (k : Cfg) (l : List Evt) (b : Nat) (lb : Nat) (o : List Nat) (p : Nat) (x8 : V) (g : H) : Prop where
  Z : SrAt h g k l o b x8
  A : OkF k l o
  Sv : SInv k l o p
  pp : p ≤ l.length
  oo : o.length ≤ l.length
  one : lb = 1 → p = l.length ∧ o.length < l.length
  two : lb = 2 → o.length < l.length
  ll : lb = 0 ∨ lb = 1 ∨ lb = 2
def mu (lb : Nat) (o : List Nat) (p : Nat) : Nat := 2 * (10 ^ 9 - cod 9 (o ++ [p])) + if lb = 1 then 0 else 1
theorem LbAt.dig {lb : Nat} (L : LbAt h k l b lb o p x8 g) (hl : l.length ≤ 7) : cod 9 (o ++ [p]) < 10 ^ 9 := zv5 9 _ fun d hd => by
  rcases List.mem_append.mp hd with hd | hd
  · obtain ⟨j, hj⟩ := List.mem_iff_getElem?.mp hd
    have := (L.A.may j d hj).1
    omega
  · have := List.mem_singleton.mp hd
    have := L.pp
    omega
theorem z063 {lb lb' : Nat} {o' : List Nat} {p' : Nat} (hd : cod 9 (o ++ [p]) < 10 ^ 9) (h1 : cod 9 (o ++ [p]) < cod 9 (o' ++ [p'])) : mu lb' o' p' < mu lb o p := by
  unfold mu
  split <;> split <;> omega
theorem zuo (ok : h.ok) (hr : k.R = true) (hx : RowE h.get x0 l) (hu : ∀ y ∈ l, U64 y.ah) (hl : l.length ≤ 7) {lb : Nat} (hlb : lb ≠ 1) (L : LbAt h k l b lb o p x8 g) (ho : o.length < l.length) :
    Ev (S.z46 W x0 (.sl b 0 o.length (.ex l.length)) x8 (p : Nat) g) fun z =>
      ∃ lb' o' p' x8', z.1 = .goto lb' ∧ z.2.1 = S.z0d x0 (.sl b 0 o'.length (.ex l.length)) x8' (.int .i64 (p' : Nat)) ∧ LbAt h k l b lb' o' p' x8' z.2.2 ∧ mu lb' o' p' < mu lb o p := by
  have hd := L.dig hl
  refine (z01v ok hr hx hu hl L.Z L.A L.Sv ho L.pp).mono ?_
  rintro z ⟨lb', o', p', x8', hz, he, Z', A', Sv', hp', hc⟩
  refine ⟨lb', o', p', x8', hz, he, ?_⟩
  rcases hc with ⟨rfl, rfl, rfl, hpn⟩ | ⟨rfl, rfl, rfl⟩ | ⟨rfl, rfl, rfl⟩
  · refine ⟨⟨Z', A', Sv', hp', L.oo, fun _ => ⟨hpn, ho⟩, fun q => (by cases q), .inr (.inl rfl)⟩, ?_⟩
    unfold mu
    rw [if_pos rfl, if_neg hlb]; omega
  · exact ⟨⟨Z', A', Sv', hp', L.oo, fun q => (by cases q), fun _ => ho, .inr (.inr rfl)⟩, z063 hd (zzf 9 _ _ (by omega))⟩
  · refine ⟨⟨Z', A', Sv', hp', by rw [List.length_append, List.length_singleton]; exact ho, fun q => (by cases q), fun q => (by cases q), .inl rfl⟩, z063 hd (zz3 9 _ _ (by rw [List.length_append, List.length_singleton]; omega))⟩
theorem z06d (ok : h.ok) (hr : k.R = true) (hx : RowE h.get x0 l) (hu : ∀ y ∈ l, U64 y.ah) (hl : l.length ≤ 7) {lb : Nat} (L : LbAt h k l b lb o p x8 g) :
    Ev (S.z9t W (lb + 1) (S.z0d x0 (.sl b 0 o.length (.ex l.length)) x8 (.int .i64 (p : Nat))) g) fun z =>
      (∃ lb' o' p' x8', z.1 = .goto lb' ∧ z.2.1 = S.z0d x0 (.sl b 0 o'.length (.ex l.length)) x8' (.int .i64 (p' : Nat)) ∧ LbAt h k l b lb' o' p' x8' z.2.2 ∧ mu lb' o' p' < mu lb o p) ∨ z01s h k l z := by
  have hxl := hx.len
  have ls7 : lenSl (.sl b 0 o.length (.ex l.length)) = some o.length := rfl
  rcases L.ll with rfl | rfl | rfl
  · rw [S.zrf, z08h]
    by_cases hf : o.length = l.length
    · have d : decide ((o.length : Int) = (l.length : Int)) = true := decide_eq_true (by omega)
      simp only [ls7, hxl, z9, d]
      exact Ev.some (.inr (L.Z.full L.A L.Sv hf))
    · have d : decide ((o.length : Int) = (l.length : Int)) = false := decide_eq_false (by omega)
      simp only [ls7, hxl, z9, d]
      exact (zuo ok hr hx hu hl (by decide) L (by have := L.oo; omega)).mono fun z hz => .inl hz
  · obtain ⟨rfl, ho⟩ := L.one rfl
    rw [S.zrt]
    by_cases h0 : o.length = 0
    · have d : decide ((o.length : Int) = 0) = true := decide_eq_true (by omega)
      have hnil : o = [] := List.eq_nil_of_length_eq_zero h0
      simp only [S.zfn, ls7, z9, d]
      refine Ev.some (.inr ⟨rfl, L.Z.fr, .inr ⟨rfl, fun q hq hn => ?_⟩⟩)
      subst hnil
      exact L.Sv.none (by simpa using ho) q hq hn
    · have d : decide ((o.length : Int) = 0) = false := decide_eq_false (by omega)
      obtain ⟨o', x, rfl⟩ : ∃ o' x, o = o' ++ [x] := ⟨o.dropLast, o.getLast (by intro q; subst q; exact h0 rfl), (List.dropLast_concat_getLast _).symm⟩
      have hlen : (o' ++ [x]).length = o'.length + 1 := by rw [List.length_append, List.length_singleton]
      rw [hlen] at ho h0 d ls7 ⊢
      have w1 : wr .i64 (((o'.length + 1 : Nat) : Int) - 1) = (o'.length : Nat) := by rw [wr64 (by omega) (by omega)]; omega
      obtain ⟨cs, h1, h2, h3⟩ := L.Z.ord
      have hcx : cs[o'.length]? = some (.int .i64 (x : Int)) := by
        have e : (cs.take (o' ++ [x]).length)[o'.length]? = some (.int .i64 (x : Int)) := by
          rw [h3, zi9, List.map_append, List.getElem?_append_right (by rw [List.length_map, z9i]; exact Nat.le_refl _), List.length_map, z9i, Nat.sub_self]; rfl
        rw [List.getElem?_take, if_pos (by rw [hlen]; omega)] at e
        exact e
      have ix : zd 1 (.sl b 0 (o'.length + 1) (.ex l.length)) (.int .i64 (o'.length : Nat)) = some (.ptr b o'.length) := z28 (Nat.lt_succ_self _)
      have ld := z8a h1 hcx (by rfl)
      have sh := z04y (b := b) (n := o'.length + 1) (N := l.length) (j := o'.length) (by omega) (by omega) (by omega)
      have hxn := (L.A.may o'.length x (by simp)).1
      have wx := rl_k (n := x) (by omega)
      simp only [S.zfn, ls7, z9, d, w1, ix, ld, za, sh, wx]
      have hb := zzm 9 o' x l.length (by omega) (by omega)
      refine Ev.some (.inl ⟨2, o', x + 1, x8, rfl, rfl, ⟨?_, ?_, L.Sv.back (by omega), hxn, by omega, fun q => (by cases q), fun _ => by omega, .inr (.inr rfl)⟩, ?_⟩)
      · obtain ⟨mb, c, n, ms, kd, q1, q2, q3, q4, q5, q6, q7⟩ := L.Z.mods
        rw [hlen] at q5
        refine ⟨L.Z.fr, L.Z.nb, ⟨cs, h1, h2, ?_⟩, mb, c, n, ms, kd, q1, q2, q3, q4, by omega, q6, fun j hj => ?_⟩
        · have e := congrArg (List.take o'.length) h3
          rw [List.take_take, hlen, Nat.min_eq_left (by omega), zi9, List.map_append, List.take_append_of_le_length (by rw [List.length_map, z9i]; exact Nat.le_refl _)] at e
          rw [e]
          exact List.take_of_length_le (by rw [List.length_map, z9i]; exact Nat.le_refl _)
        · obtain ⟨B, r, a1, a2, a3⟩ := q7 j (by rw [hlen]; omega)
          rw [List.take_append_of_le_length hj] at a2
          exact ⟨B, r, a1, a2, a3⟩
      · obtain ⟨r, hr'⟩ := L.A.tak
        rw [zi9] at hr'
        obtain ⟨r1, h4, _⟩ := zwt _ _ _ hr'
        refine ⟨⟨r1, h4⟩, fun j i hj => ?_⟩
        have hjl := z03 hj
        have := L.A.may j i (by rw [List.getElem?_append_left hjl]; exact hj)
        rw [List.take_append_of_le_length (Nat.le_of_lt hjl)] at this
        exact this
      · have hd := L.dig hl
        unfold mu
        rw [if_neg (by decide), if_pos rfl]
        omega
  · rw [S.zs8]
    exact (zuo ok hr hx hu hl (by decide) L (L.two rfl)).mono fun z hz => .inl hz
end
section
variable {h : H} {k : Cfg} {x0 : V} {l : List Evt}
theorem z00r (ok : h.ok) (hr : k.R = true) (hx : RowE h.get x0 l) (hu : ∀ y ∈ l, U64 y.ah) (hl : l.length ≤ 7) :
    Ev (C 208 [k.v, x0] h) fun z => Fr [] h z.2 ∧ ((∃ q x, z.1 = .tup [x, .bool true, .int .i64 0] ∧ RowN .i64 z.2.get x (nI q) ∧ z02g k l q) ∨
      (z.1 = .tup [.nilsl, .bool false, .int .i64 0] ∧ ∀ q, OkF k l q → q.length ≠ l.length)) := by
  refine z1y (af := F.z5c) (by kernel_rfl) rfl ?_
  rw [z05x, S.zr1]
  simp only [S.z5c]
  obtain ⟨g0, hg, F0, hq⟩ := zwe k ok
  rw [← hg]
  refine zxd (α := Nat × List Nat × Nat × V) (fun a => a.1) (fun a => S.z0d x0 (.sl g0.next 0 a.2.1.length (.ex l.length)) a.2.2.2 (.int .i64 (a.2.2.1 : Nat)))
    (fun a g => LbAt h k l g0.next a.1 a.2.1 a.2.2.1 a.2.2.2 g) (fun a _ => mu a.1 a.2.1 a.2.2.1) (z01s h k l) ?_ ?_ ?_
  · rw [S.zmn, z05y]
    have hxl := hx.len
    have lk := zbc hq
    have hR : C 263 [k.v] g0 = some (.bool k.R, g0) := zie k.s k.a k.c k.hd k.g k.st g0
    rw [hr] at hR
    have d7 : decide ((7 : Int) < (l.length : Int)) = false := decide_eq_false (by omega)
    have hmk : g0.mkSl 1 8 [(.int .i64 0)] 0 ((l.length : Nat) : Int) = some (.sl g0.next 0 0 (.ex l.length), g0.new (.cells (z8g l.length 0) .rw)) := by
      rw [zgc (e := 1) (z := [.int .i64 0]) (Int.le_refl 0) (Int.natCast_nonneg _) (by omega) (by omega) rfl (by decide), Int.toNat_natCast, zvl]; rfl
    have F1 : Fr [] g0 (g0.new (.cells (z8g l.length 0) .rw)) := (Fr.refl F0.ok).new _
    have hb1 := ze g0 (.cells (z8g l.length 0) .rw)
    have hn1 : (g0.new (.cells (z8g l.length 0) .rw)).next = g0.next + 1 := rfl
    generalize g0.new (.cells (z8g l.length 0) .rw) = g1 at hmk F1 hb1 hn1
    obtain ⟨⟨v2, g2⟩, e2, B, rfl, F2, XB, hB, nB⟩ := Mod.new (h0 := h) hr (F0.trans' F1)
    dsimp only at F2 XB
    have lk1 := zbc (F1.get F0.ok hq (by simp))
    have hf : fill (repl [.nilp] 1) [] [(0, 1, .c (.ptr B.b 0))] = some [.ptr B.b 0] := rfl
    have F3 : Fr [] g2 (g2.new (.cells [.ptr B.b 0] .rw)) := (Fr.refl F2.ok).new _
    have ls : lenSl (.sl g0.next 0 0 (.ex l.length)) = some 0 := rfl
    have hle2 := F2.le
    have Z : SrAt h (g2.new (.cells [.ptr B.b 0] .rw)) k l [] g0.next (.sl g2.next 0 1 (.ex 1)) := by
      refine ⟨((F0.trans' F1).trans' F2).trans' F3, F0.le, ⟨z8g l.length 0, (F2.trans' F3).get F1.ok hb1 (by simp), zg5 _ _, rfl⟩, g2.next, .ex 1, 1, [.ptr B.b 0], .rw, rfl, .inr rfl, ze _ _, Nat.le_refl _, Nat.zero_lt_one, (by omega), fun j hj => ?_⟩
      have hj0 : j = 0 := by simpa using hj
      subst hj0
      exact ⟨B, rst0 k, rfl, rfl, XB.fr0 F3, fun q => by have := hB _ q; omega, fun q => by rw [nB] at q; cases q⟩
    simp only [lk, z9, zh, hR, zw, Bool.not_true, hxl, d7, hmk, lk1, e2, hf, ls]
    by_cases h0 : l.length = 0
    · have d : decide (((0 : Nat) : Int) = (l.length : Int)) = true := decide_eq_true (by omega)
      simp only [d]
      exact Ev.some (.inr ⟨by simp, (Z.full (p := 0) z00u z068 h0.symm)⟩)
    · have d : decide (((0 : Nat) : Int) = (l.length : Int)) = false := decide_eq_false (by omega)
      simp only [d]
      have L : LbAt h k l g0.next 0 [] 0 (.sl g2.next 0 1 (.ex 1)) (g2.new (.cells [.ptr B.b 0] .rw)) := ⟨Z, z00u, z068, Nat.zero_le _, Nat.zero_le _, fun q => (by cases q), fun q => (by cases q), .inl rfl⟩
      have := zuo ok hr hx hu hl (by decide) L (by simpa using Nat.pos_of_ne_zero h0)
      refine Ev.mono (this) ?_
      rintro z ⟨lb', o', p', x8', hz, he, L', _⟩
      exact .inl ⟨(lb', o', p', x8'), hz, he, L'⟩
  · rintro ⟨lb, o, p, x8⟩ g L
    refine (z06d ok hr hx hu hl L).mono ?_
    rintro z (⟨lb', o', p', x8', hz, he, L', hm⟩ | hF)
    · exact .inl ⟨(lb', o', p', x8'), hz, he, L', hm⟩
    · exact .inr ⟨by rw [hF.1]; simp, hF⟩
  · rintro ⟨_, _, g⟩ ⟨rfl, F, ⟨q, x, rfl, hrow, hf⟩ | ⟨rfl, hn⟩⟩
    · show Ev (S.ze2 W .ret _ _) _
      rw [S.zes]
      exact Ev.some ⟨F, .inl ⟨q, x, rfl, hrow, hf⟩⟩
    · show Ev (S.ze2 W .ret _ _) _
      rw [S.zes]
      exact Ev.some ⟨F, .inr ⟨rfl, hn⟩⟩
theorem z01y (ok : h.ok) (hx : RowE h.get x0 l) (hb : k.R = false ∨ 7 < l.length) :
    Ev (C 208 [k.v, x0] h) fun z => Fr [] h z.2 ∧ z.1 = .tup [.nilsl, .bool false, .int .i64 (if k.R then 10 else 1)] := by
  refine z1y (af := F.z5c) (by kernel_rfl) rfl ?_
  rw [z05x, S.zr1]
  simp only [S.z5c]
  obtain ⟨g0, hg, F0, hq⟩ := zwe k ok
  rw [← hg]
  refine zxd (α := Unit) (fun _ => 0) (fun _ => []) (fun _ _ => False) (fun _ _ => 0) (fun z => z.1 = .ret ∧ z.2.1 = S.z1p .nilsl (.bool false) (.int .i64 (if k.R then 10 else 1)) ∧ Fr [] h z.2.2) ?_ (fun _ _ f => f.elim) ?_
  · rw [S.zmn, z05y]
    have hxl := hx.len
    have lk := zbc hq
    have hR : C 263 [k.v] g0 = some (.bool k.R, g0) := zie k.s k.a k.c k.hd k.g k.st g0
    cases hr : k.R with
    | false =>
      rw [hr] at hR
      simp only [lk, z9, zh, hR, zw, Bool.not_false]
      exact Ev.some (.inr ⟨by simp, rfl, rfl, F0⟩)
    | true =>
      rw [hr] at hR
      have h7 : 7 < l.length := hb.resolve_left (by rw [hr]; decide)
      have d7 : decide ((7 : Int) < (l.length : Int)) = true := decide_eq_true (by omega)
      simp only [lk, z9, zh, hR, zw, Bool.not_true, hxl, d7]
      exact Ev.some (.inr ⟨by simp, rfl, rfl, F0⟩)
  · rintro ⟨_, _, g⟩ ⟨rfl, rfl, F⟩
    show Ev (S.ze2 W .ret _ _) _
    rw [S.zes]
    exact Ev.some ⟨F, rfl⟩
end
open Go.Sort (swp)
def nxI (d : Array Int) : Nat → Nat
  | 0 => 0
  | j + 1 => if d[j + 1]! < d[j]! then nxI d j else j + 1
def nxK (d : Array Int) (x : Int) : Nat → Nat
  | 0 => 0
  | k + 1 => if d[k + 1]! < x then nxK d x k else k + 1
def nxR : Nat → Nat → Nat → Array Int → Array Int
  | 0, _, _, d => d
  | f + 1, a, b, d => if a < b then nxR f (a + 1) (b - 1) (swp d a b) else d
def nxS (d : Array Int) : Nat → Option (Array Int)
  | 0 => none
  | i + 1 => some (nxR d.size (i + 1) (d.size - 1) (swp d i (nxK d d[i]! (d.size - 1))))
def nxt (d : Array Int) : Option (Array Int) := nxS d (nxI d (d.size - 1))
section
variable {h0 h : H} {b N : Nat} {d : Array Int} {c : Cap}
def zy5 (h0 : H) (b N : Nat) (d : Array Int) (z : V × H) : Prop := match nxt d with
  | none => z.1 = .bool false ∧ Sw h0 b N z.2 d
  | some d' => z.1 = .bool true ∧ Sw h0 b N z.2 d'
theorem z04w (hN : N ≤ 5) {f a e : Nat} (A : Sw h0 b N h d) (ha : 1 ≤ a) (he : e < N) (hf : e < a + f) :
    Ev ((W.loop (S.zdx W) (S.z71 (.sl b 0 N c) (.int .i64 (e : Nat)) (.int .i64 (a : Nat))) h).bind fun p => S.zbs W p.1 p.2.1 p.2.2) fun z => z.1 = .bool true ∧ Sw h0 b N z.2 (nxR f a e d) := by
  refine z32 (α := Nat × Nat × Nat × Array Int) (fun q => S.z71 (.sl b 0 N c) (.int .i64 (q.2.2.1 : Nat)) (.int .i64 (q.2.1 : Nat)))
    (fun q h => Sw h0 b N h q.2.2.2 ∧ 1 ≤ q.2.1 ∧ q.2.2.1 < N ∧ q.2.2.1 < q.2.1 + q.1 ∧ nxR q.1 q.2.1 q.2.2.1 q.2.2.2 = nxR f a e d) (fun q _ => q.1)
    (fun z => z.1 = .exit 4 ∧ z.2.1 = S.zdy ∧ Sw h0 b N z.2.2 (nxR f a e d)) (f, a, e, d) rfl ⟨A, ha, he, hf, rfl⟩ ?_ ?_
  rotate_left
  · rintro ⟨_, _, g⟩ ⟨rfl, rfl, A⟩
    show Ev (S.zbs W (.exit 4) _ _) _
    rw [S.zmz]
    exact Ev.some ⟨rfl, A⟩
  rintro ⟨f1, a1, e1, d1⟩ g ⟨A, ha, he, hf, hd⟩
  dsimp only at A ha he hf hd
  rw [S.zpt]
  by_cases hlt : a1 < e1
  · obtain ⟨f2, rfl⟩ : ∃ f2, f1 = f2 + 1 := ⟨f1 - 1, by omega⟩
    obtain ⟨e2, rfl⟩ : ∃ e2, e1 = e2 + 1 := ⟨e1 - 1, by omega⟩
    have hN' := Nat.lt_trans hlt he
    obtain ⟨g2, g3, s1, s2, A3, _⟩ := A.swap hN' he
    rw [nxR, if_pos hlt] at hd
    simp only [S.zdt, z070 hlt, z28 (b := b) (c := c) hN', z28 (b := b) (c := c) he, z9, z8, A.ld hN', A.ld he, s1, s2, zxc (i := e2) (by omega), zjh (i := a1) (by omega)]
    exact Ev.some (.inl ⟨(f2, a1 + 1, e2, swp d1 a1 (e2 + 1)), rfl, rfl, ⟨A3, by dsimp only; omega, by dsimp only; omega, by dsimp only; omega, hd⟩, Nat.lt_succ_self _⟩)
  · have : nxR f1 a1 e1 d1 = d1 := by
      cases f1 with
      | zero => rfl
      | succ f2 => rw [nxR, if_neg hlt]
    simp only [S.zdt, z04n hlt]
    exact Ev.some (.inr ⟨by simp, rfl, rfl, by rw [← hd, this]; exact A⟩)
theorem z059 (hN : N ≤ 5) (A : Sw h0 b N h d) {i : Nat} (hi : i + 1 < N) {Q : V × H → Prop}
    (hQ : ∀ g, Sw h0 b N g d → ∀ k, k < N → k = nxK d d[i]! (N - 1) → Ev (S.zcb W (.sl b 0 N c) (i : Nat) (k : Nat) g) Q) :
    Ev ((W.loop (S.zdu W) (S.z7c (.sl b 0 N c) (.int .i64 (i : Nat)) (.int .i64 ((N - 1 : Nat) : Int))) h).bind fun p => S.zbw W p.1 p.2.1 p.2.2) Q := by
  refine z32 (α := Nat) (fun q => S.z7c (.sl b 0 N c) (.int .i64 (i : Nat)) (.int .i64 (q : Nat)))
    (fun q h => Sw h0 b N h d ∧ i ≤ q ∧ q < N ∧ nxK d d[i]! q = nxK d d[i]! (N - 1)) (fun q _ => q)
    (fun z => ∃ k : Nat, z.1 = .exit 2 ∧ z.2.1 = S.ze0 (.sl b 0 N c) (.int .i64 (i : Nat)) (.int .i64 (k : Nat)) ∧ Sw h0 b N z.2.2 d ∧ k < N ∧ k = nxK d d[i]! (N - 1)) (N - 1) rfl ⟨A, by omega, by omega, rfl⟩ ?_ ?_
  rotate_left
  · rintro ⟨_, _, g⟩ ⟨k, rfl, rfl, A, hk, hkk⟩
    show Ev (S.zbw W (.exit 2) _ _) _
    rw [S.zmj]
    exact hQ g A k hk hkk
  rintro k g ⟨A, hik, hk, hd⟩
  rw [S.zpq]
  have hiN : i < N := by omega
  by_cases hlt : d[k]! < d[i]!
  · have hne : k ≠ i := by rintro rfl; omega
    obtain ⟨k2, rfl⟩ : ∃ k2, k = k2 + 1 := ⟨k - 1, by omega⟩
    rw [nxK, if_pos hlt] at hd
    simp only [S.zdr, z28 (b := b) (c := c) hk, z28 (b := b) (c := c) hiN, z9, z8, A.ld hk, A.ld hiN, za, decide_eq_true hlt, zxc (i := k2) (by omega)]
    exact Ev.some (.inl ⟨k2, rfl, rfl, ⟨A, by omega, by omega, hd⟩, Nat.lt_succ_self _⟩)
  · have : nxK d d[i]! k = k := by
      cases k with
      | zero => rfl
      | succ k2 => rw [nxK, if_neg hlt]
    simp only [S.zdr, z28 (b := b) (c := c) hk, z28 (b := b) (c := c) hiN, z9, z8, A.ld hk, A.ld hiN, za, decide_eq_false hlt]
    exact Ev.some (.inr ⟨by simp, k, rfl, rfl, A, hk, by rw [← hd, this]⟩)
theorem z08d {j : Nat} (hj : j ≤ 9) : wr .i64 ((j : Int) - 1) = (j : Int) - 1 := wr64 (by omega) (by omega)
theorem z08j (j : Nat) : decide ((0 : Int) ≤ (j : Int)) = true := decide_eq_true (by omega)
theorem z07h : decide ((0 : Int) ≤ -1) = false := rfl
theorem z06v : decide ((0 : Int) ≤ -2) = false := rfl
theorem z08f (j : Nat) : decide ((j : Int) < 0) = false := decide_eq_false (by omega)
theorem z088 {i : Int} (h : i < 0) : decide (i < 0) = true := decide_eq_true h
theorem z03y (hN : N ≤ 5) (A : Sw h0 b N h d) : Ev (C 209 [.sl b 0 N c] h) (zy5 h0 b N d) := by
  refine z1y (af := F.z1g) (by kernel_rfl) rfl ?_
  rw [S.zss]
  have ls : lenSl (.sl b 0 N c) = some N := rfl
  have hw : wr .i64 (((N : Nat) : Int) - 2) = ((N : Nat) : Int) - 2 := wr64 (by omega) (by omega)
  simp only [S.z1g, ls, z9, hw]
  refine z32 (α := Int) (fun i => S.zak (.sl b 0 N c) (.int .i64 i))
    (fun i h => Sw h0 b N h d ∧ ((∃ j : Nat, i = (j : Int) - 1 ∧ j < N ∧ nxI d j = nxI d (N - 1)) ∨ (N = 0 ∧ i = -2))) (fun i _ => (i + 2).toNat)
    (fun z => ∃ i : Int, z.1 = .exit 0 ∧ z.2.1 = S.zam (.sl b 0 N c) (.int .i64 i) ∧ Sw h0 b N z.2.2 d ∧ ((i < 0 ∧ nxI d (N - 1) = 0) ∨ ∃ m : Nat, i = m ∧ nxI d (N - 1) = m + 1 ∧ m + 1 < N)) _ rfl ⟨A, ?_⟩ ?_ ?_
  · rcases Nat.eq_zero_or_pos N with h0 | h0
    · exact .inr ⟨h0, by omega⟩
    · exact .inl ⟨N - 1, by omega, by omega, rfl⟩
  · rintro i g ⟨A, hi⟩
    rw [S.zpu]
    rcases hi with ⟨j, rfl, hj, hd⟩ | ⟨h0, rfl⟩
    · cases j with
      | zero =>
        have e0 : ((0 : Nat) : Int) - 1 = -1 := rfl
        simp only [S.zai, e0, z07h]
        exact Ev.some (.inr ⟨by simp, -1, rfl, rfl, A, .inl ⟨by omega, by rw [← hd]; rfl⟩⟩)
      | succ j =>
        have e0 : ((j + 1 : Nat) : Int) - 1 = (j : Int) := by omega
        have hj' := Nat.lt_of_succ_lt hj
        simp only [S.zai, e0, z08j, z28 (b := b) (c := c) hj', z28 (b := b) (c := c) hj, z9, z8, A.ld hj, A.ld hj', za, zjh (i := j) (by omega)]
        rw [nxI] at hd
        by_cases hlt : d[j + 1]! < d[j]!
        · rw [if_pos hlt] at hd
          simp only [decide_eq_true hlt, z08d (j := j) (by omega)]
          exact Ev.some (.inl ⟨_, rfl, rfl, ⟨A, .inl ⟨j, rfl, hj', hd⟩⟩, by omega⟩)
        · rw [if_neg hlt] at hd
          simp only [decide_eq_false hlt]
          exact Ev.some (.inr ⟨by simp, _, rfl, rfl, A, .inr ⟨j, rfl, hd.symm, hj⟩⟩)
    · simp only [S.zai, z06v]
      exact Ev.some (.inr ⟨by simp, _, rfl, rfl, A, .inl ⟨by omega, by subst h0; rfl⟩⟩)
  · rintro ⟨_, _, g⟩ ⟨i, rfl, rfl, A, hi⟩
    show Ev (S.zeo W (.exit 0) _ _) _
    rw [S.zmm]
    have sz := A.sz
    rcases hi with ⟨hi, hd⟩ | ⟨m, rfl, hd, hm⟩
    · simp only [S.zcx, z088 hi]
      refine Ev.some ?_
      unfold zy5 nxt
      rw [sz, hd]
      exact ⟨rfl, A⟩
    · have hw : wr .i64 (((N : Nat) : Int) - 1) = ((N - 1 : Nat) : Int) := by rw [wr64 (by omega) (by omega)]; omega
      simp only [S.zcx, z08f, ls, z9, hw]
      refine z059 hN A hm fun g A k hk hkk => ?_
      have hm' := Nat.lt_of_succ_lt hm
      obtain ⟨g2, g3, s1, s2, A3, _⟩ := A.swap hm' hk
      simp only [S.zcb, z28 (b := b) (c := c) hm', z28 (b := b) (c := c) hk, z9, z8, A.ld hm', A.ld hk, s1, s2, ls, hw, zjh (i := m) (by omega)]
      refine (z04w hN (f := N) A3 (by omega) (by omega) (by omega)).mono fun z hz => ?_
      unfold zy5 nxt
      rw [sz, hd]
      simp only [nxS, sz]
      rw [← hkk]
      exact hz
end
end Wm
end
noncomputable section
namespace Wm
def dn (d : Array Int) : List Nat := d.toList.map Int.toNat
def zhf : Nat → Array Int → List (List Nat)
  | 0, _ => []
  | f + 1, d => dn d :: match nxt d with
    | none => []
    | some d' => zhf f d'
def chk (n : Nat) : Nat → Array Int → Bool
  | 0, _ => false
  | f + 1, d => Nat.beq d.size n && d.toList.all (fun x => decide (0 ≤ x) && decide (x < n)) && match nxt d with
    | none => true
    | some d' => decide (cod 5 (dn d) < cod 5 (dn d')) && chk n f d'
def start (n : Nat) : Array Int := ((List.range n).map fun i : Nat => (i : Int)).toArray
def allP (C : List (List Nat)) (n : Nat) : Nat → List Nat → Bool
  | 0, pre => C.contains pre
  | f + 1, pre => (List.range n).all fun a => pre.contains a || allP C n f (pre ++ [a])
theorem z058 : ∀ n, n ≤ 5 → chk n 121 (start n) = true
  | 0, _ | 1, _ | 2, _ | 3, _ | 4, _ | 5, _ => by decide +kernel
  | n + 6, h => by omega
theorem z05o : ∀ n, n ≤ 5 → allP (zhf 121 (start n)) n n [] = true
  | 0, _ | 1, _ | 2, _ | 3, _ | 4, _ | 5, _ => by decide +kernel
  | n + 6, h => by omega
theorem zzr {C : List (List Nat)} {n : Nat} : ∀ (f : Nat) (pre q : List Nat), allP C n f pre = true → q.length = f → (pre ++ q).Nodup → (∀ x ∈ q, x < n) → pre ++ q ∈ C
  | 0, pre, q, h, hq, _, _ => by
    rw [List.length_eq_zero_iff.mp hq, List.append_nil]
    exact List.contains_iff_mem.mp h
  | f + 1, pre, q, h, hq, hn, hx => by
    cases q with
    | nil => cases hq
    | cons a q =>
      rw [allP, List.all_eq_true] at h
      have ha := h a (List.mem_range.mpr (hx a (by simp)))
      have hna : pre.contains a = false := by
        cases hc : pre.contains a with
        | false => rfl
        | true =>
          have := List.contains_iff_mem.mp hc
          rw [List.nodup_append] at hn
          exact absurd rfl (hn.2.2 a this a (by simp))
      rw [hna, Bool.false_or] at ha
      have e : pre ++ a :: q = (pre ++ [a]) ++ q := by simp
      rw [e] at hn ⊢
      exact zzr f _ q ha (by simpa using hq) hn (fun x h => hx x (by simp [h]))
section
variable {n f : Nat} {d d' : Array Int}
theorem zyw (h : chk n (f + 1) d = true) (hd : nxt d = some d') : chk n f d' = true ∧ cod 5 (dn d) < cod 5 (dn d') := by
  rw [chk, hd] at h
  simp only [Bool.and_eq_true, decide_eq_true_eq] at h
  exact ⟨h.2.2, h.2.1⟩
theorem z07x (h : chk n f d = true) : d.size = n ∧ ∀ x ∈ d.toList, 0 ≤ x ∧ x < (n : Int) := by
  cases f with
  | zero => cases h
  | succ f =>
    rw [chk] at h
    simp only [Bool.and_eq_true, Nat.beq_eq, List.all_eq_true, decide_eq_true_eq] at h
    exact ⟨h.1.1, h.1.2⟩
theorem z03i (h : chk n f d = true) : nI (dn d) = d.toList ∧ (dn d).length = n ∧ ∀ x ∈ dn d, x < n := by
  obtain ⟨h1, h2⟩ := z07x h
  refine ⟨?_, by rw [dn, List.length_map, Array.length_toList, h1], fun x hx => ?_⟩
  · rw [nI, dn, List.map_map]
    exact (List.map_congr_left fun x hx => Int.toNat_of_nonneg (h2 x hx).1).trans (List.map_id _)
  · obtain ⟨y, hy, rfl⟩ := List.mem_map.mp hx
    have := h2 y hy
    omega
theorem zzb : ∀ (f : Nat) (d : Array Int), chk n f d = true → ∀ q ∈ zhf f d, cod 5 (dn d) ≤ cod 5 q
  | 0, _, h, _, _ => by cases h
  | f + 1, d, h, q, hq => by
    rw [zhf, List.mem_cons] at hq
    rcases hq with rfl | hq
    · exact Nat.le_refl _
    · cases hd : nxt d with
      | none => rw [hd] at hq; cases hq
      | some d' =>
        rw [hd] at hq
        have := zyw h hd
        exact Nat.le_trans (Nat.le_of_lt this.2) (zzb f d' this.1 q hq)
end
theorem zuj : ∀ (w : Nat) (c q : List Nat), c.length = q.length → (∀ d ∈ c, d ≤ 8) → (∀ d ∈ q, d ≤ 8) → cod w q < cod w c → Past c q
  | 0, _, _, _, _, _, h => by simp [cod] at h
  | w + 1, [], q, hl, _, _, h => by
    rw [List.length_eq_zero_iff.mp hl.symm] at h; omega
  | w + 1, x :: c, [], hl, _, _, _ => by cases hl
  | w + 1, x :: c, y :: q, hl, hc, hq, h => by
    simp only [cod] at h
    have b1 := zv5 w c (fun d hd => hc d (by simp [hd]))
    rcases Nat.lt_trichotomy y x with g | g | g
    · exact ⟨0, y, x, rfl, rfl, rfl, g⟩
    · subst g
      obtain ⟨j, a, b, h1, h2, h3, h4⟩ := zuj w c q (by simpa using hl) (fun d hd => hc d (by simp [hd])) (fun d hd => hq d (by simp [hd])) (by omega)
      exact ⟨j + 1, a, b, by simp [h1], by simpa using h2, by simpa using h3, h4⟩
    · have : (x + 1 + 1) * 10 ^ w ≤ (y + 1) * 10 ^ w := Nat.mul_le_mul_right _ (by omega)
      have h2 : (x + 1 + 1) * 10 ^ w = (x + 1) * 10 ^ w + 10 ^ w := Nat.succ_mul _ _
      omega
theorem z05v {k : Cfg} {l : List Evt} {q : List Nat} (h5 : l.length ≤ 5) (A : OkF k l q) (hn : q.length = l.length) : q ∈ zhf 121 (start l.length) := by
  refine zzr l.length [] q (z05o _ h5) hn ?_ fun x hx => ?_
  · rw [List.nil_append, List.Nodup, List.pairwise_iff_getElem]
    intro a b ha hb hab he
    have he : q[a]? = q[b]? := by rw [List.getElem?_eq_getElem ha, List.getElem?_eq_getElem hb, he]
    obtain ⟨_, hnot, _⟩ := A.may b q[b] (List.getElem?_eq_getElem hb)
    refine hnot (zmq.mpr (List.mem_of_getElem? (i := a) ?_))
    rw [List.getElem?_take, if_pos hab, he]
    exact List.getElem?_eq_getElem hb
  · obtain ⟨a, ha⟩ := List.mem_iff_getElem?.mp hx
    exact (A.may a x ha).1
end Wm
end
noncomputable section
namespace Wm
set_option maxRecDepth 100000 in
theorem z00i : runF prog meth 2000 200 204 [] .empty = some (.bool true, .empty) := by kernel_rfl
theorem zwi (h : H) : C 204 [] h = some (.bool true, h) := zvh (af := F.zdv) (by kernel_rfl) rfl (by rw [← zwd]; exact z00i) h
end Wm
end
noncomputable section
namespace Wm
attribute [local congr] zl
attribute [local irreducible] wr
def shLinSearches : List (Bool × List CSh) := [(true, [.int .i64, .int .i64, .int .i64, .int .i64, .int .i64, .int .i64]), (false, [.sl 112 [.int .i64, .int .i64, .int .i64, .int .i64, .int .i64, .bool, .int .i64, .int .i64, .int .u64, .int .u64, .int .u64, .int .i64, .int .u64, .bool]])]
section
variable {h g : H} {k : Cfg} {x0 x5 : V} {l : List Evt} {b p f : Nat} {d : Array Int} {ok' : Bool} {e7 : Int}
def Told (k : Cfg) (l : List Evt) (g : Nat → Option Blk) (x5 : V) (ok' : Bool) (e7 : Int) : Prop :=
  (ok' = true ∧ e7 = 0 ∧ ∃ q, RowN .i64 g x5 (nI q) ∧ z02g k l q) ∨ (x5 = .nilsl ∧ ok' = false ∧ e7 = 0 ∧ ∀ q, OkF k l q → q.length ≠ l.length)
structure LsAt (h g : H) (k : Cfg) (x0 x5 : V) (l : List Evt) (p b : Nat) (ok' : Bool) (e7 : Int) (d : Array Int) : Prop where
  sw : Sw h b l.length g d
  row : RowE h.get x0 l
  rx : ∀ q ∈ x0.blk, q ≠ b
  cfg : h.get p = some (.cells k.cs .rw)
  ne : p ≠ b
  old : h.ok
  tell : Told k l h.get x5 ok' e7
  tx : ∀ q ∈ x5.blk, q ≠ b
theorem LsAt.ex (Z : LsAt h g k x0 x5 l p b ok' e7 d) : RowE g.get x0 l := Z.row.fr Z.old Z.sw.fr fun q hq => by simpa using Z.rx q hq
theorem LsAt.ld (Z : LsAt h g k x0 x5 l p b ok' e7 d) : g.ldN 6 (.ptr p 0) = some k.v := zbc (Z.sw.fr.get Z.old Z.cfg (by simpa using Z.ne))
theorem LsAt.fr0 (Z : LsAt h g k x0 x5 l p b ok' e7 d) {g' : H} (F : Fr [] g g') : LsAt h g' k x0 x5 l p b ok' e7 d :=
  ⟨Z.sw.fr0 F, Z.row, Z.rx, Z.cfg, Z.ne, Z.old, Z.tell, Z.tx⟩
theorem LsAt.sw' (Z : LsAt h g k x0 x5 l p b ok' e7 d) {g' : H} {d' : Array Int} (A : Sw h b l.length g' d') : LsAt h g' k x0 x5 l p b ok' e7 d' :=
  ⟨A, Z.row, Z.rx, Z.cfg, Z.ne, Z.old, Z.tell, Z.tx⟩
def z025 (k : Cfg) (l : List Evt) (C : List (List Nat)) : Prop := ∀ q, OkF k l q → q.length = l.length → q ∈ C
theorem z05r {q : List Nat} {n : Nat} {c : Cap} (hn : n ≤ 5) (hd : nI q = d.toList) (hr : RowN .i64 g.get x5 (nI q)) (A : g.get b = some (.cells (ints d) .rw)) (sz : d.size = n) (hq : q.length = n) :
    Ev ((W.loop (S.z1e W) (S.z0m x5 (.sl b 0 n c) (.bool true) (.int .i64 0)) g).bind fun p => S.z1a W p.1 p.2.1 p.2.2)
      fun z => z = (.ret, S.z0n (.bool true) .dead .dead .dead, g) := by
  refine z32 (α := Nat) (fun i => S.z0m x5 (.sl b 0 n c) (.bool true) (.int .i64 (i : Nat)))
    (fun i g' => g' = g ∧ i ≤ n) (fun i _ => n - i) (fun z => z = (.exit 5, S.z5r (.bool true), g)) 0 rfl ⟨rfl, Nat.zero_le _⟩ ?_ ?_
  rotate_left
  · rintro _ rfl
    show Ev (S.z1a W (.exit 5) _ _) _
    rw [S.zgi]
    have aw := zwi
    simp only [S.zce, zh, aw, z9]
    exact Ev.some rfl
  rintro i g1 ⟨hg, hi⟩
  rw [hg, S.zhx]
  have ls : lenSl (.sl b 0 n c) = some n := rfl
  by_cases hin : i < n
  · obtain ⟨v, hv⟩ : ∃ v, q[i]? = some v := ⟨_, List.getElem?_eq_getElem (by omega)⟩
    have hv1 : (nI q)[i]? = some (v : Int) := by rw [zex, hv]; rfl
    obtain ⟨b', i1, l1⟩ := hr.at hv1
    have l2 : g.ld1 (.ptr b i) = some (.int .i64 (v : Int)) := z8a A (by unfold ints; rw [List.getElem?_map, ← hd, hv1]; rfl) rfl
    have wi : wr .i64 ((i : Int) + 1) = ((i + 1 : Nat) : Int) := zjh (by omega)
    have dd' : decide ((v : Int) = (v : Int)) = true := decide_eq_true rfl
    simp only [S.z8v, ls, z9, zca hin, i1, l1, z28 (b := b) (c := c) hin, l2, za, wi]
    exact Ev.some (.inl ⟨i + 1, rfl, rfl, ⟨rfl, hin⟩, by omega⟩)
  · have d0 : decide ((i : Int) < (n : Int)) = false := decide_eq_false (by omega)
    simp only [S.z8v, ls, z9, d0]
    exact Ev.some (.inr ⟨by simp, rfl⟩)
theorem LsAt.try (Z : LsAt h g k x0 x5 l p b ok' e7 d) (hr : k.R = true) (hu : ∀ y ∈ l, U64 y.ah) (h5 : l.length ≤ 5) {n f : Nat} (hc : chk l.length f d = true) {c : Cap} :
    ∃ v1 v2 g1 g2, C 186 [x0, .sl b 0 l.length c] g = some (.bool v1, g1) ∧ Fr [] g g1 ∧ C 207 [k.v, x0, .sl b 0 l.length c] g1 = some (.int .i64 v2, g2) ∧ Fr [] g1 g2 ∧
      (OkF k l (dn d) ↔ v1 = true ∧ v2 = (l.length : Int)) := by
  obtain ⟨hd1, hd2, hd3⟩ := z03i hc
  have row : RowN .i64 g.get (.sl b 0 l.length c) (nI (dn d)) := .inr ⟨b, c, .rw, by rw [z9i, hd2], by rw [Z.sw.at_, hd1]; rfl⟩
  obtain ⟨⟨v1, g1⟩, e1, b1, rfl, hb1, F1⟩ := zmu Z.sw.ok Z.ex row (by omega)
  dsimp only at F1
  obtain ⟨⟨v2, g2⟩, e2, rfl, F2⟩ := ztn (k := k) (o := nI (dn d)) F1.ok hr (Z.ex.fr Z.sw.ok F1 (by simp)) hu (row.P.fr Z.sw.ok F1 (by simp)) (by rw [z9i, hd2]; omega)
  dsimp only at F2
  refine ⟨b1, _, g1, g2, e1, F1, e2, F2, ?_⟩
  rw [zzn hd2, hb1]
  refine and_congr_right fun _ => ⟨fun ⟨r, hr⟩ => by rw [ztz _ _ hr, z9i, hd2], fun q => zva _ _ (by rw [z9i, hd2]; omega)⟩
theorem z04s (hr : k.R = true) (hu : ∀ y ∈ l, U64 y.ah) (h5 : l.length ≤ 5) (Z : LsAt h g k x0 x5 l p b ok' e7 d) (hc : chk l.length 121 d = true) (hR : z025 k l (zhf 121 d)) {c : Cap} :
    Ev ((W.loop (S.z9e W) (S.z10 x0 (.ptr p 0) x5 (.bool ok') (.int .i64 e7) (.sl b 0 l.length c) (.bool true)) g).bind fun q => S.z3g W q.1 q.2.1 q.2.2) fun z => z.1 = .bool true := by
  refine z32 (α := Nat × Array Int × Bool) (fun a => S.z10 x0 (.ptr p 0) x5 (.bool ok') (.int .i64 e7) (.sl b 0 l.length c) (.bool a.2.2))
    (fun a g => (a.2.2 = true ∧ LsAt h g k x0 x5 l p b ok' e7 a.2.1 ∧ chk l.length a.1 a.2.1 = true ∧ z025 k l (zhf a.1 a.2.1)) ∨ (a.2.2 = false ∧ ∀ q, OkF k l q → q.length ≠ l.length)) (fun a _ => if a.2.2 then a.1 + 1 else 0)
    (fun z => (z.1 = .ret ∧ z.2.1 = S.z0n (.bool true) .dead .dead .dead) ∨ (z.1 = .exit 3 ∧ z.2.1 = S.z0n .dead x5 (.bool ok') (.int .i64 e7) ∧ ∀ q, OkF k l q → q.length ≠ l.length)) (121, d, true) rfl (.inl ⟨rfl, Z, hc, hR⟩) ?_ ?_
  · rintro ⟨f, d, m⟩ g hI
    rw [S.zhy]
    rcases hI with ⟨rfl, Z, hc, hR⟩ | ⟨rfl, hn⟩
    · dsimp only at Z hc hR
      obtain ⟨hd1, hd2, hd3⟩ := z03i hc
      obtain ⟨f, rfl⟩ : ∃ f', f = f' + 1 := by
        cases f with
        | zero => cases hc
        | succ f => exact ⟨f, rfl⟩
      obtain ⟨v1, v2, g1, g2, e1, F1, e2, F2, hok⟩ := Z.try hr hu h5 (n := 0) hc (c := c)
      have Z1 := Z.fr0 F1
      have hxl := Z.row.len
      have hlen : lenSl (.sl b 0 l.length c) = some l.length := rfl
      -- what next does, if it isn't right
      have nx : ¬ OkF k l (dn d) → ∀ g', LsAt h g' k x0 x5 l p b ok' e7 d → Ev ((C 209 [.sl b 0 l.length c] g').bind fun p5 => some (.normal, (S.z10 x0 (.ptr p 0) x5 (.bool ok') (.int .i64 e7) (.sl b 0 l.length c) p5.1), p5.2)) fun r =>
          (∃ a' : Nat × Array Int × Bool, r.1 = AX.normal ∧ r.2.1 = S.z10 x0 (.ptr p 0) x5 (.bool ok') (.int .i64 e7) (.sl b 0 l.length c) (.bool a'.2.2) ∧ ((a'.2.2 = true ∧ LsAt h r.2.2 k x0 x5 l p b ok' e7 a'.2.1 ∧ chk l.length a'.1 a'.2.1 = true ∧ z025 k l (zhf a'.1 a'.2.1)) ∨ (a'.2.2 = false ∧ ∀ q, OkF k l q → q.length ≠ l.length)) ∧ (if a'.2.2 then a'.1 + 1 else 0) < f + 1 + 1) ∨ (r.1 ≠ .normal ∧ ((r.1 = .ret ∧ r.2.1 = S.z0n (.bool true) .dead .dead .dead) ∨ (r.1 = .exit 3 ∧ r.2.1 = S.z0n .dead x5 (.bool ok') (.int .i64 e7) ∧ ∀ q, OkF k l q → q.length ≠ l.length))) := by
        intro hno g' Z'
        refine (z03y h5 Z'.sw (c := c)).bind fun z hz => ?_
        unfold zy5 at hz
        cases hd : nxt d with
        | none =>
          rw [hd] at hz
          refine Ev.some (.inl ⟨(0, d, false), rfl, by rw [hz.1], .inr ⟨rfl, fun q hq hl => ?_⟩, Nat.succ_pos _⟩)
          have := hR q hq hl
          rw [zhf, hd] at this
          rw [List.mem_singleton.mp this] at hq
          exact hno hq
        | some d' =>
          rw [hd] at hz
          have hc' := zyw hc hd
          refine Ev.some (.inl ⟨(f, d', true), rfl, by rw [hz.1], .inl ⟨rfl, Z'.sw' hz.2, hc'.1, fun q hq hl => ?_⟩, Nat.lt_succ_self _⟩)
          have := hR q hq hl
          rw [zhf, hd, List.mem_cons] at this
          rcases this with rfl | this
          · exact absurd hq hno
          · exact this
      cases v1 with
      | false =>
        simp only [S.z42, zh, e1, z9]
        exact nx (fun q => by have := (hok.mp q).1; cases this) g1 Z1
      | true =>
        by_cases hv : v2 = (l.length : Int)
        · have good := hok.mpr ⟨rfl, hv⟩
          rcases Z.tell with ⟨rfl, rfl, q, hrow, hf⟩ | ⟨_, _, _, hn⟩
          · -- the first one is this one
            have hq : q = dn d := by
              have hm := hR q hf.2.1 hf.1
              rw [zhf, List.mem_cons] at hm
              rcases hm with hm | hm
              · exact hm
              · exfalso
                cases hd : nxt d with
                | none => rw [hd] at hm; cases hm
                | some d' =>
                  rw [hd] at hm
                  have hc' := zyw hc hd
                  have := zzb f d' hc'.1 q hm
                  have hql : ∀ x ∈ q, x ≤ 8 := fun x hx => by
                    obtain ⟨a, ha⟩ := List.mem_iff_getElem?.mp hx
                    have := (hf.2.1.may a x ha).1
                    omega
                  exact hf.2.2 _ good hd2 (zuj 5 q (dn d) (by rw [hf.1, hd2]) hql (fun x hx => by have := hd3 x hx; omega) (by omega))
            subst hq
            have F12 := F1.trans' F2
            have row2 : RowN .i64 g2.get x5 (nI (dn d)) := by
              have r1 := hrow.fr Z.old Z.sw.fr (fun q hq => by simpa using Z.tx q hq)
              exact r1.fr Z.sw.ok F12 (by simp)
            have A2 := (Z1.fr0 F2).sw
            have xl := row2.len
            rw [z9i, hd2] at xl
            have dv : decide (v2 = (l.length : Int)) = true := decide_eq_true hv
            have d0 : decide ((0 : Int) = 0) = true := rfl
            have dl : decide ((l.length : Int) = (l.length : Int)) = true := decide_eq_true rfl
            simp only [S.z42, zh, e1, z9, Z1.ld, e2, hxl, za, dv, xl, hlen]
            refine (z05r (d := d) h5 hd1 row2 A2.at_ A2.sz hd2).mono fun z hz => ?_
            subst hz
            exact .inr ⟨by simp, .inl ⟨rfl, rfl⟩⟩
          · exact absurd hd2 (hn _ good)
        · have dv : decide (v2 = (l.length : Int)) = false := decide_eq_false hv
          simp only [S.z42, zh, e1, z9, Z1.ld, e2, hxl, za, dv]
          exact nx (fun q => hv (hok.mp q).2) g2 (Z1.fr0 F2)
    · simp only [S.z42]
      exact Ev.some (.inr ⟨by simp, .inr ⟨rfl, rfl, hn⟩⟩)
  · rintro ⟨_, _, g⟩ (⟨rfl, rfl⟩ | ⟨rfl, rfl, hn⟩)
    · show Ev (S.z3g W .ret _ _) _
      rw [S.zgv]
      exact Ev.some rfl
    · show Ev (S.z3g W (.exit 3) _ _) _
      rw [S.zgh]
      rcases Z.tell with ⟨_, _, q, _, hf⟩ | ⟨rfl, rfl, rfl, _⟩
      · exact absurd hf.1 (hn q hf.2.1)
      · have aw := zwi
        have d0 : decide (((0 : Nat) : Int) = 0) = true := rfl
        have d1 : decide ((0 : Int) = 0) = true := rfl
        simp only [S.zck, Bool.not_false, z52, z9, d0, zh, aw]
        exact Ev.some rfl
end
theorem lawLinSearches (h : H) (us : List V) (ok : h.ok) (ha : zw5 h.get shLinSearches us) : Ev (C 45 us h) fun r => r.1 = .bool true := by
  obtain ⟨_, _, rfl, ⟨_, rfl, _, _, rfl, ⟨s, rfl, _⟩, _, _, rfl, ⟨a, rfl, _⟩, _, _, rfl, ⟨c, rfl, _⟩, _, _, rfl, ⟨hd, rfl, _⟩, _, _, rfl, ⟨g, rfl, _⟩, _, _, rfl, ⟨st, rfl, _⟩, rfl⟩, _, _, rfl, ⟨_, _, hx, hxc, rfl⟩, rfl⟩ := ha
  cases hx
  rename_i x0
  obtain ⟨l, hx, hu, _, _⟩ := z07m hxc
  refine z1y (af := F.z07) (by kernel_rfl) rfl ?_
  rw [S.zkm]
  simp only [S.z07]
  obtain ⟨g0, hg, F0, hq⟩ := zwe ⟨s, a, c, hd, g, st⟩ ok
  dsimp only at hg
  rw [← hg]
  have hxl := hx.len
  have hR : ∀ g', C 85 [(⟨s, a, c, hd, g, st⟩ : Cfg).v] g' = some (.bool (⟨s, a, c, hd, g, st⟩ : Cfg).R, g') := fun g' => zvi s a c hd g st g'
  generalize (⟨s, a, c, hd, g, st⟩ : Cfg) = k at hq hR
  have aw := zwi
  have t0 : ∀ x y z : V, ([x, y, z] : List V)[0]? = some x := fun _ _ _ => rfl
  have t1 : ∀ x y z : V, ([x, y, z] : List V)[1]? = some y := fun _ _ _ => rfl
  have t2 : ∀ x y z : V, ([x, y, z] : List V)[2]? = some z := fun _ _ _ => rfl
  have z0 : decide ((0 : Int) = 0) = true := rfl
  have z00 : decide (((0 : Nat) : Int) = 0) = true := rfl
  have hx0 := hx.fr ok F0 (by simp)
  by_cases hb : k.R = false ∨ 7 < l.length
  · obtain ⟨⟨v1, g1⟩, e1, F1, rfl⟩ := z01y (k := k) F0.ok hx0 hb
    dsimp only at F1
    have q1 := F1.get F0.ok hq (by simp)
    cases hr : k.R with
    | false =>
      have z1 : decide ((1 : Int) = 1) = true := rfl
      rw [hr, if_neg (by decide)] at e1
      simp only [zbc hq, z9, zh, e1, t0, t1, t2, zbc q1, hR, hr, zw, Bool.not_false, z52, z00, za, aw]
      exact Ev.some rfl
    | true =>
      have h7 : 7 < l.length := hb.resolve_left (by rw [hr]; decide)
      have d7 : decide ((7 : Int) < (l.length : Int)) = true := decide_eq_true (by omega)
      have z1 : decide ((10 : Int) = 10) = true := rfl
      rw [hr, if_pos rfl] at e1
      simp only [zbc hq, z9, zh, e1, t0, t1, t2, zbc q1, hR, hr, zw, Bool.not_true, Bool.not_false, hxl, d7, z52, z00, za, aw]
      exact Ev.some rfl
  have hr : k.R = true := by cases hr : k.R with
    | true => rfl
    | false => exact absurd (.inl hr) hb
  have hl : l.length ≤ 7 := Nat.le_of_not_lt fun q => hb (.inr q)
  have d7 : decide ((7 : Int) < (l.length : Int)) = false := decide_eq_false (by omega)
  obtain ⟨⟨v1, g1⟩, e1, F1, hres⟩ := z00r (k := k) F0.ok hr hx0 hu hl
  dsimp only at F1 hres
  have F01 := F0.trans' F1
  have q1 := F1.get F0.ok hq (by simp)
  have hx1 := hx.fr ok F01 (by simp)
  by_cases h5 : 5 < l.length
  · have d5 : decide ((5 : Int) < (l.length : Int)) = true := decide_eq_true (by omega)
    rcases hres with ⟨q, x, rfl, row, hf⟩ | ⟨rfl, _⟩
    · have hres := (zzn hf.1).mp hf.2.1
      obtain ⟨⟨v3, g3⟩, e3, b3, rfl, hb3, F3⟩ := zmu F1.ok hx1 row (by omega)
      dsimp only at F3
      have : b3 = true := hb3.mpr hres.1
      subst this
      have q3 := F3.get F1.ok q1 (by simp)
      have hql : (nI q).length = l.length := by rw [z9i]; exact hf.1
      obtain ⟨⟨v4, g4⟩, e4, rfl, F4⟩ := ztn (k := k) (o := nI q) F3.ok hr (hx1.fr F1.ok F3 (by simp)) hu (row.P.fr F1.ok F3 (by simp)) (by omega)
      obtain ⟨r', hr'⟩ := hres.2
      have z : decide ((rpN k l (rst0 k) (nI q) : Int) = (l.length : Int)) = true := decide_eq_true (by rw [ztz _ _ hr', hql])
      simp only [zbc hq, z9, zh, e1, t0, t1, t2, zbc q1, hR, hr, zw, Bool.not_true, hxl, d7, d5, za, e3, zbc q3, e4, z, aw]
      exact Ev.some rfl
    · simp only [zbc hq, z9, zh, e1, t0, t1, t2, zbc q1, hR, hr, zw, Bool.not_true, Bool.not_false, hxl, d7, d5, za, aw]
      exact Ev.some rfl
  have h5 : l.length ≤ 5 := Nat.le_of_not_lt h5
  have d5 : decide ((5 : Int) < (l.length : Int)) = false := decide_eq_false (by omega)
  obtain ⟨x5, ok', hv, tell, tlt⟩ : ∃ x5 ok', v1 = .tup [x5, .bool ok', .int .i64 0] ∧ Told k l g1.get x5 ok' 0 ∧ ∀ q ∈ x5.blk, q < g1.next := by
    rcases hres with ⟨q, x, rfl, row, hf⟩ | ⟨rfl, hn⟩
    · exact ⟨x, true, rfl, .inl ⟨rfl, rfl, q, row, hf⟩, row.lt F1.ok⟩
    · exact ⟨.nilsl, false, rfl, .inr ⟨rfl, rfl, rfl, hn⟩, fun q hq => by simp [V.blk] at hq⟩
  subst hv
  have mk := z07j (h := g1) (n := l.length) (by omega)
  have F2 : Fr [] g1 (g1.new (.cells (z8g l.length 0) .rw)) := (Fr.refl F1.ok).new _
  have hb2 := ze g1 (.cells (z8g l.length 0) .rw)
  simp only [zbc hq, z9, zh, e1, t0, t1, t2, zbc q1, hR, hr, zw, Bool.not_true, hxl, d7, d5, za, mk]
  generalize g1.new (.cells (z8g l.length 0) .rw) = g2 at F2 hb2
  refine z32 (α := Nat) (fun i => S.z5m x0 (.ptr h.next 0) x5 (.bool ok') (.int .i64 0) (.sl g1.next 0 l.length (.ex l.length)) (.int .i64 (i : Nat)))
    (fun i g' => i ≤ l.length ∧ Fr [g1.next] g2 g' ∧ g'.get g1.next = some (.cells (z8g l.length i) .rw)) (fun i _ => l.length - i)
    (fun z => z.1 = .exit 1 ∧ z.2.1 = S.z9k x0 (.ptr h.next 0) x5 (.bool ok') (.int .i64 0) (.sl g1.next 0 l.length (.ex l.length)) ∧ Fr [g1.next] g2 z.2.2 ∧ z.2.2.get g1.next = some (.cells (z8g l.length l.length) .rw)) 0 rfl ⟨Nat.zero_le _, Fr.refl F2.ok, hb2⟩ ?_ ?_
  · rintro i g' ⟨hi, F, hb⟩
    rw [S.zih]
    by_cases hil : i < l.length
    · have s1 := zu2 hb (by simp) (zf .i64 (i : Int)) (by rw [zg5]; exact hil)
      rw [z035 hil] at s1
      simp only [S.z9g, hxl, z9, zca hil, z28 (b := g1.next) (c := .ex l.length) hil, s1, zjh (i := i) (by omega)]
      exact Ev.some (.inl ⟨i + 1, rfl, rfl, ⟨hil, F.put (.inl (by simp)) (F.ok.lt hb) _, zs _ _ _⟩, by omega⟩)
    · have hie : i = l.length := Nat.le_antisymm hi (Nat.le_of_not_lt hil)
      have d : decide ((i : Int) < (l.length : Int)) = false := decide_eq_false (by omega)
      simp only [S.z9g, hxl, z9, d]
      exact Ev.some (.inr ⟨by simp, rfl, rfl, F, hie ▸ hb⟩)
  · rintro ⟨_, _, g3⟩ ⟨rfl, rfl, F, hb⟩
    show Ev (S.zaj W (.exit 1) _ _) _
    rw [S.zgd]
    simp only [S.zcm]
    have F12 := F1.trans' F2
    have hlt1 : ∀ q, q < g1.next → q ≠ g1.next := fun q h => Nat.ne_of_lt h
    rw [z041] at hb
    have hp : h.next < g1.next := F1.ok.lt q1
    have Z : LsAt g2 g3 k x0 x5 l h.next g1.next ok' 0 (start l.length) := by
      refine ⟨⟨F, hb, zzp _, fun i hi => ?_⟩, hx1.fr F1.ok F2 (by simp), fun q hq => hlt1 q (Nat.lt_of_lt_of_le (hx.lt ok q hq) F01.le), F2.get F1.ok q1 (by simp), hlt1 _ hp, F2.ok, ?_, fun q hq => hlt1 q (tlt q hq)⟩
      · show 0 ≤ (idA l.length)[i]! ∧ (idA l.length)[i]! < (l.length : Int)
        rw [z06c hi]; omega
      · rcases tell with ⟨h1, h2, q, row, hf⟩ | h1
        · exact .inl ⟨h1, h2, q, row.fr F1.ok F2 (by simp), hf⟩
        · exact .inr h1
    exact z04s hr hu h5 Z (z058 _ h5) fun q hq hl => z05v h5 hq hl
end Wm
end
