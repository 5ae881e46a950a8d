/- What the functions come to, and the law: of my machine. -/
import Derived.Test.YthkimcdeejjmbaaWmOwnLinPointsB
import Derived.Test.YthkimcdeejjmbaaWmTxtLinPointsD
import Derived.Sort.LotD4
import Derived.Sort.LotB
import Derived.Sort.LotC
import Derived.Sort.LotD3
import Derived.Test.YthkimcdeejjmbaaWmOwnLinPointsA
import Derived.KernelRfl
import Derived.Test.YthkimcdeejjmbaaWmShal
import Derived.Test.YthkimcdeejjmbaaWmCore
import Derived.Test.YthkimcdeejjmbaaWmTxtLinPointsA
import Derived.Test.YthkimcdeejjmbaaWmEv
import Derived.Test.YthkimcdeejjmbaaWmProgLinPoints
import Derived.Test.YthkimcdeejjmbaaWmFast
import Derived.Test.YthkimcdeejjmbaaWmPOp0
import Derived.Test.YthkimcdeejjmbaaWmTxtLinPointsE
set_option linter.all false
noncomputable section
namespace Wm
attribute [local congr] zk
attribute [local irreducible] wr
open Go.Sort (swp choosePivot median medianAdjacent Hint)
section
variable {h0 h : H} {b N f : Nat} {cs : List V} {lt : Int → Int → Bool} {d : Array Int} {c : Cap}
def z0f0 : Hint → Int
  | .unknown => 0
  | .increasing => 1
  | .decreasing => 2
def zz9 (n : Nat) : Hint := if n = 0 then .increasing else if n = 12 then .decreasing else .unknown
theorem zzp (n : Nat) : (decide ((n : Int) = 0) = true ∧ zz9 n = .increasing) ∨ (decide ((n : Int) = 0) = false ∧ decide ((n : Int) = 12) = true ∧ zz9 n = .decreasing) ∨ (decide ((n : Int) = 0) = false ∧ decide ((n : Int) = 12) = false ∧ zz9 n = .unknown) := by
  unfold zz9
  by_cases h1 : n = 0
  · exact .inl ⟨decide_eq_true (by omega), by rw [if_pos h1]⟩
  · by_cases h2 : n = 12
    · exact .inr (.inl ⟨decide_eq_false (by omega), decide_eq_true (by omega), by rw [if_neg h1, if_pos h2]⟩)
    · exact .inr (.inr ⟨decide_eq_false (by omega), decide_eq_false (by omega), by rw [if_neg h1, if_neg h2]⟩)
theorem z0bp {a e N : Nat} (hae : a < e) (he : e ≤ N) (hN : N ≤ 1000) : wr .i64 ((e : Int) - (a : Int)) = ((e - a : Nat) : Int) ∧ wr .i64 (Int.tdiv ((e - a : Nat) : Int) 4) = (((e - a) / 4 : Nat) : Int) ∧
    (∀ k : Nat, k ≤ 3 → wr .i64 ((((e - a) / 4 : Nat) : Int) * (k : Int)) = (((e - a) / 4 * k : Nat) : Int) ∧ wr .i64 ((a : Int) + (((e - a) / 4 * k : Nat) : Int)) = ((a + (e - a) / 4 * k : Nat) : Int) ∧ a + (e - a) / 4 * k < e ∧ (50 ≤ e - a → 1 ≤ k → 1 ≤ a + (e - a) / 4 * k ∧ a + (e - a) / 4 * k + 1 < N)) := by
  refine ⟨z1q (Nat.le_of_lt hae) (by omega), ?_, fun k hk => ?_⟩
  · have e2 : Int.tdiv ((e - a : Nat) : Int) 4 = (((e - a) / 4 : Nat) : Int) := rfl
    rw [e2, wr64 (by omega) (by omega)]
  · generalize hl : e - a = l
    have h1 : l / 4 * k ≤ l / 4 * 3 := Nat.mul_le_mul_left _ hk
    have h2 : l / 4 * 3 < l := by omega
    have h4 : l / 4 * 1 ≤ l / 4 * k ∨ k = 0 := by
      cases k with
      | zero => exact .inr rfl
      | succ k => exact .inl (Nat.mul_le_mul_left _ (Nat.succ_le_succ (Nat.zero_le _)))
    generalize hm : l / 4 * k = m at *
    refine ⟨?_, z9o (by omega), by omega, fun h50 hk1 => ?_⟩
    · rw [← Int.natCast_mul, hm, wr64 (by omega) (by omega)]
    · rcases h4 with h4 | h4
      · omega
      · omega
theorem z018 (lt : Int → Int → Bool) (d : Array Int) {i s N : Nat} (h1 : 1 ≤ i) (h2 : i + 1 < N) : (medianAdjacent lt d i s).1 < N := by
  have h3 : i < N := Nat.lt_of_succ_lt h2
  rcases Go.Sort.medianAdjacent_mem lt d i s with q | q | q <;> rw [q]
  · exact Nat.lt_of_le_of_lt (Nat.sub_le _ _) h3
  · exact h3
  · exact h2
theorem choose_spec (A : Sw h0 b N h d) (K : Cmp h0 b N f cs lt) (hN : N ≤ 1000) {a e : Nat} (hae : a < e) (he : e ≤ N) :
    Ev (C 453 [.sl b 0 N c, .int .i64 (a : Int), .int .i64 (e : Int), .fn f cs] h) fun z => z.1 = .tup [.int .i64 ((choosePivot lt d a e).1 : Int), .int .i64 (z0f0 (choosePivot lt d a e).2)] ∧ Sw h0 b N z.2 d := by
  refine z0i (af := F.z00) (by kernel_rfl) rfl ?_
  rw [S.zjw]
  obtain ⟨w1, w2, ws⟩ := z0bp hae he hN
  obtain ⟨u1, v1, o1, p1⟩ := ws 1 (by decide)
  obtain ⟨u2, v2, o2, p2⟩ := ws 2 (by decide)
  obtain ⟨u3, v3, o3, p3⟩ := ws 3 (by decide)
  clear ws
  have hb : b < h.next := A.ok.lt A.at_
  have F0 : Fr [] h (h.new (.cells [.int .i64 0] .rw)) := (Fr.refl A.ok).new _
  have A0 := A.fr0 F0
  have T0 : Ct h0 b h.next 0 (h.new (.cells [.int .i64 0] .rw)) := ⟨zp _ _, A.fr.le, fun q => Nat.lt_irrefl _ (q ▸ hb)⟩
  have n1 := Nat.lt_of_lt_of_le o1 he
  have n2 := Nat.lt_of_lt_of_le o2 he
  have n3 := Nat.lt_of_lt_of_le o3 he
  have hc : choosePivot lt d a e = ((if e - a ≥ 8 then if e - a ≥ 50 then
        median lt d (medianAdjacent lt d (a + (e - a) / 4 * 1) 0).1 (medianAdjacent lt d (a + (e - a) / 4 * 2) (medianAdjacent lt d (a + (e - a) / 4 * 1) 0).2).1 (medianAdjacent lt d (a + (e - a) / 4 * 3) (medianAdjacent lt d (a + (e - a) / 4 * 2) (medianAdjacent lt d (a + (e - a) / 4 * 1) 0).2).2).1 (medianAdjacent lt d (a + (e - a) / 4 * 3) (medianAdjacent lt d (a + (e - a) / 4 * 2) (medianAdjacent lt d (a + (e - a) / 4 * 1) 0).2).2).2
      else median lt d (a + (e - a) / 4 * 1) (a + (e - a) / 4 * 2) (a + (e - a) / 4 * 3) 0 else (a + (e - a) / 4 * 2, 0) : Nat × Nat).1, zz9 (if e - a ≥ 8 then if e - a ≥ 50 then
        median lt d (medianAdjacent lt d (a + (e - a) / 4 * 1) 0).1 (medianAdjacent lt d (a + (e - a) / 4 * 2) (medianAdjacent lt d (a + (e - a) / 4 * 1) 0).2).1 (medianAdjacent lt d (a + (e - a) / 4 * 3) (medianAdjacent lt d (a + (e - a) / 4 * 2) (medianAdjacent lt d (a + (e - a) / 4 * 1) 0).2).2).1 (medianAdjacent lt d (a + (e - a) / 4 * 3) (medianAdjacent lt d (a + (e - a) / 4 * 2) (medianAdjacent lt d (a + (e - a) / 4 * 1) 0).2).2).2
      else median lt d (a + (e - a) / 4 * 1) (a + (e - a) / 4 * 2) (a + (e - a) / 4 * 3) 0 else (a + (e - a) / 4 * 2, 0) : Nat × Nat).2) := rfl
  rw [hc]
  clear hc
  obtain ⟨aI, hai⟩ : ∃ x : Int, x = (a : Int) := ⟨_, rfl⟩
  obtain ⟨eI, hei⟩ : ∃ x : Int, x = (e : Int) := ⟨_, rfl⟩
  obtain ⟨lI, hli⟩ : ∃ x : Int, x = ((e - a : Nat) : Int) := ⟨_, rfl⟩
  obtain ⟨qI, hqi⟩ : ∃ x : Int, x = (((e - a) / 4 : Nat) : Int) := ⟨_, rfl⟩
  rw [← hai, ← hei]
  rw [← hai, ← hei, ← hli] at w1
  rw [← hli, ← hqi] at w2
  rw [← hqi] at u1 u2 u3
  rw [← hai] at v1 v2 v3
  have u1' : wr .i64 (qI * 1) = _ := u1
  have u2' : wr .i64 (qI * 2) = _ := u2
  have u3' : wr .i64 (qI * 3) = _ := u3
  by_cases h8 : 8 ≤ e - a
  · have k8 : decide ((8 : Int) ≤ lI) = true := by rw [hli]; exact decide_eq_true (by exact_mod_cast h8)
    by_cases h50 : 50 ≤ e - a
    · have k50 : decide ((50 : Int) ≤ lI) = true := by rw [hli]; exact decide_eq_true (by exact_mod_cast h50)
      simp only [if_pos h8, if_pos h50, ge_iff_le]
      obtain ⟨p1a, p1b⟩ := p1 h50 (by decide)
      obtain ⟨p2a, p2b⟩ := p2 h50 (by decide)
      obtain ⟨p3a, p3b⟩ := p3 h50 (by decide)
      obtain ⟨⟨x1, g1⟩, e1, rfl, A1, T1⟩ := zgz (c := c) A0 K hN T0 (by decide) p1a p1b
      dsimp only at A1 T1
      have m1 := z018 lt d (s := 0) p1a p1b
      have z1 : (medianAdjacent lt d (a + (e - a) / 4 * 1) 0).2 ≤ 3 := Go.Sort.medianAdjacent_count lt d _ 0
      generalize medianAdjacent lt d (a + (e - a) / 4 * 1) 0 = r1 at e1 T1 m1 z1 ⊢
      obtain ⟨⟨x2, g2⟩, e2, rfl, A2, T2⟩ := zgz (c := c) A1 K hN T1 (Nat.le_trans z1 (by decide)) p2a p2b
      dsimp only at A2 T2
      have m2 := z018 lt d (s := r1.2) p2a p2b
      have z2 : (medianAdjacent lt d (a + (e - a) / 4 * 2) r1.2).2 ≤ 6 := Nat.le_trans (Go.Sort.medianAdjacent_count lt d _ _) (Nat.add_le_add_right z1 3)
      generalize medianAdjacent lt d (a + (e - a) / 4 * 2) r1.2 = r2 at e2 T2 m2 z2 ⊢
      obtain ⟨⟨x3, g3⟩, e3, rfl, A3, T3⟩ := zgz (c := c) A2 K hN T2 (Nat.le_trans z2 (by decide)) p3a p3b
      dsimp only at A3 T3
      have m3 := z018 lt d (s := r2.2) p3a p3b
      have z3 : (medianAdjacent lt d (a + (e - a) / 4 * 3) r2.2).2 ≤ 9 := Nat.le_trans (Go.Sort.medianAdjacent_count lt d _ _) (Nat.add_le_add_right z2 3)
      generalize medianAdjacent lt d (a + (e - a) / 4 * 3) r2.2 = r3 at e3 T3 m3 z3 ⊢
      obtain ⟨⟨x4, g4⟩, e4, rfl, A4, T4⟩ := zsl (c := c) A3 K T3 (Nat.le_trans z3 (by decide)) m1 m2 m3
      dsimp only at A4 T4
      have lq : ldB (g4.get h.next) 0 = some (.int .i64 ((median lt d r1.1 r2.1 r3.1 r3.2).2 : Int)) := by rw [T4.at_]; rfl
      generalize median lt d r1.1 r2.1 r3.1 r3.2 = m at e4 lq ⊢
      rcases zzp m.2 with ⟨c1, hh⟩ | ⟨c1, c2, hh⟩ | ⟨c1, c2, hh⟩
      · simp only [S.z00, w1, w2, u1', u2', u3', v1, v2, v3, k8, k50, zd, zh, e1, e2, e3, e4, zb, lq, ze, c1, hh]
        exact Ev.some ⟨rfl, A4⟩
      · simp only [S.z00, w1, w2, u1', u2', u3', v1, v2, v3, k8, k50, zd, zh, e1, e2, e3, e4, zb, lq, ze, c1, c2, hh]
        exact Ev.some ⟨rfl, A4⟩
      · simp only [S.z00, w1, w2, u1', u2', u3', v1, v2, v3, k8, k50, zd, zh, e1, e2, e3, e4, zb, lq, ze, c1, c2, hh]
        exact Ev.some ⟨rfl, A4⟩
    · have k50 : decide ((50 : Int) ≤ lI) = false := by rw [hli]; exact decide_eq_false (by exact_mod_cast h50)
      simp only [if_pos h8, if_neg h50, ge_iff_le]
      obtain ⟨⟨x1, g1⟩, e1, rfl, A1, T1⟩ := zsl (c := c) A0 K T0 (by decide) n1 n2 n3
      dsimp only at A1 T1
      have lq : ldB (g1.get h.next) 0 = some (.int .i64 ((median lt d (a + (e - a) / 4 * 1) (a + (e - a) / 4 * 2) (a + (e - a) / 4 * 3) 0).2 : Int)) := by rw [T1.at_]; rfl
      generalize median lt d (a + (e - a) / 4 * 1) (a + (e - a) / 4 * 2) (a + (e - a) / 4 * 3) 0 = m at e1 lq ⊢
      rcases zzp m.2 with ⟨c1, hh⟩ | ⟨c1, c2, hh⟩ | ⟨c1, c2, hh⟩
      · simp only [S.z00, w1, w2, u1', u2', u3', v1, v2, v3, k8, k50, zd, zh, e1, zb, lq, ze, c1, hh]
        exact Ev.some ⟨rfl, A1⟩
      · simp only [S.z00, w1, w2, u1', u2', u3', v1, v2, v3, k8, k50, zd, zh, e1, zb, lq, ze, c1, c2, hh]
        exact Ev.some ⟨rfl, A1⟩
      · simp only [S.z00, w1, w2, u1', u2', u3', v1, v2, v3, k8, k50, zd, zh, e1, zb, lq, ze, c1, c2, hh]
        exact Ev.some ⟨rfl, A1⟩
  · have k8 : decide ((8 : Int) ≤ lI) = false := by rw [hli]; exact decide_eq_false (by exact_mod_cast h8)
    simp only [if_neg h8, ge_iff_le]
    have lq : ldB ((h.new (.cells [.int .i64 0] .rw)).get h.next) 0 = some (.int .i64 0) := by rw [T0.at_]; rfl
    have c1 : decide ((0 : Int) = 0) = true := rfl
    simp only [S.z00, w1, w2, u2', v2, k8, zd, zb, lq, ze]
    exact Ev.some ⟨rfl, A0⟩
end
open Go.Sort (swp PermIn SortedIn Below SWO permIn_trans permIn_refl)
section
variable {h0 h : H} {b N f : Nat} {cs : List V} {lt : Int → Int → Bool} {d : Array Int} {c : Cap}
def PdqPost (h0 : H) (b N : Nat) (c : Cap) (f : Nat) (cs : List V) (lt : Int → Int → Bool) (a e : Nat) (d : Array Int) (z : AX × List V × H) : Prop :=
  (z.1 = .ret ∧ z.2.1 = S.z2l ∧ ∃ R, PermIn a e d R ∧ SortedIn lt a e R ∧ Sw h0 b N z.2.2 R) ∨
  (∃ (a' e' : Nat) (L : Int) (wb wp : Bool) (d' : Array Int), z.1 = .normal ∧ z.2.1 = S.z1l (.sl b 0 N c) (.int .i64 (a' : Int)) (.int .i64 (e' : Int)) (.int .i64 L) (.fn f cs) (.bool wb) (.bool wp) ∧
    (a ≤ a' ∧ a' ≤ e' ∧ e' ≤ e) ∧ e' - a' < e - a ∧ Sw h0 b N z.2.2 d' ∧ Below lt a' e' d' ∧ ∀ R, PermIn a' e' d' R → SortedIn lt a' e' R → PermIn a e d R ∧ SortedIn lt a e R)
theorem PdqPost.perm {a e : Nat} {d d1 : Array Int} (hp : PermIn a e d d1) {z : AX × List V × H} (q : PdqPost h0 b N c f cs lt a e d1 z) : PdqPost h0 b N c f cs lt a e d z := by
  rcases q with ⟨q1, q2, R, q3, q4, q5⟩ | ⟨a', e', L, wb, wp, d', q1, q2, q3, q4, q5, q6, q7⟩
  · exact .inl ⟨q1, q2, R, permIn_trans _ _ _ _ _ hp q3, q4, q5⟩
  · exact .inr ⟨a', e', L, wb, wp, d', q1, q2, q3, q4, q5, q6, fun R r1 r2 => ⟨permIn_trans _ _ _ _ _ hp (q7 R r1 r2).1, (q7 R r1 r2).2⟩⟩
def zzl (h0 : H) (b N : Nat) (c : Cap) (f : Nat) (cs : List V) (lt : Int → Int → Bool) (n : Nat) : Prop :=
  ∀ (a e : Nat) (L : Int) (d : Array Int) (h : H), e - a < n → a ≤ e → e ≤ N → Sw h0 b N h d → Below lt a e d →
    Ev (C 405 [.sl b 0 N c, .int .i64 (a : Int), .int .i64 (e : Int), .int .i64 L, .fn f cs] h) fun z => ∃ R, z.1 = .tup [] ∧ PermIn a e d R ∧ SortedIn lt a e R ∧ Sw h0 b N z.2 R
theorem z05h (A : Sw h0 b N h d) (K : Cmp h0 b N f cs lt) (hlt : SWO lt) (hN : N ≤ 64) {a e pv n : Nat} {L x12 : Int} {y10 y11 : V} (hn : e - a ≤ n) (ih : zzl h0 b N c f cs lt n) (hp1 : a ≤ pv) (hp2 : pv < e) (he : e ≤ N) (hB : Below lt a e d) :
    Ev (S.z5m W (.sl b 0 N c) (a : Int) (e : Int) L (.fn f cs) y10 y11 x12 (pv : Int) h) (PdqPost h0 b N c f cs lt a e d) := by
  have n9 : N ≤ 9000 := Nat.le_trans hN (by decide)
  have hae : a < e := Nat.lt_of_le_of_lt hp1 hp2
  obtain ⟨⟨v, g⟩, e1, rfl, A1⟩ := z011 (c := c) A K (Nat.le_trans hN (by decide)) hae he (Nat.lt_of_lt_of_le hp2 he)
  dsimp only at A1
  obtain ⟨q1, q2, q3, q4, q5, q6, q7⟩ := Go.Sort.round_part (mid := (Go.Sort.partition lt d a e pv).1) (ap := (Go.Sort.partition lt d a e pv).2.1) (d4 := (Go.Sort.partition lt d a e pv).2.2) hlt (Go.Sort.partition_holds lt) hp1 hp2 (by rw [A.sz]; exact he) hB rfl
  generalize Go.Sort.partition lt d a e pv = P at *
  obtain ⟨mid, ap, d4⟩ := P
  dsimp only at *
  have hme : mid ≤ 9000 := Nat.le_trans (Nat.le_of_lt q2) (Nat.le_trans he n9)
  have w1 := z1q (i := mid) (j := a) q1 hme
  have w2 := z1q (i := e) (j := mid) (Nat.le_of_lt q2) (Nat.le_trans he n9)
  have w3 := z1o (i := mid) hme
  have z1 : mid - a < e - a := by clear w1 w2 w3; omega
  have z2 : e - (mid + 1) < e - a := by clear w1 w2 w3; omega
  by_cases hc : mid - a < e - mid
  · obtain ⟨⟨v2, g2⟩, e2, R1, rfl, r1, r2, A2⟩ := ih a mid L d4 g (Nat.lt_of_lt_of_le z1 hn) q1 (Nat.le_trans (Nat.le_of_lt q2) he) A1 q4
    dsimp only at A2
    obtain ⟨u1, u2⟩ := q6 R1 r1 r2
    obtain ⟨mI, hmI⟩ : ∃ x : Int, x = (mid : Int) := ⟨_, rfl⟩
    obtain ⟨aI, haI⟩ : ∃ x : Int, x = (a : Int) := ⟨_, rfl⟩
    obtain ⟨eI, heI⟩ : ∃ x : Int, x = (e : Int) := ⟨_, rfl⟩
    rw [← hmI] at e1 e2 w1 w2 w3; rw [← haI] at e1 e2 w1 ⊢; rw [← heI] at e1 w2 ⊢
    simp only [S.z5m, zh, e1, zd, List.getElem?_cons_zero, List.getElem?_cons_succ, ze, w1, w2, z1y hc, e2, w3]
    subst hmI haI heI
    exact Ev.some (.inr ⟨mid + 1, e, L, _, ap, R1, rfl, rfl, ⟨Nat.le_succ_of_le q1, q2, Nat.le_refl _⟩, z2, A2, u1, u2⟩)
  · obtain ⟨⟨v2, g2⟩, e2, R1, rfl, r1, r2, A2⟩ := ih (mid + 1) e L d4 g (Nat.lt_of_lt_of_le z2 hn) q2 he A1 q5
    dsimp only at A2
    obtain ⟨u1, u2⟩ := q7 R1 r1 r2
    obtain ⟨mI, hmI⟩ : ∃ x : Int, x = (mid : Int) := ⟨_, rfl⟩
    obtain ⟨aI, haI⟩ : ∃ x : Int, x = (a : Int) := ⟨_, rfl⟩
    obtain ⟨eI, heI⟩ : ∃ x : Int, x = (e : Int) := ⟨_, rfl⟩
    rw [← hmI] at e1 w1 w2 w3; rw [← haI] at e1 w1 ⊢; rw [← heI] at e1 e2 w2 ⊢
    simp only [S.z5m, zh, e1, zd, List.getElem?_cons_zero, List.getElem?_cons_succ, ze, w1, w2, z2n hc, w3, e2]
    subst hmI haI heI
    exact Ev.some (.inr ⟨a, mid, L, _, ap, R1, rfl, rfl, ⟨Nat.le_refl _, q1, Nat.le_of_lt q2⟩, z1, A2, u1, u2⟩)
theorem z027 (A : Sw h0 b N h d) (K : Cmp h0 b N f cs lt) (hlt : SWO lt) (hN : N ≤ 64) {a e pv n : Nat} {L x12 : Int} {wb wp : Bool} (hn : e - a ≤ n) (ih : zzl h0 b N c f cs lt n) (hp1 : a ≤ pv) (hp2 : pv < e) (he : e ≤ N) (hB : Below lt a e d) :
    Ev (S.z97 W (.sl b 0 N c) (a : Int) (e : Int) L (.fn f cs) wb wp x12 (pv : Int) h) (PdqPost h0 b N c f cs lt a e d) := by
  have n9 : N ≤ 9000 := Nat.le_trans hN (by decide)
  have hae : a < e := Nat.lt_of_le_of_lt hp1 hp2
  have hpN := Nat.lt_of_lt_of_le hp2 he
  simp only [S.z97]
  rw [S.zk5]
  cases a with
  | zero =>
    have k0 : decide ((0 : Int) < ((0 : Nat) : Int)) = false := rfl
    simp only [S.z5l, k0, zd]
    show Ev (S.z2v W .normal _ _) _
    rw [S.zc1]
    exact z05h A K hlt hN hn ih hp1 hp2 he hB
  | succ m =>
    have hm : m < N := Nat.lt_of_succ_lt (Nat.lt_of_lt_of_le hae he)
    have k0 : decide ((0 : Int) < ((m + 1 : Nat) : Int)) = true := decide_eq_true (by omega)
    have w1 := z2x (i := m) (Nat.le_trans (Nat.le_trans (Nat.le_of_lt hae) he) n9)
    have i1 := zu (b := b) (c := c) hm
    have i2 := zu (b := b) (c := c) hpN
    have l1 := A.ld hm
    have l2 := A.ld hpN
    obtain ⟨x, g1, ec, hx, A1, _⟩ := A.cmp K hm hpN
    cases hl : lt d[m]! d[pv]! with
    | true =>
      simp only [S.z5l, k0, w1, i1, i2, zd, zb, l1, l2, ec, ze, hx, hl, Bool.not_true]
      show Ev (S.z2v W .normal _ _) _
      rw [S.zc1]
      exact z05h A1 K hlt hN hn ih hp1 hp2 he hB
    | false =>
      obtain ⟨⟨v, g⟩, e1, rfl, A2⟩ := zvv (c := c) A1 K (Nat.le_trans hN (by decide)) hae he hpN
      dsimp only at A2
      obtain ⟨q1, q2, q3, q4, q5⟩ := Go.Sort.round_eq (mid := (Go.Sort.partitionEqual lt d (m + 1) e pv).1) (d4 := (Go.Sort.partitionEqual lt d (m + 1) e pv).2) hlt (Go.Sort.partitionEqual_holds lt) (Nat.succ_pos m) hp1 hp2 (by rw [A.sz]; exact he) hB hl rfl
      generalize Go.Sort.partitionEqual lt d (m + 1) e pv = P at *
      obtain ⟨mid, d4⟩ := P
      dsimp only at *
      simp only [S.z5l, k0, w1, i1, i2, zd, zb, l1, l2, ec, ze, hx, hl, Bool.not_false, zh, e1]
      show Ev (S.z2v W (.exit 1) _ _) _
      rw [S.zhy]
      simp only [S.zcs]
      exact Ev.some (.inr ⟨mid, e, L, wb, wp, d4, rfl, rfl, ⟨Nat.le_of_lt q1, q2, Nat.le_refl _⟩, Nat.sub_lt_sub_left hae q1, A2, q4, q5⟩)
theorem z01w (A : Sw h0 b N h d) (K : Cmp h0 b N f cs lt) (hlt : SWO lt) (hN : N ≤ 64) {a e pv n : Nat} {L x12 x14 : Int} {wb wp : Bool} (hn : e - a ≤ n) (ih : zzl h0 b N c f cs lt n) (hp1 : a ≤ pv) (hp2 : pv < e) (he : e ≤ N) (hB : Below lt a e d) :
    Ev (S.z90 W (.sl b 0 N c) (a : Int) (e : Int) L (.fn f cs) wb wp x12 (pv : Int) x14 h) (PdqPost h0 b N c f cs lt a e d) := by
  have hae : a < e := Nat.lt_of_le_of_lt hp1 hp2
  have hb : e ≤ d.size := by rw [A.sz]; exact he
  simp only [S.z90]
  rw [S.zkr]
  simp only [S.zdv]
  rw [S.zkn]
  have key : ∀ t : Bool, Ev ((S.zac W .normal (S.z40 (.sl b 0 N c) (.int .i64 (a : Int)) (.int .i64 (e : Int)) (.int .i64 L) (.fn f cs) (.bool wb) (.bool wp) (.int .i64 x12) (.int .i64 (pv : Int)) (.bool t)) h).bind fun p0 => S.z1u W p0.1 p0.2.1 p0.2.2) (PdqPost h0 b N c f cs lt a e d) := by
    intro t
    rw [S.zje]
    cases t with
    | false =>
      simp only [S.z5y, zd]
      show Ev (S.z1u W .normal _ _) _
      rw [S.zce]
      exact z027 A K hlt hN hn ih hp1 hp2 he hB
    | true =>
      obtain ⟨⟨v, g⟩, e1, rfl, A1⟩ := zte (c := c) A K (Nat.le_trans hN (by decide)) hae he
      dsimp only at A1
      obtain ⟨q1, q2⟩ := Go.Sort.partialInsertionSort_holds hlt d a e hae hb hB
      generalize Go.Sort.partialInsertionSort lt d a e = P at *
      obtain ⟨d1, t1⟩ := P
      dsimp only at *
      cases t1 with
      | false =>
        simp only [S.z5y, zh, e1, zd, z04]
        show Ev (S.z1u W .normal _ _) _
        rw [S.zce]
        exact (z027 A1 K hlt hN hn ih hp1 hp2 he (hB.perm hb q1)).mono fun _ z => z.perm q1
      | true =>
        simp only [S.z5y, zh, e1, zd, z04]
        show Ev (S.z1u W .ret _ _) _
        rw [S.zju]
        simp only [S.zdu]
        exact Ev.some (.inl ⟨rfl, rfl, d1, q1, q2 rfl, A1⟩)
  cases wb with
  | false =>
    simp only [S.z5x, zd]
    exact key _
  | true =>
    cases wp with
    | false =>
      simp only [S.z5x, zd]
      exact key _
    | true =>
      simp only [S.z5x, zd]
      exact key _
theorem z093 (A : Sw h0 b N h d) (K : Cmp h0 b N f cs lt) (hlt : SWO lt) (hN : N ≤ 64) {a e n : Nat} {L : Int} {wb wp : Bool} (hn : e - a ≤ n) (ih : zzl h0 b N c f cs lt n) (hae : a ≤ e) (he : e ≤ N) (hB : Below lt a e d) :
    Ev (S.z3z W (.sl b 0 N c) (a : Int) (e : Int) L (.fn f cs) wb wp h) (PdqPost h0 b N c f cs lt a e d) := by
  have n9 : N ≤ 9000 := Nat.le_trans hN (by decide)
  have hN' : N ≤ 1000 := Nat.le_trans hN (by decide)
  have hb : e ≤ d.size := by rw [A.sz]; exact he
  have w1 := z1q (i := e) (j := a) hae (Nat.le_trans he n9)
  by_cases h12 : e - a ≤ 12
  · obtain ⟨⟨v, g⟩, e1, rfl, A1⟩ := zou (c := c) A K hN' he (Nat.le_trans hae he)
    dsimp only at A1
    obtain ⟨q1, q2⟩ := Go.Sort.insertionSort_holds hlt d a e hae hb
    have k0 : decide (((e - a : Nat) : Int) ≤ 12) = true := decide_eq_true (by clear w1 e1; omega)
    obtain ⟨aI, haI⟩ : ∃ x : Int, x = (a : Int) := ⟨_, rfl⟩
    obtain ⟨eI, heI⟩ : ∃ x : Int, x = (e : Int) := ⟨_, rfl⟩
    rw [← haI] at e1 w1 ⊢; rw [← heI] at e1 w1 ⊢
    simp only [S.z3z, w1, k0, zh, e1, zd]
    exact Ev.some (.inl ⟨rfl, rfl, _, q1, q2, A1⟩)
  have k0 : decide (((e - a : Nat) : Int) ≤ 12) = false := decide_eq_false (by clear w1; omega)
  have hlt' : a < e := by clear w1 k0; omega
  by_cases hL : L = 0
  · obtain ⟨⟨v, g⟩, e1, rfl, A1⟩ := z09e (c := c) A K hN' hae he
    dsimp only at A1
    obtain ⟨q1, q2⟩ := Go.Sort.heapSort_holds hlt d a e hae hb
    have kL : decide (L = 0) = true := decide_eq_true hL
    obtain ⟨aI, haI⟩ : ∃ x : Int, x = (a : Int) := ⟨_, rfl⟩
    obtain ⟨eI, heI⟩ : ∃ x : Int, x = (e : Int) := ⟨_, rfl⟩
    rw [← haI] at e1 w1 ⊢; rw [← heI] at e1 w1 ⊢
    simp only [S.z3z, w1, k0, kL, zh, e1, zd]
    exact Ev.some (.inl ⟨rfl, rfl, _, q1, q2, A1⟩)
  have kL : decide (L = 0) = false := decide_eq_false hL
  have rev : ∀ (d1 : Array Int) (L x12 : Int) (h1 : H) (pv : Nat) (x14 : Int), PermIn a e d d1 → Sw h0 b N h1 d1 → a ≤ pv → pv < e →
      Ev ((S.z98 W (S.z9b (.sl b 0 N c) (.int .i64 (a : Int)) (.int .i64 (e : Int)) (.int .i64 L) (.fn f cs) (.bool wb) (.bool wp) (.int .i64 x12) (.int .i64 (pv : Int)) (.int .i64 x14)) h1).bind fun p5 => S.z4r W p5.1 p5.2.1 p5.2.2) (PdqPost h0 b N c f cs lt a e d) := by
    intro d1 L x12 h1 pv x14 hp A hp1 hp2
    have B1 := hB.perm hb hp
    have hb1 : e ≤ d1.size := by rw [A.sz]; exact he
    rw [S.zkt]
    by_cases h2 : x14 = 2
    · obtain ⟨⟨v, g⟩, e1, rfl, A1⟩ := z04h (c := c) A hN' hlt' he (.fn f cs)
      dsimp only at A1
      have q1 := Go.Sort.reverseRange_holds d1 a e hae hb1
      have k2 : decide (x14 = 2) = true := decide_eq_true h2
      obtain ⟨m, hm⟩ : ∃ m, e = m + 1 := ⟨e - 1, by clear w1 k0; omega⟩
      have w2 : wr .i64 ((e : Int) - 1) = ((e - 1 : Nat) : Int) := by rw [hm]; exact z2x (i := m) (hm ▸ Nat.le_trans he n9)
      have w3 := z1q (i := pv) (j := a) hp1 (Nat.le_trans (Nat.le_of_lt hp2) (Nat.le_trans he n9))
      have z1 : pv - a ≤ e - 1 := by clear w1 k0 w2 w3; omega
      have w4 := z1q (i := e - 1) (j := pv - a) z1 (by clear w1 k0 w2 w3; omega)
      simp only [S.z8w, k2, zh, e1, zd, w2, w3, w4]
      show Ev (S.z4r W .normal _ _) _
      rw [S.zca]
      exact (z01w A1 K hlt hN hn ih (by clear w1 k0 w2 w3 w4; omega) (by clear w1 k0 w2 w3 w4; omega) he (B1.perm hb1 q1)).mono fun _ z => (z.perm q1).perm hp
    · have k2 : decide (x14 = 2) = false := decide_eq_false h2
      simp only [S.z8w, k2, zd]
      show Ev (S.z4r W .normal _ _) _
      rw [S.zca]
      exact (z01w A K hlt hN hn ih hp1 hp2 he B1).mono fun _ z => z.perm hp
  have cho : ∀ (d1 : Array Int) (L x12 : Int) (h1 : H), PermIn a e d d1 → Sw h0 b N h1 d1 →
      Ev (S.z95 W (.sl b 0 N c) (a : Int) (e : Int) L (.fn f cs) wb wp x12 h1) (PdqPost h0 b N c f cs lt a e d) := by
    intro d1 L x12 h1 hp A
    obtain ⟨⟨v, g⟩, e1, rfl, A1⟩ := choose_spec (c := c) A K hN' hlt' he
    dsimp only at A1
    obtain ⟨q1, q2⟩ := Go.Sort.choosePivot_holds lt d1 a e hlt'
    simp only [S.z95, zh, e1, zd, List.getElem?_cons_zero, List.getElem?_cons_succ]
    exact rev _ _ _ _ _ _ hp A1 q1 q2
  have fst : Ev ((S.z91 W (S.z8x (.sl b 0 N c) (.int .i64 (a : Int)) (.int .i64 (e : Int)) (.int .i64 L) (.fn f cs) (.bool wb) (.bool wp) (.int .i64 ((e - a : Nat) : Int))) h).bind fun p0 => S.z4q W p0.1 p0.2.1 p0.2.2) (PdqPost h0 b N c f cs lt a e d) := by
    rw [S.zkl]
    cases wb with
    | true =>
      simp only [S.z92, Bool.not_true, zd]
      show Ev (S.z4q W .normal _ _) _
      rw [S.zcd]
      exact cho _ _ _ _ (permIn_refl _ _ _) A
    | false =>
      obtain ⟨⟨v, g⟩, e1, d1, rfl, q1, A1⟩ := z07t (c := c) A hN hae he (.fn f cs)
      dsimp only at A1
      simp only [S.z92, Bool.not_false, zh, e1, zd]
      show Ev (S.z4q W .normal _ _) _
      rw [S.zcd]
      exact cho _ _ _ _ q1 A1
  clear rev cho
  obtain ⟨aI, haI⟩ : ∃ x : Int, x = (a : Int) := ⟨_, rfl⟩
  obtain ⟨eI, heI⟩ : ∃ x : Int, x = (e : Int) := ⟨_, rfl⟩
  rw [← haI] at fst w1 ⊢; rw [← heI] at fst w1 ⊢
  simp only [S.z3z, w1, k0, kL]
  exact fst
theorem z06q (K : Cmp h0 b N f cs lt) (hlt : SWO lt) (hN : N ≤ 64) : ∀ n, zzl h0 b N c f cs lt n
  | 0 => fun a e L d h hn => absurd hn (Nat.not_lt_zero _)
  | n + 1 => by
    intro a e L d h hn hae he A hB
    have ih := z06q K hlt hN n
    refine z0i (af := F.zr) (by kernel_rfl) rfl ?_
    rw [S.znz]
    simp only [S.zr]
    refine z0j (α := Nat × Nat × Int × Bool × Bool × Array Int) (fun q => S.z1l (.sl b 0 N c) (.int .i64 (q.1 : Int)) (.int .i64 (q.2.1 : Int)) (.int .i64 q.2.2.1) (.fn f cs) (.bool q.2.2.2.1) (.bool q.2.2.2.2.1))
      (fun q h => q.2.1 - q.1 ≤ n ∧ (q.1 ≤ q.2.1 ∧ q.2.1 ≤ e) ∧ Sw h0 b N h q.2.2.2.2.2 ∧ Below lt q.1 q.2.1 q.2.2.2.2.2 ∧ ∀ R, PermIn q.1 q.2.1 q.2.2.2.2.2 R → SortedIn lt q.1 q.2.1 R → PermIn a e d R ∧ SortedIn lt a e R) (fun q _ => q.2.1 - q.1)
      (fun z => z.1 = .ret ∧ z.2.1 = S.z2l ∧ ∃ R, PermIn a e d R ∧ SortedIn lt a e R ∧ Sw h0 b N z.2.2 R) (a, e, L, true, true, d) rfl ⟨Nat.le_of_lt_succ hn, ⟨hae, Nat.le_refl _⟩, A, hB, fun R r1 r2 => ⟨r1, r2⟩⟩ ?_ ?_
    rotate_left
    · rintro ⟨_, _, g⟩ ⟨rfl, rfl, R, r1, r2, A⟩
      show Ev (S.zab W .ret _ _) _
      rw [S.zjh]
      exact Ev.some ⟨R, rfl, r1, r2, A⟩
    clear A hB hn
    rintro ⟨i, j, L, wb, wp, d1⟩ g ⟨hn, ⟨hij, hj⟩, A, hB, hf⟩
    dsimp only at hn hij hj A hB hf
    rw [S.zkk]
    refine (z093 A K hlt hN hn ih hij (Nat.le_trans hj he) hB).mono ?_
    rintro ⟨x, y, g1⟩ (⟨rfl, rfl, R, r1, r2, A1⟩ | ⟨a', e', L', wb', wp', d', rfl, rfl, ⟨m1, m2, m3⟩, m4, A1, B1, hf1⟩)
    · exact .inr ⟨by simp, rfl, rfl, R, (hf R r1 r2).1, (hf R r1 r2).2, A1⟩
    · exact .inl ⟨(a', e', L', wb', wp', d'), rfl, rfl, ⟨Nat.le_trans (Nat.le_of_lt m4) hn, ⟨m2, Nat.le_trans m3 hj⟩, A1, B1, fun R r1 r2 => hf R (hf1 R r1 r2).1 (hf1 R r1 r2).2⟩, m4⟩
end
def AtO (l : List Evt) (o : List Int) (a : Nat) (y : Evt) : Prop := ∃ i : Nat, o[a]? = some (i : Int) ∧ l[i]? = some y
def GoodAt (l : List Evt) (o : List Int) (b : Nat) : Prop := ∃ (i : Nat) (x : Evt), o[b]? = some (i : Int) ∧ l[i]? = some x ∧ (∀ a, a < b → o[a]? ≠ some (i : Int)) ∧ ∀ a y, a < b → AtO l o a y → ¬ x.ended < y.begun
def GoodO (l : List Evt) (o : List Int) (k : Nat) : Prop := ∀ b, b < k → GoodAt l o b
def Resp (l : List Evt) (o : List Int) : Prop := o.length = l.length ∧ GoodO l o l.length
theorem GoodO.succ {l : List Evt} {o : List Int} {k : Nat} (h : GoodO l o k) (g : GoodAt l o k) : GoodO l o (k + 1) := fun b hb => by
  rcases Nat.lt_succ_iff_lt_or_eq.mp hb with h1 | h1
  · exact h b h1
  · exact h1 ▸ g
theorem z0d5 {l : List Evt} {o : List Int} {k : Nat} (hk : k < l.length) (h : ¬ GoodAt l o k) : ¬ Resp l o := fun r => h (r.2 k hk)
theorem GoodAt.of {l : List Evt} {o : List Int} {k i : Nat} (hi : o[k]? = some (i : Int)) (g : GoodAt l o k) : ∃ x, l[i]? = some x ∧ (∀ a, a < k → o[a]? ≠ some (i : Int)) ∧ ∀ a y, a < k → AtO l o a y → ¬ x.ended < y.begun := by
  obtain ⟨j, x, h1, h2, h3, h4⟩ := g
  rw [hi] at h1
  have : i = j := Int.ofNat.inj (Option.some.inj h1)
  subst this
  exact ⟨x, h2, h3, h4⟩
theorem GoodAt.pos {l : List Evt} {o : List Int} {k : Nat} {n : Int} (hi : o[k]? = some n) (g : GoodAt l o k) : 0 ≤ n ∧ n < l.length := by
  obtain ⟨j, x, h1, h2, _⟩ := g
  rw [hi] at h1
  have e : n = (j : Int) := Option.some.inj h1
  have := z01 h2
  omega
structure Met (n : Nat) (o : List Int) (k : Nat) (ms : List Bool) : Prop where
  len : ms.length = n
  met : ∀ i, i < n → (ms[i]? = some true ↔ ∃ a, a < k ∧ o[a]? = some (i : Int))
theorem Met.zero (n : Nat) (o : List Int) : Met n o 0 (List.replicate n false) :=
  ⟨List.length_replicate, fun i hi => by
    rw [List.getElem?_replicate, if_pos hi]
    constructor
    · intro h; simp at h
    · rintro ⟨a, h, _⟩; omega⟩
theorem Met.step {n : Nat} {o : List Int} {k i : Nat} {ms : List Bool} (M : Met n o k ms) (hi : i < n) (ho : o[k]? = some (i : Int)) : Met n o (k + 1) (ms.set i true) := by
  refine ⟨by rw [List.length_set]; exact M.len, fun j hj => ?_⟩
  by_cases h : i = j
  · subst h
    rw [List.getElem?_set_self (by rw [M.len]; exact hj)]
    exact ⟨fun _ => ⟨k, Nat.lt_succ_self k, ho⟩, fun _ => rfl⟩
  · rw [List.getElem?_set_ne h, M.met j hj]
    constructor
    · rintro ⟨a, h1, h2⟩; exact ⟨a, Nat.lt_succ_of_lt h1, h2⟩
    · rintro ⟨a, h1, h2⟩
      rcases Nat.lt_succ_iff_lt_or_eq.mp h1 with h3 | h3
      · exact ⟨a, h3, h2⟩
      · subst h3
        rw [ho] at h2
        exact absurd (Int.ofNat.inj (Option.some.inj h2)) h
theorem z03z {ms : List Bool} {p : Nat} (hp : p < ms.length) {v : Bool} : (zcg ms).take p ++ [V.bool v] ++ (zcg ms).drop (p + 1) = zcg (ms.set p v) := by
  rw [← z09x, List.set_eq_take_append_cons_drop, if_pos (by rw [z02p]; exact hp), List.append_assoc]; rfl
structure RespAt (h g : H) (mb : Nat) (ms : List Bool) : Prop where
  fr : Fr [] h g
  nb : h.next ≤ mb
  met : g.get mb = some (.cells (zcg ms) .rw)
theorem RespAt.set {h g : H} {mb : Nat} {ms : List Bool} (Z : RespAt h g mb ms) {i : Nat} (hi : i < ms.length) {cs : List V} (hcs : cs = (zcg ms).take i ++ [V.bool true] ++ (zcg ms).drop (i + 1)) : RespAt h (g.put mb (some (.cells cs .rw))) mb (ms.set i true) :=
  ⟨Z.fr.put (.inr Z.nb) (Z.fr.ok.lt Z.met) _, Z.nb, by rw [z0a, hcs, z03z hi]⟩
theorem rs_k {k : Nat} (h : k < 60) : wr .i64 ((k : Int) + 1) = ((k + 1 : Nat) : Int) := by rw [wr64 (by omega) (by omega)]; rfl
theorem z0f9 {a b : Nat} : decide ((a : Int) = (b : Int)) = decide (a = b) := by congr 1; apply propext; omega
theorem z07k {h : H} (ok : h.ok) {x0 : V} {l : List Evt} (hx : RowE h.get x0 l) {x1 : V} {o : List Int} (ho : RowN .i64 h.get x1 o) (hl : l.length ≤ 60) {mb : Nat} {ms : List Bool} {g : H} (Z : RespAt h g mb ms) {k : Nat} (hk : k < l.length)
    (G : GoodO l o k) {i : Nat} {x : Evt} (hxi : l[i]? = some x) (x5 : V) (K : AX × List V × H → Option (AX × List V × H)) (R : AX × List V × H → Prop)
    (hbad : (∃ a y, a < k ∧ AtO l o a y ∧ x.ended < y.begun) → Ev (K (.ret, S.z2m x0 x1 (.bool false) x5 (.int .i64 (k : Nat)), g)) R)
    (hgood : (∀ a y, a < k → AtO l o a y → ¬ x.ended < y.begun) → Ev (K (.exit 2, S.z2m x0 x1 .dead x5 (.int .i64 (k : Nat)), g)) R) :
    Ev ((W.loop (S.zd3 W) (S.z76 x0 x1 x5 (.int .i64 (k : Nat)) (.int .i64 (i : Nat)) (.int .i64 0)) g).bind K) R := by
  refine z0j (α := Nat) (fun y => S.z76 x0 x1 x5 (.int .i64 (k : Nat)) (.int .i64 (i : Nat)) (.int .i64 (y : Nat)))
    (fun y g' => y ≤ k ∧ g' = g ∧ ∀ a z, a < y → AtO l o a z → ¬ x.ended < z.begun) (fun y _ => k - y)
    (fun r => r.2.2 = g ∧ ((r.1 = .ret ∧ r.2.1 = S.z2m x0 x1 (.bool false) x5 (.int .i64 (k : Nat)) ∧ ∃ a y, a < k ∧ AtO l o a y ∧ x.ended < y.begun) ∨ (r.1 = .exit 2 ∧ r.2.1 = S.z2m x0 x1 .dead x5 (.int .i64 (k : Nat)) ∧ ∀ a y, a < k → AtO l o a y → ¬ x.ended < y.begun)))
    0 rfl ⟨Nat.zero_le _, rfl, fun a z ha => absurd ha (Nat.not_lt_zero a)⟩ ?_ ?_
  rotate_left
  · rintro ⟨_, _, g'⟩ ⟨rfl, (⟨rfl, rfl, hb⟩ | ⟨rfl, rfl, hb⟩)⟩
    · exact hbad hb
    · exact hgood hb
  rintro j g' ⟨hj, rfl, hN⟩
  rw [S.zqh]
  by_cases hjk : j < k
  · have hd : decide ((j : Int) < (k : Int)) = true := decide_eq_true (by omega)
    obtain ⟨i2, y, hq, hyi, _⟩ := G j hjk
    obtain ⟨ob, hix, hld⟩ := (ho.fr ok Z.fr (by simp)).at hq
    obtain ⟨eb, e1, e2, _⟩ := (hx.fr ok Z.fr (by simp)).at hxi
    obtain ⟨fb, f1, f2, _⟩ := (hx.fr ok Z.fr (by simp)).at hyi
    have wj := rs_k (Nat.lt_trans hjk (Nat.lt_of_lt_of_le hk hl))
    have ha := fun h => z039 x y h
    have aty : AtO l o j y := ⟨i2, hq, hyi⟩
    by_cases hlt : x.ended < y.begun
    · have d2 : decide (x.ended < y.begun) = true := decide_eq_true hlt
      simp only [S.za0, Option.bind_some, z14, Nat.reduceAdd, z04, zh, hd, hix, hld, e1, e2, f1, f2, ha, d2]
      exact Ev.some (.inr ⟨by simp, rfl, .inl ⟨rfl, rfl, j, y, hjk, aty, hlt⟩⟩)
    · have d2 : decide (x.ended < y.begun) = false := decide_eq_false hlt
      simp only [S.za0, Option.bind_some, z14, Nat.reduceAdd, z04, zh, hd, hix, hld, e1, e2, f1, f2, ha, d2, wj]
      refine Ev.some (.inl ⟨j + 1, rfl, rfl, ⟨hjk, rfl, fun a z ha hz => ?_⟩, Nat.sub_lt_sub_left hjk (Nat.lt_succ_self j)⟩)
      rcases Nat.lt_succ_iff_lt_or_eq.mp ha with h1 | h1
      · exact hN a z h1 hz
      · subst h1
        obtain ⟨j2, hj1, hj2⟩ := hz
        rw [hq] at hj1
        have : i2 = j2 := Int.ofNat.inj (Option.some.inj hj1)
        subst this
        rw [hyi] at hj2; cases hj2; exact hlt
  · have he : j = k := Nat.le_antisymm hj (Nat.le_of_not_lt hjk)
    subst he
    have hd : decide ((j : Int) < (j : Int)) = false := decide_eq_false (Int.lt_irrefl _)
    simp only [S.za0, hd]
    exact Ev.some (.inr ⟨by simp, rfl, .inr ⟨rfl, rfl, hN⟩⟩)
theorem z04x {h : H} (ok : h.ok) {x0 : V} {l : List Evt} (hx : RowE h.get x0 l) {x1 : V} {o : List Int} (ho : RowN .i64 h.get x1 o) (hlen : o.length = l.length) (hl : l.length ≤ 60) {mb : Nat} {ms : List Bool} {g : H} (Z : RespAt h g mb ms) {k : Nat} (hk : k < l.length)
    (G : GoodO l o k) (M : Met l.length o k ms) :
    Ev (S.z3b W x0 x1 (.sl mb 0 l.length (.ex l.length)) (k : Nat) g) fun r =>
      (r.1 = .ret ∧ r.2.1 = S.z0k (.bool false) ∧ Fr [] h r.2.2 ∧ ¬ Resp l o) ∨
      ∃ ms', r.1 = .normal ∧ r.2.1 = S.z4w x0 x1 (.sl mb 0 l.length (.ex l.length)) (.int .i64 (k + 1 : Nat)) ∧ RespAt h r.2.2 mb ms' ∧ GoodO l o (k + 1) ∧ Met l.length o (k + 1) ms' := by
  obtain ⟨q, hq⟩ : ∃ q, o[k]? = some q := ⟨_, List.getElem?_eq_getElem (hlen ▸ hk)⟩
  obtain ⟨ob, hix, hld⟩ := (ho.fr ok Z.fr (by simp)).at hq
  have hol := ho.len
  rw [hlen] at hol
  have hdk : decide ((k : Int) < (l.length : Int)) = true := decide_eq_true (by omega)
  have wk := rs_k (Nat.lt_of_lt_of_le hk hl)
  have hxl := hx.len
  have bad : ∀ {g' : H}, Fr [] h g' → ¬ GoodAt l o k → Ev (some (AX.ret, S.z0k (.bool false), g')) fun r =>
      (r.1 = .ret ∧ r.2.1 = S.z0k (.bool false) ∧ Fr [] h r.2.2 ∧ ¬ Resp l o) ∨
      ∃ ms', r.1 = .normal ∧ r.2.1 = S.z4w x0 x1 (.sl mb 0 l.length (.ex l.length)) (.int .i64 (k + 1 : Nat)) ∧ RespAt h r.2.2 mb ms' ∧ GoodO l o (k + 1) ∧ Met l.length o (k + 1) ms' :=
    fun F hb => Ev.some (.inl ⟨rfl, rfl, F, z0d5 hk hb⟩)
  by_cases hq0 : q < 0
  · have d : decide (q < 0) = true := decide_eq_true hq0
    simp only [S.z3b, Option.bind_some, ze, hol, hdk, hix, hld, d]
    exact bad Z.fr fun g => by have := (g.pos hq).1; omega
  have d0 : decide (q < 0) = false := decide_eq_false hq0
  by_cases hqn : (l.length : Int) ≤ q
  · have d : decide ((l.length : Int) ≤ q) = true := decide_eq_true hqn
    simp only [S.z3b, Option.bind_some, ze, hol, hdk, hix, hld, d0, hxl, d]
    exact bad Z.fr fun g => by have := (g.pos hq).2; omega
  obtain ⟨i, rfl, hi⟩ : ∃ i : Nat, q = (i : Int) ∧ i < l.length := ⟨q.toNat, by omega, by omega⟩
  have d1 : decide ((l.length : Int) ≤ (i : Int)) = false := decide_eq_false hqn
  have him : za 1 (.sl mb 0 l.length (.ex l.length)) (.int .i64 (i : Int)) = some (.ptr mb i) := zu hi
  obtain ⟨m, hm⟩ : ∃ m, ms[i]? = some m := ⟨_, List.getElem?_eq_getElem (M.len ▸ hi)⟩
  have hmb := z0bv hm
  have hmet := Z.met
  cases m with
  | true =>
    simp only [S.z3b, Option.bind_some, zb, z2u, zf, z4e, Nat.zero_add, V.one, V.cells, ze, z04, List.length_cons, List.length_nil, Nat.beq_refl, List.all_cons, List.all_nil, Bool.not_true, Bool.false_or, Bool.or_self, Bool.and_self, decide_false, z0e, reduceCtorEq, hol, hdk, hix, hld, d0, hxl, d1, him, hmet, hmb]
    refine bad Z.fr fun g => ?_
    obtain ⟨x, _, h3, _⟩ := g.of hq
    obtain ⟨a, ha, hb⟩ := (M.met i hi).mp hm
    exact h3 a ha hb
  | false =>
    have hfresh : ∀ a, a < k → o[a]? ≠ some (i : Int) := fun a ha hb => by
      have := (M.met i hi).mpr ⟨a, ha, hb⟩
      rw [hm] at this; cases this
    have him2 : i < ms.length := M.len ▸ hi
    have hle : decide (i + 1 ≤ (zcg ms).length) = true := decide_eq_true (by rw [z02p]; exact him2)
    have hne0 : decide (Bk.rw = Bk.ro) = false := rfl
    obtain ⟨x, hxi⟩ : ∃ x, l[i]? = some x := ⟨_, List.getElem?_eq_getElem hi⟩
    have Z1 := Z.set him2 rfl
    have M1 := M.step hi hq
    generalize hcs : (zcg ms).take i ++ [V.bool true] ++ (zcg ms).drop (i + 1) = cs at Z1
    simp only [S.z3b, Option.bind_some, Option.map_some, zb, z2u, zf, z4e, Nat.zero_add, V.one, V.cells, ze, z04, List.length_cons, List.length_nil, Nat.beq_refl, List.all_cons, List.all_nil, Bool.not_true, Bool.or_self, Bool.and_self, decide_false, z0e, reduceCtorEq, hol, hdk, hix, hld, d0, hxl, d1, him, hmet, hmb, hle, hcs]
    refine z07k ok hx ho hl Z1 hk G hxi _ _ _ ?_ ?_
    · rintro ⟨a, y, ha, hy, hlt⟩
      show Ev (S.z87 W .ret _ _) _
      rw [S.zpm]
      refine bad Z1.fr fun g => ?_
      obtain ⟨x', h2, _, h4⟩ := g.of hq
      rw [hxi] at h2; cases h2
      exact h4 a y ha hy hlt
    · intro h4
      show Ev (S.z87 W (.exit 2) _ _) _
      rw [S.zot]
      simp only [S.zh2, wk]
      exact Ev.some (.inr ⟨_, rfl, rfl, Z1, G.succ ⟨i, x, hq, hxi, hfresh, h4⟩, M1⟩)
theorem zz0 {h : H} (ok : h.ok) {x0 : V} {l : List Evt} (hx : RowE h.get x0 l) {x1 : V} {o : List Int} (ho : RowN .i64 h.get x1 o) (hl : l.length ≤ 60) : Ev (C 186 [x0, x1] h) fun r => ∃ b, r.1 = .bool b ∧ (b = true ↔ Resp l o) ∧ Fr [] h r.2 := by
  refine z0i (af := F.z0z) (by kernel_rfl) rfl ?_
  rw [S.zs7]
  have hxl := hx.len
  have hol := ho.len
  have he := z0f9 (a := o.length) (b := l.length)
  by_cases hlen : o.length = l.length
  rotate_left
  · rw [decide_eq_false hlen] at he
    simp only [S.z0z, Option.bind_some, Bool.not_false, hxl, hol, he]
    exact Ev.some ⟨false, rfl, ⟨fun h => (absurd h (by decide)), fun h => absurd h.1 hlen⟩, .refl ok⟩
  rw [decide_eq_true hlen] at he
  have hmk := z0de (h := h) (n := l.length) (Nat.le_trans hl (by decide))
  simp only [S.z0z, Option.bind_some, Bool.not_true, hxl, hol, he, hmk]
  have Z0 : RespAt h (h.new (.cells (zcg (List.replicate l.length false)) .rw)) h.next (List.replicate l.length false) := ⟨(Fr.refl ok).new _, Nat.le_refl _, zp _ _⟩
  refine z0j (α := Nat × List Bool) (fun y => S.z4w x0 x1 (.sl h.next 0 l.length (.ex l.length)) (.int .i64 (y.1 : Nat)))
    (fun y g => y.1 ≤ l.length ∧ RespAt h g h.next y.2 ∧ GoodO l o y.1 ∧ Met l.length o y.1 y.2) (fun y _ => l.length - y.1)
    (fun r => Fr [] h r.2.2 ∧ ((r.1 = .ret ∧ r.2.1 = S.z0k (.bool false) ∧ ¬ Resp l o) ∨ (r.1 = .exit 0 ∧ r.2.1 = S.z0k .dead ∧ Resp l o)))
    (0, List.replicate l.length false) rfl ⟨Nat.zero_le _, Z0, fun b hb => absurd hb (Nat.not_lt_zero b), Met.zero _ _⟩ ?_ ?_
  · rintro ⟨k, ms⟩ g ⟨hk, Z, G, M⟩
    dsimp only at hk Z G M ⊢
    rw [S.zqq]
    by_cases hkl : k < l.length
    · refine (z04x ok hx ho hlen hl Z hkl G M).mono ?_
      rintro ⟨_, _, g'⟩ (⟨rfl, rfl, F, hb⟩ | ⟨ms', rfl, rfl, Z', G', M'⟩)
      · exact .inr ⟨by simp, F, .inl ⟨rfl, rfl, hb⟩⟩
      · exact .inl ⟨(k + 1, ms'), rfl, rfl, ⟨hkl, Z', G', M'⟩, Nat.sub_lt_sub_left hkl (Nat.lt_succ_self k)⟩
    · have hke : k = l.length := Nat.le_antisymm hk (Nat.le_of_not_lt hkl)
      subst hke
      have hd : decide ((l.length : Int) < (o.length : Int)) = false := decide_eq_false (by omega)
      simp only [S.z3b, hol, Option.bind_some, hd]
      exact Ev.some (.inr ⟨by simp, Z.fr, .inr ⟨rfl, rfl, hlen, G⟩⟩)
  rintro ⟨_, _, g⟩ ⟨F, (⟨rfl, rfl, hb⟩ | ⟨rfl, rfl, hb⟩)⟩
  · show Ev (S.z81 W .ret _ g) _
    rw [S.zq3]
    exact Ev.some ⟨false, rfl, ⟨fun h => (absurd h (by decide)), fun h => absurd h hb⟩, F⟩
  · show Ev (S.z81 W (.exit 0) _ g) _
    rw [S.zp0]
    exact Ev.some ⟨true, rfl, ⟨fun _ => hb, fun _ => rfl⟩, F⟩
end Wm
end
noncomputable section
namespace Wm
def KV (kd : Go.IntKind) (l : List (Int × V)) : List (V × V) := l.map fun p => (.int kd p.1, p.2)
def ziw : List (Int × V) → Int → Option V
  | [], _ => none
  | (a, v) :: l, k => if k = a then some v else ziw l k
def kset : List (Int × V) → Int → V → List (Int × V)
  | [], k, x => [(k, x)]
  | (a, v) :: l, k, x => if k = a then (k, x) :: l else (a, v) :: kset l k x
theorem z00i (kd : Go.IntKind) (k : Int) : ∀ l : List (Int × V), findKey .int (.int kd k) (KV kd l) = some (ziw l k)
  | [] => rfl
  | (a, v) :: l => by
    simp only [KV, List.map_cons, findKey, z5u, decide_true, ziw]
    by_cases h : k = a
    · simp only [h, decide_true, if_true]
    · simp only [h, decide_false, if_false]
      exact z00i kd k l
theorem z029 (kd : Go.IntKind) (k : Int) (x : V) : ∀ l : List (Int × V), zk7 .int (.int kd k) x (KV kd l) = some (KV kd (kset l k x))
  | [] => rfl
  | (a, v) :: l => by
    have ih := z029 kd k x l
    unfold KV at ih
    simp only [KV, List.map_cons, zk7, z5u, decide_true, kset]
    by_cases h : k = a
    · simp only [h, decide_true, if_true, List.map_cons]
    · simp only [h, decide_false, if_false, ih, List.map_cons]
theorem zzy (k : Int) (x : V) (j : Int) : ∀ l : List (Int × V), ziw (kset l k x) j = if j = k then some x else ziw l j
  | [] => by simp only [kset, ziw]
  | (a, v) :: l => by
    have ih := zzy k x j l
    by_cases h : k = a
    · subst h
      simp only [kset, if_true, ziw]
      by_cases hj : j = k
      · simp only [hj, if_true]
      · simp only [hj, if_false]
    · simp only [kset, h, if_false, ziw]
      by_cases hj : j = a
      · subst hj
        have hk : ¬ j = k := fun e => h e.symm
        simp only [if_true, hk, if_false]
      · simp only [hj, if_false, ih]
theorem z0cf {h : H} {mb : Nat} {kd : Go.IntKind} {l : List (Int × V)} (hm : h.get mb = some (.map (KV kd l))) (z : V) (k : Int) :
    h.look .int z true (.map mb) (.int kd k) = some (match ziw l k with | some v => .tup [v, .bool true] | none => .tup [z, .bool false]) := by
  simp only [H.look, zne, H.entries, hm, z00i]
  cases ziw l k <;> rfl
theorem z02h {h : H} {mb : Nat} {kd : Go.IntKind} {l : List (Int × V)} (hm : h.get mb = some (.map (KV kd l))) (k : Int) (x : V) :
    h.mapSet .int (.map mb) (.int kd k) x = some (h.put mb (some (.map (KV kd (kset l k x))))) := by
  simp only [H.mapSet, zne, hm, z029]
end Wm
end
noncomputable section
namespace Wm
attribute [local congr] zk
attribute [local irreducible] wr
open Go.Sort (swp PermIn SortedIn Below SWO)
def cmp3 (a b : Int) : Int := if a < b then -1 else if b < a then 1 else 0
theorem z0az (a : Int) (h : H) : C 407 [.int .i64 a] h = some (.bool false, h) := by
  refine zb6 (af := F.z8r) (by kernel_rfl) rfl (by rfl) (by rfl) h ?_
  rw [S.zy7]
  simp only [S.z8r, decide_true, Bool.not_true]
  exact Ev.some rfl
theorem z054 (a b : Int) (h : H) : C 334 [.int .i64 a, .int .i64 b] h = some (.int .i64 (cmp3 a b), h) := by
  refine zb6 (af := F.z72) (by kernel_rfl) rfl (by rfl) (by rfl) h ?_
  rw [S.zvp]
  unfold cmp3
  simp only [S.z72, zh, z0az, zd, z04]
  by_cases h1 : a < b
  · simp only [h1, decide_true, if_true]
    exact Ev.some rfl
  · by_cases h2 : b < a
    · simp only [h1, h2, decide_true, decide_false, if_true, if_false]
      exact Ev.some rfl
    · simp only [h1, h2, decide_false, if_false]
      exact Ev.some rfl
theorem zr2 (a b : Int) : decide (cmp3 a b < 0) = decide (a < b) := by
  unfold cmp3
  by_cases h1 : a < b
  · simp [h1]
  · by_cases h2 : b < a
    · simp [h1, h2]
    · simp [h1, h2]
section
variable {h0 h : H} {b N f : Nat} {cs : List V} {lt : Int → Int → Bool} {d : Array Int} {c : Cap}
theorem z02r (A : Sw h0 b N h d) (K : Cmp h0 b N f cs lt) (hlt : SWO lt) (hN : N ≤ 64) :
    Ev (C 332 [.sl b 0 N c, .fn f cs] h) fun z => ∃ R, z.1 = .tup [] ∧ PermIn 0 N d R ∧ SortedIn lt 0 N R ∧ Sw h0 b N z.2 R := by
  refine z0i (af := F.z1r) (by kernel_rfl) rfl ?_
  rw [S.zo3]
  have w1 : wr .u64 ((N : Nat) : Int) = (N : Int) := z072 hN
  have e1 := z0ep (n := N) (by omega) h
  obtain ⟨⟨v, g⟩, e2, R, rfl, r1, r2, A2⟩ := z06q (c := c) K hlt hN (N + 1) 0 N (Go.Sort.bitsLen N : Int) d h (by omega) (Nat.zero_le _) (Nat.le_refl _) A (.inl rfl)
  have e2 : C 405 [.sl b 0 N c, .int .i64 0, .int .i64 (N : Int), .int .i64 (Go.Sort.bitsLen N : Int), .fn f cs] h = some (.tup [], g) := e2
  simp only [S.z1r, z3a, zd, w1, zh, e1, e2]
  exact Ev.some ⟨R, rfl, r1, r2, A2⟩
end
def idA (n : Nat) : Array Int := ((List.range n).map (fun i : Nat => (i : Int))).toArray
theorem zu0 (n : Nat) : (idA n).size = n := by simp [idA]
theorem ztq {n i : Nat} (hi : i < n) : (idA n)[i]! = (i : Int) := by
  rw [getElem!_pos (idA n) i (by rw [zu0]; exact hi)]
  simp [idA]
structure AllNums (n : Nat) (o : List Int) : Prop where
  len : o.length = n
  perm : o.Perm ((List.range n).map (fun i : Nat => (i : Int)))
theorem AllNums.at {n : Nat} {o : List Int} (P : AllNums n o) {k : Nat} (hk : k < n) : ∃ i : Nat, i < n ∧ o[k]? = some (i : Int) := by
  have hm : o[k]'(by rw [P.len]; exact hk) ∈ o := List.getElem_mem _
  have := P.perm.mem_iff.mp hm
  rw [List.mem_map] at this
  obtain ⟨i, hi, he⟩ := this
  exact ⟨i, List.mem_range.mp hi, by rw [List.getElem?_eq_getElem (by rw [P.len]; exact hk), he]⟩
theorem AllNums.has {n : Nat} {o : List Int} (P : AllNums n o) {i : Nat} (hi : i < n) : ∃ k, k < n ∧ o[k]? = some (i : Int) := by
  have hm : (i : Int) ∈ o := P.perm.mem_iff.mpr (List.mem_map.mpr ⟨i, List.mem_range.mpr hi, rfl⟩)
  obtain ⟨k, hk, he⟩ := List.getElem_of_mem hm
  exact ⟨k, P.len ▸ hk, by rw [List.getElem?_eq_getElem hk, he]⟩
theorem AllNums.inj {n : Nat} {o : List Int} (P : AllNums n o) {a b : Nat} {v : Int} (ha : o[a]? = some v) (hb : o[b]? = some v) : a = b := by
  have nd : o.Nodup := by
    rw [P.perm.nodup_iff]
    exact List.pairwise_map.mpr (List.nodup_range.imp fun h e => h (Int.ofNat.inj e))
  have h1 := z01 ha
  have h2 := z01 hb
  rw [List.getElem?_eq_getElem h1] at ha
  rw [List.getElem?_eq_getElem h2] at hb
  have nd := List.pairwise_iff_getElem.mp nd
  have he := (Option.some.inj ha).trans (Option.some.inj hb).symm
  rcases Nat.lt_trichotomy a b with q | q | q
  · exact absurd he (nd a b h1 h2 q)
  · exact q
  · exact absurd he.symm (nd b a h2 h1 q)
theorem AllNums.of {n : Nat} {d : Array Int} (hd : d.size = n) (hp : PermIn 0 n (idA n) d) : AllNums n d.toList := by
  refine ⟨by rw [Array.length_toList]; exact hd, ?_⟩
  have h := hp.2.2
  have e1 : (d.extract 0 n) = d := by rw [← hd]; exact Array.extract_size
  have e2 : (idA n).extract 0 n = idA n := by
    have := zu0 n
    conv => lhs; rw [← this]
    rw [this]
    exact (congrArg (fun k => (idA n).extract 0 k) this.symm).trans Array.extract_size
  rw [e1, e2] at h
  simpa [idA] using h
theorem zmw {d : Array Int} {k : Nat} (hk : k < d.size) : d.toList[k]? = some d[k]! := by
  rw [Array.getElem?_toList, Array.getElem?_eq_getElem hk, getElem!_pos d k hk]
structure Evt.bd (x : Evt) (clients : Int) : Prop where
  c0 : 0 ≤ x.client
  c1 : x.client < clients
  p0 : x.begun ≤ x.point
  p1 : x.point ≤ x.ended
def ztc (l : List Evt) (clients : Int) : Prop :=
  (∀ (i : Nat) (x : Evt), l[i]? = some x → x.bd clients) ∧
  ∀ (i k : Nat) (x y : Evt), l[i]? = some x → l[k]? = some y → k ≠ i → x.client = y.client → ¬ (x.op = y.op ∨ x.op < y.op ∧ ¬ x.ended < y.begun)
def RightTo (l : List Evt) (clients : Int) (o : List Int) (k : Nat) : Prop :=
  (∀ a y, a < k → AtO l o a y → y.bd clients) ∧
  ∀ a b x y, a < b → b < k → AtO l o a x → AtO l o b y → x.client = y.client → x.op < y.op ∧ x.ended < y.begun
def z01f (l : List Evt) (o : List Int) : Prop := ∀ a b x y, a < b → AtO l o a x → AtO l o b y → ¬ y.op < x.op
theorem AtO.same {l : List Evt} {o : List Int} {a : Nat} {x y : Evt} (h1 : AtO l o a x) (h2 : AtO l o a y) : x = y := by
  obtain ⟨i, p1, p2⟩ := h1
  obtain ⟨j, q1, q2⟩ := h2
  rw [p1] at q1
  have := Int.ofNat.inj (Option.some.inj q1)
  subst this
  rw [p2] at q2; exact Option.some.inj q2
theorem z06o {l : List Evt} {clients : Int} {o : List Int} (P : AllNums l.length o) (hs : z01f l o) : RightTo l clients o l.length ↔ ztc l clients := by
  constructor
  · rintro ⟨h1, h2⟩
    refine ⟨fun i x hx => ?_, fun i k x y hx hy hki hc hbad => ?_⟩
    · obtain ⟨a, ha, he⟩ := P.has (z01 hx)
      exact h1 a x ha ⟨i, he, hx⟩
    · obtain ⟨a, ha, hea⟩ := P.has (z01 hx)
      obtain ⟨b, hb, heb⟩ := P.has (z01 hy)
      rcases Nat.lt_trichotomy a b with q | q | q
      · obtain ⟨z1, z2⟩ := h2 a b x y q hb ⟨i, hea, hx⟩ ⟨k, heb, hy⟩ hc
        rcases hbad with z | ⟨_, z⟩
        · omega
        · exact z z2
      · subst q
        rw [hea] at heb
        exact hki (Int.ofNat.inj (Option.some.inj heb)).symm
      · obtain ⟨z1, z2⟩ := h2 b a y x q ha ⟨k, heb, hy⟩ ⟨i, hea, hx⟩ hc.symm
        rcases hbad with z | ⟨z, _⟩ <;> omega
  · rintro ⟨h1, h2⟩
    refine ⟨fun a y ha ⟨i, _, hi⟩ => h1 i y hi, fun a b x y hab hb hx hy hc => ?_⟩
    have hss := hs a b x y hab hx hy
    obtain ⟨i, p1, p2⟩ := hx
    obtain ⟨k, q1, q2⟩ := hy
    have hne : k ≠ i := fun e => by
      subst e
      exact absurd (P.inj p1 q1) (by omega)
    have := h2 i k x y p2 q2 hne hc
    have hop : ¬ x.op = y.op := fun z => this (.inl z)
    have hlt : x.op < y.op := by omega
    refine ⟨hlt, ?_⟩
    by_cases q : x.ended < y.begun
    · exact q
    · exact absurd (.inr ⟨hlt, q⟩) this
def LastM (l : List Evt) (o : List Int) (k : Nat) (m : List (Int × V)) : Prop :=
  ∀ c : Int, match ziw m c with
    | none => ∀ a y, a < k → AtO l o a y → y.client ≠ c
    | some v => ∃ a y, a < k ∧ AtO l o a y ∧ y.client = c ∧ v = .agg y.cs ∧ ∀ a' y', a' < k → AtO l o a' y' → y'.client = c → a' ≤ a
theorem LastM.zero (l : List Evt) (o : List Int) : LastM l o 0 [] := fun _ _ _ ha => absurd ha (Nat.not_lt_zero _)
theorem LastM.step {l : List Evt} {o : List Int} {k : Nat} {m : List (Int × V)} (M : LastM l o k m) {x : Evt} (hx : AtO l o k x) : LastM l o (k + 1) (kset m x.client (.agg x.cs)) := by
  intro c
  rw [zzy]
  by_cases hc : c = x.client
  · rw [if_pos hc]
    exact ⟨k, x, Nat.lt_succ_self k, hx, hc.symm, rfl, fun a' _ ha' _ _ => Nat.le_of_lt_succ ha'⟩
  · rw [if_neg hc]
    have := M c
    cases hf : ziw m c with
    | none =>
      rw [hf] at this
      intro a y ha hy
      rcases Nat.lt_succ_iff_lt_or_eq.mp ha with q | q
      · exact this a y q hy
      · subst q; rw [AtO.same hy hx]; exact fun e => hc e.symm
    | some v =>
      rw [hf] at this
      obtain ⟨a, y, h1, h2, h3, h4, h5⟩ := this
      refine ⟨a, y, Nat.lt_succ_of_lt h1, h2, h3, h4, fun a' y' ha' hy' hc' => ?_⟩
      rcases Nat.lt_succ_iff_lt_or_eq.mp ha' with q | q
      · exact h5 a' y' q hy' hc'
      · subst q; rw [AtO.same hy' hx] at hc'; exact absurd hc'.symm hc
theorem RightTo.step {l : List Evt} {clients : Int} {o : List Int} {k : Nat} (G : RightTo l clients o k) {x : Evt} (hx : AtO l o k x) (hb : x.bd clients) (hl : ∀ a y, a < k → AtO l o a y → y.client = x.client → (∀ a' y', a' < k → AtO l o a' y' → y'.client = x.client → a' ≤ a) → y.op < x.op ∧ y.ended < x.begun) (hlast : (∃ a y, a < k ∧ AtO l o a y ∧ y.client = x.client) → ∃ a y, a < k ∧ AtO l o a y ∧ y.client = x.client ∧ ∀ a' y', a' < k → AtO l o a' y' → y'.client = x.client → a' ≤ a) : RightTo l clients o (k + 1) := by
  refine ⟨fun a y ha hy => ?_, fun a b u v hab hbk hu hv hc => ?_⟩
  · rcases Nat.lt_succ_iff_lt_or_eq.mp ha with q | q
    · exact G.1 a y q hy
    · subst q; rw [AtO.same hy hx]; exact hb
  · rcases Nat.lt_succ_iff_lt_or_eq.mp hbk with q | q
    · exact G.2 a b u v hab q hu hv hc
    · subst q
      have := AtO.same hv hx
      subst this
      obtain ⟨a2, y2, z1, z2, z3, z4⟩ := hlast ⟨a, u, hab, hu, hc⟩
      have z5 := hl a2 y2 z1 z2 z3 z4
      have z6 := z4 a u hab hu hc
      rcases Nat.lt_or_eq_of_le z6 with q | q
      · have w1 := G.2 a a2 u y2 q z1 hu z2 (hc.trans z3.symm)
        have w2 := G.1 a2 y2 z1 z2
        have w3 := w2.p0
        have w4 := w2.p1
        exact ⟨by omega, by omega⟩
      · subst q
        rw [AtO.same hu z2]; exact z5
open Go.Sort (swp PermIn SortedIn SWO permIn_trans permIn_refl permIn_mono permIn_all insInner insOuter)
section
variable {lt : Int → Int → Bool}
theorem zux {a e : Nat} : ∀ (j : Nat) (d : Array Int), a ≤ j → j < e → e ≤ d.size → PermIn a e d (insInner lt a j d)
  | 0, d, _, _, _ => by rw [insInner]; exact permIn_refl _ _ _
  | j + 1, d, h1, h2, h3 => by
    rw [insInner]
    split
    · rename_i hc
      have hc' : j + 1 > a := by
        rw [Bool.and_eq_true] at hc; exact of_decide_eq_true hc.1
      exact permIn_trans _ _ _ _ _ (Go.Sort.swp_permIn _ a e _ _ (by omega) (by omega) (by omega) (by omega) h3) (zux j _ (by omega) (by omega) (by rw [Go.Sort.swp_size]; exact h3))
    · exact permIn_refl _ _ _
theorem zuu {a : Nat} : ∀ (j : Nat) (d : Array Int), j < d.size → (∀ i, a ≤ i → i < j → d[i]! < d[j]!) → insInner lt a j d = insInner (ltS lt) a j d
  | 0, d, _, _ => by rw [insInner, insInner]
  | j + 1, d, hj, h => by
    rw [insInner, insInner]
    by_cases ha : j + 1 > a
    · rw [ztj (h j (by omega) (by omega))]
      cases hl : lt d[j + 1]! d[j]! with
      | false => simp
      | true =>
        simp only [decide_eq_true ha, Bool.and_self, if_true]
        refine zuu j _ (by rw [Go.Sort.swp_size]; omega) fun i h1 h2 => ?_
        rw [Go.Sort.swp_right _ _ _ (by omega), Go.Sort.swp_other _ _ _ _ (by omega) (by omega)]
        exact h i h1 (by omega)
    · rw [decide_eq_false ha, Bool.false_and, Bool.false_and]; rfl
theorem zv1 {a e : Nat} : ∀ (n i : Nat) (d : Array Int), e - i = n → a ≤ i → e ≤ d.size → (∀ p q, a ≤ p → p < q → i ≤ q → q < e → d[p]! < d[q]!) → insOuter lt a e i d = insOuter (ltS lt) a e i d
  | 0, i, d, hn, _, _, _ => by
    have un : ∀ l : Int → Int → Bool, insOuter l a e i d = d := fun l => by rw [insOuter, if_neg (by omega)]
    rw [un, un]
  | n + 1, i, d, hn, hai, he, h => by
    have hi : i < e := by omega
    have un : ∀ l : Int → Int → Bool, insOuter l a e i d = insOuter l a e (i + 1) (insInner l a i d) := fun l => by rw [insOuter, if_pos hi]
    rw [un, un, ← zuu i d (by omega) (fun k h1 h2 => h k i h1 h2 (Nat.le_refl _) hi)]
    have hp := zux (lt := lt) (a := a) (e := i + 1) i d hai (Nat.lt_succ_self i) (by omega)
    refine zv1 n (i + 1) _ (by omega) (by omega) (by rw [hp.1]; exact he) fun p q h1 h2 h3 h4 => ?_
    rw [hp.2.1 q (.inr h3)]
    by_cases hpi : p < i + 1
    · exact permIn_all d _ a (i + 1) (fun v => v < d[q]!) (by omega) hp (fun k h5 h6 => h k q h5 (by omega) (by omega) h4) p h1 hpi
    · rw [hp.2.1 p (.inr (by omega))]; exact h p q h1 h2 (by omega) h4
theorem z00l (hlt : SWO lt) {a e : Nat} {d : Array Int} (hae : a ≤ e) (he : e ≤ d.size) (h : ∀ p q, a ≤ p → p < q → q < e → d[p]! < d[q]!) : PermIn a e d (Go.Sort.insertionSort lt d a e) ∧ SortedIn (ltS lt) a e (Go.Sort.insertionSort lt d a e) := by
  have e1 : Go.Sort.insertionSort lt d a e = Go.Sort.insertionSort (ltS lt) d a e := by
    unfold Go.Sort.insertionSort
    exact zv1 (e - (a + 1)) (a + 1) d rfl (by omega) he fun p q h1 h2 h3 h4 => h p q h1 h2 h4
  rw [e1]
  exact Go.Sort.insertionSort_holds (zxy hlt) d a e hae he
def Cut (d : Array Int) (N c : Nat) : Prop := ∀ i j, i < c → c ≤ j → j < N → d[i]! < d[j]!
theorem Cut.perm {d R : Array Int} {N a e c : Nat} (h : Cut d N c) (hp : PermIn a e d R) (he : e ≤ d.size) (heN : e ≤ N) (hc : c ≤ a ∨ e ≤ c) : Cut R N c := by
  intro i j hi hj hjN
  rcases hc with hc | hc
  · rw [hp.2.1 i (.inl (by omega))]
    by_cases q : a ≤ j ∧ j < e
    · exact permIn_all d R a e (fun v => d[i]! < v) he hp (fun k h1 h2 => h i k hi (by omega) (by omega)) j q.1 q.2
    · rw [hp.2.1 j (by omega)]; exact h i j hi hj hjN
  · rw [hp.2.1 j (.inr (by omega))]
    by_cases q : a ≤ i ∧ i < e
    · exact permIn_all d R a e (fun v => v < d[j]!) he hp (fun k h1 h2 => h k j (by omega) hj hjN) i q.1 q.2
    · rw [hp.2.1 i (by omega)]; exact h i j hi hj hjN
def Blks (lt : Int → Int → Bool) (B : Nat) (d : Array Int) (P : Nat → Prop) (N : Nat) : Prop :=
  ∀ k p q, P k → k * B ≤ p → p < q → q < (k + 1) * B → q < N → ltS lt d[q]! d[p]! = false
end
section
variable {h0 h : H} {b N f : Nat} {cs : List V} {lt : Int → Int → Bool} {d : Array Int} {c : Cap}
theorem zx8 {k k' B : Nat} (h : k' < k) : (k' + 1) * B ≤ k * B := Nat.mul_le_mul_right B h
theorem zqt {k B : Nat} : k * (2 * B) = 2 * k * B ∧ (k + 1) * (2 * B) = k * (2 * B) + 2 * B ∧ (2 * k + 1) * B = k * (2 * B) + B ∧ (2 * k + 1 + 1) * B = k * (2 * B) + 2 * B := by
  have e1 : k * (2 * B) = 2 * k * B := by rw [← Nat.mul_assoc, Nat.mul_comm k 2]
  refine ⟨e1, by rw [Nat.add_mul, Nat.one_mul], by rw [Nat.add_mul, Nat.one_mul, e1], by rw [Nat.add_mul, Nat.add_mul, Nat.one_mul, e1]; omega⟩
theorem Blks.step {B k : Nat} {R : Array Int} (hb : Blks lt B d (· < k) N) (hp : PermIn (k * B) ((k + 1) * B) d R) (hs : SortedIn (ltS lt) (k * B) ((k + 1) * B) R) : Blks lt B R (· < k + 1) N := by
  intro k' p q hk h1 h2 h3 h4
  rcases Nat.lt_succ_iff_lt_or_eq.mp hk with r | r
  · have := zx8 (B := B) r
    rw [hp.2.1 p (.inl (by omega)), hp.2.1 q (.inl (by omega))]
    exact hb k' p q r h1 h2 h3 h4
  · subst r; exact hs p q h1 h2 h3
theorem Blks.last {B k : Nat} {R : Array Int} (hb : Blks lt B d (· < k) N) (hp : PermIn (k * B) N d R) (hs : SortedIn (ltS lt) (k * B) N R) (hN : N < (k + 1) * B) : Blks lt B R (fun _ => True) N := by
  intro k' p q _ h1 h2 h3 h4
  rcases Nat.lt_trichotomy k' k with r | r | r
  · have := zx8 (B := B) r
    rw [hp.2.1 p (.inl (by omega)), hp.2.1 q (.inl (by omega))]
    exact hb k' p q r h1 h2 h3 h4
  · subst r; exact hs p q h1 h2 h4
  · have := zx8 (B := B) r
    omega
structure Stg (h0 : H) (b N : Nat) (lt : Int → Int → Bool) (B : Nat) (h : H) (d : Array Int) : Prop where
  sw : Sw h0 b N h d
  perm : PermIn 0 N (idA N) d
  blk : Blks lt B d (fun _ => True) N
  cut : ∀ k, Cut d N (k * B)
structure Mid (h0 : H) (b N : Nat) (lt : Int → Int → Bool) (B k : Nat) (h : H) (d : Array Int) : Prop where
  sw : Sw h0 b N h d
  perm : PermIn 0 N (idA N) d
  done : Blks lt (2 * B) d (· < k) N
  rest : Blks lt B d (2 * k ≤ ·) N
  cut : ∀ k', Cut d N (k' * (2 * B))
  cut1 : ∀ k', 2 * k ≤ k' → Cut d N (k' * B)
  in_ : k * (2 * B) ≤ N
theorem Stg.mid {B : Nat} (T : Stg h0 b N lt B h d) : Mid h0 b N lt B 0 h d :=
  ⟨T.sw, T.perm, fun k p q hk => absurd hk (Nat.not_lt_zero k), fun k p q _ => T.blk k p q trivial, fun k' => by rw [(zqt (k := k') (B := B)).1]; exact T.cut _, fun k' _ => T.cut k', by omega⟩
theorem Mid.mg {B k e : Nat} (M : Mid h0 b N lt B k h d) (h1 : k * (2 * B) + B ≤ e) (h2 : e ≤ k * (2 * B) + 2 * B) (h3 : e ≤ N) : Mg lt (k * (2 * B)) (k * (2 * B) + B) e d := by
  obtain ⟨e1, e2, e3, e4⟩ := zqt (k := k) (B := B)
  refine ⟨fun p q z1 z2 z3 => ?_, fun p q z1 z2 z3 => ?_, fun i j z1 z2 z3 z4 => ?_⟩
  · exact M.rest (2 * k) p q (Nat.le_refl _) (by omega) z2 (by omega) (by omega)
  · exact M.rest (2 * k + 1) p q (Nat.le_succ _) (by omega) z2 (by omega) (by omega)
  · have := M.cut1 (2 * k + 1) (Nat.le_succ _)
    rw [e3] at this
    exact this i j z2 z3 (by omega)
theorem Mid.step {B k : Nat} {g : H} {R : Array Int} (M : Mid h0 b N lt B k h d) (A : Sw h0 b N g R) (hB : k * (2 * B) + 2 * B ≤ N) (hp : PermIn (k * (2 * B)) (k * (2 * B) + 2 * B) d R) (hs : SortedIn (ltS lt) (k * (2 * B)) (k * (2 * B) + 2 * B) R) : Mid h0 b N lt B (k + 1) g R := by
  obtain ⟨e1, e2, e3, e4⟩ := zqt (k := k) (B := B)
  have hsz : k * (2 * B) + 2 * B ≤ d.size := by rw [M.sw.sz]; exact hB
  refine ⟨A, permIn_trans _ _ _ _ _ M.perm (permIn_mono _ _ _ _ 0 N (Nat.zero_le _) hB (by rw [M.sw.sz]; exact Nat.le_refl _) hp), M.done.step (by rw [e2]; exact hp) (by rw [e2]; exact hs), fun k' p q z1 z2 z3 z4 z5 => ?_, fun k' => ?_, fun k' z1 => ?_, by rw [e2]; exact hB⟩
  · have z6 : (2 * k + 1 + 1) * B ≤ k' * B := Nat.mul_le_mul_right B (by omega)
    rw [hp.2.1 p (.inr (by omega)), hp.2.1 q (.inr (by omega))]
    exact M.rest k' p q (by omega) z2 z3 z4 z5
  · refine (M.cut k').perm hp hsz hB ?_
    rcases Nat.lt_or_ge k k' with r | r
    · have := zx8 (B := 2 * B) r; omega
    · exact .inl (Nat.mul_le_mul_right _ r)
  · have z6 : (2 * k + 1 + 1) * B ≤ k' * B := Nat.mul_le_mul_right B (by omega)
    exact (M.cut1 k' (by omega)).perm hp hsz hB (.inr (by omega))
theorem Mid.last {B k : Nat} {g : H} {R : Array Int} (M : Mid h0 b N lt B k h d) (A : Sw h0 b N g R) (hB : N < k * (2 * B) + 2 * B) (hp : PermIn (k * (2 * B)) N d R) (hs : SortedIn (ltS lt) (k * (2 * B)) N R) : Stg h0 b N lt (2 * B) g R := by
  obtain ⟨e1, e2, e3, e4⟩ := zqt (k := k) (B := B)
  have hsz : N ≤ d.size := by rw [M.sw.sz]; exact Nat.le_refl _
  refine ⟨A, permIn_trans _ _ _ _ _ M.perm (permIn_mono _ _ _ _ 0 N (Nat.zero_le _) (Nat.le_refl _) hsz hp), M.done.last hp hs (by rw [e2]; exact hB), fun k' => ?_⟩
  intro i j hi hj hjN
  refine (M.cut k').perm hp hsz (Nat.le_refl _) ?_ i j hi hj hjN
  rcases Nat.lt_or_ge k k' with r | r
  · have := zx8 (B := 2 * B) r; omega
  · exact .inl (Nat.mul_le_mul_right _ r)
theorem Mid.one {B k : Nat} (M : Mid h0 b N lt B k h d) (hB : N ≤ k * (2 * B) + B) : SortedIn (ltS lt) (k * (2 * B)) N d := fun p q z1 z2 z3 => by
  obtain ⟨e1, e2, e3, e4⟩ := zqt (k := k) (B := B)
  exact M.rest (2 * k) p q (Nat.le_refl _) (by omega) z2 (by omega) z3
theorem z082 {B : Nat} (T : Stg h0 b N lt B h d) (K : Cmp h0 b N f cs lt) (hlt : SWO lt) (hN : N ≤ 1000) (hB0 : 0 < B) (hB : B < N) :
    Ev (S.z6d W (.sl b 0 N c) (N : Int) (.fn f cs) (B : Int) h) fun z => ∃ d', z.1 = .normal ∧ z.2.1 = S.z2q (.sl b 0 N c) (.int .i64 (N : Int)) (.fn f cs) (.int .i64 ((2 * B : Nat) : Int)) ∧ Stg h0 b N lt (2 * B) z.2.2 d' := by
  have b9 : B ≤ 1000 := by omega
  have w1 := z00m (i := B) (by omega)
  have w2 : wr .i64 ((B : Int) * 2) = ((2 * B : Nat) : Int) := by rw [wr64 (by omega) (by omega)]; omega
  simp only [S.z6d, z1y hB, w1]
  refine z0j (α := Nat × Array Int) (fun q => S.z6a (.sl b 0 N c) (.int .i64 (N : Int)) (.fn f cs) (.int .i64 (B : Int)) (.int .i64 ((q.1 * (2 * B) : Nat) : Int)) (.int .i64 ((q.1 * (2 * B) + 2 * B : Nat) : Int)))
    (fun q h => Mid h0 b N lt B q.1 h q.2) (fun q _ => N - q.1 * (2 * B))
    (fun z => ∃ k d', z.1 = .exit 4 ∧ z.2.1 = S.z9h (.sl b 0 N c) (.int .i64 (N : Int)) (.fn f cs) (.int .i64 (B : Int)) (.int .i64 ((k * (2 * B) : Nat) : Int)) ∧ Mid h0 b N lt B k z.2.2 d' ∧ N < k * (2 * B) + 2 * B) (0, d) (by simp only [Nat.zero_mul, Nat.zero_add]; rfl) T.mid ?_ ?_
  · rintro ⟨k, d1⟩ g M
    dsimp only at M
    rw [S.zlz]
    have hin := M.in_
    have e2 := (zqt (k := k) (B := B)).2.1
    by_cases hle : k * (2 * B) + 2 * B ≤ N
    · have w3 := z9o (i := k * (2 * B)) (j := B) (by clear w1 w2; omega)
      have w4 := z9o (i := k * (2 * B) + 2 * B) (j := 2 * B) (by clear w1 w2 w3; omega)
      obtain ⟨⟨v, g1⟩, e1, R, rfl, r1, r2, A1⟩ := zr7 (c := c) K hlt hN (N + 1) (k * (2 * B)) (k * (2 * B) + B) (k * (2 * B) + 2 * B) d1 g (by clear w1 w2 w3 w4; omega) (by clear w1 w2 w3 w4; omega) (by clear w1 w2 w3 w4; omega) hle M.sw (M.mg (by clear w1 w2 w3 w4; omega) (Nat.le_refl _) hle)
      dsimp only at A1
      simp only [S.za4, zfn hle, w1, w3, w4, zh, e1, zd]
      clear w1 w2 w3 w4 e1
      refine Ev.some (.inl ⟨(k + 1, R), rfl, ?_, M.step A1 hle r1 r2, by dsimp only; omega⟩)
      dsimp only
      rw [e2]
    · simp only [S.za4, zd5 hle]
      exact Ev.some (.inr ⟨by simp, k, d1, rfl, rfl, M, by clear w1 w2; omega⟩)
  rintro ⟨_, _, g⟩ ⟨k, d1, rfl, rfl, M, hlt2⟩
  dsimp only at M
  show Ev (S.zaj W (.exit 4) _ _) _
  rw [S.zjk]
  have hin := M.in_
  have w3 := z9o (i := k * (2 * B)) (j := B) (by clear w1 w2; omega)
  obtain ⟨kI, hkI⟩ : ∃ x : Int, x = ((k * (2 * B) : Nat) : Int) := ⟨_, rfl⟩
  obtain ⟨bI, hbI⟩ : ∃ x : Int, x = (B : Int) := ⟨_, rfl⟩
  by_cases hm : k * (2 * B) + B < N
  · obtain ⟨⟨v, g1⟩, e1, R, rfl, r1, r2, A1⟩ := zr7 (c := c) K hlt hN (N + 1) (k * (2 * B)) (k * (2 * B) + B) N d1 g (by clear w1 w2 w3; omega) (by clear w1 w2 w3; omega) hm (Nat.le_refl _) M.sw (M.mg (by clear w1 w2 w3; omega) (by clear w1 w2 w3; omega) (Nat.le_refl _))
    dsimp only at A1
    rw [← hkI] at w3 e1 ⊢; rw [← hbI] at w3 w2 ⊢
    simp only [S.z9c, w3, z1y hm, zh, e1, zd, w2]
    exact Ev.some ⟨R, rfl, rfl, M.last A1 hlt2 r1 r2⟩
  · rw [← hkI] at w3 ⊢; rw [← hbI] at w3 w2 ⊢
    simp only [S.z9c, w3, z2n hm, w2]
    exact Ev.some ⟨d1, rfl, rfl, M.last M.sw hlt2 (permIn_refl _ _ _) (M.one (Nat.le_of_not_lt hm))⟩
structure Fst (h0 : H) (b N : Nat) (lt : Int → Int → Bool) (k : Nat) (h : H) (d : Array Int) : Prop where
  sw : Sw h0 b N h d
  perm : PermIn 0 N (idA N) d
  done : Blks lt 20 d (· < k) N
  rest : ∀ i, k * 20 ≤ i → i < N → d[i]! = (i : Int)
  cut : ∀ k', Cut d N (k' * 20)
  in_ : k * 20 ≤ N
theorem Fst.up {k e : Nat} (F : Fst h0 b N lt k h d) (he : e ≤ N) : ∀ p q, k * 20 ≤ p → p < q → q < e → d[p]! < d[q]! := fun p q h1 h2 h3 => by
  rw [F.rest p h1 (by omega), F.rest q (by omega) (by omega)]; omega
theorem z062 (A : Sw h0 b N h (idA N)) (K : Cmp h0 b N f cs lt) (hlt : SWO lt) (hN : N ≤ 1000) :
    Ev (C 408 [.sl b 0 N c, .int .i64 (N : Int), .fn f cs] h) fun z => ∃ R, z.1 = .tup [] ∧ PermIn 0 N (idA N) R ∧ SortedIn (ltS lt) 0 N R ∧ Sw h0 b N z.2 R := by
  refine z0i (af := F.z08) (by kernel_rfl) rfl ?_
  rw [S.zoo]
  simp only [S.z08]
  have F0 : Fst h0 b N lt 0 h (idA N) := ⟨A, permIn_refl _ _ _, fun k p q hk => absurd hk (Nat.not_lt_zero k), fun i _ hi => ztq hi, fun k' i j h1 h2 h3 => by rw [ztq (by omega), ztq h3]; omega, by omega⟩
  refine z0j (α := Nat × Array Int) (fun q => S.z66 (.sl b 0 N c) (.int .i64 (N : Int)) (.fn f cs) (.int .i64 20) (.int .i64 ((q.1 * 20 : Nat) : Int)) (.int .i64 ((q.1 * 20 + 20 : Nat) : Int)))
    (fun q h => Fst h0 b N lt q.1 h q.2) (fun q _ => N - q.1 * 20)
    (fun z => ∃ k d', z.1 = .exit 0 ∧ z.2.1 = S.z9l (.sl b 0 N c) (.int .i64 (N : Int)) (.fn f cs) (.int .i64 20) (.int .i64 ((k * 20 : Nat) : Int)) ∧ Fst h0 b N lt k z.2.2 d' ∧ N < k * 20 + 20) (0, idA N) rfl F0 ?_ ?_
  · clear A F0
    rintro ⟨k, d1⟩ g F
    dsimp only at F
    rw [S.zll]
    have hin := F.in_
    by_cases hle : k * 20 + 20 ≤ N
    · have w3 : wr .i64 (((k * 20 + 20 : Nat) : Int) + 20) = (((k + 1) * 20 + 20 : Nat) : Int) := by rw [wr64 (by omega) (by omega)]; omega
      obtain ⟨⟨v, g1⟩, e1, rfl, A1⟩ := zou (c := c) (a := k * 20) (e := k * 20 + 20) F.sw K hN hle (by clear w3; omega)
      dsimp only at A1
      have hsz : k * 20 + 20 ≤ d1.size := by rw [F.sw.sz]; exact hle
      obtain ⟨r1, r2⟩ := z00l hlt (Nat.le_add_right _ 20) hsz (F.up hle)
      generalize Go.Sort.insertionSort lt d1 (k * 20) (k * 20 + 20) = R at A1 r1 r2
      simp only [S.za1, zfn hle, zh, e1, zd, w3]
      clear w3 e1
      refine Ev.some (.inl ⟨(k + 1, R), rfl, ?_, ⟨A1, permIn_trans _ _ _ _ _ F.perm (permIn_mono _ _ _ _ 0 N (Nat.zero_le _) hle (by rw [F.sw.sz]; exact Nat.le_refl _) r1), F.done.step (by rw [Nat.add_mul, Nat.one_mul]; exact r1) (by rw [Nat.add_mul, Nat.one_mul]; exact r2), fun i h1 h2 => ?_, fun k' => ?_, by dsimp only; omega⟩, by dsimp only; omega⟩)
      · dsimp only
        rw [show (k + 1) * 20 = k * 20 + 20 by omega]
      · rw [r1.2.1 i (.inr (by dsimp only at h1; omega))]; exact F.rest i (by dsimp only at h1; omega) h2
      · refine (F.cut k').perm r1 hsz hle ?_
        omega
    · simp only [S.za1, zd5 hle]
      exact Ev.some (.inr ⟨by simp, k, d1, rfl, rfl, F, by omega⟩)
  clear A F0
  rintro ⟨_, _, g⟩ ⟨k, d1, rfl, rfl, F, hlt2⟩
  dsimp only at F
  show Ev (S.zan W (.exit 0) _ _) _
  rw [S.zjp]
  have hin := F.in_
  obtain ⟨⟨v, g1⟩, e1, rfl, A1⟩ := zou (c := c) (a := k * 20) (e := N) F.sw K hN (Nat.le_refl _) hin
  dsimp only at A1
  have hsz : N ≤ d1.size := by rw [F.sw.sz]; exact Nat.le_refl _
  obtain ⟨r1, r2⟩ := z00l hlt hin hsz (F.up (Nat.le_refl _))
  generalize Go.Sort.insertionSort lt d1 (k * 20) N = R at A1 r1 r2
  have S0 : Stg h0 b N lt 20 g1 R := ⟨A1, permIn_trans _ _ _ _ _ F.perm (permIn_mono _ _ _ _ 0 N (Nat.zero_le _) (Nat.le_refl _) hsz r1), F.done.last r1 r2 (by omega), fun k' => by
    refine (F.cut k').perm r1 hsz (Nat.le_refl _) ?_
    rcases Nat.lt_or_ge k k' with r | r
    · exact .inr (by omega)
    · exact .inl (by omega)⟩
  simp only [S.zdt, zh, e1, zd]
  clear e1 F r1 r2 A1
  refine z0j (α := Nat × Array Int) (fun q => S.z2q (.sl b 0 N c) (.int .i64 (N : Int)) (.fn f cs) (.int .i64 (q.1 : Int)))
    (fun q h => 0 < q.1 ∧ Stg h0 b N lt q.1 h q.2) (fun q _ => N - q.1)
    (fun z => ∃ B d', z.1 = .exit 2 ∧ z.2.1 = S.z9t ∧ Stg h0 b N lt B z.2.2 d' ∧ N ≤ B) (20, R) rfl ⟨Nat.succ_pos 19, S0⟩ ?_ ?_
  · clear S0
    rintro ⟨B, d2⟩ g ⟨hB0, T⟩
    dsimp only at hB0 T
    rw [S.zlw]
    by_cases hB : B < N
    · refine (z082 T K hlt hN hB0 hB).mono ?_
      rintro ⟨_, _, g2⟩ ⟨d3, rfl, rfl, S2⟩
      exact .inl ⟨(2 * B, d3), rfl, rfl, ⟨by dsimp only; omega, S2⟩, by dsimp only; omega⟩
    · simp only [S.z6d, z2n hB]
      exact Ev.some (.inr ⟨by simp, B, d2, rfl, rfl, T, Nat.le_of_not_lt hB⟩)
  rintro ⟨_, _, g2⟩ ⟨B, d2, rfl, rfl, T, hB⟩
  dsimp only at T
  show Ev (S.zai W (.exit 2) _ _) _
  rw [S.zj9]
  refine Ev.some ⟨d2, rfl, T.perm, fun p q _ h2 h3 => T.blk 0 p q trivial (by omega) h2 (by omega) h3, T.sw⟩
theorem zzi (A : Sw h0 b N h (idA N)) (K : Cmp h0 b N f cs lt) (hlt : SWO lt) (hN : N ≤ 1000) :
    Ev (C 335 [.sl b 0 N c, .fn f cs] h) fun z => ∃ R, z.1 = .tup [] ∧ PermIn 0 N (idA N) R ∧ SortedIn (ltS lt) 0 N R ∧ Sw h0 b N z.2 R := by
  refine z0i (af := F.z0y) (by kernel_rfl) rfl ?_
  rw [S.ziz]
  obtain ⟨⟨v, g⟩, e1, R, rfl, r1, r2, A2⟩ := z062 (c := c) A K hlt hN
  simp only [S.z0y, z3a, zd, zh, e1]
  exact Ev.some ⟨R, rfl, r1, r2, A2⟩
end
open Go.Sort (swp PermIn SortedIn Below SWO)
theorem z03v {g : H} {q n : Nat} {z vs : List V} (hq : g.get q = some (.cells z .rw)) (hz : z.length = n) (hv : vs.length = n) (h1 : vs.all V.one = true) : g.st n (.ptr q 0) (.agg vs) = some (g.put q (some (.cells vs .rw))) := by
  have e1 : Nat.beq (V.cells (.agg vs)).length n = true := by rw [z61, hv]; exact Nat.beq_refl n
  rw [z2u, e1]
  simp only [z61, hq, z4e, h1, hv, hz, Nat.zero_add, Nat.le_refl, decide_true, Bool.not_true, Bool.or_false, reduceCtorEq, decide_false, Option.map_some, z0e, List.take_zero, List.nil_append]
  rw [List.drop_of_length_le (by rw [hz]; exact Nat.le_refl _), List.append_nil]
theorem ztm {g : H} {q n : Nat} {vs : List V} {k : Bk} (hq : g.get q = some (.cells vs k)) (hv : vs.length = n) : g.ldN n (.ptr q 0) = some (.agg vs) := by
  rw [zp5 hq (by rw [hv]; omega), List.drop_zero, ← hv, List.take_length]
def opOf (l : List Evt) (i : Int) : Int := (l[i.toNat]?.map Evt.op).getD 0
def ltE (l : List Evt) (i j : Int) : Bool := decide (opOf l i < opOf l j)
theorem z0cs (l : List Evt) : SWO (ltE l) where
  irrefl x := decide_eq_false (Int.lt_irrefl _)
  trans x y z h1 h2 := decide_eq_true (Int.lt_trans (of_decide_eq_true h1) (of_decide_eq_true h2))
  ntrans x y z h1 h2 := decide_eq_false (by have := of_decide_eq_false h1; have := of_decide_eq_false h2; omega)
theorem z06n {g : H} {bx : Nat} {x0 : V} {l : List Evt} {k : Bk} (hb : g.get bx = some (.cells [x0] k)) (h1 : x0.one = true) (hx : RowE g.get x0 l) {i j : Nat} {x y : Evt} (hi : l[i]? = some x) (hj : l[j]? = some y) :
    C 333 [.int .i64 (i : Int), .int .i64 (j : Int), .ptr bx 0] g = some (.int .i64 (cmp3 x.op y.op), g) := by
  have e : Ev (C 333 [.int .i64 (i : Int), .int .i64 (j : Int), .ptr bx 0] g) fun r => r = (.int .i64 (cmp3 x.op y.op), g) := by
    refine z0i (af := F.zb9) (by kernel_rfl) rfl ?_
    rw [S.z00s]
    have l0 : g.ld1 (.ptr bx 0) = some x0 := z1i hb rfl h1
    obtain ⟨eb, i1, _, _, _, i2, _⟩ := hx.at hi
    obtain ⟨fb, j1, _, _, _, j2, _⟩ := hx.at hj
    simp only [S.zb9, l0, zd, i1, j1, zg, zb, i2, j2, zh, z054]
    exact Ev.some rfl
  obtain ⟨r, e, rfl⟩ := e
  exact e
theorem z097 {h0 : H} {b bx : Nat} {x0 : V} {l : List Evt} {k : Bk} (ok : h0.ok) (hb : h0.get bx = some (.cells [x0] k)) (h1 : x0.one = true) (hx : RowE h0.get x0 l) (n1 : bx ≠ b) (n2 : ∀ q ∈ x0.blk, q ≠ b) : Cmp h0 b l.length 333 [.ptr bx 0] (ltE l) := by
  intro h F i j i0 i1 j0 j1
  obtain ⟨i', rfl⟩ : ∃ n : Nat, i = (n : Int) := ⟨i.toNat, by omega⟩
  obtain ⟨j', rfl⟩ : ∃ n : Nat, j = (n : Int) := ⟨j.toNat, by omega⟩
  obtain ⟨x, hxi⟩ : ∃ x, l[i']? = some x := ⟨_, List.getElem?_eq_getElem (by omega)⟩
  obtain ⟨y, hyj⟩ : ∃ x, l[j']? = some x := ⟨_, List.getElem?_eq_getElem (by omega)⟩
  refine ⟨_, h, z06n (F.get ok hb (by simpa using n1)) h1 (hx.fr ok F (fun q hq => by simpa using n2 q hq)) hxi hyj, ?_, Fr.refl F.ok⟩
  rw [zr2]
  unfold ltE opOf
  rw [Int.toNat_natCast, Int.toNat_natCast, hxi, hyj]; rfl
def z8v (n k : Nat) : List V := (List.range n).map fun i => .int .i64 (if i < k then (i : Int) else 0)
theorem zho (n k : Nat) : (z8v n k).length = n := by unfold z8v; rw [List.length_map, List.length_range]
theorem zx0 {n k i : Nat} (hi : i < n) : (z8v n k)[i]? = some (.int .i64 (if i < k then (i : Int) else 0)) := by
  unfold z8v; rw [List.getElem?_map, List.getElem?_range hi]; rfl
theorem z02f {n k : Nat} (hk : k < n) : (z8v n k).set k (.int .i64 (k : Int)) = z8v n (k + 1) := by
  apply List.ext_getElem?
  intro i
  by_cases hi : i < n
  · rw [zx0 hi]
    by_cases hik : k = i
    · subst hik
      rw [List.getElem?_set_self (by rw [zho]; exact hk), if_pos (Nat.lt_succ_self k)]
    · rw [List.getElem?_set_ne hik, zx0 hi]
      by_cases h1 : i < k
      · rw [if_pos h1, if_pos (Nat.lt_succ_of_lt h1)]
      · rw [if_neg h1, if_neg (by omega)]
  · rw [List.getElem?_eq_none (by rw [List.length_set, zho]; omega), List.getElem?_eq_none (by rw [zho]; omega)]
theorem z021 (n : Nat) : z8v n n = ints (idA n) := by
  unfold z8v ints idA
  rw [List.map_map]
  apply List.map_congr_left
  intro i hi
  rw [if_pos (List.mem_range.mp hi)]; rfl
theorem z006 (n : Nat) : repl [V.int .i64 0] n = z8v n 0 := by
  apply List.ext_getElem?
  intro i
  have hl : ∀ n, (repl [V.int .i64 0] n) = List.replicate n (V.int .i64 0) := fun n => by
    induction n with
    | zero => rfl
    | succ n ih => simp only [repl, ih, List.replicate_succ, List.cons_append, List.nil_append]
  rw [hl]
  by_cases hi : i < n
  · rw [zx0 hi, List.getElem?_replicate, if_pos hi]; rfl
  · rw [List.getElem?_eq_none (by rw [List.length_replicate]; omega), List.getElem?_eq_none (by rw [zho]; omega)]
theorem z098 {h : H} {n : Nat} (hn : n ≤ 1000000) : h.mkSl 1 8 [(.int .i64 0)] (n : Int) (n : Int) = some (.sl h.next 0 n (.ex n), h.new (.cells (z8v n 0) .rw)) := by
  have h0 : (0 : Int) ≤ (n : Int) := Int.natCast_nonneg n
  have h1 : (n : Int) * ((8 : Nat) : Int) ≤ 140737488355328 := by omega
  have h2 : (n : Int) ≤ 9223372036854775807 := by omega
  rw [ztf (e := 1) (z := [.int .i64 0]) h0 (Int.le_refl _) h1 h2 rfl (by decide), Int.toNat_natCast, z006]
theorem hr_k {k : Nat} (h : k ≤ 9000) : wr .i64 ((k : Int) + 1) = ((k + 1 : Nat) : Int) := by rw [wr64 (by omega) (by omega)]; rfl
structure RtSt (h g : H) (x0 : V) (l : List Evt) (bx b mb : Nat) (d : Array Int) (m : List (Int × V)) : Prop where
  fr : Fr [] h g
  box : g.get bx = some (.cells [x0] .rw)
  arr : g.get b = some (.cells (ints d) .rw)
  map : g.get mb = some (.map (KV .i64 m))
  nmb : h.next ≤ mb
  n1 : mb ≠ bx
  n2 : mb ≠ b
theorem RtSt.fr' {h g g' : H} {x0 : V} {l : List Evt} {bx b mb : Nat} {d : Array Int} {m : List (Int × V)} (Z : RtSt h g x0 l bx b mb d m) (F : Fr [] g g') : RtSt h g' x0 l bx b mb d m :=
  ⟨Z.fr.trans F (by simp), F.get Z.fr.ok Z.box (by simp), F.get Z.fr.ok Z.arr (by simp), F.get Z.fr.ok Z.map (by simp), Z.nmb, Z.n1, Z.n2⟩
theorem RtSt.set {h g : H} {x0 : V} {l : List Evt} {bx b mb : Nat} {d : Array Int} {m : List (Int × V)} (Z : RtSt h g x0 l bx b mb d m) (m' : List (Int × V)) : RtSt h (g.put mb (some (.map (KV .i64 m')))) x0 l bx b mb d m' :=
  ⟨Z.fr.put (.inr Z.nmb) (Z.fr.ok.lt Z.map) _, by rw [z1e (Ne.symm Z.n1)]; exact Z.box, by rw [z1e (Ne.symm Z.n2)]; exact Z.arr, z0a _ _ _, Z.nmb, Z.n1, Z.n2⟩
def zE : List V := [(.int .i64 0), (.int .i64 0), (.int .i64 0), (.int .i64 0), (.int .i64 0), (.bool false), (.int .i64 0), (.int .i64 0), (.int .u64 0), (.int .u64 0), (.int .u64 0), (.int .i64 0), (.int .u64 0), (.bool false)]
theorem zzt {g : H} (ok : g.ok) {vs : List V} (hv : vs.length = 14) (h1 : vs.all V.one = true) : ∃ g', (g.new (.cells zE .rw)).st 14 (.ptr g.next 0) (.agg vs) = some g' ∧ Fr [] g g' ∧ g'.get g.next = some (.cells vs .rw) ∧ g'.next = g.next + 1 :=
  ⟨_, z03v (z := zE) (zp _ _) rfl hv h1, ((Fr.refl ok).new _).put (.inr (Nat.le_refl _)) (by rw [H.next_new]; exact Nat.lt_succ_self _) _, z0a _ _ _, by rw [H.next_put, H.next_new]⟩
theorem zth (x : Evt) : x.cs.all V.one = true := rfl
theorem z07h {h : H} (ok : h.ok) {x0 : V} {l : List Evt} (hx : RowE h.get x0 l) (h1 : x0.one = true) (hl : l.length ≤ 60) {bx b mb : Nat} {d : Array Int} {m : List (Int × V)} {g : H} (Z : RtSt h g x0 l bx b mb d m) (hd : d.size = l.length) (P : AllNums l.length d.toList) (hs : z01f l d.toList)
    {clients : Int} {k : Nat} (hk : k < l.length) (G : RightTo l clients d.toList k) (M : LastM l d.toList k m) {c : Cap} :
    Ev (S.zh1 W clients (.ptr bx 0) (.map mb) (.sl b 0 l.length c) (l.length : Nat) (k : Nat) g) fun r =>
      (r.1 = .ret ∧ r.2.1 = S.z1p (.bool false) ∧ Fr [] h r.2.2 ∧ ¬ RightTo l clients d.toList (k + 1)) ∨
      ∃ m', r.1 = .normal ∧ r.2.1 = S.z69 (.int .i64 clients) (.ptr bx 0) (.map mb) (.sl b 0 l.length c) (.int .i64 (l.length : Nat)) (.int .i64 (k + 1 : Nat)) ∧ RtSt h r.2.2 x0 l bx b mb d m' ∧ RightTo l clients d.toList (k + 1) ∧ LastM l d.toList (k + 1) m' := by
  have hdk : decide ((k : Int) < (l.length : Int)) = true := decide_eq_true (by omega)
  have wk := hr_k (k := k) (by omega)
  obtain ⟨i, hi, hoi⟩ := P.at hk
  obtain ⟨x, hxi⟩ : ∃ x, l[i]? = some x := ⟨_, List.getElem?_eq_getElem hi⟩
  have hat : AtO l d.toList k x := ⟨i, hoi, hxi⟩
  have hdi : d[k]! = (i : Int) := by
    rw [zmw (by rw [hd]; exact hk)] at hoi; exact Option.some.inj hoi
  have i0 := zu (b := b) (c := c) hk
  have l0 : ldB (g.get b) k = some (.int .i64 (i : Int)) := by
    rw [Z.arr, zf, z05j (by rw [hd]; exact hk), hdi]; rfl
  have l1 : g.ld1 (.ptr bx 0) = some x0 := z1i Z.box rfl h1
  obtain ⟨eb, i1, l2, _⟩ := (hx.fr ok Z.fr (by simp)).at hxi
  obtain ⟨g6, s6, F6, c6, n6⟩ := zzt Z.fr.ok (vs := x.cs) rfl (zth x)
  have Z6 := Z.fr' F6
  have bad : ∀ {g' : H}, Fr [] h g' → ¬ RightTo l clients d.toList (k + 1) → Ev (some (AX.ret, S.z1p (.bool false), g')) fun r =>
      (r.1 = .ret ∧ r.2.1 = S.z1p (.bool false) ∧ Fr [] h r.2.2 ∧ ¬ RightTo l clients d.toList (k + 1)) ∨
      ∃ m', r.1 = .normal ∧ r.2.1 = S.z69 (.int .i64 clients) (.ptr bx 0) (.map mb) (.sl b 0 l.length c) (.int .i64 (l.length : Nat)) (.int .i64 (k + 1 : Nat)) ∧ RtSt h r.2.2 x0 l bx b mb d m' ∧ RightTo l clients d.toList (k + 1) ∧ LastM l d.toList (k + 1) m' :=
    fun F hb => Ev.some (.inl ⟨rfl, rfl, F, hb⟩)
  have s6' : (g.new (.cells [(.int .i64 0), (.int .i64 0), (.int .i64 0), (.int .i64 0), (.int .i64 0), (.bool false), (.int .i64 0), (.int .i64 0), (.int .u64 0), (.int .u64 0), (.int .u64 0), (.int .i64 0), (.int .u64 0), (.bool false)] .rw)).st 14 (.ptr g.next 0) (.agg x.cs) = some g6 := s6
  have q0 : g6.ld1 (.ptr g.next 0) = some (.int .i64 x.client) := z1i c6 rfl rfl
  have q1 : g6.ld1 (.ptr g.next 1) = some (.int .i64 x.op) := z1i c6 rfl rfl
  have q2 : g6.ld1 (.ptr g.next 2) = some (.int .i64 x.begun) := z1i c6 rfl rfl
  have q3 : g6.ld1 (.ptr g.next 3) = some (.int .i64 x.point) := z1i c6 rfl rfl
  have q4 : g6.ld1 (.ptr g.next 4) = some (.int .i64 x.ended) := z1i c6 rfl rfl
  have l0' : g.ld1 (.ptr b k) = some (.int .i64 (i : Int)) := by rw [zb]; exact l0
  have l2' : g.ldN 14 (.ptr eb (i * 14)) = some (.agg x.cs) := by rw [z14]; exact l2
  simp only [S.zh1, hdk, i0, zd, l0', l1, i1, l2', s6', q0, q2, q3, q4, ze]
  by_cases b1 : x.client < 0
  · simp only [decide_eq_true b1]
    exact bad Z6.fr fun G => by have := (G.1 k x (Nat.lt_succ_self k) hat).c0; omega
  simp only [decide_eq_false b1]
  by_cases b2 : clients ≤ x.client
  · simp only [decide_eq_true b2]
    exact bad Z6.fr fun G => by have := (G.1 k x (Nat.lt_succ_self k) hat).c1; omega
  simp only [decide_eq_false b2]
  by_cases b3 : x.point < x.begun
  · simp only [decide_eq_true b3]
    exact bad Z6.fr fun G => by have := (G.1 k x (Nat.lt_succ_self k) hat).p0; omega
  simp only [decide_eq_false b3]
  by_cases b4 : x.ended < x.point
  · simp only [decide_eq_true b4]
    exact bad Z6.fr fun G => by have := (G.1 k x (Nat.lt_succ_self k) hat).p1; omega
  simp only [decide_eq_false b4]
  have bd : x.bd clients := ⟨by omega, by omega, by omega, by omega⟩
  have lk := z0cf Z6.map (.agg [(.int .i64 0), (.int .i64 0), (.int .i64 0), (.int .i64 0), (.int .i64 0), (.bool false), (.int .i64 0), (.int .i64 0), (.int .u64 0), (.int .u64 0), (.int .u64 0), (.int .i64 0), (.int .u64 0), (.bool false)]) x.client
  have hm := M x.client
  cases hf : ziw m x.client with
  | none =>
    rw [hf] at hm lk
    dsimp only at lk
    obtain ⟨g7, s7, F7, c7, n7⟩ := zzt Z6.fr.ok (vs := zE) rfl rfl
    have s7' : (g6.new (.cells [(.int .i64 0), (.int .i64 0), (.int .i64 0), (.int .i64 0), (.int .i64 0), (.bool false), (.int .i64 0), (.int .i64 0), (.int .u64 0), (.int .u64 0), (.int .u64 0), (.int .i64 0), (.int .u64 0), (.bool false)] .rw)).st 14 (.ptr g6.next 0) (.agg [(.int .i64 0), (.int .i64 0), (.int .i64 0), (.int .i64 0), (.int .i64 0), (.bool false), (.int .i64 0), (.int .i64 0), (.int .u64 0), (.int .u64 0), (.int .u64 0), (.int .i64 0), (.int .u64 0), (.bool false)]) = some g7 := s7
    have Z7 := Z6.fr' F7
    have c6' := F7.get Z6.fr.ok c6 (by simp)
    have q5 : g7.ld1 (.ptr g.next 0) = some (.int .i64 x.client) := z1i c6' rfl rfl
    have q6 := ztm (n := 14) c6' rfl
    have ms := z02h Z7.map x.client (.agg x.cs)
    simp only [lk, zd, List.getElem?_cons_zero, List.getElem?_cons_succ, s7', q5, q6, ms, wk]
    refine Ev.some (.inr ⟨_, rfl, rfl, Z7.set _, G.step hat bd (fun a y ha hy hc _ => absurd hc (hm a y ha hy)) ?_, M.step hat⟩)
    rintro ⟨a, y, ha, hy, hc⟩
    exact absurd hc (hm a y ha hy)
  | some v =>
    rw [hf] at hm lk
    obtain ⟨a, y, ha, hy, hc, rfl, hlast⟩ := hm
    dsimp only at lk
    obtain ⟨g7, s7, F7, c7, n7⟩ := zzt Z6.fr.ok (vs := y.cs) rfl (zth y)
    have s7' : (g6.new (.cells [(.int .i64 0), (.int .i64 0), (.int .i64 0), (.int .i64 0), (.int .i64 0), (.bool false), (.int .i64 0), (.int .i64 0), (.int .u64 0), (.int .u64 0), (.int .u64 0), (.int .i64 0), (.int .u64 0), (.bool false)] .rw)).st 14 (.ptr g6.next 0) (.agg y.cs) = some g7 := s7
    have Z7 := Z6.fr' F7
    have c6' := F7.get Z6.fr.ok c6 (by simp)
    have q5 : g7.ld1 (.ptr g.next 0) = some (.int .i64 x.client) := z1i c6' rfl rfl
    have q6 := ztm (n := 14) c6' rfl
    have q7 : g7.ld1 (.ptr g6.next 1) = some (.int .i64 y.op) := z1i c7 rfl rfl
    have q8 : g7.ld1 (.ptr g.next 1) = some (.int .i64 x.op) := z1i c6' rfl rfl
    have q9 := ztm (n := 14) c7 rfl
    have ah := zzd y x g7
    have ms := z02h Z7.map x.client (.agg x.cs)
    have hsort := hs a k y x ha hy hat
    by_cases e1 : y.op = x.op
    · simp only [lk, zd, List.getElem?_cons_zero, List.getElem?_cons_succ, s7', q7, q8, ze, decide_eq_true e1]
      exact bad Z7.fr fun G => by have := (G.2 a k y x ha (Nat.lt_succ_self k) hy hat hc).1; omega
    by_cases e2 : y.ended < x.begun
    · rw [decide_eq_true e2] at ah
      simp only [lk, zd, List.getElem?_cons_zero, List.getElem?_cons_succ, s7', q7, q8, ze, decide_eq_false e1, q9, q6, zh, ah, z04, Bool.not_true, q5, ms, wk]
      refine Ev.some (.inr ⟨_, rfl, rfl, Z7.set _, G.step hat bd (fun a2 y2 h2 hy2 hc2 hl2 => ?_) (fun _ => ⟨a, y, ha, hy, hc, hlast⟩), M.step hat⟩)
      have z1 := hl2 a y ha hy hc
      have z2 := hlast a2 y2 h2 hy2 hc2
      have : a = a2 := Nat.le_antisymm z1 z2
      subst this
      rw [AtO.same hy2 hy]
      exact ⟨by omega, e2⟩
    · rw [decide_eq_false e2] at ah
      simp only [lk, zd, List.getElem?_cons_zero, List.getElem?_cons_succ, s7', q7, q8, ze, decide_eq_false e1, q9, q6, zh, ah, z04, Bool.not_false]
      exact bad Z7.fr fun G => e2 (G.2 a k y x ha (Nat.lt_succ_self k) hy hat hc).2
theorem z03y {g : Nat → Option Blk} {x : V} {l : List Evt} (h : RowE g x l) : x.one = true := by
  obtain ⟨rfl, _⟩ | ⟨b, c, k, rfl, _⟩ := h <;> rfl
theorem z04t {g : Nat → Option Blk} {x : V} {l : List Evt} (h : RowE g x l) : boxc x = some [x] := by
  obtain ⟨rfl, _⟩ | ⟨b, c, k, rfl, _⟩ := h <;> rfl
theorem z08b {l : List Evt} {d : Array Int} (hd : d.size = l.length) (hs : SortedIn (ltE l) 0 l.length d) : z01f l d.toList := by
  rintro a b x y hab ⟨i, hi, hxi⟩ ⟨j, hj, hyj⟩ hlt
  have hb := z01 hj
  rw [Array.length_toList, hd] at hb
  have h1 := hs a b (Nat.zero_le _) hab hb
  rw [zmw (by rw [hd]; omega)] at hi
  rw [zmw (by rw [hd]; exact hb)] at hj
  rw [Option.some.inj hi, Option.some.inj hj] at h1
  have h2 := of_decide_eq_false h1
  unfold opOf at h2
  rw [Int.toNat_natCast, Int.toNat_natCast, hxi, hyj] at h2
  exact h2 hlt
theorem z086 {h : H} (ok : h.ok) {x0 : V} {l : List Evt} (hx : RowE h.get x0 l) (hl : l.length ≤ 60) (clients : Int) :
    Ev (C 178 [x0, .int .i64 clients] h) fun r => ∃ v, r.1 = .bool v ∧ (v = true ↔ ztc l clients) ∧ Fr [] h r.2 := by
  refine z0i (af := F.z79) (by kernel_rfl) rfl ?_
  rw [S.z031]
  have bx := z04t hx
  have h1 := z03y hx
  have hxl := hx.len
  have F0 : Fr [] h ((h.new (.cells [x0] .rw)).new (.map [])) := ((Fr.refl ok).new _).new _
  have g1 : ((h.new (.cells [x0] .rw)).new (.map [])).get h.next = some (.cells [x0] .rw) := by
    rw [zb7 (by rw [H.next_new]; omega)]; exact zp _ _
  have l1 : ((h.new (.cells [x0] .rw)).new (.map [])).ld1 (.ptr h.next 0) = some x0 := z1i g1 rfl h1
  have m1 : ((h.new (.cells [x0] .rw)).new (.map [])).get (h.next + 1) = some (.map (KV .i64 [])) := zp _ _
  have n1 : ((h.new (.cells [x0] .rw)).new (.map [])).next = h.next + 2 := rfl
  have nn : (h.new (.cells [x0] .rw)).next = h.next + 1 := rfl
  have mk := z098 (h := (h.new (.cells [x0] .rw)).new (.map [])) (n := l.length) (Nat.le_trans hl (by decide))
  rw [n1] at mk
  simp only [S.z79, bx, zd, l1, hxl, mk, z3a, nn]
  have F1 := F0.new (.cells (z8v l.length 0) .rw)
  have g2 := F1
  generalize hgg : ((h.new (.cells [x0] .rw)).new (.map [])).new (.cells (z8v l.length 0) .rw) = g at F1
  have b1 : g.get h.next = some (.cells [x0] .rw) := by rw [← hgg, zb7 (by rw [n1]; omega)]; exact g1
  have b2 : g.get (h.next + 1) = some (.map (KV .i64 [])) := by rw [← hgg, zb7 (by rw [n1]; omega)]; exact m1
  have b3 : g.get (h.next + 2) = some (.cells (z8v l.length 0) .rw) := by rw [← hgg, ← n1]; exact zp _ _
  clear hgg mk l1 m1 g1 n1 nn F0 g2
  refine z0j (α := Nat) (fun k => S.zh4 (.int .i64 clients) (.ptr h.next 0) (.map (h.next + 1)) (.sl (h.next + 2) 0 l.length (.ex l.length)) (.int .i64 (l.length : Nat)) (.int .i64 (k : Nat)))
    (fun k g => k ≤ l.length ∧ Fr [] h g ∧ g.get h.next = some (.cells [x0] .rw) ∧ g.get (h.next + 1) = some (.map (KV .i64 [])) ∧ g.get (h.next + 2) = some (.cells (z8v l.length k) .rw)) (fun k _ => l.length - k)
    (fun r => r.1 = .exit 0 ∧ r.2.1 = S.zn2 (.int .i64 clients) (.ptr h.next 0) (.map (h.next + 1)) (.sl (h.next + 2) 0 l.length (.ex l.length)) ∧ Fr [] h r.2.2 ∧ r.2.2.get h.next = some (.cells [x0] .rw) ∧ r.2.2.get (h.next + 1) = some (.map (KV .i64 [])) ∧ r.2.2.get (h.next + 2) = some (.cells (ints (idA l.length)) .rw))
    0 rfl ⟨Nat.zero_le _, F1, b1, b2, b3⟩ ?_ ?_
  · clear b1 b2 b3 F1
    rintro k g ⟨hk, F, b1, b2, b3⟩
    rw [S.zyz]
    by_cases hkl : k < l.length
    · have hd : decide ((k : Int) < (l.length : Int)) = true := decide_eq_true (by omega)
      have wk := hr_k (k := k) (by omega)
      have i0 := zu (b := h.next + 2) (c := .ex l.length) hkl
      have s0 := zl9 b3 (by simp) (zm .i64 (k : Int)) (by rw [zho]; exact hkl)
      rw [z02f hkl] at s0
      simp only [S.znj, hd, i0, zd, s0, wk]
      exact Ev.some (.inl ⟨k + 1, rfl, rfl, ⟨hkl, F.put (.inr (by omega)) (F.ok.lt b3) _, by rw [z1e (by omega)]; exact b1, by rw [z1e (by omega)]; exact b2, z0a _ _ _⟩, Nat.sub_lt_sub_left hkl (Nat.lt_succ_self k)⟩)
    · have hke : k = l.length := Nat.le_antisymm hk (Nat.le_of_not_lt hkl)
      have hd : decide ((k : Int) < (l.length : Int)) = false := decide_eq_false (by omega)
      simp only [S.znj, hd]
      rw [hke, z021] at b3
      exact Ev.some (.inr ⟨by simp, rfl, rfl, F, b1, b2, b3⟩)
  clear b1 b2 b3 F1
  rintro ⟨_, _, g⟩ ⟨rfl, rfl, F, b1, b2, b3⟩
  dsimp only at F b1 b2 b3
  show Ev (S.zqa W (.exit 0) _ _) _
  rw [S.zw1]
  have A0 : Sw g (h.next + 2) l.length g (idA l.length) := ⟨Fr.refl F.ok, b3, zu0 _, fun i hi => by rw [ztq hi]; omega⟩
  have hxg := hx.fr ok F (by simp)
  have K : Cmp g (h.next + 2) l.length 333 [.ptr h.next 0] (ltE l) := z097 F.ok b1 h1 hxg (by omega) (fun q hq => by have := hx.lt ok q hq; omega)
  obtain ⟨⟨v, g2⟩, e2, R, rfl, r1, r2, A2⟩ := z02r (c := .ex l.length) A0 K (z0cs l) (by omega)
  dsimp only at A2
  simp only [S.zqy, zh, e2, zd, z3a]
  have P := AllNums.of A2.sz r1
  have hs := z08b A2.sz r2
  have hiff := z06o (clients := clients) P hs
  have F2 : Fr [] h g2 := F.trans A2.fr (fun q hq => by rw [List.mem_singleton] at hq; exact .inr (by omega))
  have Z0 : RtSt h g2 x0 l h.next (h.next + 2) (h.next + 1) R [] := ⟨F2, A2.fr.get F.ok b1 (by simp), A2.at_, A2.fr.get F.ok b2 (by simp), by omega, by omega, by omega⟩
  refine z0j (α := Nat × List (Int × V)) (fun z => S.z69 (.int .i64 clients) (.ptr h.next 0) (.map (h.next + 1)) (.sl (h.next + 2) 0 l.length (.ex l.length)) (.int .i64 (l.length : Nat)) (.int .i64 (z.1 : Nat)))
    (fun z g => z.1 ≤ l.length ∧ RtSt h g x0 l h.next (h.next + 2) (h.next + 1) R z.2 ∧ RightTo l clients R.toList z.1 ∧ LastM l R.toList z.1 z.2) (fun z _ => l.length - z.1)
    (fun r => Fr [] h r.2.2 ∧ ((r.1 = .ret ∧ r.2.1 = S.z1p (.bool false) ∧ ¬ ztc l clients) ∨ (r.1 = .exit 2 ∧ r.2.1 = S.z1p .dead ∧ ztc l clients)))
    (0, []) rfl ⟨Nat.zero_le _, Z0, ⟨fun a y ha => absurd ha (Nat.not_lt_zero a), fun a b x y _ hb => absurd hb (Nat.not_lt_zero b)⟩, LastM.zero _ _⟩ ?_ ?_
  · rintro ⟨k, m⟩ g ⟨hk, Z, G, M⟩
    dsimp only at hk Z G M ⊢
    rw [S.zyk]
    by_cases hkl : k < l.length
    · refine (z07h ok hx h1 hl Z A2.sz P hs hkl G M).mono ?_
      rintro ⟨_, _, g'⟩ (⟨rfl, rfl, F, hb⟩ | ⟨m', rfl, rfl, Z', G', M'⟩)
      · refine .inr ⟨by simp, F, .inl ⟨rfl, rfl, fun hr => hb ?_⟩⟩
        have := hiff.mpr hr
        exact ⟨fun a y ha => this.1 a y (by omega), fun a b x y hab hb' => this.2 a b x y hab (by omega)⟩
      · exact .inl ⟨(k + 1, m'), rfl, rfl, ⟨hkl, Z', G', M'⟩, Nat.sub_lt_sub_left hkl (Nat.lt_succ_self k)⟩
    · have hke : k = l.length := Nat.le_antisymm hk (Nat.le_of_not_lt hkl)
      have hd : decide ((k : Int) < (l.length : Int)) = false := decide_eq_false (by omega)
      simp only [S.zh1, hd]
      exact Ev.some (.inr ⟨by simp, Z.fr, .inr ⟨rfl, rfl, hiff.mp (hke ▸ G)⟩⟩)
  rintro ⟨_, _, g⟩ ⟨F, (⟨rfl, rfl, hb⟩ | ⟨rfl, rfl, hb⟩)⟩
  · show Ev (S.zgd W .ret _ g) _
    rw [S.zx1]
    exact Ev.some ⟨false, rfl, ⟨fun h => (absurd h (by decide)), fun h => absurd h hb⟩, F⟩
  · show Ev (S.zgd W (.exit 2) _ g) _
    rw [S.zw8]
    exact Ev.some ⟨true, rfl, ⟨fun _ => hb, fun _ => rfl⟩, F⟩
def bI (b : Bool) : Int := if b then 1 else 0
def orI (a b c d : Int) : Int := if a ≠ 0 then a else if b ≠ 0 then b else if c ≠ 0 then c else d
def ordI (x y : Evt) : Int := orI (cmp3 x.point y.point) (cmp3 (bI x.behind) (bI y.behind)) (cmp3 x.client y.client) (cmp3 x.op y.op)
def zxv (x y : Evt) : Bool :=
  if x.point = y.point then if x.behind = y.behind then if x.client = y.client then decide (x.op < y.op) else decide (x.client < y.client) else y.behind else decide (x.point < y.point)
theorem zl5 {a b : Int} : cmp3 a b = 0 ↔ a = b := by
  unfold cmp3
  by_cases h1 : a < b
  · simp [h1]; omega
  · by_cases h2 : b < a
    · simp [h1, h2]; omega
    · simp [h1, h2]; omega
theorem z0bk (x y : Evt) : decide (ordI x y < 0) = zxv x y := by
  unfold ordI orI zxv
  by_cases h1 : x.point = y.point
  · rw [if_neg (by rw [zl5.mpr h1]; simp), if_pos h1]
    by_cases h2 : x.behind = y.behind
    · rw [if_neg (by rw [h2, zl5.mpr rfl]; simp), if_pos h2]
      by_cases h3 : x.client = y.client
      · rw [if_neg (by rw [zl5.mpr h3]; simp), if_pos h3, zr2]
      · rw [if_pos (fun e => h3 (zl5.mp e)), if_neg h3, zr2]
    · have : bI x.behind ≠ bI y.behind := by
        cases hx : x.behind <;> cases hy : y.behind <;> simp_all [bI]
      rw [if_pos (fun e => this (zl5.mp e)), if_neg h2, zr2]
      cases hx : x.behind <;> cases hy : y.behind <;> simp_all [bI]
  · rw [if_pos (fun e => h1 (zl5.mp e)), if_neg h1, zr2]
theorem z06e (e : Evt) (h : H) : C 338 [.agg e.cs] h = some (.int .i64 (bI e.behind), h) := by
  refine zb6 (af := F.zb5) (by kernel_rfl) rfl (by rfl) (by rfl) h ?_
  unfold Evt.cs
  rw [S.z01h]
  have h0 : H.empty.next = 0 := rfl
  cases e.behind with
  | true =>
    simp only [S.zb5, Option.bind_some, zb, z8e, zf, List.getElem?_cons_zero, List.getElem?_cons_succ, V.one, z04, if_true, h0]
    exact Ev.some rfl
  | false =>
    simp only [S.zb5, Option.bind_some, zb, z8e, zf, List.getElem?_cons_zero, List.getElem?_cons_succ, V.one, z04, if_true, h0]
    exact Ev.some rfl
theorem z0cx {g : H} {q : Nat} {a b c d : Int} (hq : g.get q = some (.cells [.int .i64 a, .int .i64 b, .int .i64 c, .int .i64 d] .rw)) :
    C 337 [.sl q 0 4 (.ex 4)] g = some (.int .i64 (orI a b c d), g) := by
  have e : Ev (C 337 [.sl q 0 4 (.ex 4)] g) fun r => r = (.int .i64 (orI a b c d), g) := by
    refine z0i (af := F.z7k) (by kernel_rfl) rfl ?_
    rw [S.z01a]
    simp only [S.z7k, z3a, zd]
    have at' : ∀ k : Nat, k < 4 → ∃ v, [a, b, c, d][k]? = some v ∧ ldB (g.get q) k = some (.int .i64 v) := fun k hk => by
      refine ⟨[a, b, c, d][k], List.getElem?_eq_getElem hk, ?_⟩
      rw [hq, zf]
      have : [V.int .i64 a, .int .i64 b, .int .i64 c, .int .i64 d] = [a, b, c, d].map (.int .i64) := rfl
      rw [this, List.getElem?_map, List.getElem?_eq_getElem hk]; rfl
    refine z0j (α := Nat) (fun k => S.zga (.int .i64 0) (.sl q 0 4 (.ex 4)) (.int .i64 ((4 : Nat) : Int)) (.int .i64 (k : Int)))
      (fun k g' => k ≤ 4 ∧ g' = g ∧ ∀ i v, i < k → [a, b, c, d][i]? = some v → v = 0) (fun k _ => 4 - k)
      (fun r => r.2.2 = g ∧ ((r.1 = .ret ∧ r.2.1 = S.zao (.int .i64 (orI a b c d)) (.int .i64 0)) ∨ (r.1 = .exit 0 ∧ r.2.1 = S.zao .dead (.int .i64 0) ∧ orI a b c d = 0))) 0 rfl ⟨Nat.zero_le _, rfl, fun i v hi => absurd hi (Nat.not_lt_zero i)⟩ ?_ ?_
    · rintro k g' ⟨hk, rfl, hz⟩
      rw [S.zy8]
      by_cases hk4 : k < 4
      · have d0 : decide ((k : Int) < ((4 : Nat) : Int)) = true := decide_eq_true (by omega)
        have i0 := zu (b := q) (c := .ex 4) hk4
        obtain ⟨v, hv, l0⟩ := at' k hk4
        have wk := hr_k (k := k) (by omega)
        by_cases hv0 : v = 0
        · have d1 : decide (v = 0) = true := decide_eq_true hv0
          simp only [S.zg9, d0, i0, zd, zb, l0, ze, d1, Bool.not_true, wk]
          refine Ev.some (.inl ⟨k + 1, rfl, rfl, ⟨hk4, rfl, fun i w hi hw => ?_⟩, by omega⟩)
          rcases Nat.lt_succ_iff_lt_or_eq.mp hi with r | r
          · exact hz i w r hw
          · subst r; rw [hv] at hw; cases hw; exact hv0
        · have d1 : decide (v = 0) = false := decide_eq_false hv0
          simp only [S.zg9, d0, i0, zd, zb, l0, ze, d1, Bool.not_false]
          refine Ev.some (.inr ⟨by simp, rfl, .inl ⟨rfl, ?_⟩⟩)
          congr 2
          unfold orI
          have z : ∀ i w, i < k → [a, b, c, d][i]? = some w → w = 0 := hz
          match k, hk4, hv, z with
          | 0, _, hv, z => cases hv; rw [if_pos hv0]
          | 1, _, hv, z => cases hv; rw [if_neg (not_not_intro (z 0 a (by decide) rfl)), if_pos hv0]
          | 2, _, hv, z => cases hv; rw [if_neg (not_not_intro (z 0 a (by decide) rfl)), if_neg (not_not_intro (z 1 b (by decide) rfl)), if_pos hv0]
          | 3, _, hv, z => cases hv; rw [if_neg (not_not_intro (z 0 a (by decide) rfl)), if_neg (not_not_intro (z 1 b (by decide) rfl)), if_neg (not_not_intro (z 2 c (by decide) rfl))]
      · have d0 : decide ((k : Int) < ((4 : Nat) : Int)) = false := decide_eq_false (by omega)
        simp only [S.zg9, d0]
        refine Ev.some (.inr ⟨by simp, rfl, .inr ⟨rfl, rfl, ?_⟩⟩)
        unfold orI
        rw [if_neg (not_not_intro (hz 0 a (by omega) rfl)), if_neg (not_not_intro (hz 1 b (by omega) rfl)), if_neg (not_not_intro (hz 2 c (by omega) rfl)), hz 3 d (by omega) rfl]
    rintro ⟨_, _, g'⟩ ⟨rfl, (⟨rfl, rfl⟩ | ⟨rfl, rfl, hz⟩)⟩
    · show Ev (S.zfr W .ret _ _) _
      rw [S.zwd]
      exact Ev.some rfl
    · show Ev (S.zfr W (.exit 0) _ _) _
      rw [S.zu2, hz]
      exact Ev.some rfl
  obtain ⟨r, e, rfl⟩ := e
  exact e
theorem z0e4 (k : Go.IntKind) (n : Int) : ckB (some (.int k n)) (.int k n) = true := by simp [ckB, V.beq]
theorem z0dy (e : Evt) : ckB (some (.agg e.cs)) (.agg e.cs) = true := by unfold Evt.cs; simp [ckB, V.beq, V.beqs]
theorem z0ez (b o n : Nat) (c : Cap) : ckB (some (.sl b o n c)) (.sl b o n c) = true := by simp [ckB, V.beq]
theorem z0eu (a b c d : Int) : fill (repl [(.int .i64 0)] 4) [] [(0, 1, .c (.int .i64 a)), (1, 1, .c (.int .i64 b)), (2, 1, .c (.int .i64 c)), (3, 1, .c (.int .i64 d))] = some [.int .i64 a, .int .i64 b, .int .i64 c, .int .i64 d] := rfl
theorem z05y {g : H} (ok : g.ok) {bx : Nat} {x0 : V} {l : List Evt} (hb : g.get bx = some (.cells [x0] .rw)) (h1 : x0.one = true) (hx : RowE g.get x0 l) {i j : Nat} {x y : Evt} (hi : l[i]? = some x) (hj : l[j]? = some y) :
    Ev (C 336 [.int .i64 (i : Int), .int .i64 (j : Int), .ptr bx 0] g) fun r => r.1 = .int .i64 (ordI x y) ∧ Fr [] g r.2 := by
  refine z0i (af := F.zba) (by kernel_rfl) rfl ?_
  rw [S.z00b]
  have l0 : g.ld1 (.ptr bx 0) = some x0 := z1i hb rfl h1
  obtain ⟨eb, i1, i2, _⟩ := hx.at hi
  obtain ⟨fb, j1, j2, _⟩ := hx.at hj
  have i2' : g.ldN 14 (.ptr eb (i * 14)) = some (.agg x.cs) := by rw [z14]; exact i2
  have j2' : g.ldN 14 (.ptr fb (j * 14)) = some (.agg y.cs) := by rw [z14]; exact j2
  obtain ⟨g7, hg7⟩ : ∃ g7, g7 = (g.new (.cells zE .rw)).new (.cells zE .rw) := ⟨_, rfl⟩
  have n6 : (g.new (.cells zE .rw)).next = g.next + 1 := rfl
  have F7 : Fr [] g g7 := by rw [hg7]; exact ((Fr.refl ok).new _).new _
  have a7 : g7.get g.next = some (.cells zE .rw) := by rw [hg7, zb7 (by rw [n6]; omega)]; exact zp _ _
  have b7 : g7.get (g.next + 1) = some (.cells zE .rw) := by rw [hg7]; exact zp _ _
  have s8 := z03v (n := 14) (vs := x.cs) a7 rfl rfl (zth x)
  obtain ⟨g8, hg8⟩ : ∃ g8, g8 = g7.put g.next (some (.cells x.cs .rw)) := ⟨_, rfl⟩
  rw [← hg8] at s8
  have F8 : Fr [] g g8 := by rw [hg8]; exact F7.put (.inr (Nat.le_refl _)) (F7.ok.lt a7) _
  have b8 : g8.get (g.next + 1) = some (.cells zE .rw) := by rw [hg8, z1e (by omega)]; exact b7
  have a8 : g8.get g.next = some (.cells x.cs .rw) := by rw [hg8]; exact z0a _ _ _
  have s9 := z03v (n := 14) (vs := y.cs) b8 rfl rfl (zth y)
  obtain ⟨g9, hg9⟩ : ∃ g9, g9 = g8.put (g.next + 1) (some (.cells y.cs .rw)) := ⟨_, rfl⟩
  rw [← hg9] at s9
  have F9 : Fr [] g g9 := by rw [hg9]; exact F8.put (.inr (by omega)) (F8.ok.lt b8) _
  have b9 : g9.get (g.next + 1) = some (.cells y.cs .rw) := by rw [hg9]; exact z0a _ _ _
  have a9 : g9.get g.next = some (.cells x.cs .rw) := by rw [hg9, z1e (by omega)]; exact a8
  clear hg9 hg8 a8 b8 a7 b7
  have l8 : g8.ld1 (.ptr bx 0) = some x0 := z1i (F8.get ok hb (by simp)) rfl h1
  obtain ⟨fb', k1, k2, _⟩ := (hx.fr ok F8 (by simp)).at hj
  rw [j1] at k1; cases k1
  have k2' : g8.ldN 14 (.ptr fb (j * 14)) = some (.agg y.cs) := by rw [z14]; exact k2
  have kx : ckB (some x0) x0 = true := by
    obtain ⟨rfl, _⟩ | ⟨b, c, k, rfl, _⟩ := hx
    · rfl
    · exact z0ez _ _ _ _
  have x0' : g9.ld1 (.ptr g.next 0) = some (.int .i64 x.client) := z1i a9 rfl rfl
  have x1' : g9.ld1 (.ptr g.next 1) = some (.int .i64 x.op) := z1i a9 rfl rfl
  have x3' : g9.ld1 (.ptr g.next 3) = some (.int .i64 x.point) := z1i a9 rfl rfl
  have y0' : g9.ld1 (.ptr (g.next + 1) 0) = some (.int .i64 y.client) := z1i b9 rfl rfl
  have y1' : g9.ld1 (.ptr (g.next + 1) 1) = some (.int .i64 y.op) := z1i b9 rfl rfl
  have y3' : g9.ld1 (.ptr (g.next + 1) 3) = some (.int .i64 y.point) := z1i b9 rfl rfl
  have xa := ztm (n := 14) a9 rfl
  have ya := ztm (n := 14) b9 rfl
  have e1 := fun a b => z054 a b g9
  have e2 := fun e => z06e e g9
  have e3 := fun a b c d => z0cx (g := g9.new (.cells [.int .i64 a, .int .i64 b, .int .i64 c, .int .i64 d] .rw)) (q := g9.next) (a := a) (b := b) (c := c) (d := d) (zp _ _)
  have hz : (g.new (.cells [(.int .i64 0), (.int .i64 0), (.int .i64 0), (.int .i64 0), (.int .i64 0), (.bool false), (.int .i64 0), (.int .i64 0), (.int .u64 0), (.int .u64 0), (.int .u64 0), (.int .i64 0), (.int .u64 0), (.bool false)] .rw)).new (.cells [(.int .i64 0), (.int .i64 0), (.int .i64 0), (.int .i64 0), (.int .i64 0), (.bool false), (.int .i64 0), (.int .i64 0), (.int .u64 0), (.int .u64 0), (.int .u64 0), (.int .i64 0), (.int .u64 0), (.bool false)] .rw) = g7 := hg7.symm
  have hn : (g.new (.cells [(.int .i64 0), (.int .i64 0), (.int .i64 0), (.int .i64 0), (.int .i64 0), (.bool false), (.int .i64 0), (.int .i64 0), (.int .u64 0), (.int .u64 0), (.int .u64 0), (.int .i64 0), (.int .u64 0), (.bool false)] .rw)).next = g.next + 1 := n6
  simp only [S.zba, l0, zd, i1, i2', j1, j2', hz, hn, s8, k2', z0dy, l8, kx, s9, x0', x1', x3', y0', y1', y3', xa, ya, zh, e1, z0e4, e2, z0eu, e3]
  exact Ev.some ⟨rfl, F9.new _⟩
open Go.Sort (swp PermIn SortedIn SWO)
theorem z02a (x y : Evt) : zxv x y = true ↔ x.point < y.point ∨ (x.point = y.point ∧ (bI x.behind < bI y.behind ∨ (bI x.behind = bI y.behind ∧ (x.client < y.client ∨ (x.client = y.client ∧ x.op < y.op))))) := by
  have hb : (x.behind = y.behind) ↔ bI x.behind = bI y.behind := by
    cases x.behind <;> cases y.behind <;> simp [bI]
  have hb2 : y.behind = true ∧ x.behind ≠ y.behind ↔ bI x.behind < bI y.behind := by
    cases x.behind <;> cases y.behind <;> simp [bI]
  unfold zxv
  by_cases h1 : x.point = y.point
  · rw [if_pos h1]
    by_cases h2 : x.behind = y.behind
    · rw [if_pos h2]
      have h2' := hb.mp h2
      by_cases h3 : x.client = y.client
      · rw [if_pos h3, decide_eq_true_eq]; omega
      · rw [if_neg h3, decide_eq_true_eq]; omega
    · rw [if_neg h2]
      have h4 : y.behind = true ↔ bI x.behind < bI y.behind := by rw [← hb2]; exact ⟨fun z => ⟨z, h2⟩, fun z => z.1⟩
      have h2' : ¬ bI x.behind = bI y.behind := fun z => h2 (hb.mpr z)
      rw [h4]; omega
  · rw [if_neg h1, decide_eq_true_eq]; omega
theorem zt7 (x y : Evt) : zxv x y = false ↔ ¬ (x.point < y.point ∨ (x.point = y.point ∧ (bI x.behind < bI y.behind ∨ (bI x.behind = bI y.behind ∧ (x.client < y.client ∨ (x.client = y.client ∧ x.op < y.op)))))) := by
  rw [← z02a]; simp
def evt0 : Evt := ⟨0, 0, 0, 0, 0, false, 0, 0, 0, 0, 0, 0, 0, false⟩
def evAt (l : List Evt) (i : Int) : Evt := (l[i.toNat]?).getD evt0
def ltO (l : List Evt) (i j : Int) : Bool := zxv (evAt l i) (evAt l j)
theorem z0cp (l : List Evt) : SWO (ltO l) where
  irrefl x := by unfold ltO; rw [zt7]; omega
  trans x y z h1 h2 := by unfold ltO at *; rw [z02a] at *; omega
  ntrans x y z h1 h2 := by unfold ltO at *; rw [zt7] at *; omega
theorem zup {l : List Evt} {i : Nat} {x : Evt} (h : l[i]? = some x) : evAt l (i : Int) = x := by
  unfold evAt; rw [Int.toNat_natCast, h]; rfl
structure OrdL (l : List Evt) (o : List Int) : Prop where
  all : AllNums l.length o
  sorted : o.Pairwise (fun x y => ltS (ltO l) y x = false)
theorem OrdL.unique {l : List Evt} {o p : List Int} (h1 : OrdL l o) (h2 : OrdL l p) : o = p :=
  List.Perm.eq_of_pairwise (fun a b _ _ e1 e2 => (z0a8 b a e1 e2).symm) h1.sorted h2.sorted (h1.all.perm.trans h2.all.perm.symm)
theorem z09p {h0 : H} {b bx : Nat} {x0 : V} {l : List Evt} (ok : h0.ok) (hb : h0.get bx = some (.cells [x0] .rw)) (h1 : x0.one = true) (hx : RowE h0.get x0 l) (n1 : bx ≠ b) (n2 : ∀ q ∈ x0.blk, q ≠ b) : Cmp h0 b l.length 336 [.ptr bx 0] (ltO l) := by
  intro h F i j i0 i1 j0 j1
  obtain ⟨i', rfl⟩ : ∃ n : Nat, i = (n : Int) := ⟨i.toNat, by omega⟩
  obtain ⟨j', rfl⟩ : ∃ n : Nat, j = (n : Int) := ⟨j.toNat, by omega⟩
  obtain ⟨x, hxi⟩ : ∃ x, l[i']? = some x := ⟨_, List.getElem?_eq_getElem (by omega)⟩
  obtain ⟨y, hyj⟩ : ∃ x, l[j']? = some x := ⟨_, List.getElem?_eq_getElem (by omega)⟩
  obtain ⟨⟨v, g⟩, e, rfl, F2⟩ := z05y F.ok (F.get ok hb (by simpa using n1)) h1 (hx.fr ok F (fun q hq => by simpa using n2 q hq)) hxi hyj
  refine ⟨_, g, e, ?_, F2⟩
  rw [z0bk]
  unfold ltO
  rw [zup hxi, zup hyj]
theorem z08q {h : H} (ok : h.ok) {x0 : V} {l : List Evt} (hx : RowE h.get x0 l) (hl : l.length ≤ 60) :
    Ev (C 181 [x0] h) fun r => ∃ o, OrdL l o ∧ RowN .i64 r.2.get r.1 o ∧ (∀ b ∈ r.1.blk, h.next ≤ b) ∧ Fr [] h r.2 := by
  refine z0i (af := F.za5) (by kernel_rfl) rfl ?_
  rw [S.z036]
  have bx := z04t hx
  have h1 := z03y hx
  have hxl := hx.len
  have F0 : Fr [] h (h.new (.cells [x0] .rw)) := (Fr.refl ok).new _
  have g1 : (h.new (.cells [x0] .rw)).get h.next = some (.cells [x0] .rw) := zp _ _
  have l1 : (h.new (.cells [x0] .rw)).ld1 (.ptr h.next 0) = some x0 := z1i g1 rfl h1
  have n1 : (h.new (.cells [x0] .rw)).next = h.next + 1 := rfl
  have mk := z098 (h := h.new (.cells [x0] .rw)) (n := l.length) (Nat.le_trans hl (by decide))
  rw [n1] at mk
  simp only [S.za5, bx, zd, l1, hxl, mk, z3a]
  have F1 := F0.new (.cells (z8v l.length 0) .rw)
  generalize hgg : (h.new (.cells [x0] .rw)).new (.cells (z8v l.length 0) .rw) = g at F1
  have b1 : g.get h.next = some (.cells [x0] .rw) := by rw [← hgg, zb7 (by rw [n1]; omega)]; exact g1
  have b3 : g.get (h.next + 1) = some (.cells (z8v l.length 0) .rw) := by rw [← hgg, ← n1]; exact zp _ _
  clear hgg mk l1 g1 n1 F0
  refine z0j (α := Nat) (fun k => S.zh3 (.ptr h.next 0) (.sl (h.next + 1) 0 l.length (.ex l.length)) (.int .i64 (l.length : Nat)) (.int .i64 (k : Nat)))
    (fun k g => k ≤ l.length ∧ Fr [] h g ∧ g.get h.next = some (.cells [x0] .rw) ∧ g.get (h.next + 1) = some (.cells (z8v l.length k) .rw)) (fun k _ => l.length - k)
    (fun r => r.1 = .exit 0 ∧ r.2.1 = S.znl (.ptr h.next 0) (.sl (h.next + 1) 0 l.length (.ex l.length)) ∧ Fr [] h r.2.2 ∧ r.2.2.get h.next = some (.cells [x0] .rw) ∧ r.2.2.get (h.next + 1) = some (.cells (ints (idA l.length)) .rw))
    0 rfl ⟨Nat.zero_le _, F1, b1, b3⟩ ?_ ?_
  · clear b1 b3 F1
    rintro k g ⟨hk, F, b1, b3⟩
    rw [S.zym]
    by_cases hkl : k < l.length
    · have hd : decide ((k : Int) < (l.length : Int)) = true := decide_eq_true (by omega)
      have wk := hr_k (k := k) (by omega)
      have i0 := zu (b := h.next + 1) (c := .ex l.length) hkl
      have s0 := zl9 b3 (by simp) (zm .i64 (k : Int)) (by rw [zho]; exact hkl)
      rw [z02f hkl] at s0
      simp only [S.zn4, hd, i0, zd, s0, wk]
      exact Ev.some (.inl ⟨k + 1, rfl, rfl, ⟨hkl, F.put (.inr (by omega)) (F.ok.lt b3) _, by rw [z1e (by omega)]; exact b1, z0a _ _ _⟩, Nat.sub_lt_sub_left hkl (Nat.lt_succ_self k)⟩)
    · have hke : k = l.length := Nat.le_antisymm hk (Nat.le_of_not_lt hkl)
      have hd : decide ((k : Int) < (l.length : Int)) = false := decide_eq_false (by omega)
      simp only [S.zn4, hd]
      rw [hke, z021] at b3
      exact Ev.some (.inr ⟨by simp, rfl, rfl, F, b1, b3⟩)
  clear b1 b3 F1
  rintro ⟨_, _, g⟩ ⟨rfl, rfl, F, b1, b3⟩
  dsimp only at F b1 b3
  show Ev (S.zqe W (.exit 0) _ _) _
  rw [S.zv4]
  have A0 : Sw g (h.next + 1) l.length g (idA l.length) := ⟨Fr.refl F.ok, b3, zu0 _, fun i hi => by rw [ztq hi]; omega⟩
  have hxg := hx.fr ok F (by simp)
  have K : Cmp g (h.next + 1) l.length 336 [.ptr h.next 0] (ltO l) := z09p F.ok b1 h1 hxg (by omega) (fun q hq => by have := hx.lt ok q hq; omega)
  obtain ⟨⟨v, g2⟩, e2, R, rfl, r1, r2, A2⟩ := zzi (c := .ex l.length) A0 K (z0cp l) (by omega)
  dsimp only at A2
  simp only [S.zrf, zh, e2, zd]
  have P := AllNums.of A2.sz r1
  have F2 : Fr [] h g2 := F.trans A2.fr (fun q hq => by rw [List.mem_singleton] at hq; exact .inr (by omega))
  have hlen : R.toList.length = l.length := by rw [Array.length_toList]; exact A2.sz
  refine Ev.some ⟨R.toList, ⟨P, ?_⟩, .inr ⟨h.next + 1, .ex l.length, .rw, by rw [hlen], A2.at_⟩, fun q hq => ?_, F2⟩
  · rw [List.pairwise_iff_getElem]
    intro i j hi hj hij
    have hi' : i < R.size := by rw [Array.length_toList] at hi; exact hi
    have hj' : j < R.size := by rw [Array.length_toList] at hj; exact hj
    have e1 : R.toList[i] = R[i]! := Option.some.inj (by rw [← List.getElem?_eq_getElem hi, zmw hi'])
    have e2 : R.toList[j] = R[j]! := Option.some.inj (by rw [← List.getElem?_eq_getElem hj, zmw hj'])
    rw [e1, e2]
    exact r2 i j (Nat.zero_le _) hij (by rw [← A2.sz]; exact hj')
  · simp only [V.blk, List.mem_singleton] at hq; omega
def rng (n : Nat) : List Int := (List.range n).map (fun i : Nat => (i : Int))
section
variable {h : H} {k : Cfg} {x0 x1 : V} {l : List Evt} {o : List Int}
theorem z08n (k : Cfg) : k.v = .agg [.int .i64 k.s, .int .i64 k.a, .int .i64 k.c, .int .i64 k.hd, .int .i64 k.g, .int .i64 k.st] := rfl
theorem z01e (k : Cfg) (ok : h.ok) : ∃ g, g = h.new (.cells [.int .i64 k.s, .int .i64 k.a, .int .i64 k.c, .int .i64 k.hd, .int .i64 k.g, .int .i64 k.st] .rw) ∧ Fr [] h g ∧ g.get h.next = some (.cells k.cs .rw) :=
  ⟨_, rfl, (Fr.refl ok).new _, zp _ _⟩
theorem zmo {g : H} {q : Nat} (hq : g.get q = some (.cells k.cs .rw)) : g.ldN 6 (.ptr q 0) = some k.v := by rw [zp5 hq (show 0 + 6 ≤ 6 from Nat.le_refl _)]; rfl
theorem z0dx {g : H} {q : Nat} (hq : g.get q = some (.cells k.cs .rw)) : g.ld1 (.ptr q 2) = some (.int .i64 k.c) := z1i hq rfl rfl
theorem z0eo (k : Cfg) : ckB (some k.v) k.v = true := by
  rw [z08n]
  simp [ckB, V.beq, V.beqs]
def z0dm (k : Cfg) (l : List Evt) : Prop := k.R = true ∧ ztc l k.c ∧ ∃ o, OrdL l o ∧ rpN k l (rst0 k) o = l.length
theorem z065 (ok : h.ok) (hx : RowE h.get x0 l) (hu : ∀ y ∈ l, U64 y.ah) (hl : l.length ≤ 60) :
    Ev (C 206 [k.v, x0] h) fun z => ∃ v, z.1 = .bool v ∧ (v = true ↔ z0dm k l) ∧ Fr [] h z.2 := by
  refine z0i (af := F.ze8) (by kernel_rfl) rfl ?_
  rw [z08n, S.z02y]
  simp only [S.ze8]
  obtain ⟨g0, hg, F0, hq⟩ := z01e k ok
  rw [← hg]
  have hR : C 263 [k.v] g0 = some (.bool k.R, g0) := zpa k.s k.a k.c k.hd k.g k.st g0
  have lk := zmo hq
  have lc := z0dx hq
  cases hr : k.R with
  | false =>
    rw [hr] at hR
    simp only [lk, zd, zh, hR]
    exact Ev.some ⟨false, rfl, Iff.intro (fun q => nomatch q) (fun q => absurd (hr.symm.trans q.1) (by decide)), F0⟩
  | true =>
    rw [hr] at hR
    have hx0 := hx.fr ok F0 (by simp)
    obtain ⟨⟨v1, g1⟩, e1, b1, rfl, hb1, F1⟩ := z086 F0.ok hx0 hl k.c
    dsimp only at F1
    have F01 := F0.trans' F1
    cases b1 with
    | false =>
      simp only [lk, lc, zd, zh, hR, e1]
      exact Ev.some ⟨false, rfl, Iff.intro (fun q => nomatch q) (fun q => absurd (hb1.mpr q.2.1) (by decide)), F01⟩
    | true =>
      have hx1 := hx.fr ok F01 (by simp)
      obtain ⟨⟨v2, g2⟩, e2, o, hO, row, _, F2⟩ := z08q F1.ok hx1 hl
      dsimp only at row F2 
      have hol := hO.all.len
      obtain ⟨⟨v3, g3⟩, e3, rfl, F3⟩ := zyc (o := o) F2.ok hr (hx.fr ok (F01.trans' F2) (by simp)) hu row.P (by omega)
      dsimp only at F3
      have lk1 := zmo (F1.get F0.ok hq (by simp))
      have lk2 := zmo (F2.get F1.ok (F1.get F0.ok hq (by simp)) (by simp))
      have hxl := hx.len
      have ck := z0eo k
      simp only [lk, lc, zd, zh, hR, e1, lk1, hxl, e2, lk2, ck, e3, ze]
      refine Ev.some ⟨_, rfl, ?_, (F01.trans' F2).trans' F3⟩
      rw [decide_eq_true_iff]
      constructor
      · intro q
        exact ⟨hr, hb1.mp rfl, o, hO, by omega⟩
      · rintro ⟨_, _, p, hp, hpn⟩
        rw [hO.unique hp, hpn]
end
def zqn (l : List Evt) (o : List Int) (p n : Nat) : Prop := ∀ (i : Nat) y x, i < n → l[i]? = some y → l[p]? = some x → i ≠ p → (i : Int) ∉ o → ¬ y.ended < x.begun
def May (l : List Evt) (o : List Int) (p : Nat) : Prop := (p : Int) ∉ o ∧ zqn l o p l.length
theorem z0bd {h : H} (ok : h.ok) {x0 x1 : V} {l : List Evt} {o : List Int} (hx : RowE h.get x0 l) (ho : RowO .i64 h.get x1 o) (hol : o.length ≤ 100000) (hl : l.length ≤ 60) {p : Nat} (hp : p < l.length) {g : H} (F : Fr [] h g) (hob : ∀ b, (∃ x, h.get b = some x) → b < h.next) {i : Nat} (hi : i ≤ l.length) (hM : zqn l o p i) :
    Ev (S.zd0 W x0 x1 (p : Nat) x0 (l.length : Nat) (i : Nat) g) fun z =>
      (z.1 = .ret ∧ z.2.1 = S.zbc (.bool false) ∧ Fr [] h z.2.2 ∧ ¬ zqn l o p l.length) ∨
      (z.1 = .exit 0 ∧ z.2.1 = S.zbc .dead ∧ Fr [] h z.2.2 ∧ zqn l o p l.length) ∨
      (i < l.length ∧ z.1 = .normal ∧ z.2.1 = S.zdi x0 x1 (.int .i64 (p : Nat)) x0 (.int .i64 (l.length : Nat)) (.int .i64 (i + 1 : Nat)) ∧ Fr [] h z.2.2 ∧ zqn l o p (i + 1)) := by
  by_cases hil : i < l.length
  · have d : decide ((i : Int) < (l.length : Int)) = true := zxz hil
    obtain ⟨y, hy⟩ : ∃ y, l[i]? = some y := ⟨_, List.getElem?_eq_getElem hil⟩
    obtain ⟨x, hpx⟩ : ∃ x, l[p]? = some x := ⟨_, List.getElem?_eq_getElem hp⟩
    obtain ⟨b, ix, ly, _⟩ := (hx.fr ok F (by simp)).at hy
    obtain ⟨g', en, Fn, hn, _⟩ := zzt F.ok (vs := y.cs) rfl (zth y)
    have F' := F.trans' Fn
    have wi := rl_k (n := i) (by omega)
    have next : (i ≠ p → (i : Int) ∉ o → ¬ y.ended < x.begun) → zqn l o p (i + 1) := fun hh j y' x' hj h1 h2 h3 h4 => by
      rcases Nat.lt_succ_iff_lt_or_eq.mp hj with q | q
      · exact hM j y' x' q h1 h2 h3 h4
      · subst q
        rw [hy] at h1; rw [hpx] at h2
        cases h1; cases h2
        exact hh h3 h4
    have ldy : g.ldN 14 (.ptr b (i * 14)) = some (.agg y.cs) := by rw [z14]; exact ly
    have zE' : ([(.int .i64 0), (.int .i64 0), (.int .i64 0), (.int .i64 0), (.int .i64 0), (.bool false), (.int .i64 0), (.int .i64 0), (.int .u64 0), (.int .u64 0), (.int .u64 0), (.int .i64 0), (.int .u64 0), (.bool false)] : List V) = zE := rfl
    by_cases hip : i = p
    · have d1 : decide ((i : Int) = (p : Int)) = true := decide_eq_true (by omega)
      simp only [S.zd0, d, ix, zd, ldy, zE', en, d1, Bool.not_true, wi]
      exact Ev.some (.inr (.inr ⟨hil, rfl, rfl, F', next fun h3 => absurd hip h3⟩))
    have d1 : decide ((i : Int) = (p : Int)) = false := decide_eq_false (by omega)
    have hc := zq4 (ho.sub (fun b x hb => F'.get ok hb (by simp))) hol (i : Int)
    by_cases hio : (i : Int) ∈ o
    · have hct : o.contains (i : Int) = true := List.contains_iff_mem.mpr hio
      rw [hct] at hc
      simp only [S.zd0, d, ix, zd, ldy, zE', en, d1, Bool.not_false, zh, hc, z04, Bool.not_true, wi]
      exact Ev.some (.inr (.inr ⟨hil, rfl, rfl, F', next fun _ h4 => absurd hio h4⟩))
    · have hct : o.contains (i : Int) = false := by
        cases hq : o.contains (i : Int) with
        | false => rfl
        | true => exact absurd (List.contains_iff_mem.mp hq) hio
      rw [hct] at hc
      obtain ⟨b2, ix2, ly2, _⟩ := (hx.fr ok F' (by simp)).at hpx
      have ld2 : g'.ldN 14 (.ptr b2 (p * 14)) = some (.agg x.cs) := by rw [z14]; exact ly2
      have ld1' : g'.ldN 14 (.ptr g.next 0) = some (.agg y.cs) := ztm hn rfl
      have ha := zzd y x g'
      by_cases hlt : y.ended < x.begun
      · have d2 : decide (y.ended < x.begun) = true := decide_eq_true hlt
        rw [d2] at ha
        simp only [S.zd0, d, ix, zd, ldy, zE', en, d1, Bool.not_false, zh, hc, z04, ld1', ix2, ld2, ha]
        exact Ev.some (.inl ⟨rfl, rfl, F', fun hh => hh i y x hil hy hpx hip hio hlt⟩)
      · have d2 : decide (y.ended < x.begun) = false := decide_eq_false hlt
        rw [d2] at ha
        simp only [S.zd0, d, ix, zd, ldy, zE', en, d1, Bool.not_false, zh, hc, z04, ld1', ix2, ld2, ha, wi]
        exact Ev.some (.inr (.inr ⟨hil, rfl, rfl, F', next fun _ _ => hlt⟩))
  · have hie : i = l.length := Nat.le_antisymm hi (Nat.le_of_not_lt hil)
    have d : decide ((i : Int) < (l.length : Int)) = false := decide_eq_false (by omega)
    simp only [S.zd0, d]
    exact Ev.some (.inr (.inl ⟨rfl, rfl, F, hie ▸ hM⟩))
theorem z0ba {h : H} (ok : h.ok) {x0 x1 : V} {l : List Evt} {o : List Int} (hx : RowE h.get x0 l) (ho : RowO .i64 h.get x1 o) (hol : o.length ≤ 100000) (hl : l.length ≤ 60) {p : Nat} (hp : p < l.length) :
    Ev (C 349 [x0, x1, .int .i64 (p : Nat)] h) fun z => ∃ v, z.1 = .bool v ∧ (v = true ↔ May l o p) ∧ Fr [] h z.2 := by
  refine z0i (af := F.ze0) (by kernel_rfl) rfl ?_
  rw [S.z07y]
  have hc := zq4 ho hol (p : Int)
  by_cases hpo : (p : Int) ∈ o
  · have hct : o.contains (p : Int) = true := List.contains_iff_mem.mpr hpo
    rw [hct] at hc
    simp only [S.ze0, zh, hc, zd, z04]
    exact Ev.some ⟨false, rfl, Iff.intro (fun q => nomatch q) (fun q => absurd hpo q.1), Fr.refl ok⟩
  have hct : o.contains (p : Int) = false := by
    cases hq : o.contains (p : Int) with
    | false => rfl
    | true => exact absurd (List.contains_iff_mem.mp hq) hpo
  rw [hct] at hc
  have hxl := hx.len
  simp only [S.ze0, zh, hc, zd, z04, hxl]
  refine z0j (α := Nat) (fun i => S.zdi x0 x1 (.int .i64 (p : Nat)) x0 (.int .i64 (l.length : Nat)) (.int .i64 (i : Nat)))
    (fun i g => i ≤ l.length ∧ Fr [] h g ∧ zqn l o p i) (fun i _ => l.length - i)
    (fun z => (z.1 = .ret ∧ z.2.1 = S.zbc (.bool false) ∧ Fr [] h z.2.2 ∧ ¬ zqn l o p l.length) ∨
      (z.1 = .exit 0 ∧ z.2.1 = S.zbc .dead ∧ Fr [] h z.2.2 ∧ zqn l o p l.length)) 0 rfl ⟨Nat.zero_le _, Fr.refl ok, fun _ _ _ hj => absurd hj (Nat.not_lt_zero _)⟩ ?_ ?_
  rotate_left
  · rintro ⟨_, _, g'⟩ (⟨rfl, rfl, F, hN⟩ | ⟨rfl, rfl, F, hN⟩)
    · show Ev (S.zmh W .ret _ _) _
      rw [S.zzv]
      exact Ev.some ⟨false, rfl, Iff.intro (fun q => nomatch q) (fun q => absurd q.2 hN), F⟩
    · show Ev (S.zmh W (.exit 0) _ _) _
      rw [S.zyq]
      exact Ev.some ⟨true, rfl, Iff.intro (fun _ => ⟨hpo, hN⟩) (fun _ => rfl), F⟩
  rintro i g ⟨hi, F, hM⟩
  rw [S.z034]
  refine (z0bd ok hx ho hol hl hp F (fun b ⟨x, hb⟩ => ok.lt hb) hi hM).mono ?_
  rintro ⟨_, _, g2⟩ (⟨rfl, rfl, F2, hN⟩ | ⟨rfl, rfl, F2, hN⟩ | ⟨hlt, rfl, rfl, F2, hM2⟩)
  · exact .inr ⟨by simp, .inl ⟨rfl, rfl, F2, hN⟩⟩
  · exact .inr ⟨by simp, .inr ⟨rfl, rfl, F2, hN⟩⟩
  · exact .inl ⟨i + 1, rfl, rfl, ⟨hlt, F2, hM2⟩, Nat.sub_lt_sub_left hlt (Nat.lt_succ_self i)⟩
end Wm
end
noncomputable section
namespace Wm
section
variable {k : Cfg} {l : List Evt}
def nI (o : List Nat) : List Int := o.map fun i : Nat => (i : Int)
theorem zeq (o : List Nat) : (nI o).length = o.length := List.length_map _
theorem zoq (o : List Nat) (p : Nat) : nI (o ++ [p]) = nI o ++ [(p : Int)] := by simp [nI]
theorem zhz {o : List Nat} {j : Nat} : (nI o)[j]? = (o[j]?).map fun i : Nat => (i : Int) := by simp [nI]
theorem ztd {o : List Nat} {p : Nat} : (p : Int) ∈ nI o ↔ p ∈ o := by
  simp only [nI, List.mem_map]
  exact ⟨fun ⟨a, h, e⟩ => Int.ofNat.inj e ▸ h, fun h => ⟨p, h, rfl⟩⟩
structure OkF (k : Cfg) (l : List Evt) (o : List Nat) : Prop where
  tak : ∃ r, rpS k l (rst0 k) (nI o) = some r
  may : ∀ j i, o[j]? = some i → i < l.length ∧ May l (nI (o.take j)) i
theorem z06z : OkF k l [] := ⟨⟨_, rfl⟩, fun j i h => by simp at h⟩
theorem OkF.snoc {o : List Nat} (A : OkF k l o) {p : Nat} (hp : p < l.length) (hm : May l (nI o) p) {r r' : RSt} (hr : rpS k l (rst0 k) (nI o) = some r) (h1 : rp1 k l r (p : Int) = some r') : OkF k l (o ++ [p]) := by
  refine ⟨⟨r', by rw [zoq, zrc, hr]; exact h1⟩, fun j i h => ?_⟩
  by_cases hj : j < o.length
  · rw [List.getElem?_append_left hj] at h
    rw [List.take_append_of_le_length (Nat.le_of_lt hj)]
    exact A.may j i h
  · have hl := z01 h
    simp only [List.length_append, List.length_cons, List.length_nil] at hl
    have hj' : j = o.length := by omega
    subst hj'
    simp only [List.getElem?_append_right (Nat.le_refl _), Nat.sub_self, List.getElem?_cons_zero, Option.some.injEq] at h
    subst h
    rw [List.take_append_of_le_length (Nat.le_refl _), List.take_length]
    exact ⟨hp, hm⟩
theorem OkF.next {q o : List Nat} (A : OkF k l q) (h : q.take o.length = o) {p : Nat} (hp : q[o.length]? = some p) : p < l.length ∧ May l (nI o) p ∧ ∃ r r', rpS k l (rst0 k) (nI o) = some r ∧ rp1 k l r (p : Int) = some r' := by
  have h1 := A.may _ _ hp
  rw [h] at h1
  obtain ⟨r, hr⟩ := A.tak
  have e : q = (o ++ [p]) ++ q.drop (o.length + 1) := by
    have : q.take (o.length + 1) = o ++ [p] := by rw [List.take_succ, h, hp]; rfl
    rw [← this, List.take_append_drop]
  rw [e] at hr
  have hr' : rpS k l (rst0 k) (nI (o ++ [p]) ++ nI (q.drop (o.length + 1))) = some r := by
    rw [← hr]; simp [nI]
  obtain ⟨r1, h2, _⟩ := z01l _ _ _ hr'
  rw [zoq, zrc] at h2
  cases h3 : rpS k l (rst0 k) (nI o) with
  | none => rw [h3] at h2; cases h2
  | some r0 => rw [h3] at h2; exact ⟨h1.1, h1.2, r0, r1, rfl, h2⟩
def Past (c q : List Nat) : Prop := ∃ j a b, q.take j = c.take j ∧ q[j]? = some a ∧ c[j]? = some b ∧ a < b
theorem z8t {o q : List Nat} {p : Nat} : Past (o ++ [p]) q ↔ Past o q ∨ (q.take o.length = o ∧ ∃ a, q[o.length]? = some a ∧ a < p) := by
  constructor
  · rintro ⟨j, a, b, h1, h2, h3, h4⟩
    by_cases hj : j < o.length
    · rw [List.getElem?_append_left hj] at h3
      rw [List.take_append_of_le_length (Nat.le_of_lt hj)] at h1
      exact .inl ⟨j, a, b, h1, h2, h3, h4⟩
    · have hl := z01 h3
      simp only [List.length_append, List.length_cons, List.length_nil] at hl
      have hj' : j = o.length := by omega
      subst hj'
      simp only [List.getElem?_append_right (Nat.le_refl _), Nat.sub_self, List.getElem?_cons_zero, Option.some.injEq] at h3
      subst h3
      rw [List.take_append_of_le_length (Nat.le_refl _), List.take_length] at h1
      exact .inr ⟨h1, a, h2, h4⟩
  · rintro (⟨j, a, b, h1, h2, h3, h4⟩ | ⟨h1, a, h2, h4⟩)
    · have hj := z01 h3
      exact ⟨j, a, b, by rw [List.take_append_of_le_length (Nat.le_of_lt hj)]; exact h1, h2, by rw [List.getElem?_append_left hj]; exact h3, h4⟩
    · exact ⟨o.length, a, p, by rw [List.take_append_of_le_length (Nat.le_refl _), List.take_length]; exact h1, h2, by simp, h4⟩
def SInv (k : Cfg) (l : List Evt) (o : List Nat) (p : Nat) : Prop := ∀ q, OkF k l q → q.length = l.length → ¬ Past (o ++ [p]) q
theorem z0c9 : SInv k l [] 0 := fun q _ _ h => by
  rcases z8t.mp h with ⟨j, a, b, _, _, h3, _⟩ | ⟨_, a, _, h⟩
  · simp at h3
  · omega
theorem SInv.skip {o : List Nat} {p : Nat} (A : SInv k l o p) (h : ¬ (May l (nI o) p ∧ ∃ r r', rpS k l (rst0 k) (nI o) = some r ∧ rp1 k l r (p : Int) = some r')) : SInv k l o (p + 1) := fun q hq hn hP => by
  rcases z8t.mp hP with h1 | ⟨h1, a, h2, h3⟩
  · exact A q hq hn (z8t.mpr (.inl h1))
  · rcases Nat.lt_succ_iff_lt_or_eq.mp h3 with h4 | h4
    · exact A q hq hn (z8t.mpr (.inr ⟨h1, a, h2, h4⟩))
    · subst h4; exact h (hq.next h1 h2).2
theorem SInv.push {o : List Nat} {p : Nat} (A : SInv k l o p) : SInv k l (o ++ [p]) 0 := fun q hq hn hP => by
  rcases z8t.mp hP with h1 | ⟨_, a, _, h3⟩
  · exact A q hq hn h1
  · omega
theorem SInv.back {o : List Nat} {x : Nat} (A : SInv k l (o ++ [x]) l.length) (hl : o.length + 1 < l.length) : SInv k l o (x + 1) := fun q hq hn hP => by
  rcases z8t.mp hP with h1 | ⟨h1, a, h2, h3⟩
  · exact A q hq hn (z8t.mpr (.inl (z8t.mpr (.inl h1))))
  · rcases Nat.lt_succ_iff_lt_or_eq.mp h3 with h4 | h4
    · exact A q hq hn (z8t.mpr (.inl (z8t.mpr (.inr ⟨h1, a, h2, h4⟩))))
    · subst h4
      obtain ⟨b, hb⟩ : ∃ b, q[o.length + 1]? = some b := ⟨_, List.getElem?_eq_getElem (by omega)⟩
      refine A q hq hn (z8t.mpr (.inr ⟨?_, b, ?_, (hq.may _ _ hb).1⟩))
      · rw [List.length_append, List.length_singleton, List.take_succ, h1, h2]; rfl
      · rw [List.length_append, List.length_singleton]; exact hb
theorem SInv.none (A : SInv k l [] l.length) (hl : 0 < l.length) (q : List Nat) (hq : OkF k l q) (hn : q.length = l.length) : False := by
  obtain ⟨b, hb⟩ : ∃ b, q[0]? = some b := ⟨_, List.getElem?_eq_getElem (by omega)⟩
  exact A q hq hn (z8t.mpr (.inr ⟨by simp, b, hb, (hq.may _ _ hb).1⟩))
def cod : Nat → List Nat → Nat
  | 0, _ => 0
  | _ + 1, [] => 0
  | w + 1, d :: ds => (d + 1) * 10 ^ w + cod w ds
theorem z047 : ∀ (w : Nat) (ds : List Nat), (∀ d ∈ ds, d ≤ 8) → cod w ds < 10 ^ w
  | 0, _, _ => by simp [cod]
  | w + 1, [], _ => Nat.pow_pos (by decide)
  | w + 1, d :: ds, h => by
    have h1 := z047 w ds (fun x hx => h x (by simp [hx]))
    have h2 : d + 1 ≤ 9 := by have := h d (by simp); omega
    have h3 : (d + 1) * 10 ^ w ≤ 9 * 10 ^ w := Nat.mul_le_mul_right _ h2
    simp only [cod, Nat.pow_succ]
    omega
theorem z055 : ∀ (w : Nat) (o : List Nat) (p : Nat), o.length < w → cod w (o ++ [p]) < cod w (o ++ [p + 1])
  | 0, o, p, h => by omega
  | w + 1, [], p, _ => by
    simp only [List.nil_append, cod]
    have : 0 < 10 ^ w := Nat.pow_pos (by decide)
    have h2 : (p + 1 + 1) * 10 ^ w = (p + 1) * 10 ^ w + 10 ^ w := by rw [Nat.succ_mul]
    have h0 : cod w [] = 0 := by cases w <;> rfl
    omega
  | w + 1, d :: o, p, h => by
    have := z055 w o p (by simpa using h)
    simp only [List.cons_append, cod]; omega
theorem z05q : ∀ (w : Nat) (o : List Nat) (p : Nat), o.length < w → cod w o < cod w (o ++ [p])
  | 0, o, p, h => by omega
  | w + 1, [], p, _ => by
    have : 0 < 10 ^ w := Nat.pow_pos (by decide)
    have h0 : cod w [] = 0 := by cases w <;> rfl
    have h2 : 10 ^ w ≤ (p + 1) * 10 ^ w := Nat.le_mul_of_pos_left _ (Nat.succ_pos p)
    simp only [List.nil_append, cod]; omega
  | w + 1, d :: o, p, h => by
    have := z05q w o p (by simpa using h)
    simp only [List.cons_append, cod]; omega
theorem z056 : ∀ (w : Nat) (o : List Nat) (x n : Nat), o.length < w → n ≤ 8 → cod w (o ++ [x] ++ [n]) < cod w (o ++ [x + 1])
  | 0, o, x, n, h, _ => by omega
  | w + 1, [], x, n, _, hn => by
    have h1 := z047 w [n] (by simpa using hn)
    have h2 : (x + 1 + 1) * 10 ^ w = (x + 1) * 10 ^ w + 10 ^ w := by rw [Nat.succ_mul]
    have h0 : cod w [] = 0 := by cases w <;> rfl
    simp only [List.nil_append, List.cons_append, cod]; omega
  | w + 1, d :: o, x, n, h, hn => by
    have := z056 w o x n (by simpa using h) hn
    simp only [List.cons_append, cod]; omega
theorem z05c {q : List Nat} (hn : q.length = l.length) : OkF k l q ↔ Resp l (nI q) ∧ ∃ r, rpS k l (rst0 k) (nI q) = some r := by
  constructor
  · intro A
    refine ⟨⟨by rw [zeq]; exact hn, fun b hb => ?_⟩, A.tak⟩
    obtain ⟨i, hi⟩ : ∃ i, q[b]? = some i := ⟨_, List.getElem?_eq_getElem (by omega)⟩
    obtain ⟨hil, hnot, _⟩ := A.may b i hi
    obtain ⟨x, hx⟩ : ∃ x, l[i]? = some x := ⟨_, List.getElem?_eq_getElem hil⟩
    refine ⟨i, x, by rw [zhz, hi]; rfl, hx, fun a ha he => hnot ?_, fun a y ha hy hlt => ?_⟩
    · rw [zhz] at he
      cases hqa : q[a]? with
      | none => rw [hqa] at he; cases he
      | some i' =>
        rw [hqa] at he
        have : i' = i := Int.ofNat.inj (Option.some.inj he)
        subst this
        exact ztd.mpr (List.mem_of_getElem? (i := a) (by rw [List.getElem?_take, if_pos ha]; exact hqa))
    · obtain ⟨j, hj, hyj⟩ := hy
      have hqa : q[a]? = some j := by
        rw [zhz] at hj
        cases hqa : q[a]? with
        | none => rw [hqa] at hj; cases hj
        | some i' => rw [hqa] at hj; rw [Int.ofNat.inj (Option.some.inj hj)]
      obtain ⟨_, _, hm⟩ := A.may a j hqa
      refine hm i x y hil hx hyj ?_ ?_ hlt
      · intro e; subst e
        exact hnot (ztd.mpr (List.mem_of_getElem? (i := a) (by rw [List.getElem?_take, if_pos ha]; exact hqa)))
      · intro hmem
        have hmem := ztd.mp hmem
        obtain ⟨c, hc⟩ := List.mem_iff_getElem?.mp hmem
        rw [List.getElem?_take] at hc
        split at hc
        · rename_i hca
          exact hnot (ztd.mpr (List.mem_of_getElem? (i := c) (by rw [List.getElem?_take, if_pos (by omega)]; exact hc)))
        · cases hc
  · rintro ⟨⟨hlen, G⟩, ht⟩
    refine ⟨ht, fun j i hj => ?_⟩
    obtain ⟨i', x, h1, h2, h3, h4⟩ := G j (by have := z01 hj; omega)
    rw [zhz, hj] at h1
    have : i = i' := Int.ofNat.inj (Option.some.inj h1)
    subst this
    refine ⟨z01 h2, fun hm => ?_, fun i' y x' hi' hy hx' hne hno hlt => ?_⟩
    · obtain ⟨a, ha⟩ := List.mem_iff_getElem?.mp (ztd.mp hm)
      rw [List.getElem?_take] at ha
      split at ha
      · rename_i haj
        exact h3 a haj (by rw [zhz, ha]; rfl)
      · cases ha
    · have hnd : q.Nodup := by
        rw [List.Nodup, List.pairwise_iff_getElem]
        intro a b ha hb hab he
        have he : q[a]? = q[b]? := by rw [List.getElem?_eq_getElem ha, List.getElem?_eq_getElem hb, he]
        obtain ⟨i2, x2, g1, _, g3, _⟩ := G b (by omega)
        exact g3 a hab (by rw [zhz, he, ← zhz]; exact g1)
      have hlt' : ∀ v ∈ q, v < l.length := fun v hv => by
        obtain ⟨a, ha⟩ := List.mem_iff_getElem?.mp hv
        obtain ⟨i2, x2, g1, g2, _⟩ := G a (by have := z01 ha; omega)
        rw [zhz, ha] at g1
        have : v = i2 := Int.ofNat.inj (Option.some.inj g1)
        subst this
        exact z01 g2
      have hmem : i' ∈ q := by
        refine Classical.byContradiction fun hn' => ?_
        have nd : (i' :: q).Nodup := List.nodup_cons.mpr ⟨hn', hnd⟩
        have : (i' :: q) ⊆ List.range l.length := fun v hv => by
          rcases List.mem_cons.mp hv with rfl | hv
          · exact List.mem_range.mpr hi'
          · exact List.mem_range.mpr (hlt' v hv)
        have := nd.length_le_of_subset this
        rw [List.length_range, List.length_cons] at this
        omega
      obtain ⟨c, hc⟩ := List.mem_iff_getElem?.mp hmem
      have hjc : j < c := by
        rcases Nat.lt_trichotomy c j with q1 | q1 | q1
        · exact absurd (ztd.mpr (List.mem_of_getElem? (i := c) (by rw [List.getElem?_take, if_pos q1]; exact hc))) hno
        · subst q1; rw [hj] at hc; exact absurd (Option.some.inj hc).symm hne
        · exact q1
      obtain ⟨i2, x2, g1, g2, _, g4⟩ := G c (by have := z01 hc; omega)
      rw [zhz, hc] at g1
      have : i' = i2 := Int.ofNat.inj (Option.some.inj g1)
      subst this
      rw [hy] at g2; cases g2
      exact g4 j x' hjc ⟨i, by rw [zhz, hj]; rfl, hx'⟩ hlt
theorem z0dk {o : List Int} (h : Resp l o) : ∃ q : List Nat, o = nI q ∧ q.length = l.length := by
  refine ⟨o.map Int.toNat, ?_, by rw [List.length_map]; exact h.1⟩
  refine List.ext_getElem? fun a => ?_
  rw [zhz, List.getElem?_map]
  cases ha : o[a]? with
  | none => rfl
  | some v =>
    obtain ⟨i, x, g1, _⟩ := h.2 a (by have := z01 ha; rw [← h.1]; exact this)
    rw [ha] at g1
    have : v = (i : Int) := Option.some.inj g1
    subst this
    simp
end
theorem zyg {b : Nat → List V → H → Option (AX × List V × H)} {l j : Nat} {e e' : List V} {h h' : H} {r : AX × List V × H} (hb : b l e h = some (.goto j, e', h')) (hr : scopeW b (j + 1) e' h' = some r) : scopeW b l e h = some r := by
  obtain ⟨n, hn⟩ := zk8 hr
  refine zpq (n := n + 1) ?_
  simp only [z22, hb]
  exact hn
theorem z00e {b : Nat → List V → H → Option (AX × List V × H)} {l : Nat} {e : List V} {h : H} {x : AX} {e' : List V} {h' : H} (hb : b l e h = some (x, e', h')) (hx : ∀ j, x ≠ .goto j) : scopeW b l e h = some (x, e', h') := by
  refine zpq (n := 1) ?_
  simp only [z22, hb]
  cases x with
  | goto j => exact absurd rfl (hx j)
  | _ => rfl
end Wm
end
noncomputable section
namespace Wm
attribute [local congr] zk
attribute [local irreducible] wr
theorem z08j {α : Type} {b : Nat → List V → H → Option (AX × List V × H)} (lab : α → Nat) (enc : α → List V) (I : α → H → Prop) (μ : α → H → Nat) {Q : AX × List V × H → Prop}
    (step : ∀ a h, I a h → Ev (b (lab a + 1) (enc a) h) fun r => (∃ a', r.1 = .goto (lab a') ∧ r.2.1 = enc a' ∧ I a' r.2.2 ∧ μ a' r.2.2 < μ a h) ∨ ((∀ j, r.1 ≠ .goto j) ∧ Q r)) :
    ∀ (a : α) (h : H), I a h → Ev (scopeW b (lab a + 1) (enc a) h) Q := by
  have key : ∀ (n : Nat) (a : α) (h : H), μ a h = n → I a h → Ev (scopeW b (lab a + 1) (enc a) h) Q := by
    intro n
    induction n using Nat.strongRecOn with
    | ind n ih =>
      intro a h hn hI
      obtain ⟨⟨x, e', h'⟩, hb, hr⟩ := step a h hI
      rcases hr with ⟨a', hx, he, hI', hlt⟩ | ⟨hx, hQ⟩
      · simp only at hx he hI' hlt
        subst hx; subst he
        obtain ⟨r, hl, hq⟩ := ih _ (by omega) a' h' rfl hI'
        exact ⟨r, zyg hb hl, hq⟩
      · exact ⟨_, z00e hb hx, hQ⟩
  exact fun a h hI => key _ a h rfl hI
theorem z09y {α : Type} {call : Nat → List V → H → Option (V × H)} {meth : Nat → Nat → Option Nat} {b : Nat → List V → H → Option (AX × List V × H)} {R : Type} {k : AX × List V × H → Option R} {Q : R → Prop} {e : List V} {h : H} (lab : α → Nat) (enc : α → List V) (I : α → H → Prop) (μ : α → H → Nat) (P : AX × List V × H → Prop)
    (start : Ev (b 0 e h) fun r => (∃ a', r.1 = .goto (lab a') ∧ r.2.1 = enc a' ∧ I a' r.2.2) ∨ ((∀ j, r.1 ≠ .goto j) ∧ P r))
    (step : ∀ a h, I a h → Ev (b (lab a + 1) (enc a) h) fun r => (∃ a', r.1 = .goto (lab a') ∧ r.2.1 = enc a' ∧ I a' r.2.2 ∧ μ a' r.2.2 < μ a h) ∨ ((∀ j, r.1 ≠ .goto j) ∧ P r)) (out : ∀ r, P r → Ev (k r) Q) : Ev (((envW meth call).scope b 0 e h).bind k) Q := by
  refine Ev.bind (Q := P) ?_ out
  obtain ⟨⟨x, e', h'⟩, hb, hr⟩ := start
  rcases hr with ⟨a', hx, he, hI⟩ | ⟨hx, hP⟩
  · simp only at hx he hI
    subst hx; subst he
    obtain ⟨r, hl, hq⟩ := z08j lab enc I μ step a' h' hI
    exact ⟨r, zyg hb hl, hq⟩
  · exact ⟨_, z00e hb hx, hP⟩
theorem zr0 {j n : Nat} (h : j ≤ n) (d : Nat) : z1m d n (some (.int .i64 (j : Int))) = some j := by
  have d0 : decide ((0 : Int) ≤ (j : Int)) = true := decide_eq_true (by omega)
  have d1 : decide ((j : Int) ≤ (n : Int)) = true := decide_eq_true (by omega)
  show (match decide ((0 : Int) ≤ (j : Int)) && decide ((j : Int) ≤ (n : Int)) with | true => some (j : Int).toNat | false => none) = _
  rw [d0, d1]; rfl
theorem z0ap {mb n j : Nat} {c : Cap} (hc : c = .op 1 ∨ c = .ex n) (hj : j ≤ n) (h0 : 0 < j) :
    z67 1 (.sl mb 0 n c) none (some (.int .i64 (j : Int))) (some (.int .i64 (j : Int))) = some (.sl mb 0 j (.ex j)) := by
  have b0 : z1m 0 j none = some 0 := rfl
  have hz : Nat.beq 1 1 = true := rfl
  have hn : Nat.beq n 0 = false := by
    cases h : Nat.beq n 0 with
    | false => rfl
    | true => have := Nat.eq_of_beq_eq_true h; omega
  have hj0 : Nat.beq j 0 = false := by
    cases h : Nat.beq j 0 with
    | false => rfl
    | true => have := Nat.eq_of_beq_eq_true h; omega
  rcases hc with rfl | rfl
  · simp only [z67, zr0 hj, hn, zr0 (Nat.le_refl j), b0, hj0, Nat.zero_mul, Nat.add_zero, Nat.sub_zero]
  · simp only [z67, zr0 hj, zr0 (Nat.le_refl j), b0, hj0, Nat.zero_mul, Nat.add_zero, Nat.sub_zero]
theorem z0ax {b n N j : Nat} (hj : j ≤ n) (hN : n ≤ N) (h0 : 0 < N) :
    z67 1 (.sl b 0 n (.ex N)) none (some (.int .i64 (j : Int))) none = some (.sl b 0 j (.ex N)) := by
  have b0 : z1m 0 j none = some 0 := rfl
  have bN : z1m N N none = some N := rfl
  have hN0 : Nat.beq N 0 = false := by
    cases h : Nat.beq N 0 with
    | false => rfl
    | true => have := Nat.eq_of_beq_eq_true h; omega
  simp only [z67, bN, zr0 (Nat.le_trans hj hN), b0, hN0, Nat.zero_mul, Nat.add_zero, Nat.sub_zero]
theorem z07p {g : H} {b m N nb : Nat} {cs : List V} {v : V} {kd : Bk} {c : Cap} (hb : g.get b = some (.cells cs .rw)) (hN : cs.length = N) (hm : m < N) (h8 : N ≤ 1000) (hn : g.get nb = some (.cells [v] kd)) (h1 : v.one = true) :
    g.append 1 8 (.sl b 0 m (.ex N)) (.sl nb 0 1 c) = some (.sl b 0 (m + 1) (.ex N), g.put b (some (.cells (cs.set m v) .rw))) := by
  have e1 : g.slc 1 (.sl nb 0 1 c) = some [v] := by rw [zfp hn (by simp)]; rfl
  have e2 : g.slc 1 (.sl b 0 m (.ex N)) = some ((cs.drop 0).take (m * 1)) := zfp hb (by omega)
  have a1 : [v].all V.one = true := by simp [h1]
  have d1 : decide ((m + 1 + (m + 1) / 2 + 1000) * 8 ≤ 281474976710656) = true := decide_eq_true (by omega)
  have d2 : decide (m + 1 ≤ N) = true := decide_eq_true (by omega)
  have d3 : decide (m * 1 + [v].length ≤ cs.length) = true := decide_eq_true (by simp only [List.length_cons, List.length_nil]; omega)
  have d4 : decide (Bk.rw = Bk.ro) = false := rfl
  have sp : z0e cs (m * 1) [v] = cs.set m v := by
    rw [Nat.mul_one]
    unfold z0e
    rw [List.set_eq_take_append_cons_drop, if_pos (by omega)]
    simp
  have d5 : decide (0 < 1) = true := rfl
  have d6 : decide (0 < 8) = true := rfl
  simp only [H.append, lenSl, e1, e2, a1, d1, d5, d6, Bool.and_self, d2, H.stc, hb, d3, d4, Bool.not_true, Bool.or_self, Nat.zero_add, sp]
theorem z08o {g : H} {mb j nb : Nat} {cs : List V} {v : V} {k1 k2 : Bk} {c : Cap} (hb : g.get mb = some (.cells cs k1)) (hj : j ≤ cs.length) (h8 : j ≤ 1000) (hn : g.get nb = some (.cells [v] k2)) (h1 : v.one = true) :
    g.append 1 8 (.sl mb 0 j (.ex j)) (.sl nb 0 1 c) = some (.sl g.next 0 (j + 1) (.op 1), g.new (.cells (cs.take j ++ [v]) (.gr 1))) := by
  have e1 : g.slc 1 (.sl nb 0 1 c) = some [v] := by rw [zfp hn (by simp)]; rfl
  have e2 : g.slc 1 (.sl mb 0 j (.ex j)) = some (cs.take j) := by rw [zfp hb (by omega), Nat.mul_one]; rfl
  have a1 : [v].all V.one = true := by simp [h1]
  have d1 : decide ((j + 1 + (j + 1) / 2 + 1000) * 8 ≤ 281474976710656) = true := decide_eq_true (by omega)
  have d2 : decide (j + 1 ≤ j) = false := decide_eq_false (by omega)
  have d5 : decide (0 < 1) = true := rfl
  have d6 : decide (0 < 8) = true := rfl
  simp only [H.append, lenSl, e1, e2, a1, d1, d5, d6, Bool.and_self, d2]
structure SrAt (h g : H) (k : Cfg) (l : List Evt) (o : List Nat) (b : Nat) (x8 : V) : Prop where
  fr : Fr [] h g
  nb : h.next ≤ b
  ord : ∃ cs, g.get b = some (.cells cs .rw) ∧ cs.length = l.length ∧ cs.take o.length = (nI o).map (.int .i64)
  mods : ∃ mb c n cs kd, x8 = .sl mb 0 n c ∧ (c = .op 1 ∨ c = .ex n) ∧ g.get mb = some (.cells cs kd) ∧ n ≤ cs.length ∧ o.length < n ∧ mb ≠ b ∧ ∀ j, j ≤ o.length → ∃ B r, cs[j]? = some (.ptr B.b 0) ∧ rpS k l (rst0 k) (nI (o.take j)) = some r ∧ Mod h k g B r j ∧ b ∉ B.l ∧ b ∉ B.nb
section
variable {h g : H} {k : Cfg} {x0 x8 : V} {l : List Evt} {o : List Nat} {b p : Nat}
theorem SrAt.fr0 {g' : H} (Z : SrAt h g k l o b x8) (F : Fr [] g g') : SrAt h g' k l o b x8 := by
  obtain ⟨f, nb, ⟨cs, h1, h2, h3⟩, mb, c, n, ms, kd, q1, q2, q3, q4, q5, q6, q7⟩ := Z
  exact ⟨f.trans' F, nb, ⟨cs, F.get f.ok h1 (by simp), h2, h3⟩, mb, c, n, ms, kd, q1, q2, F.get f.ok q3 (by simp), q4, q5, q6, fun j hj => by
    obtain ⟨B, r, a1, a2, a3, a4⟩ := q7 j hj
    exact ⟨B, r, a1, a2, a3.fr0 F, a4⟩⟩
theorem SrAt.row (Z : SrAt h g k l o b x8) (ho : o.length ≤ l.length) : RowO .i64 g.get (.sl b 0 o.length (.ex l.length)) (nI o) := by
  obtain ⟨cs, h1, h2, h3⟩ := Z.ord
  refine .inr ⟨b, 0, .ex l.length, .rw, cs, by rw [zeq], h1, by rw [zeq, List.drop_zero]; exact h3, by rw [zeq]; omega, .inr ⟨_, rfl, by rw [zeq]; exact ho⟩⟩
theorem SrAt.lt (Z : SrAt h g k l o b x8) : b < g.next := by
  obtain ⟨cs, h1, _⟩ := Z.ord
  exact Z.fr.ok.lt h1
theorem SrAt.keep {g1 g2 : H} {K : MdB} {r : RSt} {m : Nat} (Z : SrAt h g k l o b x8) (F1 : Fr [] g g1) (Y : Mod h k g1 K r m) (hK : ∀ x ∈ K.l, g.next ≤ x) (F2 : Fr K.l g1 g2) : SrAt h g2 k l o b x8 := by
  have hb := Z.lt
  have Z1 := Z.fr0 F1
  obtain ⟨f, nb, ⟨cs, h1, h2, h3⟩, mb, c, n, ms, kd, q1, q2, q3, q4, q5, q6, q7⟩ := Z
  obtain ⟨f', _, ⟨cs', h1', h2', h3'⟩, mb', c', n', ms', kd', q1', q2', q3', q4', q5', q6', q7'⟩ := Z1
  have e : V.sl mb 0 n c = V.sl mb' 0 n' c' := q1.symm.trans q1'
  cases e
  have hmb : mb < g.next := f.ok.lt q3
  refine ⟨f'.trans F2 (fun x hx => .inr (Y.lo x hx)), nb, ⟨cs', F2.get f'.ok h1' (fun q => by have := hK b q; omega), h2', h3'⟩, mb, c, n, ms', kd', q1', q2', F2.get f'.ok q3' (fun q => by have := hK mb q; omega), q4', q5', q6', fun j hj => ?_⟩
  obtain ⟨B, r, a1, a2, a3, a4⟩ := q7 j hj
  have ap : Apart K B := Apart.new a3 hK
  have hms : ms = ms' := by
    have := F1.get f.ok q3 (by simp)
    rw [q3'] at this
    simp only [Option.some.injEq, Blk.cells.injEq] at this
    exact this.1.symm
  subst hms
  exact ⟨B, r, a1, a2, (a3.fr0 F1).keep Y F2 ap, a4⟩
theorem Mod.putb {B : MdB} {r : RSt} {m : Nat} (X : Mod h k g B r m) (h1 : b ∉ B.l) (h2 : b ∉ B.nb) (hb : h.next ≤ b) (hg : b < g.next) (cs : List V) : Mod h k (g.put b (some (.cells cs .rw))) B r m := by
  have F : Fr [b] g (g.put b (some (.cells cs .rw))) := (Fr.refl X.fr.ok).put (.inl (by simp)) hg _
  exact ⟨X.fr.put (.inr hb) hg _, X.M.fr' X.fr.ok F (fun x hx q => by simp only [List.mem_singleton] at q; exact h1 (q ▸ hx)) (fun x hx q => by simp only [List.mem_singleton] at q; exact h2 (q ▸ hx)), X.I, X.sz, X.lo⟩
theorem z0bl {cs : List V} {m : Nat} {v : V} (h : m < cs.length) : (cs.set m v).take (m + 1) = cs.take m ++ [v] := by
  rw [List.take_succ, List.getElem?_set_self h, List.take_set_of_le (Nat.le_refl m)]; rfl
theorem SrAt.push {K : MdB} {r' : RSt} {cs ms : List V} {mb n : Nat} {c : Cap} {kd : Bk} (Z : SrAt h g k l o b x8) (hx8 : x8 = .sl mb 0 n c) (hb : g.get b = some (.cells cs .rw)) (hmb : g.get mb = some (.cells ms kd)) (ho : o.length < l.length)
    (Y : Mod h k g K r' (o.length + 1)) (hS : rpS k l (rst0 k) (nI (o ++ [p])) = some r') (y1 : b ∉ K.l) (y2 : b ∉ K.nb) :
    ∀ g5 : H, g5 = (((g.new (.cells [.int .i64 (p : Int)] .rw)).put b (some (.cells (cs.set o.length (.int .i64 (p : Int))) .rw))).new (.cells [.ptr K.b 0] .rw)) → SrAt h (g5.new (.cells (ms.take (o.length + 1) ++ [.ptr K.b 0]) (.gr 1))) k l (o ++ [p]) b (.sl g5.next 0 (o.length + 1 + 1) (.op 1)) := by
  intro g5 hg5
  have hlt := Z.lt
  obtain ⟨f, nb, ⟨cs', h1, h2, h3⟩, mb', c', n', ms', kd', q1, q2, q3, q4, q5, q6, q7⟩ := Z
  rw [hb] at h1
  simp only [Option.some.injEq, Blk.cells.injEq, and_true] at h1
  subst h1
  rw [hx8] at q1
  cases q1
  rw [hmb] at q3
  simp only [Option.some.injEq, Blk.cells.injEq] at q3
  obtain ⟨rfl, rfl⟩ := q3
  have F1 : Fr [] g (g.new (.cells [.int .i64 (p : Int)] .rw)) := (Fr.refl f.ok).new _
  have hlt1 : b < (g.new (.cells [.int .i64 (p : Int)] .rw)).next := Nat.lt_succ_of_lt hlt
  have mv : ∀ {B : MdB} {r : RSt} {m : Nat}, Mod h k g B r m → b ∉ B.l → b ∉ B.nb → Mod h k (g5.new (.cells (ms.take (o.length + 1) ++ [.ptr K.b 0]) (.gr 1))) B r m := by
    intro B r m X b1 b2
    have X1 := (X.fr0 F1).putb b1 b2 nb hlt1 (cs.set o.length (.int .i64 (p : Int)))
    have X2 := X1.fr0 ((Fr.refl X1.fr.ok).new (.cells [.ptr K.b 0] .rw))
    rw [← hg5] at X2
    exact X2.fr0 ((Fr.refl X2.fr.ok).new _)
  have Y' := mv Y y1 y2
  have ok4 : ((g.new (.cells [.int .i64 (p : Int)] .rw)).put b (some (.cells (cs.set o.length (.int .i64 (p : Int))) .rw))).ok := ((Y.fr0 F1).putb y1 y2 nb hlt1 (cs.set o.length (.int .i64 (p : Int)))).fr.ok
  have hbn : b ≠ g5.next := by
    rw [hg5]
    show b ≠ g.next + 1 + 1
    omega
  have hb5 : (g5.new (.cells (ms.take (o.length + 1) ++ [.ptr K.b 0]) (.gr 1))).get b = some (.cells (cs.set o.length (.int .i64 (p : Int))) .rw) := by
    have F5 : Fr [] ((g.new (.cells [.int .i64 (p : Int)] .rw)).put b (some (.cells (cs.set o.length (.int .i64 (p : Int))) .rw))) g5 := by rw [hg5]; exact (Fr.refl ok4).new _
    have F6 : Fr [] g5 (g5.new (.cells (ms.take (o.length + 1) ++ [.ptr K.b 0]) (.gr 1))) := (Fr.refl F5.ok).new _
    exact (F5.trans' F6).get ok4 (z0a _ _ _) (by simp)
  have hlen : (ms.take (o.length + 1)).length = o.length + 1 := by rw [List.length_take]; omega
  refine ⟨Y'.fr, nb, ⟨_, hb5, by rw [List.length_set]; exact h2, ?_⟩, g5.next, .op 1, o.length + 1 + 1, _, .gr 1, rfl, .inl rfl, zp _ _, by rw [List.length_append, hlen]; exact Nat.le_refl _, by rw [List.length_append]; exact Nat.lt_succ_self _, Ne.symm hbn, fun j hj => ?_⟩
  · rw [List.length_append, List.length_singleton, z0bl (by omega), h3, zoq, List.map_append]; rfl
  · rw [List.length_append, List.length_singleton] at hj
    by_cases hjo : j ≤ o.length
    · obtain ⟨B, r, a1, a2, a3, a4, a5⟩ := q7 j hjo
      refine ⟨B, r, ?_, ?_, mv a3 a4 a5, a4, a5⟩
      · rw [List.getElem?_append_left (by omega), List.getElem?_take, if_pos (by omega)]; exact a1
      · rw [List.take_append_of_le_length hjo]; exact a2
    · have hj' : j = o.length + 1 := by omega
      subst hj'
      refine ⟨K, r', ?_, ?_, Y', y1, y2⟩
      · rw [List.getElem?_append_right (by omega), hlen, Nat.sub_self]; rfl
      · rw [List.take_of_length_le (by simp)]; exact hS
end
section
variable {h g : H} {k : Cfg} {x0 x8 : V} {l : List Evt} {o : List Nat} {b p : Nat}
theorem z08k (ok : h.ok) (hr : k.R = true) (hx : RowE h.get x0 l) (hu : ∀ y ∈ l, U64 y.ah) (hl : l.length ≤ 7) (Z : SrAt h g k l o b x8) (A : OkF k l o) (Sv : SInv k l o p) (ho : o.length < l.length) (hp : p ≤ l.length) :
    Ev (S.z5r W x0 (.sl b 0 o.length (.ex l.length)) x8 (p : Nat) g) fun z =>
      ∃ lb o' p' x8', z.1 = .goto lb ∧ z.2.1 = S.z0h x0 (.sl b 0 o'.length (.ex l.length)) x8' (.int .i64 (p' : Nat)) ∧ SrAt h z.2.2 k l o' b x8' ∧ OkF k l o' ∧ SInv k l o' p' ∧ p' ≤ l.length ∧
        ((lb = 1 ∧ o' = o ∧ p' = p ∧ p = l.length) ∨ (lb = 2 ∧ o' = o ∧ p' = p + 1) ∨ (lb = 0 ∧ o' = o ++ [p] ∧ p' = 0)) := by
  have hxl := hx.len
  by_cases hpn : p = l.length
  · have d : decide ((p : Int) = (l.length : Int)) = true := decide_eq_true (by omega)
    simp only [S.z5r, hxl, zd, d]
    exact Ev.some ⟨1, o, p, x8, rfl, rfl, Z, A, Sv, hp, .inl ⟨rfl, rfl, rfl, hpn⟩⟩
  have hpl : p < l.length := by omega
  have d : decide ((p : Int) = (l.length : Int)) = false := decide_eq_false (by omega)
  have hol : (nI o).length ≤ 100000 := by rw [zeq]; omega
  obtain ⟨⟨v1, g1⟩, e1, b1, rfl, hb1, F1⟩ := z0ba Z.fr.ok (hx.fr ok Z.fr (by simp)) (Z.row (Nat.le_of_lt ho)) hol (by omega) hpl
  dsimp only at F1
  have wk := rl_k (n := p) (by omega)
  have Z1 := Z.fr0 F1
  cases b1 with
  | false =>
    simp only [S.z5r, hxl, zd, d, zh, e1, z04, wk]
    exact Ev.some ⟨2, o, p + 1, x8, rfl, rfl, Z1, A, Sv.skip (fun q => absurd (hb1.mpr q.1) (by decide)), hpl, .inr (.inl ⟨rfl, rfl, rfl⟩)⟩
  | true =>
    have hm := hb1.mp rfl
    obtain ⟨mb, c, n, ms, kd, rfl, hc, hmb, hn, hon, hne, hall⟩ := Z1.mods
    obtain ⟨B, r, a1, a2, a3, a4, a5⟩ := hall o.length (Nat.le_refl _)
    rw [List.take_length] at a2
    have ix8 : za 1 (.sl mb 0 n c) (.int .i64 (o.length : Nat)) = some (.ptr mb o.length) := zu hon
    have l8 : g1.ld1 (.ptr mb o.length) = some (.ptr B.b 0) := z1i hmb a1 rfl
    obtain ⟨⟨v2, g2⟩, e2, K, rfl, F2, XK, hK, nK⟩ := a3.copy hr (by omega)
    dsimp only at F2 XK
    obtain ⟨y, hy⟩ : ∃ y, l[p]? = some y := ⟨_, List.getElem?_eq_getElem hpl⟩
    obtain ⟨eb, q1, q2, q3, q4⟩ := z02b (hx.fr ok XK.fr (by simp)) hy
    obtain ⟨⟨v3, g3⟩, e3, hv, K', XK', F3, E3⟩ := XK.does (c := y.call) (a := y.ans) hr (by omega) (hu y (List.mem_of_getElem? hy)) y.client
    dsimp only at hv XK' F3
    subst hv
    have Z3 := Z1.keep F2 XK hK F3
    have hst := z078 (k := k) (r := r) hy
    have ls7 : lenSl (.sl b 0 o.length (.ex l.length)) = some o.length := rfl
    cases hok : okR k r y.client y.call y.ans with
    | false =>
      rw [hok] at e3
      rw [hok, if_neg (by decide)] at hst
      simp only [S.z5r, hxl, zd, d, zh, e1, z04, ls7, ix8, l8, e2, q1, zg, Nat.add_zero, q2, q3, q4, e3, wk]
      refine Ev.some ⟨2, o, p + 1, .sl mb 0 n c, rfl, rfl, Z3, A, Sv.skip ?_, hpl, .inr (.inl ⟨rfl, rfl, rfl⟩)⟩
      rintro ⟨_, r1, r2, t1, t2⟩
      rw [a2] at t1
      cases t1
      rw [hst] at t2; cases t2
    | true =>
      rw [hok] at e3
      rw [hok, if_pos rfl] at hst
      have hS : rpS k l (rst0 k) (nI (o ++ [p])) = some (doR k r y.client y.call y.ans) := by rw [zoq, zrc, a2]; exact hst
      obtain ⟨cs, h1, h2, h3⟩ := Z3.ord
      have hmb1 : mb < g1.next := Z1.fr.ok.lt hmb
      have hb1' : b < g1.next := Z1.lt
      have hmb3 : g3.get mb = some (.cells ms kd) := F3.get F2.ok (F2.get Z1.fr.ok hmb (by simp)) (fun q => by have := hK mb q; omega)
      have y1 : b ∉ K'.l := fun q => by
        rcases E3.l b q with q | q
        · have := hK b q; omega
        · have := F2.le; omega
      have y2 : b ∉ K'.nb := fun q => by
        rcases E3.n b q with q | q
        · rw [nK] at q; exact a5 q
        · have := F2.le; omega
      have P := Z3.push (p := p) rfl h1 hmb3 ho XK' hS y1 y2 _ rfl
      rw [E3.b] at P
      have Fa : Fr [] g3 (g3.new (.cells [.int .i64 (p : Int)] .rw)) := (Fr.refl Z3.fr.ok).new _
      have hlt3 : b < g3.next := Z3.lt
      have ap1 := z07p (v := .int .i64 (p : Int)) (c := .ex 1) (Fa.get Z3.fr.ok h1 (by simp)) h2 ho (by omega) (zp g3 (.cells [.int .i64 (p : Int)] .rw)) rfl
      have Fb : Fr [b] (g3.new (.cells [.int .i64 (p : Int)] .rw)) ((g3.new (.cells [.int .i64 (p : Int)] .rw)).put b (some (.cells (cs.set o.length (.int .i64 (p : Int))) .rw))) := (Fr.refl Fa.ok).put (.inl (by simp)) (Nat.lt_succ_of_lt hlt3) _
      have hmb4 := Fb.get Fa.ok (Fa.get Z3.fr.ok hmb3 (by simp)) (by simpa using hne)
      have ls19 : lenSl (.sl b 0 (o.length + 1) (.ex l.length)) = some (o.length + 1) := rfl
      have sm := z0ap (mb := mb) hc (j := o.length + 1) (by omega) (by omega)
      have hf : fill (repl [.nilp] 1) [] [(0, 1, .c (.ptr K.b 0))] = some [.ptr K.b 0] := rfl
      have Fc : Fr [] ((g3.new (.cells [.int .i64 (p : Int)] .rw)).put b (some (.cells (cs.set o.length (.int .i64 (p : Int))) .rw))) (((g3.new (.cells [.int .i64 (p : Int)] .rw)).put b (some (.cells (cs.set o.length (.int .i64 (p : Int))) .rw))).new (.cells [.ptr K.b 0] .rw)) := (Fr.refl Fb.ok).new _
      have ap2 := z08o (v := .ptr K.b 0) (c := .ex 1) (j := o.length + 1) (Fc.get Fb.ok hmb4 (by simp)) (by omega) (by omega) (zp ((g3.new (.cells [.int .i64 (p : Int)] .rw)).put b (some (.cells (cs.set o.length (.int .i64 (p : Int))) .rw))) (.cells [.ptr K.b 0] .rw)) rfl
      simp only [S.z5r, hxl, zd, d, zh, e1, z04, ls7, ix8, l8, e2, q1, zg, Nat.add_zero, q2, q3, q4, e3, ap1, ls19, sm, hf, ap2]
      refine Ev.some ⟨0, o ++ [p], 0, _, rfl, ?_, P, A.snoc hpl hm a2 hst, Sv.push, Nat.zero_le _, .inr (.inr ⟨rfl, rfl, rfl⟩)⟩
      rw [List.length_append, List.length_singleton]; rfl
end
theorem z0f2 (M : Env) (x1 x7 x8 : V) (x9 : Int) (h : H) : S.zr4 M x1 x7 x8 x9 h = (lenSl x7).bind fun n0 => (lenSl x1).bind fun n1 => match decide (((n0 : Nat) : Int) = ((n1 : Nat) : Int)) with
    | true => some (.ret, (S.z2r x7 (.bool true) (.int .i64 0)), h)
    | false => S.z5r M x1 x7 x8 x9 h := by kernel_rfl
theorem z0ey (M : Env) (x0 x1 x2 x4 : V) (x5 : Bool) (x6 : Int) (h : H) : S.zs1 M x0 x1 x2 x4 x5 x6 h = (h.ldN 6 x2).bind fun v0 => (M.call 263 [v0] h).bind fun p1 => (asB p1.1).bind fun b2 => match (!b2) with
    | true => some (.ret, (S.z2r .nilsl (.bool false) (.int .i64 1)), p1.2)
    | false => (lenSl x1).bind fun n3 => match decide (7 < ((n3 : Nat) : Int)) with
      | true => some (.ret, (S.z2r .nilsl (.bool false) (.int .i64 10)), p1.2)
      | false => (lenSl x1).bind fun n4 => (p1.2.mkSl 1 8 [(.int .i64 0)] 0 ((n4 : Nat) : Int)).bind fun p5 => (p5.2.ldN 6 x2).bind fun v6 => (M.call 96 [v6] p5.2).bind fun p7 => (fill (repl [.nilp] 1) [] [(0, 1, .c p7.1)]).bind fun cs8 =>
        let h9 := p7.2.new (.cells cs8 .rw)
        (lenSl p5.1).bind fun n10 => (lenSl x1).bind fun n11 => match decide (((n10 : Nat) : Int) = ((n11 : Nat) : Int)) with
        | true => some (.ret, (S.z2r p5.1 (.bool true) (.int .i64 0)), h9)
        | false => S.z5r M x1 p5.1 (.sl p7.2.next 0 1 (.ex 1)) 0 h9 := by kernel_rfl
section
variable {h g : H} {k : Cfg} {x0 x8 : V} {l : List Evt} {o : List Nat} {b p : Nat}
def z0ca (k : Cfg) (l : List Evt) (q : List Nat) : Prop := q.length = l.length ∧ OkF k l q ∧ ∀ q', OkF k l q' → q'.length = l.length → ¬ Past q q'
def z08m (h : H) (k : Cfg) (l : List Evt) (z : AX × List V × H) : Prop :=
  z.1 = .ret ∧ Fr [] h z.2.2 ∧ ((∃ q x, z.2.1 = S.z2r x (.bool true) (.int .i64 0) ∧ RowN .i64 z.2.2.get x (nI q) ∧ z0ca k l q) ∨
    (z.2.1 = S.z2r .nilsl (.bool false) (.int .i64 0) ∧ ∀ q, OkF k l q → q.length ≠ l.length))
theorem SrAt.full (Z : SrAt h g k l o b x8) (A : OkF k l o) (Sv : SInv k l o p) (ho : o.length = l.length) : z08m h k l (.ret, S.z2r (.sl b 0 o.length (.ex l.length)) (.bool true) (.int .i64 0), g) := by
  refine ⟨rfl, Z.fr, .inl ⟨o, _, rfl, ?_, ho, A, fun q' h1 h2 h3 => Sv q' h1 h2 (z8t.mpr (.inl h3))⟩⟩
  obtain ⟨cs, h1, h2, h3⟩ := Z.ord
  rw [ho, ← h2, List.take_length] at h3
  exact .inr ⟨b, _, _, by rw [zeq], by rw [h1, h3]⟩
structure LbAt (h : H) (k : Cfg) (l : List Evt) (b : Nat) (lb : Nat) (o : List Nat) (p : Nat) (x8 : V) (g : H) : Prop where
  Z : SrAt h g k l o b x8
  A : OkF k l o
  Sv : SInv k l o p
  pp : p ≤ l.length
  oo : o.length ≤ l.length
  one : lb = 1 → p = l.length ∧ o.length < l.length
  two : lb = 2 → o.length < l.length
  ll : lb = 0 ∨ lb = 1 ∨ lb = 2
def mu (lb : Nat) (o : List Nat) (p : Nat) : Nat := 2 * (10 ^ 9 - cod 9 (o ++ [p])) + if lb = 1 then 0 else 1
theorem LbAt.dig {lb : Nat} (L : LbAt h k l b lb o p x8 g) (hl : l.length ≤ 7) : cod 9 (o ++ [p]) < 10 ^ 9 := z047 9 _ fun d hd => by
  rcases List.mem_append.mp hd with hd | hd
  · obtain ⟨j, hj⟩ := List.mem_iff_getElem?.mp hd
    have := (L.A.may j d hj).1
    omega
  · have := List.mem_singleton.mp hd
    have := L.pp
    omega
theorem z0c8 {lb lb' : Nat} {o' : List Nat} {p' : Nat} (hd : cod 9 (o ++ [p]) < 10 ^ 9) (h1 : cod 9 (o ++ [p]) < cod 9 (o' ++ [p'])) : mu lb' o' p' < mu lb o p := by
  unfold mu
  split <;> split <;> omega
theorem zyw (ok : h.ok) (hr : k.R = true) (hx : RowE h.get x0 l) (hu : ∀ y ∈ l, U64 y.ah) (hl : l.length ≤ 7) {lb : Nat} (hlb : lb ≠ 1) (L : LbAt h k l b lb o p x8 g) (ho : o.length < l.length) :
    Ev (S.z5r W x0 (.sl b 0 o.length (.ex l.length)) x8 (p : Nat) g) fun z =>
      ∃ lb' o' p' x8', z.1 = .goto lb' ∧ z.2.1 = S.z0h x0 (.sl b 0 o'.length (.ex l.length)) x8' (.int .i64 (p' : Nat)) ∧ LbAt h k l b lb' o' p' x8' z.2.2 ∧ mu lb' o' p' < mu lb o p := by
  have hd := L.dig hl
  refine (z08k ok hr hx hu hl L.Z L.A L.Sv ho L.pp).mono ?_
  rintro z ⟨lb', o', p', x8', hz, he, Z', A', Sv', hp', hc⟩
  refine ⟨lb', o', p', x8', hz, he, ?_⟩
  rcases hc with ⟨rfl, rfl, rfl, hpn⟩ | ⟨rfl, rfl, rfl⟩ | ⟨rfl, rfl, rfl⟩
  · refine ⟨⟨Z', A', Sv', hp', L.oo, fun _ => ⟨hpn, ho⟩, fun q => (by cases q), .inr (.inl rfl)⟩, ?_⟩
    unfold mu
    rw [if_pos rfl, if_neg hlb]; omega
  · exact ⟨⟨Z', A', Sv', hp', L.oo, fun q => (by cases q), fun _ => ho, .inr (.inr rfl)⟩, z0c8 hd (z055 9 _ _ (by omega))⟩
  · refine ⟨⟨Z', A', Sv', hp', by rw [List.length_append, List.length_singleton]; exact ho, fun q => (by cases q), fun q => (by cases q), .inl rfl⟩, z0c8 hd (z05q 9 _ _ (by rw [List.length_append, List.length_singleton]; omega))⟩
theorem z0dp (ok : h.ok) (hr : k.R = true) (hx : RowE h.get x0 l) (hu : ∀ y ∈ l, U64 y.ah) (hl : l.length ≤ 7) {lb : Nat} (L : LbAt h k l b lb o p x8 g) :
    Ev (S.zc6 W (lb + 1) (S.z0h x0 (.sl b 0 o.length (.ex l.length)) x8 (.int .i64 (p : Nat))) g) fun z =>
      (∃ lb' o' p' x8', z.1 = .goto lb' ∧ z.2.1 = S.z0h x0 (.sl b 0 o'.length (.ex l.length)) x8' (.int .i64 (p' : Nat)) ∧ LbAt h k l b lb' o' p' x8' z.2.2 ∧ mu lb' o' p' < mu lb o p) ∨ z08m h k l z := by
  have hxl := hx.len
  have ls7 : lenSl (.sl b 0 o.length (.ex l.length)) = some o.length := rfl
  rcases L.ll with rfl | rfl | rfl
  · rw [S.zvn, z0f2]
    by_cases hf : o.length = l.length
    · have d : decide ((o.length : Int) = (l.length : Int)) = true := decide_eq_true (by omega)
      simp only [ls7, hxl, zd, d]
      exact Ev.some (.inr (L.Z.full L.A L.Sv hf))
    · have d : decide ((o.length : Int) = (l.length : Int)) = false := decide_eq_false (by omega)
      simp only [ls7, hxl, zd, d]
      exact (zyw ok hr hx hu hl (by decide) L (by have := L.oo; omega)).mono fun z hz => .inl hz
  · obtain ⟨rfl, ho⟩ := L.one rfl
    rw [S.zwm]
    by_cases h0 : o.length = 0
    · have d : decide ((o.length : Int) = 0) = true := decide_eq_true (by omega)
      have hnil : o = [] := List.eq_nil_of_length_eq_zero h0
      simp only [S.zkq, ls7, zd, d]
      refine Ev.some (.inr ⟨rfl, L.Z.fr, .inr ⟨rfl, fun q hq hn => ?_⟩⟩)
      subst hnil
      exact L.Sv.none (by simpa using ho) q hq hn
    · have d : decide ((o.length : Int) = 0) = false := decide_eq_false (by omega)
      obtain ⟨o', x, rfl⟩ : ∃ o' x, o = o' ++ [x] := ⟨o.dropLast, o.getLast (by intro q; subst q; exact h0 rfl), (List.dropLast_concat_getLast _).symm⟩
      have hlen : (o' ++ [x]).length = o'.length + 1 := by rw [List.length_append, List.length_singleton]
      rw [hlen] at ho h0 d ls7 ⊢
      have w1 : wr .i64 (((o'.length + 1 : Nat) : Int) - 1) = (o'.length : Nat) := by rw [wr64 (by omega) (by omega)]; omega
      obtain ⟨cs, h1, h2, h3⟩ := L.Z.ord
      have hcx : cs[o'.length]? = some (.int .i64 (x : Int)) := by
        have e : (cs.take (o' ++ [x]).length)[o'.length]? = some (.int .i64 (x : Int)) := by
          rw [h3, zoq, List.map_append, List.getElem?_append_right (by rw [List.length_map, zeq]; exact Nat.le_refl _), List.length_map, zeq, Nat.sub_self]; rfl
        rw [List.getElem?_take, if_pos (by rw [hlen]; omega)] at e
        exact e
      have ix : za 1 (.sl b 0 (o'.length + 1) (.ex l.length)) (.int .i64 (o'.length : Nat)) = some (.ptr b o'.length) := zu (Nat.lt_succ_self _)
      have ld := z1i h1 hcx (by rfl)
      have sh := z0ax (b := b) (n := o'.length + 1) (N := l.length) (j := o'.length) (by omega) (by omega) (by omega)
      have hxn := (L.A.may o'.length x (by simp)).1
      have wx := rl_k (n := x) (by omega)
      simp only [S.zkq, ls7, zd, d, w1, ix, ld, ze, sh, wx]
      have hb := z056 9 o' x l.length (by omega) (by omega)
      refine Ev.some (.inl ⟨2, o', x + 1, x8, rfl, rfl, ⟨?_, ?_, L.Sv.back (by omega), hxn, by omega, fun q => (by cases q), fun _ => by omega, .inr (.inr rfl)⟩, ?_⟩)
      · obtain ⟨mb, c, n, ms, kd, q1, q2, q3, q4, q5, q6, q7⟩ := L.Z.mods
        rw [hlen] at q5
        refine ⟨L.Z.fr, L.Z.nb, ⟨cs, h1, h2, ?_⟩, mb, c, n, ms, kd, q1, q2, q3, q4, by omega, q6, fun j hj => ?_⟩
        · have e := congrArg (List.take o'.length) h3
          rw [List.take_take, hlen, Nat.min_eq_left (by omega), zoq, List.map_append, List.take_append_of_le_length (by rw [List.length_map, zeq]; exact Nat.le_refl _)] at e
          rw [e]
          exact List.take_of_length_le (by rw [List.length_map, zeq]; exact Nat.le_refl _)
        · obtain ⟨B, r, a1, a2, a3⟩ := q7 j (by rw [hlen]; omega)
          rw [List.take_append_of_le_length hj] at a2
          exact ⟨B, r, a1, a2, a3⟩
      · obtain ⟨r, hr'⟩ := L.A.tak
        rw [zoq] at hr'
        obtain ⟨r1, h4, _⟩ := z01l _ _ _ hr'
        refine ⟨⟨r1, h4⟩, fun j i hj => ?_⟩
        have hjl := z01 hj
        have := L.A.may j i (by rw [List.getElem?_append_left hjl]; exact hj)
        rw [List.take_append_of_le_length (Nat.le_of_lt hjl)] at this
        exact this
      · have hd := L.dig hl
        unfold mu
        rw [if_neg (by decide), if_pos rfl]
        omega
  · rw [S.zv3]
    exact (zyw ok hr hx hu hl (by decide) L (L.two rfl)).mono fun z hz => .inl hz
end
section
variable {h : H} {k : Cfg} {x0 : V} {l : List Evt}
theorem z067 (ok : h.ok) (hr : k.R = true) (hx : RowE h.get x0 l) (hu : ∀ y ∈ l, U64 y.ah) (hl : l.length ≤ 7) :
    Ev (C 208 [k.v, x0] h) fun z => Fr [] h z.2 ∧ ((∃ q x, z.1 = .tup [x, .bool true, .int .i64 0] ∧ RowN .i64 z.2.get x (nI q) ∧ z0ca k l q) ∨
      (z.1 = .tup [.nilsl, .bool false, .int .i64 0] ∧ ∀ q, OkF k l q → q.length ≠ l.length)) := by
  refine z0i (af := F.z9i) (by kernel_rfl) rfl ?_
  rw [z08n, S.z02w]
  simp only [S.z9i]
  obtain ⟨g0, hg, F0, hq⟩ := z01e k ok
  rw [← hg]
  refine z09y (α := Nat × List Nat × Nat × V) (fun a => a.1) (fun a => S.z0h x0 (.sl g0.next 0 a.2.1.length (.ex l.length)) a.2.2.2 (.int .i64 (a.2.2.1 : Nat)))
    (fun a g => LbAt h k l g0.next a.1 a.2.1 a.2.2.1 a.2.2.2 g) (fun a _ => mu a.1 a.2.1 a.2.2.1) (z08m h k l) ?_ ?_ ?_
  · rw [S.zyo, z0ey]
    have hxl := hx.len
    have lk := zmo hq
    have hR : C 263 [k.v] g0 = some (.bool k.R, g0) := zpa k.s k.a k.c k.hd k.g k.st g0
    rw [hr] at hR
    have d7 : decide ((7 : Int) < (l.length : Int)) = false := decide_eq_false (by omega)
    have hmk : g0.mkSl 1 8 [(.int .i64 0)] 0 ((l.length : Nat) : Int) = some (.sl g0.next 0 0 (.ex l.length), g0.new (.cells (z8v l.length 0) .rw)) := by
      rw [ztf (e := 1) (z := [.int .i64 0]) (Int.le_refl 0) (Int.natCast_nonneg _) (by omega) (by omega) rfl (by decide), Int.toNat_natCast, z006]; rfl
    have F1 : Fr [] g0 (g0.new (.cells (z8v l.length 0) .rw)) := (Fr.refl F0.ok).new _
    have hb1 := zp g0 (.cells (z8v l.length 0) .rw)
    have hn1 : (g0.new (.cells (z8v l.length 0) .rw)).next = g0.next + 1 := rfl
    generalize g0.new (.cells (z8v l.length 0) .rw) = g1 at hmk F1 hb1 hn1
    obtain ⟨⟨v2, g2⟩, e2, B, rfl, F2, XB, hB, nB⟩ := Mod.new (h0 := h) hr (F0.trans' F1)
    dsimp only at F2 XB
    have lk1 := zmo (F1.get F0.ok hq (by simp))
    have hf : fill (repl [.nilp] 1) [] [(0, 1, .c (.ptr B.b 0))] = some [.ptr B.b 0] := rfl
    have F3 : Fr [] g2 (g2.new (.cells [.ptr B.b 0] .rw)) := (Fr.refl F2.ok).new _
    have ls : lenSl (.sl g0.next 0 0 (.ex l.length)) = some 0 := rfl
    have hle2 := F2.le
    have Z : SrAt h (g2.new (.cells [.ptr B.b 0] .rw)) k l [] g0.next (.sl g2.next 0 1 (.ex 1)) := by
      refine ⟨((F0.trans' F1).trans' F2).trans' F3, F0.le, ⟨z8v l.length 0, (F2.trans' F3).get F1.ok hb1 (by simp), zho _ _, rfl⟩, g2.next, .ex 1, 1, [.ptr B.b 0], .rw, rfl, .inr rfl, zp _ _, Nat.le_refl _, Nat.zero_lt_one, (by omega), fun j hj => ?_⟩
      have hj0 : j = 0 := by simpa using hj
      subst hj0
      exact ⟨B, rst0 k, rfl, rfl, XB.fr0 F3, fun q => by have := hB _ q; omega, fun q => by rw [nB] at q; cases q⟩
    simp only [lk, zd, zh, hR, z04, Bool.not_true, hxl, d7, hmk, lk1, e2, hf, ls]
    by_cases h0 : l.length = 0
    · have d : decide (((0 : Nat) : Int) = (l.length : Int)) = true := decide_eq_true (by omega)
      simp only [d]
      exact Ev.some (.inr ⟨by simp, (Z.full (p := 0) z06z z0c9 h0.symm)⟩)
    · have d : decide (((0 : Nat) : Int) = (l.length : Int)) = false := decide_eq_false (by omega)
      simp only [d]
      have L : LbAt h k l g0.next 0 [] 0 (.sl g2.next 0 1 (.ex 1)) (g2.new (.cells [.ptr B.b 0] .rw)) := ⟨Z, z06z, z0c9, Nat.zero_le _, Nat.zero_le _, fun q => (by cases q), fun q => (by cases q), .inl rfl⟩
      have := zyw ok hr hx hu hl (by decide) L (by simpa using Nat.pos_of_ne_zero h0)
      refine Ev.mono (this) ?_
      rintro z ⟨lb', o', p', x8', hz, he, L', _⟩
      exact .inl ⟨(lb', o', p', x8'), hz, he, L'⟩
  · rintro ⟨lb, o, p, x8⟩ g L
    refine (z0dp ok hr hx hu hl L).mono ?_
    rintro z (⟨lb', o', p', x8', hz, he, L', hm⟩ | hF)
    · exact .inl ⟨(lb', o', p', x8'), hz, he, L', hm⟩
    · exact .inr ⟨by rw [hF.1]; simp, hF⟩
  · rintro ⟨_, _, g⟩ ⟨rfl, F, ⟨q, x, rfl, hrow, hf⟩ | ⟨rfl, hn⟩⟩
    · show Ev (S.zkg W .ret _ _) _
      rw [S.zpu]
      exact Ev.some ⟨F, .inl ⟨q, x, rfl, hrow, hf⟩⟩
    · show Ev (S.zkg W .ret _ _) _
      rw [S.zpu]
      exact Ev.some ⟨F, .inr ⟨rfl, hn⟩⟩
end
end Wm
end
noncomputable section
namespace Wm
set_option maxRecDepth 100000 in
theorem z063 : runF prog meth 2000 200 204 [] .empty = some (.bool true, .empty) := by kernel_rfl
theorem z0d7 (h : H) : C 204 [] h = some (.bool true, h) := z00j (af := F.zg3) (by kernel_rfl) rfl (by rw [← ztp]; exact z063) h
end Wm
end
noncomputable section
namespace Wm
attribute [local congr] zk
attribute [local irreducible] wr
theorem z02o {l : List Evt} {o : List Int} {clients : Int} (hr : ztc l clients) (ho : OrdL l o) : Resp l o := by
  refine ⟨ho.all.len, fun k hk => ?_⟩
  obtain ⟨i, hi, hoi⟩ := ho.all.at hk
  obtain ⟨x, hx⟩ : ∃ x, l[i]? = some x := ⟨_, List.getElem?_eq_getElem hi⟩
  refine ⟨i, x, hoi, hx, fun a ha he => absurd (ho.all.inj he hoi) (by omega), fun a y ha hy hlt => ?_⟩
  obtain ⟨j, hj, hyj⟩ := hy
  have hs := List.pairwise_iff_getElem.mp ho.sorted a k (z01 hj) (z01 hoi) ha
  have e1 : o[a]'(z01 hj) = (j : Int) := Option.some.inj (by rw [← List.getElem?_eq_getElem, hj])
  have e2 : o[k]'(z01 hoi) = (i : Int) := Option.some.inj (by rw [← List.getElem?_eq_getElem, hoi])
  rw [e1, e2, zx9] at hs
  have h1 := hs.1
  unfold ltO at h1
  rw [zup hx, zup hyj, zt7] at h1
  have b1 := hr.1 i x hx
  have b2 := hr.1 j y hyj
  have q1 := b1.p0
  have q2 := b1.p1
  have q3 := b2.p0
  have q4 := b2.p1
  omega
def shLinPoints : List (Bool × List CSh) := [(true, [.int .i64, .int .i64, .int .i64, .int .i64, .int .i64, .int .i64]), (false, [.sl 112 [.int .i64, .int .i64, .int .i64, .int .i64, .int .i64, .bool, .int .i64, .int .i64, .int .u64, .int .u64, .int .u64, .int .i64, .int .u64, .bool]])]
theorem lawLinPoints (h : H) (us : List V) (ok : h.ok) (ha : z00q h.get shLinPoints us) : Ev (C 46 us h) fun r => r.1 = .bool true := by
  obtain ⟨_, _, rfl, ⟨_, rfl, _, _, rfl, ⟨s, rfl, _⟩, _, _, rfl, ⟨a, rfl, _⟩, _, _, rfl, ⟨c, rfl, _⟩, _, _, rfl, ⟨hd, rfl, _⟩, _, _, rfl, ⟨g, rfl, _⟩, _, _, rfl, ⟨st, rfl, _⟩, rfl⟩, _, _, rfl, ⟨_, _, hx, hxc, rfl⟩, rfl⟩ := ha
  cases hx
  rename_i x0
  obtain ⟨l, hx, hu, _, _⟩ := z0eg hxc
  refine z0i (af := F.z49) (by kernel_rfl) rfl ?_
  rw [S.zrn]
  simp only [S.z49]
  obtain ⟨g0, hg, F0, hq⟩ := z01e ⟨s, a, c, hd, g, st⟩ ok
  dsimp only at hg
  rw [← hg]
  have hxl := hx.len
  generalize (⟨s, a, c, hd, g, st⟩ : Cfg) = k at hq
  have aw := z0d7
  by_cases h7 : 7 < l.length
  · have d : decide ((7 : Int) < (l.length : Int)) = true := decide_eq_true (by omega)
    simp only [hxl, zd, d, zh, aw]
    exact Ev.some rfl
  have d : decide ((7 : Int) < (l.length : Int)) = false := decide_eq_false (by omega)
  have hl : l.length ≤ 7 := by omega
  obtain ⟨⟨v1, g1⟩, e1, b1, rfl, hb1, F1⟩ := z065 (k := k) F0.ok (hx.fr ok F0 (by simp)) hu (by omega)
  dsimp only at F1
  cases b1 with
  | false =>
    simp only [hxl, zd, d, zh, zmo hq, e1, z04, Bool.not_false, aw]
    exact Ev.some rfl
  | true =>
    obtain ⟨hr, hR, o, ho, hn⟩ := hb1.mp rfl
    have F01 := F0.trans' F1
    have q1 := F1.get F0.ok hq (by simp)
    obtain ⟨⟨v2, g2⟩, e2, F2, hres⟩ := z067 (k := k) F1.ok hr (hx.fr ok F01 (by simp)) hu hl
    dsimp only at F2 hres
    have F02 := F01.trans' F2
    have q2 := F2.get F1.ok q1 (by simp)
    rcases hres with ⟨q, x, rfl, row, hf⟩ | ⟨_, hno⟩
    · have hres := (z05c hf.1).mp hf.2.1
      obtain ⟨⟨v3, g3⟩, e3, b3, rfl, hb3, F3⟩ := zz0 F2.ok (hx.fr ok F02 (by simp)) row (by omega)
      dsimp only at F3
      have : b3 = true := hb3.mpr hres.1
      subst this
      have F03 := F02.trans' F3
      have q3 := F3.get F2.ok q2 (by simp)
      have hql : (nI q).length = l.length := by rw [zeq]; exact hf.1
      obtain ⟨⟨v4, g4⟩, e4, rfl, F4⟩ := zyc (k := k) (o := nI q) F3.ok hr (hx.fr ok F03 (by simp)) hu (row.P.fr F2.ok F3 (by simp)) (by omega)
      obtain ⟨r', hr'⟩ := hres.2
      have z : decide ((rpN k l (rst0 k) (nI q) : Int) = (l.length : Int)) = true := decide_eq_true (by rw [z01k _ _ hr', hql])
      have t0 : ([x, .bool true, .int .i64 0] : List V)[0]? = some x := rfl
      have t1 : ([x, .bool true, .int .i64 0] : List V)[1]? = some (.bool true) := rfl
      have t2 : ([x, .bool true, .int .i64 0] : List V)[2]? = some (.int .i64 0) := rfl
      have z0 : decide ((0 : Int) = 0) = true := rfl
      simp only [hxl, zd, d, zh, zmo hq, e1, z04, Bool.not_true, zmo q1, e2, t0, t1, t2, ze, e3, zmo q3, e4, z, aw]
      exact Ev.some rfl
    · exfalso
      obtain ⟨q, rfl, hql⟩ := z0dk (z02o hR ho)
      have hnn : rpN k l (rst0 k) (nI q) = (nI q).length := by rw [hn, zeq, hql]
      exact hno q ((z05c hql).mpr ⟨z02o hR ho, zzw _ _ hnn⟩) hql
end Wm
end
