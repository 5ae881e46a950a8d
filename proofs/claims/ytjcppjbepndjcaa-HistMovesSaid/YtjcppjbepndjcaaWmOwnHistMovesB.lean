/- What the functions come to, and the law: of my machine. -/
import Derived.Test.YtjcppjbepndjcaaWmOwnHistMovesA
import Derived.Test.YtjcppjbepndjcaaWmTxtHistMovesA
import Derived.KernelRfl
import Derived.Test.YtjcppjbepndjcaaWmShal
import Derived.Test.YtjcppjbepndjcaaWmCore
import Derived.Test.YtjcppjbepndjcaaWmProgHistMoves
import Derived.Test.YtjcppjbepndjcaaWmFast
import Derived.Test.YtjcppjbepndjcaaWmPOp0
set_option linter.all false
section
/- The stable sort of numbers in order. -/
namespace Wm
attribute [local congr] bind_congr1
attribute [local irreducible] wr
open Go.Sort (swp PermIn SortedIn SWO permIn_trans permIn_refl permIn_mono permIn_all insInner insOuter)

section
variable {lt : Int → Int → Bool}
theorem insInner_perm {a e : Nat} : ∀ (j : Nat) (d : Array Int), a ≤ j → j < e → e ≤ d.size → PermIn a e d (insInner lt a j d)
  | 0, d, _, _, _ => by rw [insInner]; exact permIn_refl _ _ _
  | j + 1, d, h1, h2, h3 => by
    rw [insInner]
    split
    · rename_i hc
      have hc' : j + 1 > a := by
        rw [Bool.and_eq_true] at hc; exact of_decide_eq_true hc.1
      exact permIn_trans _ _ _ _ _ (Go.Sort.swp_permIn _ a e _ _ (by omega) (by omega) (by omega) (by omega) h3) (insInner_perm j _ (by omega) (by omega) (by rw [Go.Sort.swp_size]; exact h3))
    · exact permIn_refl _ _ _
theorem insInner_same {a : Nat} : ∀ (j : Nat) (d : Array Int), j < d.size → (∀ i, a ≤ i → i < j → d[i]! < d[j]!) → insInner lt a j d = insInner (ltS lt) a j d
  | 0, d, _, _ => by rw [insInner, insInner]
  | j + 1, d, hj, h => by
    rw [insInner, insInner]
    by_cases ha : j + 1 > a
    · rw [ltS_dn (h j (by omega) (by omega))]
      cases hl : lt d[j + 1]! d[j]! with
      | false => simp
      | true =>
        simp only [decide_eq_true ha, Bool.and_self, if_true]
        refine insInner_same j _ (by rw [Go.Sort.swp_size]; omega) fun i h1 h2 => ?_
        rw [Go.Sort.swp_right _ _ _ (by omega), Go.Sort.swp_other _ _ _ _ (by omega) (by omega)]
        exact h i h1 (by omega)
    · rw [decide_eq_false ha, Bool.false_and, Bool.false_and]; rfl
theorem insOuter_same {a e : Nat} : ∀ (n i : Nat) (d : Array Int), e - i = n → a ≤ i → e ≤ d.size → (∀ p q, a ≤ p → p < q → i ≤ q → q < e → d[p]! < d[q]!) → insOuter lt a e i d = insOuter (ltS lt) a e i d
  | 0, i, d, hn, _, _, _ => by
    have un : ∀ l : Int → Int → Bool, insOuter l a e i d = d := fun l => by rw [insOuter, if_neg (by omega)]
    rw [un, un]
  | n + 1, i, d, hn, hai, he, h => by
    have hi : i < e := by omega
    have un : ∀ l : Int → Int → Bool, insOuter l a e i d = insOuter l a e (i + 1) (insInner l a i d) := fun l => by rw [insOuter, if_pos hi]
    rw [un, un, ← insInner_same i d (by omega) (fun k h1 h2 => h k i h1 h2 (Nat.le_refl _) hi)]
    have hp := insInner_perm (lt := lt) (a := a) (e := i + 1) i d hai (Nat.lt_succ_self i) (by omega)
    refine insOuter_same n (i + 1) _ (by omega) (by omega) (by rw [hp.1]; exact he) fun p q h1 h2 h3 h4 => ?_
    rw [hp.2.1 q (.inr h3)]
    by_cases hpi : p < i + 1
    · exact permIn_all d _ a (i + 1) (fun v => v < d[q]!) (by omega) hp (fun k h5 h6 => h k q h5 (by omega) (by omega) h4) p h1 hpi
    · rw [hp.2.1 p (.inr (by omega))]; exact h p q h1 h2 (by omega) h4
theorem ins_sorted (hlt : SWO lt) {a e : Nat} {d : Array Int} (hae : a ≤ e) (he : e ≤ d.size) (h : ∀ p q, a ≤ p → p < q → q < e → d[p]! < d[q]!) : PermIn a e d (Go.Sort.insertionSort lt d a e) ∧ SortedIn (ltS lt) a e (Go.Sort.insertionSort lt d a e) := by
  have e1 : Go.Sort.insertionSort lt d a e = Go.Sort.insertionSort (ltS lt) d a e := by
    unfold Go.Sort.insertionSort
    exact insOuter_same (e - (a + 1)) (a + 1) d rfl (by omega) he fun p q h1 h2 h3 h4 => h p q h1 h2 h4
  rw [e1]
  exact Go.Sort.insertionSort_holds (ltS_swo hlt) d a e hae he

/-- All ahead of a place are less than all behind. -/
def Cut (d : Array Int) (N c : Nat) : Prop := ∀ i j, i < c → c ≤ j → j < N → d[i]! < d[j]!
theorem Cut.perm {d R : Array Int} {N a e c : Nat} (h : Cut d N c) (hp : PermIn a e d R) (he : e ≤ d.size) (heN : e ≤ N) (hc : c ≤ a ∨ e ≤ c) : Cut R N c := by
  intro i j hi hj hjN
  rcases hc with hc | hc
  · rw [hp.2.1 i (.inl (by omega))]
    by_cases q : a ≤ j ∧ j < e
    · exact permIn_all d R a e (fun v => d[i]! < v) he hp (fun k h1 h2 => h i k hi (by omega) (by omega)) j q.1 q.2
    · rw [hp.2.1 j (by omega)]; exact h i j hi hj hjN
  · rw [hp.2.1 j (.inr (by omega))]
    by_cases q : a ≤ i ∧ i < e
    · exact permIn_all d R a e (fun v => v < d[j]!) he hp (fun k h1 h2 => h k j (by omega) hj hjN) i q.1 q.2
    · rw [hp.2.1 i (by omega)]; exact h i j hi hj hjN

/-- Blocks of size B are sorted, up to n; and each block's are ahead of the next one's. -/
def Blks (lt : Int → Int → Bool) (B : Nat) (d : Array Int) (P : Nat → Prop) (N : Nat) : Prop :=
  ∀ k p q, P k → k * B ≤ p → p < q → q < (k + 1) * B → q < N → ltS lt d[q]! d[p]! = false
end

section
variable {h0 h : H} {b N f : Nat} {cs : List V} {lt : Int → Int → Bool} {d : Array Int} {c : Cap}

theorem mul_in {k k' B : Nat} (h : k' < k) : (k' + 1) * B ≤ k * B := Nat.mul_le_mul_right B h
theorem mul_two {k B : Nat} : k * (2 * B) = 2 * k * B ∧ (k + 1) * (2 * B) = k * (2 * B) + 2 * B ∧ (2 * k + 1) * B = k * (2 * B) + B ∧ (2 * k + 1 + 1) * B = k * (2 * B) + 2 * B := by
  have e1 : k * (2 * B) = 2 * k * B := by rw [← Nat.mul_assoc, Nat.mul_comm k 2]
  refine ⟨e1, by rw [Nat.add_mul, Nat.one_mul], by rw [Nat.add_mul, Nat.one_mul, e1], by rw [Nat.add_mul, Nat.add_mul, Nat.one_mul, e1]; omega⟩

/-- One block that was sorted. -/
theorem Blks.step {B k : Nat} {R : Array Int} (hb : Blks lt B d (· < k) N) (hp : PermIn (k * B) ((k + 1) * B) d R) (hs : SortedIn (ltS lt) (k * B) ((k + 1) * B) R) : Blks lt B R (· < k + 1) N := by
  intro k' p q hk h1 h2 h3 h4
  rcases Nat.lt_succ_iff_lt_or_eq.mp hk with r | r
  · have := mul_in (B := B) r
    rw [hp.2.1 p (.inl (by omega)), hp.2.1 q (.inl (by omega))]
    exact hb k' p q r h1 h2 h3 h4
  · subst r; exact hs p q h1 h2 h3
theorem Blks.last {B k : Nat} {R : Array Int} (hb : Blks lt B d (· < k) N) (hp : PermIn (k * B) N d R) (hs : SortedIn (ltS lt) (k * B) N R) (hN : N < (k + 1) * B) : Blks lt B R (fun _ => True) N := by
  intro k' p q _ h1 h2 h3 h4
  rcases Nat.lt_trichotomy k' k with r | r | r
  · have := mul_in (B := B) r
    rw [hp.2.1 p (.inl (by omega)), hp.2.1 q (.inl (by omega))]
    exact hb k' p q r h1 h2 h3 h4
  · subst r; exact hs p q h1 h2 h4
  · have := mul_in (B := B) r
    omega

structure Stg (h0 : H) (b N : Nat) (lt : Int → Int → Bool) (B : Nat) (h : H) (d : Array Int) : Prop where
  sw : Sw h0 b N h d
  perm : PermIn 0 N (idA N) d
  blk : Blks lt B d (fun _ => True) N
  cut : ∀ k, Cut d N (k * B)

/-- In the midst of a stage. -/
structure Mid (h0 : H) (b N : Nat) (lt : Int → Int → Bool) (B k : Nat) (h : H) (d : Array Int) : Prop where
  sw : Sw h0 b N h d
  perm : PermIn 0 N (idA N) d
  done : Blks lt (2 * B) d (· < k) N
  rest : Blks lt B d (2 * k ≤ ·) N
  cut : ∀ k', Cut d N (k' * (2 * B))
  cut1 : ∀ k', 2 * k ≤ k' → Cut d N (k' * B)
  in_ : k * (2 * B) ≤ N

theorem Stg.mid {B : Nat} (T : Stg h0 b N lt B h d) : Mid h0 b N lt B 0 h d :=
  ⟨T.sw, T.perm, fun k p q hk => absurd hk (Nat.not_lt_zero k), fun k p q _ => T.blk k p q trivial, fun k' => by rw [(mul_two (k := k') (B := B)).1]; exact T.cut _, fun k' _ => T.cut k', by omega⟩
theorem Mid.mg {B k e : Nat} (M : Mid h0 b N lt B k h d) (h1 : k * (2 * B) + B ≤ e) (h2 : e ≤ k * (2 * B) + 2 * B) (h3 : e ≤ N) : Mg lt (k * (2 * B)) (k * (2 * B) + B) e d := by
  obtain ⟨e1, e2, e3, e4⟩ := mul_two (k := k) (B := B)
  refine ⟨fun p q z1 z2 z3 => ?_, fun p q z1 z2 z3 => ?_, fun i j z1 z2 z3 z4 => ?_⟩
  · exact M.rest (2 * k) p q (Nat.le_refl _) (by omega) z2 (by omega) (by omega)
  · exact M.rest (2 * k + 1) p q (Nat.le_succ _) (by omega) z2 (by omega) (by omega)
  · have := M.cut1 (2 * k + 1) (Nat.le_succ _)
    rw [e3] at this
    exact this i j z2 z3 (by omega)
theorem Mid.step {B k : Nat} {g : H} {R : Array Int} (M : Mid h0 b N lt B k h d) (A : Sw h0 b N g R) (hB : k * (2 * B) + 2 * B ≤ N) (hp : PermIn (k * (2 * B)) (k * (2 * B) + 2 * B) d R) (hs : SortedIn (ltS lt) (k * (2 * B)) (k * (2 * B) + 2 * B) R) : Mid h0 b N lt B (k + 1) g R := by
  obtain ⟨e1, e2, e3, e4⟩ := mul_two (k := k) (B := B)
  have hsz : k * (2 * B) + 2 * B ≤ d.size := by rw [M.sw.sz]; exact hB
  refine ⟨A, permIn_trans _ _ _ _ _ M.perm (permIn_mono _ _ _ _ 0 N (Nat.zero_le _) hB (by rw [M.sw.sz]; exact Nat.le_refl _) hp), M.done.step (by rw [e2]; exact hp) (by rw [e2]; exact hs), fun k' p q z1 z2 z3 z4 z5 => ?_, fun k' => ?_, fun k' z1 => ?_, by rw [e2]; exact hB⟩
  · have z6 : (2 * k + 1 + 1) * B ≤ k' * B := Nat.mul_le_mul_right B (by omega)
    rw [hp.2.1 p (.inr (by omega)), hp.2.1 q (.inr (by omega))]
    exact M.rest k' p q (by omega) z2 z3 z4 z5
  · refine (M.cut k').perm hp hsz hB ?_
    rcases Nat.lt_or_ge k k' with r | r
    · have := mul_in (B := 2 * B) r; omega
    · exact .inl (Nat.mul_le_mul_right _ r)
  · have z6 : (2 * k + 1 + 1) * B ≤ k' * B := Nat.mul_le_mul_right B (by omega)
    exact (M.cut1 k' (by omega)).perm hp hsz hB (.inr (by omega))
theorem Mid.last {B k : Nat} {g : H} {R : Array Int} (M : Mid h0 b N lt B k h d) (A : Sw h0 b N g R) (hB : N < k * (2 * B) + 2 * B) (hp : PermIn (k * (2 * B)) N d R) (hs : SortedIn (ltS lt) (k * (2 * B)) N R) : Stg h0 b N lt (2 * B) g R := by
  obtain ⟨e1, e2, e3, e4⟩ := mul_two (k := k) (B := B)
  have hsz : N ≤ d.size := by rw [M.sw.sz]; exact Nat.le_refl _
  refine ⟨A, permIn_trans _ _ _ _ _ M.perm (permIn_mono _ _ _ _ 0 N (Nat.zero_le _) (Nat.le_refl _) hsz hp), M.done.last hp hs (by rw [e2]; exact hB), fun k' => ?_⟩
  intro i j hi hj hjN
  refine (M.cut k').perm hp hsz (Nat.le_refl _) ?_ i j hi hj hjN
  rcases Nat.lt_or_ge k k' with r | r
  · have := mul_in (B := 2 * B) r; omega
  · exact .inl (Nat.mul_le_mul_right _ r)
/-- The rest is one block alone. -/
theorem Mid.one {B k : Nat} (M : Mid h0 b N lt B k h d) (hB : N ≤ k * (2 * B) + B) : SortedIn (ltS lt) (k * (2 * B)) N d := fun p q z1 z2 z3 => by
  obtain ⟨e1, e2, e3, e4⟩ := mul_two (k := k) (B := B)
  exact M.rest (2 * k) p q (Nat.le_refl _) (by omega) z2 (by omega) z3

/-- A stage. -/
theorem stage_spec {B : Nat} (T : Stg h0 b N lt B h d) (K : Cmp h0 b N f cs lt) (hlt : SWO lt) (hN : N ≤ 1000) (hB0 : 0 < B) (hB : B < N) :
    Ev (S.slices_stableCmpFunc_int__c2_S W (.sl b 0 N c) (N : Int) (.fn f cs) (B : Int) h) fun z => ∃ d', z.1 = .normal ∧ z.2.1 = S.slices_stableCmpFunc_int__c2_E (.sl b 0 N c) (.int .i64 (N : Int)) (.fn f cs) (.int .i64 ((2 * B : Nat) : Int)) ∧ Stg h0 b N lt (2 * B) z.2.2 d' := by
  have b9 : B ≤ 1000 := by omega
  have w1 := sort_twice (i := B) (by omega)
  have w2 : wr .i64 ((B : Int) * 2) = ((2 * B : Nat) : Int) := by rw [wr64 (by omega) (by omega)]; omega
  simp only [S.slices_stableCmpFunc_int__c2_S, sort_lt hB, w1]
  refine loop_ev (α := Nat × Array Int) (fun q => S.slices_stableCmpFunc_int__c4_E (.sl b 0 N c) (.int .i64 (N : Int)) (.fn f cs) (.int .i64 (B : Int)) (.int .i64 ((q.1 * (2 * B) : Nat) : Int)) (.int .i64 ((q.1 * (2 * B) + 2 * B : Nat) : Int)))
    (fun q h => Mid h0 b N lt B q.1 h q.2) (fun q _ => N - q.1 * (2 * B))
    (fun z => ∃ k d', z.1 = .exit 4 ∧ z.2.1 = S.slices_stableCmpFunc_int__c4_O (.sl b 0 N c) (.int .i64 (N : Int)) (.fn f cs) (.int .i64 (B : Int)) (.int .i64 ((k * (2 * B) : Nat) : Int)) ∧ Mid h0 b N lt B k z.2.2 d' ∧ N < k * (2 * B) + 2 * B) (0, d) (by simp only [Nat.zero_mul, Nat.zero_add]; rfl) T.mid ?_ ?_
  · rintro ⟨k, d1⟩ g M
    dsimp only at M
    rw [S.slices_stableCmpFunc_int__c4_eq]
    have hin := M.in_
    have e2 := (mul_two (k := k) (B := B)).2.1
    by_cases hle : k * (2 * B) + 2 * B ≤ N
    · have w3 := sort_add (i := k * (2 * B)) (j := B) (by clear w1 w2; omega)
      have w4 := sort_add (i := k * (2 * B) + 2 * B) (j := 2 * B) (by clear w1 w2 w3; omega)
      obtain ⟨⟨v, g1⟩, e1, R, rfl, r1, r2, A1⟩ := symMerge_all (c := c) K hlt hN (N + 1) (k * (2 * B)) (k * (2 * B) + B) (k * (2 * B) + 2 * B) d1 g (by clear w1 w2 w3 w4; omega) (by clear w1 w2 w3 w4; omega) (by clear w1 w2 w3 w4; omega) hle M.sw (M.mg (by clear w1 w2 w3 w4; omega) (Nat.le_refl _) hle)
      dsimp only at A1
      simp only [S.slices_stableCmpFunc_int__c4_S, sort_le hle, w1, w3, w4, W_call, e1, obind]
      clear w1 w2 w3 w4 e1
      refine Ev.some (.inl ⟨(k + 1, R), rfl, ?_, M.step A1 hle r1 r2, by dsimp only; omega⟩)
      dsimp only
      rw [e2]
    · simp only [S.slices_stableCmpFunc_int__c4_S, sort_nle hle]
      exact Ev.some (.inr ⟨by simp, k, d1, rfl, rfl, M, by clear w1 w2; omega⟩)
  rintro ⟨_, _, g⟩ ⟨k, d1, rfl, rfl, M, hlt2⟩
  dsimp only at M
  show Ev (S.slices_stableCmpFunc_int__K7 W (.exit 4) _ _) _
  rw [S.slices_stableCmpFunc_int__c4_e4_eq]
  have hin := M.in_
  have w3 := sort_add (i := k * (2 * B)) (j := B) (by clear w1 w2; omega)
  obtain ⟨kI, hkI⟩ : ∃ x : Int, x = ((k * (2 * B) : Nat) : Int) := ⟨_, rfl⟩
  obtain ⟨bI, hbI⟩ : ∃ x : Int, x = (B : Int) := ⟨_, rfl⟩
  by_cases hm : k * (2 * B) + B < N
  · obtain ⟨⟨v, g1⟩, e1, R, rfl, r1, r2, A1⟩ := symMerge_all (c := c) K hlt hN (N + 1) (k * (2 * B)) (k * (2 * B) + B) N d1 g (by clear w1 w2 w3; omega) (by clear w1 w2 w3; omega) hm (Nat.le_refl _) M.sw (M.mg (by clear w1 w2 w3; omega) (by clear w1 w2 w3; omega) (Nat.le_refl _))
    dsimp only at A1
    rw [← hkI] at w3 e1 ⊢; rw [← hbI] at w3 w2 ⊢
    simp only [S.slices_stableCmpFunc_int__c4_e4, w3, sort_lt hm, W_call, e1, obind, w2]
    exact Ev.some ⟨R, rfl, rfl, M.last A1 hlt2 r1 r2⟩
  · rw [← hkI] at w3 ⊢; rw [← hbI] at w3 w2 ⊢
    simp only [S.slices_stableCmpFunc_int__c4_e4, w3, sort_nlt hm, w2]
    exact Ev.some ⟨d1, rfl, rfl, M.last M.sw hlt2 (permIn_refl _ _ _) (M.one (Nat.le_of_not_lt hm))⟩

/-- The first blocks: of 20. -/
structure Fst (h0 : H) (b N : Nat) (lt : Int → Int → Bool) (k : Nat) (h : H) (d : Array Int) : Prop where
  sw : Sw h0 b N h d
  perm : PermIn 0 N (idA N) d
  done : Blks lt 20 d (· < k) N
  rest : ∀ i, k * 20 ≤ i → i < N → d[i]! = (i : Int)
  cut : ∀ k', Cut d N (k' * 20)
  in_ : k * 20 ≤ N
theorem Fst.up {k e : Nat} (F : Fst h0 b N lt k h d) (he : e ≤ N) : ∀ p q, k * 20 ≤ p → p < q → q < e → d[p]! < d[q]! := fun p q h1 h2 h3 => by
  rw [F.rest p h1 (by omega), F.rest q (by omega) (by omega)]; omega

theorem stable_spec (A : Sw h0 b N h (idA N)) (K : Cmp h0 b N f cs lt) (hlt : SWO lt) (hN : N ≤ 1000) :
    Ev (C 408 [.sl b 0 N c, .int .i64 (N : Int), .fn f cs] h) fun z => ∃ R, z.1 = .tup [] ∧ PermIn 0 N (idA N) R ∧ SortedIn (ltS lt) 0 N R ∧ Sw h0 b N z.2 R := by
  refine call_ev (af := F.slices_stableCmpFunc_int_) (by kernel_rfl) rfl ?_
  rw [S.slices_stableCmpFunc_int__eq]
  simp only [S.slices_stableCmpFunc_int_]
  have F0 : Fst h0 b N lt 0 h (idA N) := ⟨A, permIn_refl _ _ _, fun k p q hk => absurd hk (Nat.not_lt_zero k), fun i _ hi => idA_get hi, fun k' i j h1 h2 h3 => by rw [idA_get (by omega), idA_get h3]; omega, by omega⟩
  refine loop_ev (α := Nat × Array Int) (fun q => S.slices_stableCmpFunc_int__c1_E (.sl b 0 N c) (.int .i64 (N : Int)) (.fn f cs) (.int .i64 20) (.int .i64 ((q.1 * 20 : Nat) : Int)) (.int .i64 ((q.1 * 20 + 20 : Nat) : Int)))
    (fun q h => Fst h0 b N lt q.1 h q.2) (fun q _ => N - q.1 * 20)
    (fun z => ∃ k d', z.1 = .exit 0 ∧ z.2.1 = S.slices_stableCmpFunc_int__c1_O (.sl b 0 N c) (.int .i64 (N : Int)) (.fn f cs) (.int .i64 20) (.int .i64 ((k * 20 : Nat) : Int)) ∧ Fst h0 b N lt k z.2.2 d' ∧ N < k * 20 + 20) (0, idA N) rfl F0 ?_ ?_
  · clear A F0
    rintro ⟨k, d1⟩ g F
    dsimp only at F
    rw [S.slices_stableCmpFunc_int__c1_eq]
    have hin := F.in_
    by_cases hle : k * 20 + 20 ≤ N
    · have w3 : wr .i64 (((k * 20 + 20 : Nat) : Int) + 20) = (((k + 1) * 20 + 20 : Nat) : Int) := by rw [wr64 (by omega) (by omega)]; omega
      obtain ⟨⟨v, g1⟩, e1, rfl, A1⟩ := insertion_spec (c := c) (a := k * 20) (e := k * 20 + 20) F.sw K hN hle (by clear w3; omega)
      dsimp only at A1
      have hsz : k * 20 + 20 ≤ d1.size := by rw [F.sw.sz]; exact hle
      obtain ⟨r1, r2⟩ := ins_sorted hlt (Nat.le_add_right _ 20) hsz (F.up hle)
      generalize Go.Sort.insertionSort lt d1 (k * 20) (k * 20 + 20) = R at A1 r1 r2
      simp only [S.slices_stableCmpFunc_int__c1_S, sort_le hle, W_call, e1, obind, w3]
      clear w3 e1
      refine Ev.some (.inl ⟨(k + 1, R), rfl, ?_, ⟨A1, permIn_trans _ _ _ _ _ F.perm (permIn_mono _ _ _ _ 0 N (Nat.zero_le _) hle (by rw [F.sw.sz]; exact Nat.le_refl _) r1), F.done.step (by rw [Nat.add_mul, Nat.one_mul]; exact r1) (by rw [Nat.add_mul, Nat.one_mul]; exact r2), fun i h1 h2 => ?_, fun k' => ?_, by dsimp only; omega⟩, by dsimp only; omega⟩)
      · dsimp only
        rw [show (k + 1) * 20 = k * 20 + 20 by omega]
      · rw [r1.2.1 i (.inr (by dsimp only at h1; omega))]; exact F.rest i (by dsimp only at h1; omega) h2
      · refine (F.cut k').perm r1 hsz hle ?_
        omega
    · simp only [S.slices_stableCmpFunc_int__c1_S, sort_nle hle]
      exact Ev.some (.inr ⟨by simp, k, d1, rfl, rfl, F, by omega⟩)
  clear A F0
  rintro ⟨_, _, g⟩ ⟨k, d1, rfl, rfl, F, hlt2⟩
  dsimp only at F
  show Ev (S.slices_stableCmpFunc_int__K2 W (.exit 0) _ _) _
  rw [S.slices_stableCmpFunc_int__c1_e0_eq]
  have hin := F.in_
  obtain ⟨⟨v, g1⟩, e1, rfl, A1⟩ := insertion_spec (c := c) (a := k * 20) (e := N) F.sw K hN (Nat.le_refl _) hin
  dsimp only at A1
  have hsz : N ≤ d1.size := by rw [F.sw.sz]; exact Nat.le_refl _
  obtain ⟨r1, r2⟩ := ins_sorted hlt hin hsz (F.up (Nat.le_refl _))
  generalize Go.Sort.insertionSort lt d1 (k * 20) N = R at A1 r1 r2
  have S0 : Stg h0 b N lt 20 g1 R := ⟨A1, permIn_trans _ _ _ _ _ F.perm (permIn_mono _ _ _ _ 0 N (Nat.zero_le _) (Nat.le_refl _) hsz r1), F.done.last r1 r2 (by omega), fun k' => by
    refine (F.cut k').perm r1 hsz (Nat.le_refl _) ?_
    rcases Nat.lt_or_ge k k' with r | r
    · exact .inr (by omega)
    · exact .inl (by omega)⟩
  simp only [S.slices_stableCmpFunc_int__c1_e0, W_call, e1, obind]
  clear e1 F r1 r2 A1
  refine loop_ev (α := Nat × Array Int) (fun q => S.slices_stableCmpFunc_int__c2_E (.sl b 0 N c) (.int .i64 (N : Int)) (.fn f cs) (.int .i64 (q.1 : Int)))
    (fun q h => 0 < q.1 ∧ Stg h0 b N lt q.1 h q.2) (fun q _ => N - q.1)
    (fun z => ∃ B d', z.1 = .exit 2 ∧ z.2.1 = S.slices_stableCmpFunc_int__c2_O ∧ Stg h0 b N lt B z.2.2 d' ∧ N ≤ B) (20, R) rfl ⟨Nat.succ_pos 19, S0⟩ ?_ ?_
  · clear S0
    rintro ⟨B, d2⟩ g ⟨hB0, T⟩
    dsimp only at hB0 T
    rw [S.slices_stableCmpFunc_int__c2_eq]
    by_cases hB : B < N
    · refine (stage_spec T K hlt hN hB0 hB).mono ?_
      rintro ⟨_, _, g2⟩ ⟨d3, rfl, rfl, S2⟩
      exact .inl ⟨(2 * B, d3), rfl, rfl, ⟨by dsimp only; omega, S2⟩, by dsimp only; omega⟩
    · simp only [S.slices_stableCmpFunc_int__c2_S, sort_nlt hB]
      exact Ev.some (.inr ⟨by simp, B, d2, rfl, rfl, T, Nat.le_of_not_lt hB⟩)
  rintro ⟨_, _, g2⟩ ⟨B, d2, rfl, rfl, T, hB⟩
  dsimp only at T
  show Ev (S.slices_stableCmpFunc_int__K3 W (.exit 2) _ _) _
  rw [S.slices_stableCmpFunc_int__c2_e2_eq]
  refine Ev.some ⟨d2, rfl, T.perm, fun p q _ h2 h3 => T.blk 0 p q trivial (by omega) h2 (by omega) h3, T.sw⟩

theorem sortStable_spec (A : Sw h0 b N h (idA N)) (K : Cmp h0 b N f cs lt) (hlt : SWO lt) (hN : N ≤ 1000) :
    Ev (C 335 [.sl b 0 N c, .fn f cs] h) fun z => ∃ R, z.1 = .tup [] ∧ PermIn 0 N (idA N) R ∧ SortedIn (ltS lt) 0 N R ∧ Sw h0 b N z.2 R := by
  refine call_ev (af := F.slices_SortStableFunc___int_int_) (by kernel_rfl) rfl ?_
  rw [S.slices_SortStableFunc___int_int__eq]
  obtain ⟨⟨v, g⟩, e1, R, rfl, r1, r2, A2⟩ := stable_spec (c := c) A K hlt hN
  simp only [S.slices_SortStableFunc___int_int_, lenSl_sl, obind, W_call, e1]
  exact Ev.some ⟨R, rfl, r1, r2, A2⟩
end
end Wm
end

section
/- hist.Right, walked. -/
namespace Wm
attribute [local congr] bind_congr1
attribute [local irreducible] wr
open Go.Sort (swp PermIn SortedIn Below SWO)

theorem st_agg {g : H} {q n : Nat} {z vs : List V} (hq : g.get q = some (.cells z .rw)) (hz : z.length = n) (hv : vs.length = n) (h1 : vs.all V.one = true) : g.st n (.ptr q 0) (.agg vs) = some (g.put q (some (.cells vs .rw))) := by
  have e1 : Nat.beq (V.cells (.agg vs)).length n = true := by rw [cells_agg, hv]; exact Nat.beq_refl n
  rw [st_get', e1]
  simp only [cells_agg, hq, stB_cells, h1, hv, hz, Nat.zero_add, Nat.le_refl, decide_true, Bool.not_true, Bool.or_false, reduceCtorEq, decide_false, Option.map_some, splice, List.take_zero, List.nil_append]
  rw [List.drop_of_length_le (by rw [hz]; exact Nat.le_refl _), List.append_nil]
theorem ld_agg {g : H} {q n : Nat} {vs : List V} {k : Bk} (hq : g.get q = some (.cells vs k)) (hv : vs.length = n) : g.ldN n (.ptr q 0) = some (.agg vs) := by
  rw [ldN_get hq (by rw [hv]; omega), List.drop_zero, ← hv, List.take_length]

def opOf (l : List Evt) (i : Int) : Int := (l[i.toNat]?.map Evt.op).getD 0
def ltE (l : List Evt) (i j : Int) : Bool := decide (opOf l i < opOf l j)
theorem ltE_swo (l : List Evt) : SWO (ltE l) where
  irrefl x := decide_eq_false (Int.lt_irrefl _)
  trans x y z h1 h2 := decide_eq_true (Int.lt_trans (of_decide_eq_true h1) (of_decide_eq_true h2))
  ntrans x y z h1 h2 := decide_eq_false (by have := of_decide_eq_false h1; have := of_decide_eq_false h2; omega)

theorem right1_spec {g : H} {bx : Nat} {x0 : V} {l : List Evt} {k : Bk} (hb : g.get bx = some (.cells [x0] k)) (h1 : x0.one = true) (hx : RowE g.get x0 l) {i j : Nat} {x y : Evt} (hi : l[i]? = some x) (hj : l[j]? = some y) :
    C 333 [.int .i64 (i : Int), .int .i64 (j : Int), .ptr bx 0] g = some (.int .i64 (cmp3 x.op y.op), g) := by
  have e : Ev (C 333 [.int .i64 (i : Int), .int .i64 (j : Int), .ptr bx 0] g) fun r => r = (.int .i64 (cmp3 x.op y.op), g) := by
    refine call_ev (af := F.hist_Right_1) (by kernel_rfl) rfl ?_
    rw [S.hist_Right_1_eq]
    have l0 : g.ld1 (.ptr bx 0) = some x0 := ld1_get hb rfl h1
    obtain ⟨eb, i1, _, _, _, i2, _⟩ := hx.at hi
    obtain ⟨fb, j1, _, _, _, j2, _⟩ := hx.at hj
    simp only [S.hist_Right_1, l0, obind, i1, j1, ptrAt_ptr, ld1_get', i2, j2, W_call, cmp_spec]
    exact Ev.some rfl
  obtain ⟨r, e, rfl⟩ := e
  exact e
theorem right_cmp {h0 : H} {b bx : Nat} {x0 : V} {l : List Evt} {k : Bk} (ok : h0.ok) (hb : h0.get bx = some (.cells [x0] k)) (h1 : x0.one = true) (hx : RowE h0.get x0 l) (n1 : bx ≠ b) (n2 : ∀ q ∈ x0.blk, q ≠ b) : Cmp h0 b l.length 333 [.ptr bx 0] (ltE l) := by
  intro h F i j i0 i1 j0 j1
  obtain ⟨i', rfl⟩ : ∃ n : Nat, i = (n : Int) := ⟨i.toNat, by omega⟩
  obtain ⟨j', rfl⟩ : ∃ n : Nat, j = (n : Int) := ⟨j.toNat, by omega⟩
  obtain ⟨x, hxi⟩ : ∃ x, l[i']? = some x := ⟨_, List.getElem?_eq_getElem (by omega)⟩
  obtain ⟨y, hyj⟩ : ∃ x, l[j']? = some x := ⟨_, List.getElem?_eq_getElem (by omega)⟩
  refine ⟨_, h, right1_spec (F.get ok hb (by simpa using n1)) h1 (hx.fr ok F (fun q hq => by simpa using n2 q hq)) hxi hyj, ?_, Fr.refl F.ok⟩
  rw [cmp3_neg]
  unfold ltE opOf
  rw [Int.toNat_natCast, Int.toNat_natCast, hxi, hyj]; rfl

/-! ### The loop that fills -/
def fillL (n k : Nat) : List V := (List.range n).map fun i => .int .i64 (if i < k then (i : Int) else 0)
theorem fillL_len (n k : Nat) : (fillL n k).length = n := by unfold fillL; rw [List.length_map, List.length_range]
theorem fillL_get {n k i : Nat} (hi : i < n) : (fillL n k)[i]? = some (.int .i64 (if i < k then (i : Int) else 0)) := by
  unfold fillL; rw [List.getElem?_map, List.getElem?_range hi]; rfl
theorem fillL_set {n k : Nat} (hk : k < n) : (fillL n k).set k (.int .i64 (k : Int)) = fillL n (k + 1) := by
  apply List.ext_getElem?
  intro i
  by_cases hi : i < n
  · rw [fillL_get hi]
    by_cases hik : k = i
    · subst hik
      rw [List.getElem?_set_self (by rw [fillL_len]; exact hk), if_pos (Nat.lt_succ_self k)]
    · rw [List.getElem?_set_ne hik, fillL_get hi]
      by_cases h1 : i < k
      · rw [if_pos h1, if_pos (Nat.lt_succ_of_lt h1)]
      · rw [if_neg h1, if_neg (by omega)]
  · rw [List.getElem?_eq_none (by rw [List.length_set, fillL_len]; omega), List.getElem?_eq_none (by rw [fillL_len]; omega)]
theorem fillL_all (n : Nat) : fillL n n = ints (idA n) := by
  unfold fillL ints idA
  rw [List.map_map]
  apply List.map_congr_left
  intro i hi
  rw [if_pos (List.mem_range.mp hi)]; rfl
theorem repl_zero (n : Nat) : repl [V.int .i64 0] n = fillL n 0 := by
  apply List.ext_getElem?
  intro i
  have hl : ∀ n, (repl [V.int .i64 0] n) = List.replicate n (V.int .i64 0) := fun n => by
    induction n with
    | zero => rfl
    | succ n ih => simp only [repl, ih, List.replicate_succ, List.cons_append, List.nil_append]
  rw [hl]
  by_cases hi : i < n
  · rw [fillL_get hi, List.getElem?_replicate, if_pos hi]; rfl
  · rw [List.getElem?_eq_none (by rw [List.length_replicate]; omega), List.getElem?_eq_none (by rw [fillL_len]; omega)]
theorem mkInts {h : H} {n : Nat} (hn : n ≤ 1000000) : h.mkSl 1 8 [(.int .i64 0)] (n : Int) (n : Int) = some (.sl h.next 0 n (.ex n), h.new (.cells (fillL n 0) .rw)) := by
  have h0 : (0 : Int) ≤ (n : Int) := Int.natCast_nonneg n
  have h1 : (n : Int) * ((8 : Nat) : Int) ≤ 140737488355328 := by omega
  have h2 : (n : Int) ≤ 9223372036854775807 := by omega
  rw [mkSl_ok (e := 1) (z := [.int .i64 0]) h0 (Int.le_refl _) h1 h2 rfl (by decide), Int.toNat_natCast, repl_zero]

theorem hr_k {k : Nat} (h : k ≤ 9000) : wr .i64 ((k : Int) + 1) = ((k + 1 : Nat) : Int) := by rw [wr64 (by omega) (by omega)]; rfl

/-- What stands where, behind the sort. -/
structure RtSt (h g : H) (x0 : V) (l : List Evt) (bx b mb : Nat) (d : Array Int) (m : List (Int × V)) : Prop where
  fr : Fr [] h g
  box : g.get bx = some (.cells [x0] .rw)
  arr : g.get b = some (.cells (ints d) .rw)
  map : g.get mb = some (.map (KV .i64 m))
  nmb : h.next ≤ mb
  n1 : mb ≠ bx
  n2 : mb ≠ b
theorem RtSt.fr' {h g g' : H} {x0 : V} {l : List Evt} {bx b mb : Nat} {d : Array Int} {m : List (Int × V)} (Z : RtSt h g x0 l bx b mb d m) (F : Fr [] g g') : RtSt h g' x0 l bx b mb d m :=
  ⟨Z.fr.trans F (by simp), F.get Z.fr.ok Z.box (by simp), F.get Z.fr.ok Z.arr (by simp), F.get Z.fr.ok Z.map (by simp), Z.nmb, Z.n1, Z.n2⟩
theorem RtSt.set {h g : H} {x0 : V} {l : List Evt} {bx b mb : Nat} {d : Array Int} {m : List (Int × V)} (Z : RtSt h g x0 l bx b mb d m) (m' : List (Int × V)) : RtSt h (g.put mb (some (.map (KV .i64 m')))) x0 l bx b mb d m' :=
  ⟨Z.fr.put (.inr Z.nmb) (Z.fr.ok.lt Z.map) _, by rw [get_put_ne (Ne.symm Z.n1)]; exact Z.box, by rw [get_put_ne (Ne.symm Z.n2)]; exact Z.arr, get_put_self _ _ _, Z.nmb, Z.n1, Z.n2⟩

def zE : List V := [(.int .i64 0), (.int .i64 0), (.int .i64 0), (.int .i64 0), (.int .i64 0), (.bool false), (.int .i64 0), (.int .i64 0), (.int .u64 0), (.int .u64 0), (.int .u64 0), (.int .i64 0), (.int .u64 0), (.bool false)]

/-- A new block that gets its cells at once. -/
theorem new_st {g : H} (ok : g.ok) {vs : List V} (hv : vs.length = 14) (h1 : vs.all V.one = true) : ∃ g', (g.new (.cells zE .rw)).st 14 (.ptr g.next 0) (.agg vs) = some g' ∧ Fr [] g g' ∧ g'.get g.next = some (.cells vs .rw) ∧ g'.next = g.next + 1 :=
  ⟨_, st_agg (z := zE) (get_new_self _ _) rfl hv h1, ((Fr.refl ok).new _).put (.inr (Nat.le_refl _)) (by rw [H.next_new]; exact Nat.lt_succ_self _) _, get_put_self _ _ _, by rw [H.next_put, H.next_new]⟩

theorem evt_one (x : Evt) : x.cs.all V.one = true := rfl

/-- A round. -/
theorem right_step {h : H} (ok : h.ok) {x0 : V} {l : List Evt} (hx : RowE h.get x0 l) (h1 : x0.one = true) (hl : l.length ≤ 60) {bx b mb : Nat} {d : Array Int} {m : List (Int × V)} {g : H} (Z : RtSt h g x0 l bx b mb d m) (hd : d.size = l.length) (P : AllNums l.length d.toList) (hs : SortedO l d.toList)
    {clients : Int} {k : Nat} (hk : k < l.length) (G : RightTo l clients d.toList k) (M : LastM l d.toList k m) {c : Cap} :
    Ev (S.hist_Right_c3_S W clients (.ptr bx 0) (.map mb) (.sl b 0 l.length c) (l.length : Nat) (k : Nat) g) fun r =>
      (r.1 = .ret ∧ r.2.1 = S.hist_Right_c3_O (.bool false) ∧ Fr [] h r.2.2 ∧ ¬ RightTo l clients d.toList (k + 1)) ∨
      ∃ m', r.1 = .normal ∧ r.2.1 = S.hist_Right_c3_E (.int .i64 clients) (.ptr bx 0) (.map mb) (.sl b 0 l.length c) (.int .i64 (l.length : Nat)) (.int .i64 (k + 1 : Nat)) ∧ RtSt h r.2.2 x0 l bx b mb d m' ∧ RightTo l clients d.toList (k + 1) ∧ LastM l d.toList (k + 1) m' := by
  have hdk : decide ((k : Int) < (l.length : Int)) = true := decide_eq_true (by omega)
  have wk := hr_k (k := k) (by omega)
  obtain ⟨i, hi, hoi⟩ := P.at hk
  obtain ⟨x, hxi⟩ : ∃ x, l[i]? = some x := ⟨_, List.getElem?_eq_getElem hi⟩
  have hat : AtO l d.toList k x := ⟨i, hoi, hxi⟩
  have hdi : d[k]! = (i : Int) := by
    rw [get_toList (by rw [hd]; exact hk)] at hoi; exact Option.some.inj hoi
  have i0 := sl_idx1 (b := b) (c := c) hk
  have l0 : ldB (g.get b) k = some (.int .i64 (i : Int)) := by
    rw [Z.arr, ldB_cells, ints_get (by rw [hd]; exact hk), hdi]; rfl
  have l1 : g.ld1 (.ptr bx 0) = some x0 := ld1_get Z.box rfl h1
  obtain ⟨eb, i1, l2, _⟩ := (hx.fr ok Z.fr (by simp)).at hxi
  obtain ⟨g6, s6, F6, c6, n6⟩ := new_st Z.fr.ok (vs := x.cs) rfl (evt_one x)
  have Z6 := Z.fr' F6
  have bad : ∀ {g' : H}, Fr [] h g' → ¬ RightTo l clients d.toList (k + 1) → Ev (some (AX.ret, S.hist_Right_c3_O (.bool false), g')) fun r =>
      (r.1 = .ret ∧ r.2.1 = S.hist_Right_c3_O (.bool false) ∧ Fr [] h r.2.2 ∧ ¬ RightTo l clients d.toList (k + 1)) ∨
      ∃ m', r.1 = .normal ∧ r.2.1 = S.hist_Right_c3_E (.int .i64 clients) (.ptr bx 0) (.map mb) (.sl b 0 l.length c) (.int .i64 (l.length : Nat)) (.int .i64 (k + 1 : Nat)) ∧ RtSt h r.2.2 x0 l bx b mb d m' ∧ RightTo l clients d.toList (k + 1) ∧ LastM l d.toList (k + 1) m' :=
    fun F hb => Ev.some (.inl ⟨rfl, rfl, F, hb⟩)
  have s6' : (g.new (.cells [(.int .i64 0), (.int .i64 0), (.int .i64 0), (.int .i64 0), (.int .i64 0), (.bool false), (.int .i64 0), (.int .i64 0), (.int .u64 0), (.int .u64 0), (.int .u64 0), (.int .i64 0), (.int .u64 0), (.bool false)] .rw)).st 14 (.ptr g.next 0) (.agg x.cs) = some g6 := s6
  have q0 : g6.ld1 (.ptr g.next 0) = some (.int .i64 x.client) := ld1_get c6 rfl rfl
  have q1 : g6.ld1 (.ptr g.next 1) = some (.int .i64 x.op) := ld1_get c6 rfl rfl
  have q2 : g6.ld1 (.ptr g.next 2) = some (.int .i64 x.begun) := ld1_get c6 rfl rfl
  have q3 : g6.ld1 (.ptr g.next 3) = some (.int .i64 x.point) := ld1_get c6 rfl rfl
  have q4 : g6.ld1 (.ptr g.next 4) = some (.int .i64 x.ended) := ld1_get c6 rfl rfl
  have l0' : g.ld1 (.ptr b k) = some (.int .i64 (i : Int)) := by rw [ld1_get']; exact l0
  have l2' : g.ldN 14 (.ptr eb (i * 14)) = some (.agg x.cs) := by rw [ldN_get']; exact l2
  simp only [S.hist_Right_c3_S, hdk, i0, obind, l0', l1, i1, l2', s6', q0, q2, q3, q4, asI_int]
  by_cases b1 : x.client < 0
  · simp only [decide_eq_true b1]
    exact bad Z6.fr fun G => by have := (G.1 k x (Nat.lt_succ_self k) hat).c0; omega
  simp only [decide_eq_false b1]
  by_cases b2 : clients ≤ x.client
  · simp only [decide_eq_true b2]
    exact bad Z6.fr fun G => by have := (G.1 k x (Nat.lt_succ_self k) hat).c1; omega
  simp only [decide_eq_false b2]
  by_cases b3 : x.point < x.begun
  · simp only [decide_eq_true b3]
    exact bad Z6.fr fun G => by have := (G.1 k x (Nat.lt_succ_self k) hat).p0; omega
  simp only [decide_eq_false b3]
  by_cases b4 : x.ended < x.point
  · simp only [decide_eq_true b4]
    exact bad Z6.fr fun G => by have := (G.1 k x (Nat.lt_succ_self k) hat).p1; omega
  simp only [decide_eq_false b4]
  have bd : x.bd clients := ⟨by omega, by omega, by omega, by omega⟩
  have lk := look_KV Z6.map (.agg [(.int .i64 0), (.int .i64 0), (.int .i64 0), (.int .i64 0), (.int .i64 0), (.bool false), (.int .i64 0), (.int .i64 0), (.int .u64 0), (.int .u64 0), (.int .u64 0), (.int .i64 0), (.int .u64 0), (.bool false)]) x.client
  have hm := M x.client
  cases hf : kfind m x.client with
  | none =>
    rw [hf] at hm lk
    dsimp only at lk
    obtain ⟨g7, s7, F7, c7, n7⟩ := new_st Z6.fr.ok (vs := zE) rfl rfl
    have s7' : (g6.new (.cells [(.int .i64 0), (.int .i64 0), (.int .i64 0), (.int .i64 0), (.int .i64 0), (.bool false), (.int .i64 0), (.int .i64 0), (.int .u64 0), (.int .u64 0), (.int .u64 0), (.int .i64 0), (.int .u64 0), (.bool false)] .rw)).st 14 (.ptr g6.next 0) (.agg [(.int .i64 0), (.int .i64 0), (.int .i64 0), (.int .i64 0), (.int .i64 0), (.bool false), (.int .i64 0), (.int .i64 0), (.int .u64 0), (.int .u64 0), (.int .u64 0), (.int .i64 0), (.int .u64 0), (.bool false)]) = some g7 := s7
    have Z7 := Z6.fr' F7
    have c6' := F7.get Z6.fr.ok c6 (by simp)
    have q5 : g7.ld1 (.ptr g.next 0) = some (.int .i64 x.client) := ld1_get c6' rfl rfl
    have q6 := ld_agg (n := 14) c6' rfl
    have ms := mapSet_KV Z7.map x.client (.agg x.cs)
    simp only [lk, obind, List.getElem?_cons_zero, List.getElem?_cons_succ, s7', q5, q6, ms, wk]
    refine Ev.some (.inr ⟨_, rfl, rfl, Z7.set _, G.step hat bd (fun a y ha hy hc _ => absurd hc (hm a y ha hy)) ?_, M.step hat⟩)
    rintro ⟨a, y, ha, hy, hc⟩
    exact absurd hc (hm a y ha hy)
  | some v =>
    rw [hf] at hm lk
    obtain ⟨a, y, ha, hy, hc, rfl, hlast⟩ := hm
    dsimp only at lk
    obtain ⟨g7, s7, F7, c7, n7⟩ := new_st Z6.fr.ok (vs := y.cs) rfl (evt_one y)
    have s7' : (g6.new (.cells [(.int .i64 0), (.int .i64 0), (.int .i64 0), (.int .i64 0), (.int .i64 0), (.bool false), (.int .i64 0), (.int .i64 0), (.int .u64 0), (.int .u64 0), (.int .u64 0), (.int .i64 0), (.int .u64 0), (.bool false)] .rw)).st 14 (.ptr g6.next 0) (.agg y.cs) = some g7 := s7
    have Z7 := Z6.fr' F7
    have c6' := F7.get Z6.fr.ok c6 (by simp)
    have q5 : g7.ld1 (.ptr g.next 0) = some (.int .i64 x.client) := ld1_get c6' rfl rfl
    have q6 := ld_agg (n := 14) c6' rfl
    have q7 : g7.ld1 (.ptr g6.next 1) = some (.int .i64 y.op) := ld1_get c7 rfl rfl
    have q8 : g7.ld1 (.ptr g.next 1) = some (.int .i64 x.op) := ld1_get c6' rfl rfl
    have q9 := ld_agg (n := 14) c7 rfl
    have ah := ahead_spec y x g7
    have ms := mapSet_KV Z7.map x.client (.agg x.cs)
    have hsort := hs a k y x ha hy hat
    by_cases e1 : y.op = x.op
    · simp only [lk, obind, List.getElem?_cons_zero, List.getElem?_cons_succ, s7', q7, q8, asI_int, decide_eq_true e1]
      exact bad Z7.fr fun G => by have := (G.2 a k y x ha (Nat.lt_succ_self k) hy hat hc).1; omega
    by_cases e2 : y.ended < x.begun
    · rw [decide_eq_true e2] at ah
      simp only [lk, obind, List.getElem?_cons_zero, List.getElem?_cons_succ, s7', q7, q8, asI_int, decide_eq_false e1, q9, q6, W_call, ah, asB_bool, Bool.not_true, q5, ms, wk]
      refine Ev.some (.inr ⟨_, rfl, rfl, Z7.set _, G.step hat bd (fun a2 y2 h2 hy2 hc2 hl2 => ?_) (fun _ => ⟨a, y, ha, hy, hc, hlast⟩), M.step hat⟩)
      have z1 := hl2 a y ha hy hc
      have z2 := hlast a2 y2 h2 hy2 hc2
      have : a = a2 := Nat.le_antisymm z1 z2
      subst this
      rw [AtO.same hy2 hy]
      exact ⟨by omega, e2⟩
    · rw [decide_eq_false e2] at ah
      simp only [lk, obind, List.getElem?_cons_zero, List.getElem?_cons_succ, s7', q7, q8, asI_int, decide_eq_false e1, q9, q6, W_call, ah, asB_bool, Bool.not_false]
      exact bad Z7.fr fun G => e2 (G.2 a k y x ha (Nat.lt_succ_self k) hy hat hc).2

theorem rowE_one {g : Nat → Option Blk} {x : V} {l : List Evt} (h : RowE g x l) : x.one = true := by
  obtain ⟨rfl, _⟩ | ⟨b, c, k, rfl, _⟩ := h <;> rfl
theorem rowE_box {g : Nat → Option Blk} {x : V} {l : List Evt} (h : RowE g x l) : boxc x = some [x] := by
  obtain ⟨rfl, _⟩ | ⟨b, c, k, rfl, _⟩ := h <;> rfl

theorem sortedO_of {l : List Evt} {d : Array Int} (hd : d.size = l.length) (hs : SortedIn (ltE l) 0 l.length d) : SortedO l d.toList := by
  rintro a b x y hab ⟨i, hi, hxi⟩ ⟨j, hj, hyj⟩ hlt
  have hb := lt_of_get hj
  rw [Array.length_toList, hd] at hb
  have h1 := hs a b (Nat.zero_le _) hab hb
  rw [get_toList (by rw [hd]; omega)] at hi
  rw [get_toList (by rw [hd]; exact hb)] at hj
  rw [Option.some.inj hi, Option.some.inj hj] at h1
  have h2 := of_decide_eq_false h1
  unfold opOf at h2
  rw [Int.toNat_natCast, Int.toNat_natCast, hxi, hyj] at h2
  exact h2 hlt

theorem right_spec {h : H} (ok : h.ok) {x0 : V} {l : List Evt} (hx : RowE h.get x0 l) (hl : l.length ≤ 60) (clients : Int) :
    Ev (C 178 [x0, .int .i64 clients] h) fun r => ∃ v, r.1 = .bool v ∧ (v = true ↔ RightH l clients) ∧ Fr [] h r.2 := by
  refine call_ev (af := F.hist_Right) (by kernel_rfl) rfl ?_
  rw [S.hist_Right_eq]
  have bx := rowE_box hx
  have h1 := rowE_one hx
  have hxl := hx.len
  have F0 : Fr [] h ((h.new (.cells [x0] .rw)).new (.map [])) := ((Fr.refl ok).new _).new _
  have g1 : ((h.new (.cells [x0] .rw)).new (.map [])).get h.next = some (.cells [x0] .rw) := by
    rw [get_new_ne (by rw [H.next_new]; omega)]; exact get_new_self _ _
  have l1 : ((h.new (.cells [x0] .rw)).new (.map [])).ld1 (.ptr h.next 0) = some x0 := ld1_get g1 rfl h1
  have m1 : ((h.new (.cells [x0] .rw)).new (.map [])).get (h.next + 1) = some (.map (KV .i64 [])) := get_new_self _ _
  have n1 : ((h.new (.cells [x0] .rw)).new (.map [])).next = h.next + 2 := rfl
  have nn : (h.new (.cells [x0] .rw)).next = h.next + 1 := rfl
  have mk := mkInts (h := (h.new (.cells [x0] .rw)).new (.map [])) (n := l.length) (Nat.le_trans hl (by decide))
  rw [n1] at mk
  simp only [S.hist_Right, bx, obind, l1, hxl, mk, lenSl_sl, nn]
  have F1 := F0.new (.cells (fillL l.length 0) .rw)
  have g2 := F1
  generalize hgg : ((h.new (.cells [x0] .rw)).new (.map [])).new (.cells (fillL l.length 0) .rw) = g at F1
  have b1 : g.get h.next = some (.cells [x0] .rw) := by rw [← hgg, get_new_ne (by rw [n1]; omega)]; exact g1
  have b2 : g.get (h.next + 1) = some (.map (KV .i64 [])) := by rw [← hgg, get_new_ne (by rw [n1]; omega)]; exact m1
  have b3 : g.get (h.next + 2) = some (.cells (fillL l.length 0) .rw) := by rw [← hgg, ← n1]; exact get_new_self _ _
  clear hgg mk l1 m1 g1 n1 nn F0 g2
  refine loop_ev (α := Nat) (fun k => S.hist_Right_c1_E (.int .i64 clients) (.ptr h.next 0) (.map (h.next + 1)) (.sl (h.next + 2) 0 l.length (.ex l.length)) (.int .i64 (l.length : Nat)) (.int .i64 (k : Nat)))
    (fun k g => k ≤ l.length ∧ Fr [] h g ∧ g.get h.next = some (.cells [x0] .rw) ∧ g.get (h.next + 1) = some (.map (KV .i64 [])) ∧ g.get (h.next + 2) = some (.cells (fillL l.length k) .rw)) (fun k _ => l.length - k)
    (fun r => r.1 = .exit 0 ∧ r.2.1 = S.hist_Right_c1_O (.int .i64 clients) (.ptr h.next 0) (.map (h.next + 1)) (.sl (h.next + 2) 0 l.length (.ex l.length)) ∧ Fr [] h r.2.2 ∧ r.2.2.get h.next = some (.cells [x0] .rw) ∧ r.2.2.get (h.next + 1) = some (.map (KV .i64 [])) ∧ r.2.2.get (h.next + 2) = some (.cells (ints (idA l.length)) .rw))
    0 rfl ⟨Nat.zero_le _, F1, b1, b2, b3⟩ ?_ ?_
  · clear b1 b2 b3 F1
    rintro k g ⟨hk, F, b1, b2, b3⟩
    rw [S.hist_Right_c1_eq]
    by_cases hkl : k < l.length
    · have hd : decide ((k : Int) < (l.length : Int)) = true := decide_eq_true (by omega)
      have wk := hr_k (k := k) (by omega)
      have i0 := sl_idx1 (b := h.next + 2) (c := .ex l.length) hkl
      have s0 := st1_get b3 (by simp) (one_int .i64 (k : Int)) (by rw [fillL_len]; exact hkl)
      rw [fillL_set hkl] at s0
      simp only [S.hist_Right_c1_S, hd, i0, obind, s0, wk]
      exact Ev.some (.inl ⟨k + 1, rfl, rfl, ⟨hkl, F.put (.inr (by omega)) (F.ok.lt b3) _, by rw [get_put_ne (by omega)]; exact b1, by rw [get_put_ne (by omega)]; exact b2, get_put_self _ _ _⟩, Nat.sub_lt_sub_left hkl (Nat.lt_succ_self k)⟩)
    · have hke : k = l.length := Nat.le_antisymm hk (Nat.le_of_not_lt hkl)
      have hd : decide ((k : Int) < (l.length : Int)) = false := decide_eq_false (by omega)
      simp only [S.hist_Right_c1_S, hd]
      rw [hke, fillL_all] at b3
      exact Ev.some (.inr ⟨by simp, rfl, rfl, F, b1, b2, b3⟩)
  clear b1 b2 b3 F1
  rintro ⟨_, _, g⟩ ⟨rfl, rfl, F, b1, b2, b3⟩
  dsimp only at F b1 b2 b3
  show Ev (S.hist_Right_K2 W (.exit 0) _ _) _
  rw [S.hist_Right_c1_e0_eq]
  have A0 : Sw g (h.next + 2) l.length g (idA l.length) := ⟨Fr.refl F.ok, b3, idA_size _, fun i hi => by rw [idA_get hi]; omega⟩
  have hxg := hx.fr ok F (by simp)
  have K : Cmp g (h.next + 2) l.length 333 [.ptr h.next 0] (ltE l) := right_cmp F.ok b1 h1 hxg (by omega) (fun q hq => by have := hx.lt ok q hq; omega)
  obtain ⟨⟨v, g2⟩, e2, R, rfl, r1, r2, A2⟩ := sortFunc_spec (c := .ex l.length) A0 K (ltE_swo l) (by omega)
  dsimp only at A2
  simp only [S.hist_Right_c1_e0, W_call, e2, obind, lenSl_sl]
  have P := AllNums.of A2.sz r1
  have hs := sortedO_of A2.sz r2
  have hiff := rightTo_iff (clients := clients) P hs
  have F2 : Fr [] h g2 := F.trans A2.fr (fun q hq => by rw [List.mem_singleton] at hq; exact .inr (by omega))
  have Z0 : RtSt h g2 x0 l h.next (h.next + 2) (h.next + 1) R [] := ⟨F2, A2.fr.get F.ok b1 (by simp), A2.at_, A2.fr.get F.ok b2 (by simp), by omega, by omega, by omega⟩
  refine loop_ev (α := Nat × List (Int × V)) (fun z => S.hist_Right_c3_E (.int .i64 clients) (.ptr h.next 0) (.map (h.next + 1)) (.sl (h.next + 2) 0 l.length (.ex l.length)) (.int .i64 (l.length : Nat)) (.int .i64 (z.1 : Nat)))
    (fun z g => z.1 ≤ l.length ∧ RtSt h g x0 l h.next (h.next + 2) (h.next + 1) R z.2 ∧ RightTo l clients R.toList z.1 ∧ LastM l R.toList z.1 z.2) (fun z _ => l.length - z.1)
    (fun r => Fr [] h r.2.2 ∧ ((r.1 = .ret ∧ r.2.1 = S.hist_Right_c3_O (.bool false) ∧ ¬ RightH l clients) ∨ (r.1 = .exit 2 ∧ r.2.1 = S.hist_Right_c3_O .dead ∧ RightH l clients)))
    (0, []) rfl ⟨Nat.zero_le _, Z0, ⟨fun a y ha => absurd ha (Nat.not_lt_zero a), fun a b x y _ hb => absurd hb (Nat.not_lt_zero b)⟩, LastM.zero _ _⟩ ?_ ?_
  · rintro ⟨k, m⟩ g ⟨hk, Z, G, M⟩
    dsimp only at hk Z G M ⊢
    rw [S.hist_Right_c3_eq]
    by_cases hkl : k < l.length
    · refine (right_step ok hx h1 hl Z A2.sz P hs hkl G M).mono ?_
      rintro ⟨_, _, g'⟩ (⟨rfl, rfl, F, hb⟩ | ⟨m', rfl, rfl, Z', G', M'⟩)
      · refine .inr ⟨by simp, F, .inl ⟨rfl, rfl, fun hr => hb ?_⟩⟩
        have := hiff.mpr hr
        exact ⟨fun a y ha => this.1 a y (by omega), fun a b x y hab hb' => this.2 a b x y hab (by omega)⟩
      · exact .inl ⟨(k + 1, m'), rfl, rfl, ⟨hkl, Z', G', M'⟩, Nat.sub_lt_sub_left hkl (Nat.lt_succ_self k)⟩
    · have hke : k = l.length := Nat.le_antisymm hk (Nat.le_of_not_lt hkl)
      have hd : decide ((k : Int) < (l.length : Int)) = false := decide_eq_false (by omega)
      simp only [S.hist_Right_c3_S, hd]
      exact Ev.some (.inr ⟨by simp, Z.fr, .inr ⟨rfl, rfl, hiff.mp (hke ▸ G)⟩⟩)
  rintro ⟨_, _, g⟩ ⟨F, (⟨rfl, rfl, hb⟩ | ⟨rfl, rfl, hb⟩)⟩
  · show Ev (S.hist_Right_K4 W .ret _ g) _
    rw [S.hist_Right_c3_r_eq]
    exact Ev.some ⟨false, rfl, ⟨fun h => (absurd h (by decide)), fun h => absurd h hb⟩, F⟩
  · show Ev (S.hist_Right_K4 W (.exit 2) _ g) _
    rw [S.hist_Right_c3_e2_eq]
    exact Ev.some ⟨true, rfl, ⟨fun _ => hb, fun _ => rfl⟩, F⟩
end Wm
end

section
/- How events compare in the order by points. -/
namespace Wm
attribute [local congr] bind_congr1
attribute [local irreducible] wr

def bI (b : Bool) : Int := if b then 1 else 0
def orI (a b c d : Int) : Int := if a ≠ 0 then a else if b ≠ 0 then b else if c ≠ 0 then c else d
def ordI (x y : Evt) : Int := orI (cmp3 x.point y.point) (cmp3 (bI x.behind) (bI y.behind)) (cmp3 x.client y.client) (cmp3 x.op y.op)
/-- The order by points: less. -/
def lessE (x y : Evt) : Bool :=
  if x.point = y.point then if x.behind = y.behind then if x.client = y.client then decide (x.op < y.op) else decide (x.client < y.client) else y.behind else decide (x.point < y.point)
theorem cmp3_zero {a b : Int} : cmp3 a b = 0 ↔ a = b := by
  unfold cmp3
  by_cases h1 : a < b
  · simp [h1]; omega
  · by_cases h2 : b < a
    · simp [h1, h2]; omega
    · simp [h1, h2]; omega
theorem ordI_neg (x y : Evt) : decide (ordI x y < 0) = lessE x y := by
  unfold ordI orI lessE
  by_cases h1 : x.point = y.point
  · rw [if_neg (by rw [cmp3_zero.mpr h1]; simp), if_pos h1]
    by_cases h2 : x.behind = y.behind
    · rw [if_neg (by rw [h2, cmp3_zero.mpr rfl]; simp), if_pos h2]
      by_cases h3 : x.client = y.client
      · rw [if_neg (by rw [cmp3_zero.mpr h3]; simp), if_pos h3, cmp3_neg]
      · rw [if_pos (fun e => h3 (cmp3_zero.mp e)), if_neg h3, cmp3_neg]
    · have : bI x.behind ≠ bI y.behind := by
        cases hx : x.behind <;> cases hy : y.behind <;> simp_all [bI]
      rw [if_pos (fun e => this (cmp3_zero.mp e)), if_neg h2, cmp3_neg]
      cases hx : x.behind <;> cases hy : y.behind <;> simp_all [bI]
  · rw [if_pos (fun e => h1 (cmp3_zero.mp e)), if_neg h1, cmp3_neg]

theorem behind_spec (e : Evt) (h : H) : C 338 [.agg e.cs] h = some (.int .i64 (bI e.behind), h) := by
  refine call_closed (af := F.hist_behind) (by kernel_rfl) rfl (by rfl) (by rfl) h ?_
  unfold Evt.cs
  rw [S.hist_behind_eq]
  have h0 : H.empty.next = 0 := rfl
  cases e.behind with
  | true =>
    simp only [S.hist_behind, Option.bind_some, ld1_get', get_new', ldB_cells, List.getElem?_cons_zero, List.getElem?_cons_succ, V.one, asB_bool, if_true, h0]
    exact Ev.some rfl
  | false =>
    simp only [S.hist_behind, Option.bind_some, ld1_get', get_new', ldB_cells, List.getElem?_cons_zero, List.getElem?_cons_succ, V.one, asB_bool, if_true, h0]
    exact Ev.some rfl

theorem or_spec {g : H} {q : Nat} {a b c d : Int} (hq : g.get q = some (.cells [.int .i64 a, .int .i64 b, .int .i64 c, .int .i64 d] .rw)) :
    C 337 [.sl q 0 4 (.ex 4)] g = some (.int .i64 (orI a b c d), g) := by
  have e : Ev (C 337 [.sl q 0 4 (.ex 4)] g) fun r => r = (.int .i64 (orI a b c d), g) := by
    refine call_ev (af := F.cmp_Or_int_) (by kernel_rfl) rfl ?_
    rw [S.cmp_Or_int__eq]
    simp only [S.cmp_Or_int_, lenSl_sl, obind]
    have at' : ∀ k : Nat, k < 4 → ∃ v, [a, b, c, d][k]? = some v ∧ ldB (g.get q) k = some (.int .i64 v) := fun k hk => by
      refine ⟨[a, b, c, d][k], List.getElem?_eq_getElem hk, ?_⟩
      rw [hq, ldB_cells]
      have : [V.int .i64 a, .int .i64 b, .int .i64 c, .int .i64 d] = [a, b, c, d].map (.int .i64) := rfl
      rw [this, List.getElem?_map, List.getElem?_eq_getElem hk]; rfl
    refine loop_ev (α := Nat) (fun k => S.cmp_Or_int__c1_E (.int .i64 0) (.sl q 0 4 (.ex 4)) (.int .i64 ((4 : Nat) : Int)) (.int .i64 (k : Int)))
      (fun k g' => k ≤ 4 ∧ g' = g ∧ ∀ i v, i < k → [a, b, c, d][i]? = some v → v = 0) (fun k _ => 4 - k)
      (fun r => r.2.2 = g ∧ ((r.1 = .ret ∧ r.2.1 = S.cmp_Or_int__c1_O (.int .i64 (orI a b c d)) (.int .i64 0)) ∨ (r.1 = .exit 0 ∧ r.2.1 = S.cmp_Or_int__c1_O .dead (.int .i64 0) ∧ orI a b c d = 0))) 0 rfl ⟨Nat.zero_le _, rfl, fun i v hi => absurd hi (Nat.not_lt_zero i)⟩ ?_ ?_
    · rintro k g' ⟨hk, rfl, hz⟩
      rw [S.cmp_Or_int__c1_eq]
      by_cases hk4 : k < 4
      · have d0 : decide ((k : Int) < ((4 : Nat) : Int)) = true := decide_eq_true (by omega)
        have i0 := sl_idx1 (b := q) (c := .ex 4) hk4
        obtain ⟨v, hv, l0⟩ := at' k hk4
        have wk := hr_k (k := k) (by omega)
        by_cases hv0 : v = 0
        · have d1 : decide (v = 0) = true := decide_eq_true hv0
          simp only [S.cmp_Or_int__c1_S, d0, i0, obind, ld1_get', l0, asI_int, d1, Bool.not_true, wk]
          refine Ev.some (.inl ⟨k + 1, rfl, rfl, ⟨hk4, rfl, fun i w hi hw => ?_⟩, by omega⟩)
          rcases Nat.lt_succ_iff_lt_or_eq.mp hi with r | r
          · exact hz i w r hw
          · subst r; rw [hv] at hw; cases hw; exact hv0
        · have d1 : decide (v = 0) = false := decide_eq_false hv0
          simp only [S.cmp_Or_int__c1_S, d0, i0, obind, ld1_get', l0, asI_int, d1, Bool.not_false]
          refine Ev.some (.inr ⟨by simp, rfl, .inl ⟨rfl, ?_⟩⟩)
          congr 2
          unfold orI
          have z : ∀ i w, i < k → [a, b, c, d][i]? = some w → w = 0 := hz
          match k, hk4, hv, z with
          | 0, _, hv, z => cases hv; rw [if_pos hv0]
          | 1, _, hv, z => cases hv; rw [if_neg (not_not_intro (z 0 a (by decide) rfl)), if_pos hv0]
          | 2, _, hv, z => cases hv; rw [if_neg (not_not_intro (z 0 a (by decide) rfl)), if_neg (not_not_intro (z 1 b (by decide) rfl)), if_pos hv0]
          | 3, _, hv, z => cases hv; rw [if_neg (not_not_intro (z 0 a (by decide) rfl)), if_neg (not_not_intro (z 1 b (by decide) rfl)), if_neg (not_not_intro (z 2 c (by decide) rfl))]
      · have d0 : decide ((k : Int) < ((4 : Nat) : Int)) = false := decide_eq_false (by omega)
        simp only [S.cmp_Or_int__c1_S, d0]
        refine Ev.some (.inr ⟨by simp, rfl, .inr ⟨rfl, rfl, ?_⟩⟩)
        unfold orI
        rw [if_neg (not_not_intro (hz 0 a (by omega) rfl)), if_neg (not_not_intro (hz 1 b (by omega) rfl)), if_neg (not_not_intro (hz 2 c (by omega) rfl)), hz 3 d (by omega) rfl]
    rintro ⟨_, _, g'⟩ ⟨rfl, (⟨rfl, rfl⟩ | ⟨rfl, rfl, hz⟩)⟩
    · show Ev (S.cmp_Or_int__K2 W .ret _ _) _
      rw [S.cmp_Or_int__c1_r_eq]
      exact Ev.some rfl
    · show Ev (S.cmp_Or_int__K2 W (.exit 0) _ _) _
      rw [S.cmp_Or_int__c1_e0_eq, hz]
      exact Ev.some rfl
  obtain ⟨r, e, rfl⟩ := e
  exact e

theorem ck_int (k : Go.IntKind) (n : Int) : ckB (some (.int k n)) (.int k n) = true := by simp [ckB, V.beq]
theorem ck_evt (e : Evt) : ckB (some (.agg e.cs)) (.agg e.cs) = true := by unfold Evt.cs; simp [ckB, V.beq, V.beqs]
theorem ck_sl (b o n : Nat) (c : Cap) : ckB (some (.sl b o n c)) (.sl b o n c) = true := by simp [ckB, V.beq]
theorem fill4 (a b c d : Int) : fill (repl [(.int .i64 0)] 4) [] [(0, 1, .c (.int .i64 a)), (1, 1, .c (.int .i64 b)), (2, 1, .c (.int .i64 c)), (3, 1, .c (.int .i64 d))] = some [.int .i64 a, .int .i64 b, .int .i64 c, .int .i64 d] := rfl

theorem order1_spec {g : H} (ok : g.ok) {bx : Nat} {x0 : V} {l : List Evt} (hb : g.get bx = some (.cells [x0] .rw)) (h1 : x0.one = true) (hx : RowE g.get x0 l) {i j : Nat} {x y : Evt} (hi : l[i]? = some x) (hj : l[j]? = some y) :
    Ev (C 336 [.int .i64 (i : Int), .int .i64 (j : Int), .ptr bx 0] g) fun r => r.1 = .int .i64 (ordI x y) ∧ Fr [] g r.2 := by
  refine call_ev (af := F.hist_Order_1) (by kernel_rfl) rfl ?_
  rw [S.hist_Order_1_eq]
  have l0 : g.ld1 (.ptr bx 0) = some x0 := ld1_get hb rfl h1
  obtain ⟨eb, i1, i2, _⟩ := hx.at hi
  obtain ⟨fb, j1, j2, _⟩ := hx.at hj
  have i2' : g.ldN 14 (.ptr eb (i * 14)) = some (.agg x.cs) := by rw [ldN_get']; exact i2
  have j2' : g.ldN 14 (.ptr fb (j * 14)) = some (.agg y.cs) := by rw [ldN_get']; exact j2
  obtain ⟨g7, hg7⟩ : ∃ g7, g7 = (g.new (.cells zE .rw)).new (.cells zE .rw) := ⟨_, rfl⟩
  have n6 : (g.new (.cells zE .rw)).next = g.next + 1 := rfl
  have F7 : Fr [] g g7 := by rw [hg7]; exact ((Fr.refl ok).new _).new _
  have a7 : g7.get g.next = some (.cells zE .rw) := by rw [hg7, get_new_ne (by rw [n6]; omega)]; exact get_new_self _ _
  have b7 : g7.get (g.next + 1) = some (.cells zE .rw) := by rw [hg7]; exact get_new_self _ _
  have s8 := st_agg (n := 14) (vs := x.cs) a7 rfl rfl (evt_one x)
  obtain ⟨g8, hg8⟩ : ∃ g8, g8 = g7.put g.next (some (.cells x.cs .rw)) := ⟨_, rfl⟩
  rw [← hg8] at s8
  have F8 : Fr [] g g8 := by rw [hg8]; exact F7.put (.inr (Nat.le_refl _)) (F7.ok.lt a7) _
  have b8 : g8.get (g.next + 1) = some (.cells zE .rw) := by rw [hg8, get_put_ne (by omega)]; exact b7
  have a8 : g8.get g.next = some (.cells x.cs .rw) := by rw [hg8]; exact get_put_self _ _ _
  have s9 := st_agg (n := 14) (vs := y.cs) b8 rfl rfl (evt_one y)
  obtain ⟨g9, hg9⟩ : ∃ g9, g9 = g8.put (g.next + 1) (some (.cells y.cs .rw)) := ⟨_, rfl⟩
  rw [← hg9] at s9
  have F9 : Fr [] g g9 := by rw [hg9]; exact F8.put (.inr (by omega)) (F8.ok.lt b8) _
  have b9 : g9.get (g.next + 1) = some (.cells y.cs .rw) := by rw [hg9]; exact get_put_self _ _ _
  have a9 : g9.get g.next = some (.cells x.cs .rw) := by rw [hg9, get_put_ne (by omega)]; exact a8
  clear hg9 hg8 a8 b8 a7 b7
  have l8 : g8.ld1 (.ptr bx 0) = some x0 := ld1_get (F8.get ok hb (by simp)) rfl h1
  obtain ⟨fb', k1, k2, _⟩ := (hx.fr ok F8 (by simp)).at hj
  rw [j1] at k1; cases k1
  have k2' : g8.ldN 14 (.ptr fb (j * 14)) = some (.agg y.cs) := by rw [ldN_get']; exact k2
  have kx : ckB (some x0) x0 = true := by
    obtain ⟨rfl, _⟩ | ⟨b, c, k, rfl, _⟩ := hx
    · rfl
    · exact ck_sl _ _ _ _
  have x0' : g9.ld1 (.ptr g.next 0) = some (.int .i64 x.client) := ld1_get a9 rfl rfl
  have x1' : g9.ld1 (.ptr g.next 1) = some (.int .i64 x.op) := ld1_get a9 rfl rfl
  have x3' : g9.ld1 (.ptr g.next 3) = some (.int .i64 x.point) := ld1_get a9 rfl rfl
  have y0' : g9.ld1 (.ptr (g.next + 1) 0) = some (.int .i64 y.client) := ld1_get b9 rfl rfl
  have y1' : g9.ld1 (.ptr (g.next + 1) 1) = some (.int .i64 y.op) := ld1_get b9 rfl rfl
  have y3' : g9.ld1 (.ptr (g.next + 1) 3) = some (.int .i64 y.point) := ld1_get b9 rfl rfl
  have xa := ld_agg (n := 14) a9 rfl
  have ya := ld_agg (n := 14) b9 rfl
  have e1 := fun a b => cmp_spec a b g9
  have e2 := fun e => behind_spec e g9
  have e3 := fun a b c d => or_spec (g := g9.new (.cells [.int .i64 a, .int .i64 b, .int .i64 c, .int .i64 d] .rw)) (q := g9.next) (a := a) (b := b) (c := c) (d := d) (get_new_self _ _)
  have hz : (g.new (.cells [(.int .i64 0), (.int .i64 0), (.int .i64 0), (.int .i64 0), (.int .i64 0), (.bool false), (.int .i64 0), (.int .i64 0), (.int .u64 0), (.int .u64 0), (.int .u64 0), (.int .i64 0), (.int .u64 0), (.bool false)] .rw)).new (.cells [(.int .i64 0), (.int .i64 0), (.int .i64 0), (.int .i64 0), (.int .i64 0), (.bool false), (.int .i64 0), (.int .i64 0), (.int .u64 0), (.int .u64 0), (.int .u64 0), (.int .i64 0), (.int .u64 0), (.bool false)] .rw) = g7 := hg7.symm
  have hn : (g.new (.cells [(.int .i64 0), (.int .i64 0), (.int .i64 0), (.int .i64 0), (.int .i64 0), (.bool false), (.int .i64 0), (.int .i64 0), (.int .u64 0), (.int .u64 0), (.int .u64 0), (.int .i64 0), (.int .u64 0), (.bool false)] .rw)).next = g.next + 1 := n6
  simp only [S.hist_Order_1, l0, obind, i1, i2', j1, j2', hz, hn, s8, k2', ck_evt, l8, kx, s9, x0', x1', x3', y0', y1', y3', xa, ya, W_call, e1, ck_int, e2, fill4, e3]
  exact Ev.some ⟨rfl, F9.new _⟩

end Wm
end

section
/- The order by points: the code's, and the document's. -/
namespace Wm
attribute [local congr] bind_congr1
attribute [local irreducible] wr
open Go.Sort (swp PermIn SortedIn SWO)

theorem lessE_iff (x y : Evt) : lessE x y = true ↔ x.point < y.point ∨ (x.point = y.point ∧ (bI x.behind < bI y.behind ∨ (bI x.behind = bI y.behind ∧ (x.client < y.client ∨ (x.client = y.client ∧ x.op < y.op))))) := by
  have hb : (x.behind = y.behind) ↔ bI x.behind = bI y.behind := by
    cases x.behind <;> cases y.behind <;> simp [bI]
  have hb2 : y.behind = true ∧ x.behind ≠ y.behind ↔ bI x.behind < bI y.behind := by
    cases x.behind <;> cases y.behind <;> simp [bI]
  unfold lessE
  by_cases h1 : x.point = y.point
  · rw [if_pos h1]
    by_cases h2 : x.behind = y.behind
    · rw [if_pos h2]
      have h2' := hb.mp h2
      by_cases h3 : x.client = y.client
      · rw [if_pos h3, decide_eq_true_eq]; omega
      · rw [if_neg h3, decide_eq_true_eq]; omega
    · rw [if_neg h2]
      have h4 : y.behind = true ↔ bI x.behind < bI y.behind := by rw [← hb2]; exact ⟨fun z => ⟨z, h2⟩, fun z => z.1⟩
      have h2' : ¬ bI x.behind = bI y.behind := fun z => h2 (hb.mpr z)
      rw [h4]; omega
  · rw [if_neg h1, decide_eq_true_eq]; omega
theorem lessE_false (x y : Evt) : lessE x y = false ↔ ¬ (x.point < y.point ∨ (x.point = y.point ∧ (bI x.behind < bI y.behind ∨ (bI x.behind = bI y.behind ∧ (x.client < y.client ∨ (x.client = y.client ∧ x.op < y.op)))))) := by
  rw [← lessE_iff]; simp
def evt0 : Evt := ⟨0, 0, 0, 0, 0, false, 0, 0, 0, 0, 0, 0, 0, false⟩
def evAt (l : List Evt) (i : Int) : Evt := (l[i.toNat]?).getD evt0
def ltO (l : List Evt) (i j : Int) : Bool := lessE (evAt l i) (evAt l j)
theorem ltO_swo (l : List Evt) : SWO (ltO l) where
  irrefl x := by unfold ltO; rw [lessE_false]; omega
  trans x y z h1 h2 := by unfold ltO at *; rw [lessE_iff] at *; omega
  ntrans x y z h1 h2 := by unfold ltO at *; rw [lessE_false] at *; omega
theorem evAt_nat {l : List Evt} {i : Nat} {x : Evt} (h : l[i]? = some x) : evAt l (i : Int) = x := by
  unfold evAt; rw [Int.toNat_natCast, h]; rfl

/-- The order by points. -/
structure OrdL (l : List Evt) (o : List Int) : Prop where
  all : AllNums l.length o
  sorted : o.Pairwise (fun x y => ltS (ltO l) y x = false)
theorem order_cmp {h0 : H} {b bx : Nat} {x0 : V} {l : List Evt} (ok : h0.ok) (hb : h0.get bx = some (.cells [x0] .rw)) (h1 : x0.one = true) (hx : RowE h0.get x0 l) (n1 : bx ≠ b) (n2 : ∀ q ∈ x0.blk, q ≠ b) : Cmp h0 b l.length 336 [.ptr bx 0] (ltO l) := by
  intro h F i j i0 i1 j0 j1
  obtain ⟨i', rfl⟩ : ∃ n : Nat, i = (n : Int) := ⟨i.toNat, by omega⟩
  obtain ⟨j', rfl⟩ : ∃ n : Nat, j = (n : Int) := ⟨j.toNat, by omega⟩
  obtain ⟨x, hxi⟩ : ∃ x, l[i']? = some x := ⟨_, List.getElem?_eq_getElem (by omega)⟩
  obtain ⟨y, hyj⟩ : ∃ x, l[j']? = some x := ⟨_, List.getElem?_eq_getElem (by omega)⟩
  obtain ⟨⟨v, g⟩, e, rfl, F2⟩ := order1_spec F.ok (F.get ok hb (by simpa using n1)) h1 (hx.fr ok F (fun q hq => by simpa using n2 q hq)) hxi hyj
  refine ⟨_, g, e, ?_, F2⟩
  rw [ordI_neg]
  unfold ltO
  rw [evAt_nat hxi, evAt_nat hyj]

theorem order_spec {h : H} (ok : h.ok) {x0 : V} {l : List Evt} (hx : RowE h.get x0 l) (hl : l.length ≤ 60) :
    Ev (C 181 [x0] h) fun r => ∃ o, OrdL l o ∧ RowN .i64 r.2.get r.1 o ∧ (∀ b ∈ r.1.blk, h.next ≤ b) ∧ Fr [] h r.2 := by
  refine call_ev (af := F.hist_Order) (by kernel_rfl) rfl ?_
  rw [S.hist_Order_eq]
  have bx := rowE_box hx
  have h1 := rowE_one hx
  have hxl := hx.len
  have F0 : Fr [] h (h.new (.cells [x0] .rw)) := (Fr.refl ok).new _
  have g1 : (h.new (.cells [x0] .rw)).get h.next = some (.cells [x0] .rw) := get_new_self _ _
  have l1 : (h.new (.cells [x0] .rw)).ld1 (.ptr h.next 0) = some x0 := ld1_get g1 rfl h1
  have n1 : (h.new (.cells [x0] .rw)).next = h.next + 1 := rfl
  have mk := mkInts (h := h.new (.cells [x0] .rw)) (n := l.length) (Nat.le_trans hl (by decide))
  rw [n1] at mk
  simp only [S.hist_Order, bx, obind, l1, hxl, mk, lenSl_sl]
  have F1 := F0.new (.cells (fillL l.length 0) .rw)
  generalize hgg : (h.new (.cells [x0] .rw)).new (.cells (fillL l.length 0) .rw) = g at F1
  have b1 : g.get h.next = some (.cells [x0] .rw) := by rw [← hgg, get_new_ne (by rw [n1]; omega)]; exact g1
  have b3 : g.get (h.next + 1) = some (.cells (fillL l.length 0) .rw) := by rw [← hgg, ← n1]; exact get_new_self _ _
  clear hgg mk l1 g1 n1 F0
  refine loop_ev (α := Nat) (fun k => S.hist_Order_c1_E (.ptr h.next 0) (.sl (h.next + 1) 0 l.length (.ex l.length)) (.int .i64 (l.length : Nat)) (.int .i64 (k : Nat)))
    (fun k g => k ≤ l.length ∧ Fr [] h g ∧ g.get h.next = some (.cells [x0] .rw) ∧ g.get (h.next + 1) = some (.cells (fillL l.length k) .rw)) (fun k _ => l.length - k)
    (fun r => r.1 = .exit 0 ∧ r.2.1 = S.hist_Order_c1_O (.ptr h.next 0) (.sl (h.next + 1) 0 l.length (.ex l.length)) ∧ Fr [] h r.2.2 ∧ r.2.2.get h.next = some (.cells [x0] .rw) ∧ r.2.2.get (h.next + 1) = some (.cells (ints (idA l.length)) .rw))
    0 rfl ⟨Nat.zero_le _, F1, b1, b3⟩ ?_ ?_
  · clear b1 b3 F1
    rintro k g ⟨hk, F, b1, b3⟩
    rw [S.hist_Order_c1_eq]
    by_cases hkl : k < l.length
    · have hd : decide ((k : Int) < (l.length : Int)) = true := decide_eq_true (by omega)
      have wk := hr_k (k := k) (by omega)
      have i0 := sl_idx1 (b := h.next + 1) (c := .ex l.length) hkl
      have s0 := st1_get b3 (by simp) (one_int .i64 (k : Int)) (by rw [fillL_len]; exact hkl)
      rw [fillL_set hkl] at s0
      simp only [S.hist_Order_c1_S, hd, i0, obind, s0, wk]
      exact Ev.some (.inl ⟨k + 1, rfl, rfl, ⟨hkl, F.put (.inr (by omega)) (F.ok.lt b3) _, by rw [get_put_ne (by omega)]; exact b1, get_put_self _ _ _⟩, Nat.sub_lt_sub_left hkl (Nat.lt_succ_self k)⟩)
    · have hke : k = l.length := Nat.le_antisymm hk (Nat.le_of_not_lt hkl)
      have hd : decide ((k : Int) < (l.length : Int)) = false := decide_eq_false (by omega)
      simp only [S.hist_Order_c1_S, hd]
      rw [hke, fillL_all] at b3
      exact Ev.some (.inr ⟨by simp, rfl, rfl, F, b1, b3⟩)
  clear b1 b3 F1
  rintro ⟨_, _, g⟩ ⟨rfl, rfl, F, b1, b3⟩
  dsimp only at F b1 b3
  show Ev (S.hist_Order_K2 W (.exit 0) _ _) _
  rw [S.hist_Order_c1_e0_eq]
  have A0 : Sw g (h.next + 1) l.length g (idA l.length) := ⟨Fr.refl F.ok, b3, idA_size _, fun i hi => by rw [idA_get hi]; omega⟩
  have hxg := hx.fr ok F (by simp)
  have K : Cmp g (h.next + 1) l.length 336 [.ptr h.next 0] (ltO l) := order_cmp F.ok b1 h1 hxg (by omega) (fun q hq => by have := hx.lt ok q hq; omega)
  obtain ⟨⟨v, g2⟩, e2, R, rfl, r1, r2, A2⟩ := sortStable_spec (c := .ex l.length) A0 K (ltO_swo l) (by omega)
  dsimp only at A2
  simp only [S.hist_Order_c1_e0, W_call, e2, obind]
  have P := AllNums.of A2.sz r1
  have F2 : Fr [] h g2 := F.trans A2.fr (fun q hq => by rw [List.mem_singleton] at hq; exact .inr (by omega))
  have hlen : R.toList.length = l.length := by rw [Array.length_toList]; exact A2.sz
  refine Ev.some ⟨R.toList, ⟨P, ?_⟩, .inr ⟨h.next + 1, .ex l.length, .rw, by rw [hlen], A2.at_⟩, fun q hq => ?_, F2⟩
  · rw [List.pairwise_iff_getElem]
    intro i j hi hj hij
    have hi' : i < R.size := by rw [Array.length_toList] at hi; exact hi
    have hj' : j < R.size := by rw [Array.length_toList] at hj; exact hj
    have e1 : R.toList[i] = R[i]! := Option.some.inj (by rw [← List.getElem?_eq_getElem hi, get_toList hi'])
    have e2 : R.toList[j] = R[j]! := Option.some.inj (by rw [← List.getElem?_eq_getElem hj, get_toList hj'])
    rw [e1, e2]
    exact r2 i j (Nat.zero_le _) hij (by rw [← A2.sz]; exact hj')
  · simp only [V.blk, List.mem_singleton] at hq; omega

end Wm
end

section
/- The document's example of a layer, run by the kernel. -/
namespace Wm
set_option maxRecDepth 100000 in
theorem awake18_run : runF prog meth 2000 200 180 [] .empty = some (.bool true, .empty) := by kernel_rfl
theorem awake18 (h : H) : C 180 [] h = some (.bool true, h) := call_closed_run (af := F.withylaw18_awake) (by kernel_rfl) rfl (by rw [← runF_eq]; exact awake18_run) h
end Wm
end

section
/- The law HistMoves, of my machine. -/
namespace Wm
attribute [local congr] bind_congr1
attribute [local irreducible] wr

def shHistMoves : List (Bool × List CSh) := [(false, [.sl 112 [.int .i64, .int .i64, .int .i64, .int .i64, .int .i64, .bool, .int .i64, .int .i64, .int .u64, .int .u64, .int .u64, .int .i64, .int .u64, .bool]]), (false, [.int .i64]), (false, [.int .u16])]

def farB (n : Int) : Bool := decide (1099511627776 < n) || decide (n < -1099511627776)
theorem far_spec (n : Int) (h : H) : C 187 [.int .i64 n] h = some (.bool (farB n), h) := by
  refine call_closed (af := F.withylaw18_far) (by kernel_rfl) rfl (by rfl) (by rfl) h ?_
  rw [S.withylaw18_far_eq]
  unfold farB
  by_cases h1 : 1099511627776 < n
  · simp only [S.withylaw18_far, decide_eq_true h1, Bool.true_or]
    exact Ev.some rfl
  · simp only [S.withylaw18_far, decide_eq_false h1, Bool.false_or]
    exact Ev.some rfl
theorem far_in {n : Int} (h : farB n = false) : -1099511627776 ≤ n ∧ n ≤ 1099511627776 := by
  unfold farB at h
  rw [Bool.or_eq_false_iff, decide_eq_false_iff_not, decide_eq_false_iff_not] at h
  omega
theorem wf_u16 {n : Int} (h : (Go.Lit.int .u16 n).wf = true) : 0 ≤ n ∧ n ≤ 65535 := by
  simpa [Go.Lit.wf, Go.IntKind.min, Go.IntKind.max, Go.IntKind.signed, Go.IntKind.bits] using h

def Evt.mv (e : Evt) (n : Int) : Evt := { e with begun := e.begun + n, point := e.point + n, ended := e.ended + n }
theorem mv_get {l : List Evt} {n : Int} {i : Nat} {y : Evt} : (l.map (·.mv n))[i]? = some y ↔ ∃ x, l[i]? = some x ∧ y = x.mv n := by
  rw [List.getElem?_map, Option.map_eq_some_iff]
  exact ⟨fun ⟨x, h1, h2⟩ => ⟨x, h1, h2.symm⟩, fun ⟨x, h1, h2⟩ => ⟨x, h1, h2.symm⟩⟩
theorem mv_bd {x : Evt} {n c : Int} : (x.mv n).bd c ↔ x.bd c :=
  ⟨fun h => ⟨h.c0, h.c1, by have : x.begun + n ≤ x.point + n := h.p0; omega, by have : x.point + n ≤ x.ended + n := h.p1; omega⟩,
   fun h => ⟨h.c0, h.c1, by show x.begun + n ≤ x.point + n; have := h.p0; omega, by show x.point + n ≤ x.ended + n; have := h.p1; omega⟩⟩
theorem mv_ahead {x y : Evt} {n : Int} : (x.mv n).ended < (y.mv n).begun ↔ x.ended < y.begun := by
  show x.ended + n < y.begun + n ↔ _
  omega
theorem mv_right {l : List Evt} {n c : Int} : RightH (l.map (·.mv n)) c ↔ RightH l c := by
  constructor
  · rintro ⟨h1, h2⟩
    refine ⟨fun i x hx => mv_bd.mp (h1 i _ (mv_get.mpr ⟨x, hx, rfl⟩)), fun i k x y hx hy hki hc hb => ?_⟩
    refine h2 i k _ _ (mv_get.mpr ⟨x, hx, rfl⟩) (mv_get.mpr ⟨y, hy, rfl⟩) hki hc ?_
    rw [mv_ahead]; exact hb
  · rintro ⟨h1, h2⟩
    refine ⟨fun i y hy => ?_, fun i k y z hy hz hki hc hb => ?_⟩
    · obtain ⟨x, hx, rfl⟩ := mv_get.mp hy
      exact mv_bd.mpr (h1 i x hx)
    · obtain ⟨x, hx, rfl⟩ := mv_get.mp hy
      obtain ⟨w, hw, rfl⟩ := mv_get.mp hz
      refine h2 i k x w hx hw hki hc ?_
      rw [mv_ahead] at hb; exact hb
theorem mv_resp {l : List Evt} {n : Int} {o : List Int} : Resp (l.map (·.mv n)) o ↔ Resp l o := by
  unfold Resp GoodO GoodAt AtO
  rw [List.length_map]
  refine and_congr Iff.rfl (forall_congr' fun b => imp_congr Iff.rfl ?_)
  constructor
  · rintro ⟨i, y, h1, h2, h3, h4⟩
    obtain ⟨x, hx, rfl⟩ := mv_get.mp h2
    refine ⟨i, x, h1, hx, h3, fun a z ha ⟨j, hj, hz⟩ => ?_⟩
    rw [← mv_ahead (n := n)]
    exact h4 a (z.mv n) ha ⟨j, hj, mv_get.mpr ⟨z, hz, rfl⟩⟩
  · rintro ⟨i, x, h1, h2, h3, h4⟩
    refine ⟨i, x.mv n, h1, mv_get.mpr ⟨x, h2, rfl⟩, h3, fun a y ha ⟨j, hj, hy⟩ => ?_⟩
    obtain ⟨z, hz, rfl⟩ := mv_get.mp hy
    rw [mv_ahead]
    exact h4 a z ha ⟨j, hj, hz⟩

theorem rowE_grown {g : Nat → Option Blk} {x : V} {m : List Evt} (G : Grown g x 14 (m.map Evt.cs).flatten) : RowE g x m := by
  have hn : (m.map Evt.cs).flatten.length = m.length * 14 := by rw [flat_length (evt14 m), List.length_map]
  obtain ⟨rfl, h⟩ | ⟨b, n, rfl, hl, hb⟩ := G
  · rw [h] at hn
    refine .inl ⟨rfl, ?_⟩
    cases m with
    | nil => rfl
    | cons a m => simp at hn
  · have : n = m.length := by omega
    subst this
    exact .inr ⟨b, _, _, rfl, hb⟩
theorem fillE (e : Evt) : fill (repl [(.int .i64 0), (.int .i64 0), (.int .i64 0), (.int .i64 0), (.int .i64 0), (.bool false), (.int .i64 0), (.int .i64 0), (.int .u64 0), (.int .u64 0), (.int .u64 0), (.int .i64 0), (.int .u64 0), (.bool false)] 1) [] [(0, 14, .c (.agg e.cs))] = some e.cs := rfl

theorem lawHistMoves (h : H) (us : List V) (ok : h.ok) (ha : ArgsOk h.get shHistMoves us) : Ev (C 37 us h) fun r => r.1 = .bool true := by
  obtain ⟨_, _, rfl, ⟨_, _, hx, hxc, rfl⟩, _, _, rfl, ⟨_, _, hy, ⟨n, rfl, hnw⟩, rfl⟩, _, _, rfl, ⟨_, _, hz, ⟨by', rfl, hby⟩, rfl⟩, rfl⟩ := ha
  cases hx; cases hy; cases hz
  rename_i x0
  obtain ⟨l, hx, _, _, _⟩ := rowE_of hxc
  obtain ⟨by0, by1⟩ := wf_u16 hby
  refine call_ev (af := F.withylaw18_HistMoves) (by kernel_rfl) rfl ?_
  rw [S.withylaw18_HistMoves_eq]
  have hxl := hx.len
  by_cases h60 : 60 < l.length
  · have d : decide ((60 : Int) < (l.length : Int)) = true := decide_eq_true (by omega)
    simp only [S.withylaw18_HistMoves, Option.bind_some, W_call, hxl, d, awake18]
    exact Ev.some rfl
  have d : decide ((60 : Int) < (l.length : Int)) = false := decide_eq_false (by omega)
  have hl : l.length ≤ 60 := Nat.le_of_not_lt h60
  simp only [S.withylaw18_HistMoves, Option.bind_some, hxl, d]
  have wb : wr .i64 by' = by' := wr64 (by omega) (by omega)
  refine loop_ev (α := Nat × V) (fun y => S.withylaw18_HistMoves_c1_E x0 (.int .i64 n) (.int .u16 by') y.2 (.int .i64 (y.1 : Nat)))
    (fun y g => y.1 ≤ l.length ∧ Fr [] h g ∧ Grown g.get y.2 14 (((l.take y.1).map (·.mv by')).map Evt.cs).flatten ∧ ∀ b ∈ y.2.blk, h.next ≤ b) (fun y _ => l.length - y.1)
    (fun r => Fr [] h r.2.2 ∧ ∃ x7, (r.1 = .ret ∧ r.2.1 = S.withylaw18_HistMoves_c1_O x0 (.int .i64 n) (.bool true) x7) ∨ (r.1 = .exit 0 ∧ r.2.1 = S.withylaw18_HistMoves_c1_O x0 (.int .i64 n) .dead x7 ∧ RowE r.2.2.get x7 (l.map (·.mv by')) ∧ ∀ b ∈ x7.blk, h.next ≤ b)) (0, .nilsl) rfl ⟨Nat.zero_le _, Fr.refl ok, by rw [List.take_zero]; exact Grown.nil _ _, by simp [V.blk]⟩ ?_ ?_
  · rintro ⟨i, x7⟩ g ⟨hi, F, G, hblk⟩
    dsimp only at hi G hblk
    rw [S.withylaw18_HistMoves_c1_eq]
    by_cases hil : i < l.length
    rotate_left
    · have hie : i = l.length := Nat.le_antisymm hi (Nat.le_of_not_lt hil)
      have hd : decide ((i : Int) < (l.length : Int)) = false := decide_eq_false (by omega)
      simp only [S.withylaw18_HistMoves_c1_S, hxl, obind, hd]
      rw [hie, List.take_length] at G
      exact Ev.some (.inr ⟨by simp, F, x7, .inr ⟨rfl, rfl, rowE_grown G, hblk⟩⟩)
    have hd : decide ((i : Int) < (l.length : Int)) = true := decide_eq_true (by omega)
    have wi := hr_k (k := i) (by omega)
    obtain ⟨x, hxi⟩ : ∃ x, l[i]? = some x := ⟨_, List.getElem?_eq_getElem hil⟩
    obtain ⟨eb, i1, l2, _⟩ := (hx.fr ok F (by simp)).at hxi
    have l2' : g.ldN 14 (.ptr eb (i * 14)) = some (.agg x.cs) := by rw [ldN_get']; exact l2
    obtain ⟨g4, s4, F4, c4, n4⟩ := new_st F.ok (vs := x.cs) rfl (evt_one x)
    have s4' : (g.new (.cells [(.int .i64 0), (.int .i64 0), (.int .i64 0), (.int .i64 0), (.int .i64 0), (.bool false), (.int .i64 0), (.int .i64 0), (.int .u64 0), (.int .u64 0), (.int .u64 0), (.int .i64 0), (.int .u64 0), (.bool false)] .rw)).st 14 (.ptr g.next 0) (.agg x.cs) = some g4 := s4
    have FF := F.trans F4 (by simp)
    have q2 : g4.ld1 (.ptr g.next 2) = some (.int .i64 x.begun) := ld1_get c4 rfl rfl
    have q3 : g4.ld1 (.ptr g.next 3) = some (.int .i64 x.point) := ld1_get c4 rfl rfl
    have q4 : g4.ld1 (.ptr g.next 4) = some (.int .i64 x.ended) := ld1_get c4 rfl rfl
    have f2 := far_spec x.begun g4
    have f3 := far_spec x.point g4
    have f4 := far_spec x.ended g4
    have aw := awake18 g4
    have out : ∀ x7', Ev (some (AX.ret, S.withylaw18_HistMoves_c1_O x0 (.int .i64 n) (.bool true) x7', g4)) fun r => (∃ a' : Nat × V, r.1 = .normal ∧ r.2.1 = S.withylaw18_HistMoves_c1_E x0 (.int .i64 n) (.int .u16 by') a'.2 (.int .i64 (a'.1 : Nat)) ∧ (a'.1 ≤ l.length ∧ Fr [] h r.2.2 ∧ Grown r.2.2.get a'.2 14 (((l.take a'.1).map (·.mv by')).map Evt.cs).flatten ∧ ∀ b ∈ a'.2.blk, h.next ≤ b) ∧ l.length - a'.1 < l.length - i) ∨ (r.1 ≠ .normal ∧ (Fr [] h r.2.2 ∧ ∃ x7, (r.1 = .ret ∧ r.2.1 = S.withylaw18_HistMoves_c1_O x0 (.int .i64 n) (.bool true) x7) ∨ (r.1 = .exit 0 ∧ r.2.1 = S.withylaw18_HistMoves_c1_O x0 (.int .i64 n) .dead x7 ∧ RowE r.2.2.get x7 (l.map (·.mv by')) ∧ ∀ b ∈ x7.blk, h.next ≤ b))) := fun x7' => Ev.some (.inr ⟨by simp, FF, x7', .inl ⟨rfl, rfl⟩⟩)
    cases hf2 : farB x.begun with
    | true =>
      rw [hf2] at f2
      simp only [S.withylaw18_HistMoves_c1_S, hxl, obind, hd, i1, l2', s4', q2, W_call, f2, aw]
      exact out _
    | false =>
    cases hf3 : farB x.point with
    | true =>
      rw [hf2] at f2; rw [hf3] at f3
      simp only [S.withylaw18_HistMoves_c1_S, hxl, obind, hd, i1, l2', s4', q2, W_call, f2, q3, f3, aw]
      exact out _
    | false =>
    cases hf4 : farB x.ended with
    | true =>
      rw [hf2] at f2; rw [hf3] at f3; rw [hf4] at f4
      simp only [S.withylaw18_HistMoves_c1_S, hxl, obind, hd, i1, l2', s4', q2, W_call, f2, q3, f3, q4, f4, asB_bool, aw]
      exact out _
    | false =>
      rw [hf2] at f2; rw [hf3] at f3; rw [hf4] at f4
      have r2 := far_in hf2
      have r3 := far_in hf3
      have r4 := far_in hf4
      have w2 : wr .i64 (x.begun + by') = x.begun + by' := wr64 (by omega) (by omega)
      have w3 : wr .i64 (x.point + by') = x.point + by' := wr64 (by omega) (by omega)
      have w4 : wr .i64 (x.ended + by') = x.ended + by' := wr64 (by omega) (by omega)
      obtain ⟨bI', hbI⟩ : ∃ v, v = x.begun + by' := ⟨_, rfl⟩
      obtain ⟨pI', hpI⟩ : ∃ v, v = x.point + by' := ⟨_, rfl⟩
      obtain ⟨eI', heI⟩ : ∃ v, v = x.ended + by' := ⟨_, rfl⟩
      rw [← hbI] at w2; rw [← hpI] at w3; rw [← heI] at w4
      have hcs : x.cs = [.int .i64 x.client, .int .i64 x.op, .int .i64 x.begun, .int .i64 x.point, .int .i64 x.ended, .bool x.behind, .int .i64 x.kind, .int .i64 x.n, .int .u64 x.h, .int .u64 x.x, .int .u64 x.y, .int .i64 x.err, .int .u64 x.ah, .bool x.yes] := rfl
      have t1 := st1_get c4 (o := 2) (v := .int .i64 bI') (by simp) (one_int _ _) (by rw [hcs]; simp)
      obtain ⟨g5, hg5⟩ : ∃ g5, g5 = g4.put g.next (some (.cells (x.cs.set 2 (.int .i64 bI')) .rw)) := ⟨_, rfl⟩
      rw [← hg5] at t1
      have c5 : g5.get g.next = some (.cells (x.cs.set 2 (.int .i64 bI')) .rw) := by rw [hg5]; exact get_put_self _ _ _
      have F5 : Fr [] g g5 := by rw [hg5]; exact F4.put (.inr (Nat.le_refl _)) (F4.ok.lt c4) _
      have q3' : g5.ld1 (.ptr g.next 3) = some (.int .i64 x.point) := ld1_get c5 rfl rfl
      have t2 := st1_get c5 (o := 3) (v := .int .i64 pI') (by simp) (one_int _ _) (by rw [hcs]; simp)
      obtain ⟨g6, hg6⟩ : ∃ g6, g6 = g5.put g.next (some (.cells ((x.cs.set 2 (.int .i64 bI')).set 3 (.int .i64 pI')) .rw)) := ⟨_, rfl⟩
      rw [← hg6] at t2
      have c6 : g6.get g.next = some (.cells ((x.cs.set 2 (.int .i64 bI')).set 3 (.int .i64 pI')) .rw) := by rw [hg6]; exact get_put_self _ _ _
      have F6 : Fr [] g g6 := by rw [hg6]; exact F5.put (.inr (Nat.le_refl _)) (F5.ok.lt c5) _
      have q4' : g6.ld1 (.ptr g.next 4) = some (.int .i64 x.ended) := ld1_get c6 rfl rfl
      have t3 := st1_get c6 (o := 4) (v := .int .i64 eI') (by simp) (one_int _ _) (by rw [hcs]; simp)
      obtain ⟨g7, hg7⟩ : ∃ g7, g7 = g6.put g.next (some (.cells (((x.cs.set 2 (.int .i64 bI')).set 3 (.int .i64 pI')).set 4 (.int .i64 eI')) .rw)) := ⟨_, rfl⟩
      rw [← hg7] at t3
      have c7 : g7.get g.next = some (.cells (x.mv by').cs .rw) := by rw [hg7, hbI, hpI, heI]; exact get_put_self _ _ _
      have F7 : Fr [] g g7 := by rw [hg7]; exact F6.put (.inr (Nat.le_refl _)) (F6.ok.lt c6) _
      have q7 := ld_agg (n := 14) c7 rfl
      have ok8 : (g7.new (.cells (x.mv by').cs .rw)).ok := F7.ok.new _
      have F8 : Fr [] g (g7.new (.cells (x.mv by').cs .rw)) := F7.new _
      have G8 := G.fr F.ok F8 (by simp)
      obtain ⟨x7', g9, ea, F9, G9, blk9, _⟩ := Grown.push ok8 G8 (nb := g7.next) (new := (x.mv by').cs) (k := .rw) (bytes := 112) (get_new_self _ _) rfl rfl (by decide) (by decide) (by rw [flat_length (evt14 _), List.length_map, List.length_map, List.length_take]; omega)
      simp only [S.withylaw18_HistMoves_c1_S, hxl, obind, hd, i1, l2', s4', q2, W_call, f2, q3, f3, q4, f4, asB_bool, asI_int, wb, ← hbI, w2, t1, q3', ← hpI, w3, t2, q4', ← heI, w4, t3, q7, fillE, ea, wi]
      have FF9 : Fr [] h g9 := (F.trans F8 (by simp)).trans F9 (fun b hb => .inr (hblk b hb))
      refine Ev.some (.inl ⟨(i + 1, x7'), rfl, rfl, ⟨hil, FF9, ?_, fun b hb => Nat.le_trans (F.trans F8 (by simp)).le (blk9 b hb)⟩, Nat.sub_lt_sub_left hil (Nat.lt_succ_self i)⟩)
      have ht : l.take (i + 1) = l.take i ++ [x] := by rw [List.take_add_one, hxi]; rfl
      dsimp only
      rw [ht, List.map_append, List.map_append, List.flatten_append]
      simpa using G9
  rintro ⟨_, _, g⟩ ⟨F, x7, (⟨rfl, rfl⟩ | ⟨rfl, rfl, row, hblk⟩)⟩
  · show Ev (S.withylaw18_HistMoves_K2 W .ret _ g) _
    rw [S.withylaw18_HistMoves_c1_r_eq]
    exact Ev.some rfl
  dsimp only at F row
  show Ev (S.withylaw18_HistMoves_K2 W (.exit 0) _ g) _
  rw [S.withylaw18_HistMoves_c1_e0_eq]
  have hx1 := hx.fr ok F (by simp)
  have hml : (l.map (·.mv by')).length ≤ 60 := by rw [List.length_map]; exact hl
  obtain ⟨⟨xo, g1⟩, e1, o, ho, rowo, _, F1⟩ := order_spec F.ok hx1 hl
  dsimp only at rowo F1
  have row1 := row.fr F.ok F1 (by simp)
  have hx2 := hx1.fr F.ok F1 (by simp)
  obtain ⟨⟨v2, g2⟩, e2, b2, rfl, hb2, F2⟩ := right_spec F1.ok row1 hml n
  dsimp only at F2
  obtain ⟨⟨v3, g3⟩, e3, b3, rfl, hb3, F3⟩ := right_spec F2.ok (hx2.fr F1.ok F2 (by simp)) hl n
  dsimp only at F3
  have hb : b2 = b3 := Bool.eq_iff_iff.mpr (hb2.trans (mv_right.trans hb3.symm))
  subst hb
  have F23 : Fr [] g1 g3 := F2.trans F3 (by simp)
  have rowo3 := rowo.fr F1.ok F23 (by simp)
  obtain ⟨⟨v4, g4⟩, e4, b4, rfl, hb4, F4⟩ := respects_spec F3.ok (row1.fr F1.ok F23 (by simp)) rowo3 hml
  dsimp only at F4
  obtain ⟨⟨v5, g5⟩, e5, b5, rfl, hb5, F5⟩ := respects_spec F4.ok ((hx2.fr F1.ok F23 (by simp)).fr F3.ok F4 (by simp)) (rowo3.fr F3.ok F4 (by simp)) hl
  have hb' : b4 = b5 := Bool.eq_iff_iff.mpr (hb4.trans (mv_resp.trans hb5.symm))
  subst hb'
  simp only [S.withylaw18_HistMoves_c1_e0, Option.bind_some, eqV, W_call, e1, e2, e3, e4, e5, BEq.rfl, awake18]
  exact Ev.some rfl
end Wm
end

