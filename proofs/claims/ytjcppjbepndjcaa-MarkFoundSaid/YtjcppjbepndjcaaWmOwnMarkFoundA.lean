/- What the functions come to, and the law: of my machine. -/
import Derived.Test.YtjcppjbepndjcaaWmEv
import Derived.Test.YtjcppjbepndjcaaWmProgMarkFound
import Derived.Test.YtjcppjbepndjcaaWmTxtMarkFoundA
import Derived.Test.YtjcppjbepndjcaaWmHeap
import Derived.Test.YtjcppjbepndjcaaWmPOp0
import Derived.Test.YtjcppjbepndjcaaWmOpen
set_option linter.all false
section
/- What was there is as it was. -/
namespace Wm
end Wm
end

section
/- What the functions of plan come to. -/
namespace Wm

theorem between_spec (x lo hi : Int) (h : H) : C 376 [.int .i64 x, .int .i64 lo, .int .i64 hi] h = some (.bool (decide (lo ≤ x) && decide (x ≤ hi)), h) := by
  refine call_closed (af := F.plan_between) (by kernel_rfl) rfl (by rfl) (by rfl) h ?_
  rw [S.plan_between_eq]
  unfold S.plan_between
  by_cases h1 : lo ≤ x <;> simp [h1, Ev.iff_some]

/-- A config, as a value. -/
def cfgV (s a c hd g st : Int) : V := .agg [.int .i64 s, .int .i64 a, .int .i64 c, .int .i64 hd, .int .i64 g, .int .i64 st]
/-- Is it right? -/
def cfgR (s a c hd g st : Int) : Bool := (decide (1 ≤ s) && decide (s ≤ 64)) && (decide (0 ≤ a) && decide (a ≤ 8)) && (decide (1 ≤ c) && decide (c ≤ 8)) && (decide (1 ≤ hd) && decide (hd ≤ 16)) && (decide (1 ≤ g) && decide (g ≤ 1048576)) && (decide (0 ≤ st) && decide (st ≤ 64))

theorem ld1_new {h : H} {cs : List V} {k : Bk} (o : Nat) : (h.new (.cells cs k)).ld1 (.ptr h.next o) = match cs[o]? with
    | some v => match V.one v with
      | true => some v
      | false => none
    | none => none := by
  simp only [H.ld1, get_new_self]; rfl

theorem planRight_spec (s a c hd g st : Int) (h : H) : C 263 [cfgV s a c hd g st] h = some (.bool (cfgR s a c hd g st), h) := by
  refine call_closed (af := F.plan_Right) (by kernel_rfl) rfl (by rfl) (by rfl) h ?_
  unfold cfgV
  rw [S.plan_Right_eq]
  simp only [S.plan_Right, ld1_new, V.one, List.getElem?_cons_zero, List.getElem?_cons_succ, Option.bind_some, W_call, between_spec]
  unfold cfgR
  generalize (decide (1 ≤ s) && decide (s ≤ 64)) = b1
  generalize (decide (0 ≤ a) && decide (a ≤ 8)) = b2
  generalize (decide (1 ≤ c) && decide (c ≤ 8)) = b3
  generalize (decide (1 ≤ hd) && decide (hd ≤ 16)) = b4
  generalize (decide (1 ≤ g) && decide (g ≤ 1048576)) = b5
  cases b1 <;> cases b2 <;> cases b3 <;> cases b4 <;> cases b5 <;> simp [Ev.iff_some]

theorem ref06Right_spec (s a c hd g st : Int) (h : H) : C 85 [cfgV s a c hd g st] h = some (.bool (cfgR s a c hd g st), h) := by
  refine call_closed (af := F.withyref06_Right) (by kernel_rfl) rfl (by rfl) (by rfl) h ?_
  unfold cfgV
  rw [S.withyref06_Right_eq]
  simp only [S.withyref06_Right, ld1_new, V.one, List.getElem?_cons_zero, List.getElem?_cons_succ, Option.bind_some, asI, decide_true]
  unfold cfgR
  by_cases h1 : 1 ≤ s <;> simp only [h1, decide_true, decide_false, Bool.false_and, Bool.true_and, Ev.iff_some]
  by_cases h2 : s ≤ 64 <;> simp only [h2, decide_true, decide_false, Bool.false_and, Bool.true_and, Ev.iff_some]
  by_cases h3 : 0 ≤ a <;> simp only [h3, decide_true, decide_false, Bool.false_and, Bool.true_and, Ev.iff_some]
  by_cases h4 : a ≤ 8 <;> simp only [h4, decide_true, decide_false, Bool.false_and, Bool.true_and, Ev.iff_some]
  by_cases h5 : 1 ≤ c <;> simp only [h5, decide_true, decide_false, Bool.false_and, Bool.true_and, Ev.iff_some]
  by_cases h6 : c ≤ 8 <;> simp only [h6, decide_true, decide_false, Bool.false_and, Bool.true_and, Ev.iff_some]
  by_cases h7 : 1 ≤ hd <;> simp only [h7, decide_true, decide_false, Bool.false_and, Bool.true_and, Ev.iff_some]
  by_cases h8 : hd ≤ 16 <;> simp only [h8, decide_true, decide_false, Bool.false_and, Bool.true_and, Ev.iff_some]
  by_cases h9 : 1 ≤ g <;> simp only [h9, decide_true, decide_false, Bool.false_and, Bool.true_and, Ev.iff_some]
  by_cases h10 : g ≤ 1048576 <;> simp only [h10, decide_true, decide_false, Bool.false_and, Bool.true_and, Ev.iff_some]
  by_cases h11 : 0 ≤ st <;> simp only [h11, decide_true, decide_false, Bool.false_and, Bool.true_and, Ev.iff_some]

end Wm
end

section
/- A config that is right. -/
namespace Wm
theorem cfgR_iff {s a c hd g st : Int} : cfgR s a c hd g st = true ↔ (1 ≤ s ∧ s ≤ 64) ∧ (0 ≤ a ∧ a ≤ 8) ∧ (1 ≤ c ∧ c ≤ 8) ∧ (1 ≤ hd ∧ hd ≤ 16) ∧ (1 ≤ g ∧ g ≤ 1048576) ∧ (0 ≤ st ∧ st ≤ 64) := by
  simp only [cfgR, Bool.and_eq_true, decide_eq_true_eq, and_assoc]

end Wm
end

section
/- Where everything stands in the memory: what the functions of plan come to. -/
namespace Wm

theorem mul_bd {x y X Y : Int} (h0 : 0 ≤ x) (h1 : x ≤ X) (h2 : 0 ≤ y) (h3 : y ≤ Y) : 0 ≤ x * y ∧ x * y ≤ X * Y :=
  ⟨Int.mul_nonneg h0 h2, Int.mul_le_mul h1 h3 h2 (Int.le_trans h0 h1)⟩

def roomT (a : Int) : Int := 2 + max a 3
def slotsT (c hd : Int) : Int := 4 + c * (1 + hd + 2)

theorem room_spec (s a c hd g st : Int) (h0 : 0 ≤ a) (h1 : a ≤ 8) (h : H) : C 378 [cfgV s a c hd g st] h = some (.int .i64 (roomT a), h) := by
  refine call_closed (af := F.plan_room) (by kernel_rfl) rfl (by rfl) (by rfl) h ?_
  have ok := H.ok_empty
  unfold cfgV
  rw [S.plan_room_eq]
  simp only [S.plan_room, H.new_ext, H.ext_ldk_0, ok, ldB_cells, V.one, List.getElem?_cons_zero, List.getElem?_cons_succ, Option.bind_some, Option.join_some, asI_int]
  rw [wr64 (by omega) (by omega)]
  exact Ev.some rfl

theorem slots_spec (s a c hd g st : Int) (h0 : 0 ≤ c) (h1 : c ≤ 8) (h2 : 0 ≤ hd) (h3 : hd ≤ 16) (h : H) : C 377 [cfgV s a c hd g st] h = some (.int .i64 (slotsT c hd), h) := by
  refine call_closed (af := F.plan_slots) (by kernel_rfl) rfl (by rfl) (by rfl) h ?_
  have ok := H.ok_empty
  unfold cfgV
  rw [S.plan_slots_eq]
  simp only [S.plan_slots, H.new_ext, H.ext_ldk_0, ok, ldB_cells, V.one, List.getElem?_cons_zero, List.getElem?_cons_succ, Option.bind_some, Option.join_some, asI_int]
  rw [wr64 (n := 1 + hd) (by omega) (by omega), wr64 (n := 1 + hd + 2) (by omega) (by omega)]
  obtain ⟨q1, q2⟩ := mul_bd h0 h1 (show 0 ≤ 1 + hd + 2 by omega) (show 1 + hd + 2 ≤ 19 by omega)
  rw [wr64 (n := c * (1 + hd + 2)) (by omega) (by omega), wr64 (by omega) (by omega)]
  exact Ev.some rfl

def withinT (s a c hd g st slot i : Int) : Int :=
  if cfgR s a c hd g st = true ∧ (0 ≤ slot ∧ slot ≤ s - 1) ∧ (0 ≤ i ∧ i ≤ roomT a - 1) then slotsT c hd + slot * roomT a + i else -1

theorem within_spec (s a c hd g st slot i : Int) (h : H) : C 375 [cfgV s a c hd g st, .int .i64 slot, .int .i64 i] h = some (.int .i64 (withinT s a c hd g st slot i), h) := by
  refine call_closed (af := F.plan_within) (by kernel_rfl) rfl (by rfl) (by rfl) h ?_
  have ok := H.ok_empty
  have hR := planRight_spec s a c hd g st
  cases hr : cfgR s a c hd g st with
  | false =>
    rw [hr] at hR
    unfold cfgV at hR ⊢
    rw [S.plan_within_eq]
    simp only [S.plan_within, H.new_ext, H.ext_ldNk_0, H.ext_ldk_0, ok, ldB_cells, ldNB_cells, V.one, List.length_cons, List.length_nil, Nat.zero_add, Nat.reduceAdd, Nat.reduceLeDiff, decide_true, List.getElem?_cons_zero, List.drop_zero, List.take_succ_cons, List.take_zero, Bool.not_false, Option.bind_some, Option.join_some, asI_int, asB_bool, W_call, hR]
    exact Ev.some (by simp [withinT, hr])
  | true =>
    obtain ⟨⟨s1, s2⟩, ⟨a1, a2⟩, ⟨c1, c2⟩, ⟨d1, d2⟩, _⟩ := cfgR_iff.mp hr
    rw [hr] at hR
    have h1 := room_spec s a c hd g st (by omega) (by omega)
    have h2 := slots_spec s a c hd g st (by omega) (by omega) (by omega) (by omega)
    unfold cfgV at hR h1 h2 ⊢
    rw [S.plan_within_eq]
    simp only [S.plan_within, H.new_ext, H.ext_ldNk_0, H.ext_ldk_0, ok, ldB_cells, ldNB_cells, V.one, List.length_cons, List.length_nil, Nat.zero_add, Nat.reduceAdd, Nat.reduceLeDiff, decide_true, List.getElem?_cons_zero, List.drop_zero, List.take_succ_cons, List.take_zero, Bool.not_true, Option.bind_some, Option.join_some, ckB_some, V.beq, V.beqs, Bool.and_self, asI_int, asB_bool, W_call, hR, h1, h2, between_spec]
    have hroom : 5 ≤ roomT a ∧ roomT a ≤ 10 := by unfold roomT; omega
    rw [wr64 (n := s - 1) (by omega) (by omega), wr64 (n := roomT a - 1) (by omega) (by omega)]
    by_cases p1 : 0 ≤ slot ∧ slot ≤ s - 1
    · simp only [decide_eq_true p1.1, decide_eq_true p1.2, Bool.not_true, Bool.and_self]
      by_cases p2 : 0 ≤ i ∧ i ≤ roomT a - 1
      · simp only [decide_eq_true p2.1, decide_eq_true p2.2, Bool.not_true, Bool.and_self]
        obtain ⟨q1, q2⟩ := mul_bd p1.1 (show slot ≤ 63 by omega) (show 0 ≤ roomT a by omega) hroom.2
        obtain ⟨q3, q4⟩ := mul_bd (show 0 ≤ c by omega) c2 (show 0 ≤ 1 + hd + 2 by omega) (show 1 + hd + 2 ≤ 19 by omega)
        have q5 : slotsT c hd = 4 + c * (1 + hd + 2) := rfl
        rw [wr64 (n := slot * roomT a) (by omega) (by omega), wr64 (n := slotsT c hd + slot * roomT a) (by omega) (by omega), wr64 (by omega) (by omega)]
        refine Ev.some ?_
        unfold withinT
        rw [if_pos ⟨hr, p1, p2⟩]
      · have : (decide (0 ≤ i) && decide (i ≤ roomT a - 1)) = false := by
          rw [Bool.eq_false_iff]; intro q
          simp only [Bool.and_eq_true, decide_eq_true_eq] at q
          exact p2 q
        simp only [this, Bool.not_false]
        refine Ev.some ?_
        unfold withinT
        rw [if_neg (fun q => p2 q.2.2)]
    · have : (decide (0 ≤ slot) && decide (slot ≤ s - 1)) = false := by
        rw [Bool.eq_false_iff]; intro q
        simp only [Bool.and_eq_true, decide_eq_true_eq] at q
        exact p1 q
      simp only [this, Bool.not_false]
      refine Ev.some ?_
      unfold withinT
      rw [if_neg (fun q => p1 q.2.1)]

theorem header_spec (s a c hd g st slot : Int) (h : H) : C 261 [cfgV s a c hd g st, .int .i64 slot] h = some (.int .i64 (withinT s a c hd g st slot 0), h) := by
  refine call_closed (af := F.plan_Header) (by kernel_rfl) rfl (by rfl) (by rfl) h ?_
  have ok := H.ok_empty
  have hW := within_spec s a c hd g st slot 0
  unfold cfgV at hW ⊢
  rw [S.plan_Header_eq]
  simp only [S.plan_Header, H.new_ext, H.ext_ldNk_0, ok, ldNB_cells, List.length_cons, List.length_nil, Nat.zero_add, Nat.reduceAdd, Nat.reduceLeDiff, decide_true, List.getElem?_cons_zero, List.drop_zero, List.take_succ_cons, List.take_zero, Option.bind_some, Option.join_some, W_call, hW]
  exact Ev.some rfl

end Wm
end

section
/- Slices that grow, and loops. -/
namespace Wm
theorem mkSl_ok {h : H} {e b : Nat} {z : List V} {l c : Int} (h1 : 0 ≤ l) (h2 : l ≤ c) (h3 : c * b ≤ 140737488355328) (h4 : c ≤ 9223372036854775807) (h5 : z.length = e) (h6 : 0 < e) :
    h.mkSl e b z l c = some (.sl h.next 0 l.toNat (.ex c.toNat), h.new (.cells (repl z c.toNat) .rw)) := by
  subst h5
  simp [H.mkSl, h1, h2, h3, h4, h6]

theorem append_op {h : H} {e b bb o len n : Nat} {x : V} {new old cs : List V} (hx : lenSl x = some n) (hn : h.slc e x = some new) (ho : h.slc e (.sl bb o len (.op e)) = some old) (hg : h.get bb = some (.cells cs (.gr e))) (h1 : new.all V.one = true) (h2 : (len + n + (len + n) / 2 + 1000) * b ≤ 281474976710656) (he : 0 < e) (hb : 0 < b) :
    h.append e b (.sl bb o len (.op e)) x = some (.sl h.next 0 (len + n) (.op e), (h.put bb none).new (.cells (old ++ new) (.gr e))) := by
  have h3 : lenSl (.sl bb o len (.op e)) = some len := rfl
  simp only [H.append, hx, hn, h3, ho, h1, h2, he, hb, decide_true, Bool.and_self, hg, Nat.beq_refl]

theorem append_nil {h : H} {e b n : Nat} {x : V} {new : List V} (hx : lenSl x = some n) (hn : h.slc e x = some new) (h0 : n ≠ 0) (h1 : new.all V.one = true) (h2 : (n + n / 2 + 1000) * b ≤ 281474976710656) (he : 0 < e) (hb : 0 < b) :
    h.append e b .nilsl x = some (.sl h.next 0 n (.op e), h.new (.cells new (.gr e))) := by
  have h3 : lenSl .nilsl = some 0 := rfl
  have h4 : h.slc e .nilsl = some [] := rfl
  have h5 : Nat.beq n 0 = false := by cases n with
    | zero => exact absurd rfl h0
    | succ n => rfl
  simp only [H.append, hx, hn, h3, h4, h1, h2, he, hb, decide_true, Bool.and_self, Nat.zero_add, h5, List.nil_append]

theorem slc_get {h : H} {e bb o len : Nat} {cap : Cap} {cs : List V} {k : Bk} (hg : h.get bb = some (.cells cs k)) (hl : o + len * e ≤ cs.length) : h.slc e (.sl bb o len cap) = some ((cs.drop o).take (len * e)) := by
  simp only [H.slc, ldc_get hg hl]

theorem st1_get {h : H} {b o : Nat} {cs : List V} {k : Bk} {v : V} (hb : h.get b = some (.cells cs k)) (hk : k ≠ .ro) (hv : v.one = true) (hl : o < cs.length) : h.st 1 (.ptr b o) v = some (h.put b (some (.cells (cs.set o v) k))) := by
  have hc : v.cells = [v] := by cases v <;> first | rfl | simp [V.one] at hv
  have hs : splice cs o [v] = cs.set o v := by
    simp only [splice, List.length_singleton]
    rw [List.set_eq_take_append_cons_drop, if_pos hl]
    simp
  have h6 := stc_get hb hk (vs := [v]) (by simp [hv]) (show o + [v].length ≤ cs.length by simp; omega)
  rw [hs] at h6
  simp only [H.st, hc, List.length_singleton, Nat.beq, h6]

theorem loop_ev {α : Type} {call : Nat → List V → H → Option (V × H)} {meth : Nat → Nat → Option Nat} {b : List V → H → Option (AX × List V × H)} {R : Type} {k : AX × List V × H → Option R} {Q : R → Prop} {e : List V} {h : H} (enc : α → List V) (I : α → H → Prop) (μ : α → H → Nat) (P : AX × List V × H → Prop) (a : α) (he : e = enc a) (h0 : I a h)
    (step : ∀ a h, I a h → Ev (b (enc a) h) fun r => (∃ a', r.1 = .normal ∧ r.2.1 = enc a' ∧ I a' r.2.2 ∧ μ a' r.2.2 < μ a h) ∨ (r.1 ≠ .normal ∧ P r)) (out : ∀ r, P r → Ev (k r) Q) : Ev (((envW meth call).loop b e h).bind k) Q := by
  subst he
  exact Ev.bind (loopW_ev enc I μ step a h h0) out

end Wm
end

section
/- A slice that one element is appended to, among blocks that came. -/
namespace Wm

theorem indexAV_in {b o n e : Nat} {c : Cap} {i : Int} {k : Go.IntKind} (h0 : 0 ≤ i) (h1 : i < n) : indexAV e (.sl b o n c) (.int k i) = some (.ptr b (o + i.toNat * e)) := by
  simp only [indexAV, indexOf, asIAny, h0, h1, decide_true, Bool.and_self]

section
variable {h : H} {P : List (Option Blk)} {e b : Nat} {new : List V}

theorem grow_new (hn : new.length = e) : (h.ext (P ++ [some (.cells new .rw)])).slc e (.sl (h.next + P.length) 0 1 (.ex 1)) = some new := by
  rw [slc_get (cs := new) (k := .rw) ?_ (by omega)]
  · rw [List.drop_zero, List.take_of_length_le (by omega)]
  · rw [H.ext_get (by rw [List.length_append]; exact Nat.lt_succ_self _), List.getElem?_append_right (Nat.le_refl _), Nat.sub_self]; rfl

theorem grow_nil (hn : new.length = e) (h1 : new.all V.one = true) (he : 0 < e) (hb : 0 < b ∧ b ≤ 1000) :
    (h.ext (P ++ [some (.cells new .rw)])).append e b .nilsl (.sl (h.next + P.length) 0 1 (.ex 1)) = some (.sl (h.next + (P.length + 1)) 0 1 (.op e), h.ext (P ++ [some (Blk.cells new .rw)] ++ [some (Blk.cells new (.gr e))])) := by
  rw [append_nil (n := 1) rfl (grow_new hn) (by omega) h1 (by omega) he hb.1, H.new_ext, H.ext_ext, H.ext_next]
  have e1 : (P ++ [some (Blk.cells new .rw)]).length = P.length + 1 := by rw [List.length_append]; rfl
  rw [e1]

theorem grow_op {j i : Nat} {cs : List V} (hj : P[j]? = some (some (.cells cs (.gr e)))) (hc : cs.length = i * e) (hn : new.length = e) (h1 : new.all V.one = true) (he : 0 < e) (hb : 0 < b) (hi : (i + 1 + (i + 1) / 2 + 1000) * b ≤ 281474976710656) :
    (h.ext (P ++ [some (.cells new .rw)])).append e b (.sl (h.next + j) 0 i (.op e)) (.sl (h.next + P.length) 0 1 (.ex 1)) =
      some (.sl (h.next + (P.length + 1)) 0 (i + 1) (.op e), h.ext ((P ++ [some (Blk.cells new .rw)]).set j none ++ [some (Blk.cells (cs ++ new) (.gr e))])) := by
  have hlt : j < P.length := by
    rcases Nat.lt_or_ge j P.length with q | q
    · exact q
    · rw [List.getElem?_eq_none q] at hj; cases hj
  have e1 : (P ++ [some (Blk.cells new .rw)]).length = P.length + 1 := by rw [List.length_append]; rfl
  have hbk : (h.ext (P ++ [some (.cells new .rw)])).get (h.next + j) = some (.cells cs (.gr e)) := by
    rw [H.ext_get (by rw [e1]; omega), List.getElem?_append_left hlt, hj]; rfl
  have hs : (h.ext (P ++ [some (.cells new .rw)])).slc e (.sl (h.next + j) 0 i (.op e)) = some cs := by
    rw [slc_get hbk (by omega), List.drop_zero, List.take_of_length_le (by omega)]
  rw [append_op (n := 1) rfl (grow_new hn) hs hbk h1 hi he hb, H.ext_put (by rw [e1]; omega), H.new_ext, H.ext_ext, H.ext_next, e1]
end
end Wm
end

section
/- A header's word: what the functions of word, head and withyref04 come to. -/
namespace Wm

def U64 (w : Int) : Prop := 0 ≤ w ∧ w < 18446744073709551616

/-- So many bits, from one on. -/
def getT (w : Int) (at' n : Nat) : Int := w / (2 ^ at' : Int) % (2 ^ n : Int)

theorem and64_mask {x : Int} (hx : U64 x) {n : Nat} (hn : n ≤ 64) : and64 x (2 ^ n - 1) = x % (2 ^ n : Int) := by
  obtain ⟨h0, h1⟩ := hx
  obtain ⟨k, rfl⟩ : ∃ k : Nat, x = k := ⟨x.toNat, by omega⟩
  have e1 : (2 ^ n - 1 : Int) = ((2 ^ n - 1 : Nat) : Int) := by
    have : 1 ≤ 2 ^ n := Nat.one_le_two_pow
    rw [Int.natCast_sub this]; simp
  have h2 : 2 ^ n ≤ 2 ^ 64 := Nat.pow_le_pow_right (by omega) hn
  have h3 : 2 ^ n - 1 < 2 ^ 64 := by have : 1 ≤ 2 ^ n := Nat.one_le_two_pow; omega
  unfold and64
  rw [e1, BitVec.ofInt_natCast, BitVec.ofInt_natCast, BitVec.toNat_and, BitVec.toNat_ofNat, BitVec.toNat_ofNat, Nat.mod_eq_of_lt (by omega), Nat.mod_eq_of_lt h3, Nat.and_two_pow_sub_one_eq_mod]
  simp

theorem getT_range {w : Int} (hw : U64 w) (a n : Nat) : U64 (w / (2 ^ a : Int)) := by
  obtain ⟨h0, h1⟩ := hw
  have h2 : (0 : Int) < 2 ^ a := Int.pow_pos (by omega)
  refine ⟨Int.ediv_nonneg h0 (by omega), ?_⟩
  have := Int.ediv_le_self (2 ^ a : Int) h0
  omega

theorem some_spec (a n : Int) (h0 : 0 ≤ a) (h1 : 1 ≤ n) (h2 : a + n ≤ 64) (h : H) : C 441 [.int .i64 a, .int .i64 n] h = some (.bool true, h) := by
  refine call_closed (af := F.word_some) (by kernel_rfl) rfl (by rfl) (by rfl) h ?_
  rw [S.word_some_eq]
  simp only [S.word_some, show 1 ≤ n from h1, show n ≤ 64 by omega, h0, decide_true]
  rw [wr64 (by omega) (by omega)]
  exact Ev.some (by simp; omega)

theorem mask_spec (n : Nat) (hn : n ≤ 63) (h : H) : C 449 [.int .i64 n] h = some (.int .u64 (2 ^ n - 1), h) := by
  refine call_closed (af := F.word_mask) (by kernel_rfl) rfl (by rfl) (by rfl) h ?_
  rw [S.word_mask_eq]
  have h1 : ¬ (n : Int) < 0 := by omega
  have hp : (1 : Nat) ≤ 2 ^ n := Nat.one_le_two_pow
  have hq : 2 ^ n ≤ 2 ^ 63 := Nat.pow_le_pow_right (by omega) hn
  have hc : ((2 ^ n : Nat) : Int) = (2 ^ n : Int) := by simp
  have e1 : (2 ^ n : Int) ≤ 9223372036854775808 := by rw [← hc]; omega
  have e2 : (1 : Int) ≤ 2 ^ n := by rw [← hc]; omega
  simp only [S.word_mask, shiftI, decide_eq_false h1, Int.toNat_natCast, show min n (Go.IntKind.bits .u64) = n from by show min n 64 = n; omega, Option.bind_some, Int.one_mul]
  rw [wru64 (n := 2 ^ n) (by omega) (by omega), wru64 (by omega) (by omega)]
  exact Ev.some rfl

theorem get_spec {w : Int} (hw : U64 w) (a n : Nat) (h1 : 1 ≤ n) (h2 : a + n ≤ 64) (h3 : n ≤ 63) (h : H) : C 396 [.int .u64 w, .int .i64 a, .int .i64 n] h = some (.int .u64 (getT w a n), h) := by
  refine call_closed (af := F.word_Get) (by kernel_rfl) rfl (by rfl) (by rfl) h ?_
  rw [S.word_Get_eq]
  have h4 : ¬ (a : Int) < 0 := by omega
  simp only [S.word_Get, W_call, some_spec (a : Int) (n : Int) (by omega) (by omega) (by omega), asB_bool, Option.bind_some, Bool.not_true, shiftI, decide_eq_false h4, Int.toNat_natCast, show min a (Go.IntKind.bits .u64) = a from by show min a 64 = a; omega, mask_spec n h3, asI_int]
  rw [and64_mask (getT_range hw a n) (by omega)]
  exact Ev.some rfl

/-- The seven values of a word. -/
def sevenT (w : Int) : List Int := [getT w 0 3, getT w 3 1, getT w 4 1, getT w 5 4, getT w 9 7, getT w 16 32, getT w 48 16]
def sizesT : List Nat := [3, 1, 1, 4, 7, 32, 16]
def sumT (i : Nat) : Nat := (sizesT.take i).sum

theorem size_at (w : Int) : ∀ i, i < 7 → ∃ n : Nat, ([.int .i64 3, .int .i64 1, .int .i64 1, .int .i64 4, .int .i64 7, .int .i64 32, .int .i64 16] : List V)[i]? = some (.int .i64 n) ∧ 1 ≤ n ∧ sumT i + n ≤ 64 ∧ n ≤ 63 ∧ sumT (i + 1) = sumT i + n ∧ (sevenT w).take (i + 1) = (sevenT w).take i ++ [getT w (sumT i) n]
  | 0, _ => ⟨3, rfl, by decide, by decide, by decide, rfl, rfl⟩
  | 1, _ => ⟨1, rfl, by decide, by decide, by decide, rfl, rfl⟩
  | 2, _ => ⟨1, rfl, by decide, by decide, by decide, rfl, rfl⟩
  | 3, _ => ⟨4, rfl, by decide, by decide, by decide, rfl, rfl⟩
  | 4, _ => ⟨7, rfl, by decide, by decide, by decide, rfl, rfl⟩
  | 5, _ => ⟨32, rfl, by decide, by decide, by decide, rfl, rfl⟩
  | 6, _ => ⟨16, rfl, by decide, by decide, by decide, rfl, rfl⟩
  | n + 7, h => by omega

theorem unpack_loop {w : Int} (hw : U64 w) {h : H} (ok : h.ok) (A : Option Blk) :
    Ev (C 379 [.int .u64 w, .sl (h.next + 1) 0 7 (.ex 7)] (h.ext [A, some (.cells [.int .i64 3, .int .i64 1, .int .i64 1, .int .i64 4, .int .i64 7, .int .i64 32, .int .i64 16] .rw)])) fun r =>
      ∃ j L, r = (.tup [.sl (h.next + (j + 2)) 0 7 (.op 1), .bool true], h.ext (A :: some (.cells [.int .i64 3, .int .i64 1, .int .i64 1, .int .i64 4, .int .i64 7, .int .i64 32, .int .i64 16] .rw) :: L)) ∧ L[j]? = some (some (.cells ((sevenT w).map (.int .u64)) (.gr 1))) := by
  refine call_ev (af := F.word_Unpack) (by kernel_rfl) rfl ?_
  rw [S.word_Unpack_eq]
  simp only [S.word_Unpack, lenSl, Option.bind_some]
  generalize hZ : (some (Blk.cells [.int .i64 3, .int .i64 1, .int .i64 1, .int .i64 4, .int .i64 7, .int .i64 32, .int .i64 16] .rw)) = Z
  refine loop_ev (α := Nat × V) (fun a => S.word_Unpack_c1_E (.int .u64 w) a.2 (.int .i64 (sumT a.1 : Nat)) (.sl (h.next + 1) 0 7 (.ex 7)) (.int .i64 (7 : Nat)) (.int .i64 a.1))
    (fun a g => a.1 ≤ 7 ∧ ∃ L, g = h.ext (A :: Z :: L) ∧ ((a.1 = 0 ∧ a.2 = .nilsl) ∨ ∃ j, a.2 = .sl (h.next + (j + 2)) 0 a.1 (.op 1) ∧ j < L.length ∧ L[j]? = some (some (.cells (((sevenT w).take a.1).map (.int .u64)) (.gr 1)))))
    (fun a _ => 7 - a.1) (fun r => ∃ j L, r = (.exit 0, S.word_Unpack_c1_O .dead .dead (.sl (h.next + (j + 2)) 0 7 (.op 1)), h.ext (A :: Z :: L)) ∧ L[j]? = some (some (.cells ((sevenT w).map (.int .u64)) (.gr 1))))
    (0, .nilsl) rfl ⟨Nat.zero_le _, [], rfl, Or.inl ⟨rfl, rfl⟩⟩ ?_ ?_
  · rintro ⟨i, x⟩ g ⟨hi, L, rfl, hx⟩
    simp only at hi hx ⊢
    rw [S.word_Unpack_c1_eq]
    simp only [S.word_Unpack_c1_S]
    by_cases hic : (i : Int) < ((7 : Nat) : Int)
    · have hi7 : i < 7 := by omega
      simp only [decide_eq_true hic]
      obtain ⟨n, hn, n1, n2, n3, n4, n5⟩ := size_at w i hi7
      have hld : (h.ext (A :: Z :: L)).ld1 (.ptr (h.next + 1) i) = some (.int .i64 n) := by
        rw [H.ext_ldk ok]
        simp only [List.getElem?_cons_succ, List.getElem?_cons_zero, Option.join_some, ← hZ, ldB_cells, hn, V.one]
      have e1 : indexAV 1 (.sl (h.next + 1) 0 7 (.ex 7)) (.int .i64 (i : Int)) = some (.ptr (h.next + 1) i) := by
        rw [indexAV_in (by omega) (by omega)]
        simp
      have hfill : ∀ v : Int, fill (repl [V.int .u64 0] 1) [] [(0, 1, .c (.int .u64 v))] = some [.int .u64 v] := fun v => rfl
      have hw1 : wr .i64 ((sumT i : Nat) + (n : Int)) = ((sumT (i + 1) : Nat) : Int) := by rw [wr64 (by omega) (by omega), n4]; omega
      have hw2 : wr .i64 ((i : Int) + 1) = ((i + 1 : Nat) : Int) := by rw [wr64 (by omega) (by omega)]; rfl
      simp only [e1, hld, Option.bind_some, W_call, some_spec ((sumT i : Nat) : Int) (n : Int) (by omega) (by omega) (by omega), asB_bool, Bool.not_true, get_spec hw (sumT i) n n1 n2 n3, hfill, asI_int, hw1, hw2, H.new_ext, H.ext_ext, H.ext_next]
      rcases hx with ⟨rfl, rfl⟩ | ⟨j, rfl, hj, hjL⟩
      · rw [grow_nil (P := A :: Z :: L) (e := 1) (b := 8) (new := [.int .u64 (getT w (sumT 0) n)]) rfl rfl (by decide) (by decide)]
        simp only [Option.bind_some]
        refine Ev.some (Or.inl ⟨(1, .sl (h.next + ((A :: Z :: L).length + 1)) 0 1 (.op 1)), rfl, rfl, ⟨by omega, L ++ [some (.cells [.int .u64 (getT w (sumT 0) n)] .rw)] ++ [some (.cells [.int .u64 (getT w (sumT 0) n)] (.gr 1))], rfl, Or.inr ⟨L.length + 1, ?_, ?_, ?_⟩⟩, by omega⟩)
        · simp only [List.length_cons]
        · simp
        · rw [List.getElem?_append_right (by simp)]
          simp [n5]
      · rw [grow_op (P := A :: Z :: L) (e := 1) (b := 8) (j := j + 2) (i := i) (cs := ((sevenT w).take i).map (.int .u64)) (new := [.int .u64 (getT w (sumT i) n)]) (by simpa using hjL) ?_ rfl rfl (by decide) (by decide) (by omega)]
        · simp only [Option.bind_some]
          refine Ev.some (Or.inl ⟨(i + 1, .sl (h.next + ((A :: Z :: L).length + 1)) 0 (i + 1) (.op 1)), rfl, rfl, ⟨hi7, (L ++ [some (Blk.cells [.int .u64 (getT w (sumT i) n)] .rw)]).set j none ++ [some (.cells (((sevenT w).take i).map (.int .u64) ++ [.int .u64 (getT w (sumT i) n)]) (.gr 1))], ?_, Or.inr ⟨L.length + 1, ?_, ?_, ?_⟩⟩, by omega⟩)
          · simp only [List.cons_append, List.set_cons_succ]
          · simp only [List.length_cons]
          · simp
          · rw [List.getElem?_append_right (by simp)]
            simp [n5]
        · rw [List.length_map, List.length_take]
          have : (sevenT w).length = 7 := rfl
          omega
    · simp only [decide_eq_false hic]
      have h7 : i = 7 := by omega
      subst h7
      rcases hx with ⟨h1, _⟩ | ⟨j, rfl, hj, hjL⟩
      · cases h1
      · exact Ev.some (Or.inr ⟨by simp, j, L, rfl, hjL⟩)
  · rintro r ⟨j, L, rfl, hL⟩
    simp only
    rw [S.word_Unpack_c1_e0_eq]
    exact Ev.some ⟨j, L, rfl, hL⟩

def hdrT (w : Int) : List V := [.int .i64 (getT w 0 3), .int .i64 (getT w 3 1), .bool (decide (getT w 4 1 = 1)), .int .i64 (getT w 5 4), .int .i64 (getT w 16 32), .int .i64 (getT w 48 16)]
def hdr0 : List V := [.int .i64 0, .int .i64 0, .bool false, .int .i64 0, .int .i64 0, .int .i64 0]
/-- Is it a header's word? -/
def okT (w : Int) : Bool := decide (getT w 0 3 ≤ 4) && decide (getT w 9 7 = 0)

theorem getT_small (w : Int) (a n : Nat) (hn : n ≤ 62) : 0 ≤ getT w a n ∧ getT w a n ≤ 4611686018427387904 := by
  have h2 : (0 : Int) < 2 ^ n := Int.pow_pos (by omega)
  have h3 : ((2 ^ n : Nat) : Int) = (2 ^ n : Int) := by simp
  have h4 : 2 ^ n ≤ 2 ^ 62 := Nat.pow_le_pow_right (by omega) hn
  refine ⟨Int.emod_nonneg _ (by omega), ?_⟩
  have := Int.emod_lt_of_pos (w / (2 ^ a : Int)) h2
  unfold getT
  omega

theorem headUnpack_spec {w : Int} (hw : U64 w) (h : H) : C 265 [.int .u64 w] h = some (.tup [.agg (match okT w with | true => hdrT w | false => hdr0), .bool (okT w)], h) := by
  refine call_closed (af := F.head_Unpack) (by kernel_rfl) rfl (by rfl) (by cases okT w <;> rfl) h ?_
  rw [S.head_Unpack_eq]
  have ok := H.ok_empty
  obtain ⟨r, e, j, L, rfl, hL⟩ := unpack_loop hw ok (some (.cells [.int .i64 0, .int .i64 0, .bool false, .int .i64 0, .int .i64 0, .int .i64 0] .rw))
  have hld : ∀ i v, (sevenT w)[i]? = some v → (H.empty.ext (some (.cells [.int .i64 0, .int .i64 0, .bool false, .int .i64 0, .int .i64 0, .int .i64 0] .rw) :: some (.cells [.int .i64 3, .int .i64 1, .int .i64 1, .int .i64 4, .int .i64 7, .int .i64 32, .int .i64 16] .rw) :: L)).ld1 (.ptr (H.empty.next + (j + 2)) i) = some (.int .u64 v) := by
    intro i v hv
    rw [H.ext_ldk ok]
    simp only [List.getElem?_cons_succ, hL, Option.join_some, ldB_cells, List.getElem?_map, hv, Option.map_some, V.one]
  have x0 : indexAV 1 (.sl (H.empty.next + (j + 2)) 0 7 (.op 1)) (.int .i64 0) = some (.ptr (H.empty.next + (j + 2)) 0) := rfl
  have d0 := hld 0 (getT w 0 3) rfl
  have x1 : indexAV 1 (.sl (H.empty.next + (j + 2)) 0 7 (.op 1)) (.int .i64 1) = some (.ptr (H.empty.next + (j + 2)) 1) := rfl
  have d1 := hld 1 (getT w 3 1) rfl
  have x2 : indexAV 1 (.sl (H.empty.next + (j + 2)) 0 7 (.op 1)) (.int .i64 2) = some (.ptr (H.empty.next + (j + 2)) 2) := rfl
  have d2 := hld 2 (getT w 4 1) rfl
  have x3 : indexAV 1 (.sl (H.empty.next + (j + 2)) 0 7 (.op 1)) (.int .i64 3) = some (.ptr (H.empty.next + (j + 2)) 3) := rfl
  have d3 := hld 3 (getT w 5 4) rfl
  have x4 : indexAV 1 (.sl (H.empty.next + (j + 2)) 0 7 (.op 1)) (.int .i64 4) = some (.ptr (H.empty.next + (j + 2)) 4) := rfl
  have d4 := hld 4 (getT w 9 7) rfl
  have x5 : indexAV 1 (.sl (H.empty.next + (j + 2)) 0 7 (.op 1)) (.int .i64 5) = some (.ptr (H.empty.next + (j + 2)) 5) := rfl
  have d5 := hld 5 (getT w 16 32) rfl
  have x6 : indexAV 1 (.sl (H.empty.next + (j + 2)) 0 7 (.op 1)) (.int .i64 6) = some (.ptr (H.empty.next + (j + 2)) 6) := rfl
  have d6 := hld 6 (getT w 48 16) rfl
  have e7 : ¬ (((7 : Nat) : Int) < 7) := by omega
  have q0 := getT_small w 0 3 (by omega)
  have q1 := getT_small w 3 1 (by omega)
  have q3 := getT_small w 5 4 (by omega)
  have q5 := getT_small w 16 32 (by omega)
  have q6 := getT_small w 48 16 (by omega)
  have w0 := wr64 (n := getT w 0 3) (by omega) (by omega)
  have w1 := wr64 (n := getT w 3 1) (by omega) (by omega)
  have w3 := wr64 (n := getT w 5 4) (by omega) (by omega)
  have w5 := wr64 (n := getT w 16 32) (by omega) (by omega)
  have w6 := wr64 (n := getT w 48 16) (by omega) (by omega)
  have hany : ∀ (k : Go.IntKind) (n : Int), asIAny (.int k n) = some n := fun _ _ => rfl
  clear q0 q1 q3 q5 q6 hld
  by_cases k1 : getT w 0 3 ≤ 4
  · have k1' : ¬ 4 < getT w 0 3 := by clear w0 w1 w3 w5 w6; omega
    by_cases k2 : getT w 9 7 = 0
    · simp only [S.head_Unpack, H.new_ext, H.ext_ext, H.ext_next, H.ext_ldNk_0, H.ext_stk_0, ok, ldNB_cells, stB_cells, V.one, V.cells, List.length_cons, List.length_nil, Nat.zero_add, Nat.reduceAdd, Nat.reduceLeDiff, decide_true, decide_false, List.getElem?_cons_zero, List.getElem?_cons_succ, List.cons_append, List.nil_append, List.drop_zero, List.drop_succ_cons, List.take_succ_cons, List.take_zero, List.set_cons_zero, splice, List.all_cons, List.all_nil, Bool.not_true, Bool.or_false, Option.bind_some, Option.map_some, Option.join_some, Bool.and_self, finV, resAllV, resOfV, result, asI_int, reduceCtorEq, W_call, e, lenSl, e7, x0, x1, x2, x3, x4, x5, x6, d0, d1, d2, d3, d4, d5, d6, k1', k2, hany, w0, w1, w3, w5, w6]
      exact Ev.some (by simp [okT, k1, k2, hdrT])
    · simp only [S.head_Unpack, H.new_ext, H.ext_ext, H.ext_next, H.ext_ldNk_0, H.ext_stk_0, ok, ldNB_cells, stB_cells, V.one, V.cells, List.length_cons, List.length_nil, Nat.zero_add, Nat.reduceAdd, Nat.reduceLeDiff, decide_true, decide_false, List.getElem?_cons_zero, List.getElem?_cons_succ, List.cons_append, List.nil_append, List.drop_zero, List.drop_succ_cons, List.take_succ_cons, List.take_zero, List.set_cons_zero, splice, List.all_cons, List.all_nil, Bool.not_true, Bool.not_false, Bool.or_false, Option.bind_some, Option.map_some, Option.join_some, Bool.and_self, finV, resAllV, resOfV, result, asI_int, reduceCtorEq, W_call, e, lenSl, e7, x0, x1, x2, x3, x4, x5, x6, d0, d1, d2, d3, d4, d5, d6, k1', k2, hany, w0, w1, w3, w5, w6]
      exact Ev.some (by simp [okT, k1, k2, hdr0])
  · have k1' : 4 < getT w 0 3 := by clear w0 w1 w3 w5 w6; omega
    simp only [S.head_Unpack, H.new_ext, H.ext_ext, H.ext_next, H.ext_ldNk_0, H.ext_stk_0, ok, ldNB_cells, stB_cells, V.one, V.cells, List.length_cons, List.length_nil, Nat.zero_add, Nat.reduceAdd, Nat.reduceLeDiff, decide_true, decide_false, List.getElem?_cons_zero, List.getElem?_cons_succ, List.cons_append, List.nil_append, List.drop_zero, List.drop_succ_cons, List.take_succ_cons, List.take_zero, List.set_cons_zero, splice, List.all_cons, List.all_nil, Bool.not_true, Bool.or_false, Option.bind_some, Option.map_some, Option.join_some, Bool.and_self, finV, resAllV, resOfV, result, asI_int, reduceCtorEq, W_call, e, lenSl, e7, x0, x1, x2, x3, x4, x5, x6, d0, d1, d2, d3, d4, d5, d6, k1', hany, w0, w1, w3, w5, w6]
    exact Ev.some (by simp [okT, k1, hdr0])

theorem tm {a b : Int} (h : 0 ≤ a) : Int.tmod a b = a % b := Int.tmod_eq_emod_of_nonneg h
theorem td {a b : Int} (h : 0 ≤ a) : Int.tdiv a b = a / b := Int.tdiv_eq_ediv_of_nonneg h

theorem refUnpack_spec {w : Int} (hw : U64 w) (h : H) : C 109 [.int .u64 w] h = some (.tup [.agg (match okT w with | true => hdrT w | false => hdr0), .bool (okT w)], h) := by
  refine call_closed (af := F.withyref04_Unpack) (by kernel_rfl) rfl (by rfl) (by cases okT w <;> rfl) h ?_
  rw [S.withyref04_Unpack_eq]
  have ok := H.ok_empty
  obtain ⟨h0, h1⟩ := hw
  have e0 : wr .i64 (Int.tmod w 8) = getT w 0 3 := by rw [tm h0, wr64 (by omega) (by omega)]; simp [getT]
  have e1 : wr .i64 (Int.tmod (wr .u64 (Int.tdiv w 8)) 2) = getT w 3 1 := by rw [td h0, wru64 (by omega) (by omega), tm (by omega), wr64 (by omega) (by omega)]; rfl
  have e2 : Int.tmod (wr .u64 (Int.tdiv w 16)) 2 = getT w 4 1 := by rw [td h0, wru64 (by omega) (by omega), tm (by omega)]; rfl
  have e3 : wr .i64 (Int.tmod (wr .u64 (Int.tdiv w 32)) 16) = getT w 5 4 := by rw [td h0, wru64 (by omega) (by omega), tm (by omega), wr64 (by omega) (by omega)]; rfl
  have e4 : wr .i64 (Int.tmod (wr .u64 (Int.tdiv w 65536)) 4294967296) = getT w 16 32 := by rw [td h0, wru64 (by omega) (by omega), tm (by omega), wr64 (by omega) (by omega)]; rfl
  have e5 : wr .i64 (wr .u64 (Int.tdiv w 281474976710656)) = getT w 48 16 := by
    rw [td h0, wru64 (by omega) (by omega), wr64 (by omega) (by omega)]
    show _ = w / 281474976710656 % 65536
    omega
  have e6 : Int.tmod (wr .u64 (Int.tdiv w 512)) 128 = getT w 9 7 := by rw [td h0, wru64 (by omega) (by omega), tm (by omega)]; rfl
  clear h0 h1
  by_cases k1 : getT w 0 3 ≤ 4
  · have k1' : ¬ 4 < getT w 0 3 := by clear e0 e1 e2 e3 e4 e5 e6; omega
    by_cases k2 : getT w 9 7 = 0
    · simp only [S.withyref04_Unpack, H.new_ext, H.ext_ext, H.ext_next, H.ext_ldNk_0, H.ext_ldNk, H.ext_ldk, H.ext_stk_0, H.ext_stk, ok, ldB_cells, ldNB_cells, stB_cells, V.one, V.cells, List.length_cons, List.length_nil, Nat.zero_add, Nat.reduceAdd, Nat.reduceLeDiff, decide_true, decide_false, List.getElem?_cons_zero, List.getElem?_cons_succ, List.cons_append, List.nil_append, List.drop_zero, List.drop_succ_cons, List.take_succ_cons, List.take_zero, List.set_cons_zero, List.set_cons_succ, splice, List.all_cons, List.all_nil, Bool.not_true, Bool.or_false, Option.bind_some, Option.map_some, Option.join_some, Bool.and_self, finV, resAllV, resOfV, result, asI_int, reduceCtorEq, e0, e1, e2, e3, e4, e5, e6, k1', k2]
      exact Ev.some (by simp [okT, k1, k2, hdrT])
    · simp only [S.withyref04_Unpack, H.new_ext, H.ext_ext, H.ext_next, H.ext_ldNk_0, H.ext_ldk, H.ext_stk_0, H.ext_stk, ok, ldB_cells, ldNB_cells, stB_cells, V.one, V.cells, List.length_cons, List.length_nil, Nat.zero_add, Nat.reduceAdd, Nat.reduceLeDiff, decide_true, decide_false, List.getElem?_cons_zero, List.getElem?_cons_succ, List.cons_append, List.nil_append, List.drop_zero, List.drop_succ_cons, List.take_succ_cons, List.take_zero, List.set_cons_zero, List.set_cons_succ, splice, List.all_cons, List.all_nil, Bool.not_true, Bool.not_false, Bool.or_false, Option.bind_some, Option.map_some, Option.join_some, Bool.and_self, finV, resAllV, resOfV, result, asI_int, reduceCtorEq, e0, e1, e2, e3, e4, e5, e6, k1', k2]
      exact Ev.some (by simp [okT, k1, k2, hdr0])
  · have k1' : 4 < getT w 0 3 := by clear e0 e1 e2 e3 e4 e5 e6; omega
    simp only [S.withyref04_Unpack, H.new_ext, H.ext_ext, H.ext_next, H.ext_ldNk_0, H.ext_ldNk, H.ext_ldk, H.ext_stk_0, H.ext_stk, ok, ldB_cells, ldNB_cells, stB_cells, V.one, V.cells, List.length_cons, List.length_nil, Nat.zero_add, Nat.reduceAdd, Nat.reduceLeDiff, decide_true, decide_false, List.getElem?_cons_zero, List.getElem?_cons_succ, List.cons_append, List.nil_append, List.drop_zero, List.drop_succ_cons, List.take_succ_cons, List.take_zero, List.set_cons_zero, List.set_cons_succ, splice, List.all_cons, List.all_nil, Bool.not_true, Bool.or_false, Option.bind_some, Option.map_some, Option.join_some, Bool.and_self, finV, resAllV, resOfV, result, asI_int, reduceCtorEq, e0, e1, e2, e3, e4, e5, e6, k1']
    exact Ev.some (by simp [okT, k1, hdr0])
end Wm
end

section
/- Frames: what of a heap stays; known blocks are read and written. -/
namespace Wm

theorem bind_congr1 {α β : Type} {x y : Option α} {f : α → Option β} (h : x = y) : x.bind f = y.bind f := by rw [h]

/-- Blocks of 'h' outside of 'L' are as they were; more may have come. -/
structure Fr (L : List Nat) (h h' : H) : Prop where
  le : h.next ≤ h'.next
  ok : h'.ok
  same : ∀ b, b < h.next → b ∉ L → h'.get b = h.get b

theorem Fr.refl {L : List Nat} {h : H} (ok : h.ok) : Fr L h h := ⟨Nat.le_refl _, ok, fun _ _ _ => rfl⟩
theorem Fr.new {L : List Nat} {h h' : H} (f : Fr L h h') (x : Blk) : Fr L h (h'.new x) :=
  ⟨by have := f.le; simp only [H.next_new]; omega, f.ok.new x, fun b hb hL => by rw [get_new_ne (by have := f.le; omega)]; exact f.same b hb hL⟩
theorem Fr.put {L : List Nat} {h h' : H} (f : Fr L h h') {b : Nat} (hb : b ∈ L ∨ h.next ≤ b) (hl : b < h'.next) (x : Option Blk) : Fr L h (h'.put b x) :=
  ⟨f.le, f.ok.put hl x, fun c hc hL => by
    rw [get_put_ne (by rintro rfl; rcases hb with q | q; exact hL q; omega)]; exact f.same c hc hL⟩
theorem Fr.trans {L L' : List Nat} {h h1 h2 : H} (f : Fr L h h1) (g : Fr L' h1 h2) (hL : ∀ b ∈ L', b ∈ L ∨ h.next ≤ b) : Fr L h h2 :=
  ⟨Nat.le_trans f.le g.le, g.ok, fun b hb hn => by
    rw [g.same b (by have := f.le; omega) (fun q => by rcases hL b q with q | q; exact hn q; omega)]; exact f.same b hb hn⟩
theorem Fr.trans' {L : List Nat} {h h1 h2 : H} (f : Fr L h h1) (g : Fr L h1 h2) : Fr L h h2 := f.trans g fun _ q => .inl q
theorem Fr.mono {L L' : List Nat} {h h1 : H} (f : Fr L h h1) (hL : ∀ b ∈ L, b ∈ L' ∨ h.next ≤ b) : Fr L' h h1 :=
  ⟨f.le, f.ok, fun b hb hn => f.same b hb fun q => by rcases hL b q with q | q; exact hn q; omega⟩
theorem Fr.get {L : List Nat} {h h' : H} (f : Fr L h h') (ok : h.ok) {b : Nat} {x : Blk} (hb : h.get b = some x) (hL : b ∉ L) : h'.get b = some x := by
  rw [f.same b (ok.lt hb) hL]; exact hb
theorem Fr.lt {L : List Nat} {h h' : H} (f : Fr L h h') {b : Nat} (hb : b < h.next) : b < h'.next := Nat.lt_of_lt_of_le hb f.le

/-! ### Reads and writes of blocks that are known -/
section
variable {h : H} {n b o : Nat}
theorem ld1_get' : h.ld1 (.ptr b o) = ldB (h.get b) o := H.ld1_eq
theorem ldN_get' : h.ldN (n + 1) (.ptr b o) = ldNB (h.get b) o (n + 1) := H.ldN_eq (Nat.succ_ne_zero n)
theorem st_get' {x : V} : h.st n (.ptr b o) x = match Nat.beq x.cells.length n with
    | true => (stB (h.get b) o x.cells).map fun y => h.put b (some y)
    | false => none := by
  simp only [H.st]
  split
  · rename_i hb; simp only [hb, H.stc_eq]
  · rename_i hb; simp only [hb]
theorem get_put' {x : Option Blk} {c : Nat} : (h.put b x).get c = if c = b then x else h.get c := H.get_put _ _ _ _
theorem get_new' {x : Blk} {c : Nat} : (h.new x).get c = if c = h.next then some x else h.get c := H.get_new _ _ _
theorem put_put' {x y : Option Blk} : (h.put b x).put b y = h.put b y := by
  simp only [H.put, T.put, T.put'_put' _ _ _ _ _ _ (Nat.lt_succ_self _) (Nat.lt_succ_self _)]
end
theorem lenSl_sl (b o n : Nat) (c : Cap) : lenSl (.sl b o n c) = some n := rfl
theorem lenSl_nil : lenSl .nilsl = some 0 := rfl
theorem nilc_ptr (b o : Nat) : nilc (.ptr b o) = some (.ptr b o) := rfl
theorem H.ok.ne0 {h : H} (ok : h.ok) {b : Nat} {x : Blk} (hb : h.get b = some x) : b ≠ h.next := by have := ok.lt hb; omega

/-! ### Configs -/
structure Cfg where
  s : Int
  a : Int
  c : Int
  hd : Int
  g : Int
  st : Int
def Cfg.cs (k : Cfg) : List V := [.int .i64 k.s, .int .i64 k.a, .int .i64 k.c, .int .i64 k.hd, .int .i64 k.g, .int .i64 k.st]
def Cfg.v (k : Cfg) : V := cfgV k.s k.a k.c k.hd k.g k.st
def Cfg.R (k : Cfg) : Bool := cfgR k.s k.a k.c k.hd k.g k.st

/-! ### Words of a memory -/
structure Touch where
  kind : Int
  at' : Int
  was : Int
  now : Int
structure Mem where
  ws : List Int
  n : Int
  last : Touch

end Wm
end

section
/- A slice that grows among blocks that came: what it holds. -/
namespace Wm

/-- The slice holds these cells; its block is one of those behind the first. -/
def Acc (h : H) (L : List (Option Blk)) (x : V) (e n : Nat) (l : List V) : Prop :=
  l.length = n * e ∧ l.all V.one = true ∧ ∃ j, (x = .sl (h.next + (j + 1)) 0 n (.op e) ∧ L[j]? = some (some (.cells l (.gr e)))) ∨ (x = .sl (h.next + (j + 1)) 0 n (.ex n) ∧ L[j]? = some (some (.cells l .rw)))

theorem lt_of_get {α : Type} {l : List α} {j : Nat} {x : α} (h : l[j]? = some x) : j < l.length := by
  rcases Nat.lt_or_ge j l.length with q | q
  · exact q
  · rw [List.getElem?_eq_none q] at h; cases h

theorem append_ex' {h : H} {e b bb o len n c : Nat} {x : V} {new old : List V} (hx : lenSl x = some n) (hn : h.slc e x = some new) (ho : h.slc e (.sl bb o len (.ex c)) = some old) (h1 : new.all V.one = true) (h2 : (len + n + (len + n) / 2 + 1000) * b ≤ 281474976710656) (he : 0 < e) (hb : 0 < b) (hc : ¬ len + n ≤ c) :
    h.append e b (.sl bb o len (.ex c)) x = some (.sl h.next 0 (len + n) (.op e), h.new (.cells (old ++ new) (.gr e))) := by
  have h3 : lenSl (.sl bb o len (.ex c)) = some len := rfl
  simp only [H.append, hx, hn, h3, ho, h1, h2, he, hb, decide_true, Bool.and_self, hc, decide_false]

theorem Acc.grow {h : H} {F : Option Blk} {L : List (Option Blk)} {x : V} {e n m b : Nat} {l new : List V} (hA : Acc h L x e n l) (hn : new.length = m * e) (h1 : new.all V.one = true) (hm : 0 < m) (he : 0 < e) (hb : 0 < b) (hs : (n + m + (n + m) / 2 + 1000) * b ≤ 281474976710656) :
    ∃ x' L', (h.ext (F :: (L ++ [some (.cells new .rw)]))).append e b x (.sl (h.next + (L.length + 1)) 0 m (.ex m)) = some (x', h.ext (F :: L')) ∧ Acc h L' x' e (n + m) (l ++ new) := by
  obtain ⟨hl, ho, j, hj⟩ := hA
  have hlen : (l ++ new).length = (n + m) * e := by rw [List.length_append, hl, hn, Nat.add_mul]
  have hone : (l ++ new).all V.one = true := by rw [List.all_append, ho, h1]; rfl
  have e1 : (F :: (L ++ [some (Blk.cells new .rw)])).length = L.length + 2 := by rw [List.length_cons, List.length_append]; rfl
  have hnew : (h.ext (F :: (L ++ [some (.cells new .rw)]))).slc e (.sl (h.next + (L.length + 1)) 0 m (.ex m)) = some new := by
    rw [slc_get (cs := new) (k := .rw) ?_ (by omega)]
    · rw [List.drop_zero, List.take_of_length_le (by omega)]
    · rw [H.ext_get (by rw [e1]; omega), List.getElem?_cons_succ, List.getElem?_append_right (Nat.le_refl _), Nat.sub_self]; rfl
  rcases hj with ⟨rfl, hjL⟩ | ⟨rfl, hjL⟩
  · have hlt := lt_of_get hjL
    have hbk : (h.ext (F :: (L ++ [some (.cells new .rw)]))).get (h.next + (j + 1)) = some (.cells l (.gr e)) := by
      rw [H.ext_get (by rw [e1]; omega), List.getElem?_cons_succ, List.getElem?_append_left hlt, hjL]; rfl
    have hold : (h.ext (F :: (L ++ [some (.cells new .rw)]))).slc e (.sl (h.next + (j + 1)) 0 n (.op e)) = some l := by
      rw [slc_get hbk (by omega), List.drop_zero, List.take_of_length_le (by omega)]
    refine ⟨.sl (h.next + (L.length + 2)) 0 (n + m) (.op e), (L ++ [some (Blk.cells new .rw)]).set j none ++ [some (Blk.cells (l ++ new) (.gr e))], ?_, hlen, hone, L.length + 1, Or.inl ⟨rfl, ?_⟩⟩
    · rw [append_op (n := m) rfl hnew hold hbk h1 hs he hb, H.ext_put (by rw [e1]; omega), H.new_ext, H.ext_ext, H.ext_next, e1]
      rfl
    · rw [List.getElem?_append_right (by rw [List.length_set, List.length_append]; exact Nat.le_refl _), List.length_set, List.length_append]
      simp only [List.length_singleton, Nat.sub_self, List.getElem?_cons_zero]
  · have hlt := lt_of_get hjL
    have hbk : (h.ext (F :: (L ++ [some (.cells new .rw)]))).get (h.next + (j + 1)) = some (.cells l .rw) := by
      rw [H.ext_get (by rw [e1]; omega), List.getElem?_cons_succ, List.getElem?_append_left hlt, hjL]; rfl
    have hold : (h.ext (F :: (L ++ [some (.cells new .rw)]))).slc e (.sl (h.next + (j + 1)) 0 n (.ex n)) = some l := by
      rw [slc_get hbk (by omega), List.drop_zero, List.take_of_length_le (by omega)]
    refine ⟨.sl (h.next + (L.length + 2)) 0 (n + m) (.op e), L ++ [some (Blk.cells new .rw)] ++ [some (Blk.cells (l ++ new) (.gr e))], ?_, hlen, hone, L.length + 1, Or.inl ⟨rfl, ?_⟩⟩
    · rw [append_ex' (n := m) rfl hnew hold h1 hs he hb (by omega), H.new_ext, H.ext_ext, H.ext_next, e1]
      rfl
    · rw [List.getElem?_append_right (by rw [List.length_append]; exact Nat.le_refl _), List.length_append]
      simp only [List.length_singleton, Nat.sub_self, List.getElem?_cons_zero]
end Wm
end

section
/- All words of a config, in their order: withyref06.Words. -/
namespace Wm

/-- A loop that counts, and appends so many elements each time. -/
theorem acc_loop {h : H} {F : Option Blk} {e N m id : Nat} {B : List V → H → Option (AX × List V × H)} (enc : V → Nat → List V) (O : V → List V) (new : Nat → List V)
    (hstep : ∀ i x L n l, i < N → n + m ≤ 100000 → Acc h L x e n l → ∃ x' L', B (enc x i) (h.ext (F :: L)) = some (.normal, enc x' (i + 1), h.ext (F :: L')) ∧ Acc h L' x' e (n + m) (l ++ new i))
    (hout : ∀ x L, B (enc x N) (h.ext (F :: L)) = some (.exit id, O x, h.ext (F :: L))) :
    ∀ (k i : Nat) (x : V) (L : List (Option Blk)) (n : Nat) (l : List V), i + k = N → n + k * m ≤ 100000 → Acc h L x e n l → ∃ x' L', loopW B (enc x i) (h.ext (F :: L)) = some (.exit id, O x', h.ext (F :: L')) ∧ Acc h L' x' e (n + k * m) (l ++ (List.range' i k).flatMap new)
  | 0, i, x, L, n, l, hi, _, hA => by
    have : i = N := by omega
    subst this
    exact ⟨x, L, loopW_out (hout x L) (by simp), by simpa using hA⟩
  | k + 1, i, x, L, n, l, hi, hn, hA => by
    rw [Nat.add_mul] at hn
    obtain ⟨x1, L1, h1, hA1⟩ := hstep i x L n l (by omega) (by omega) hA
    obtain ⟨x2, L2, h2, hA2⟩ := acc_loop enc O new hstep hout k (i + 1) x1 L1 (n + m) (l ++ new i) (by omega) (by omega) hA1
    refine ⟨x2, L2, loopW_next h1 h2, ?_⟩
    rw [show n + (k + 1) * m = n + m + k * m by rw [Nat.add_mul]; omega, List.range'_succ, List.flatMap_cons, ← List.append_assoc]
    exact hA2

/-- A word's description. -/
def pinW (k : Nat) : List V := [.str ⟨⟨[112, 105, 110]⟩⟩, .int .i64 k, .int .i64 0]
def entryW (k i : Nat) : List V := [.str ⟨⟨[101, 110, 116, 114, 121]⟩⟩, .int .i64 k, .int .i64 i]
def viewW (k : Nat) : List V := [.str ⟨⟨[118, 105, 101, 119]⟩⟩, .int .i64 k, .int .i64 0, .str ⟨⟨[115, 116, 97, 114, 116]⟩⟩, .int .i64 k, .int .i64 0]
def headW (k : Nat) : List V := [.str ⟨⟨[104, 101, 97, 100, 101, 114]⟩⟩, .int .i64 k, .int .i64 0, .str ⟨⟨[108, 105, 110, 107]⟩⟩, .int .i64 k, .int .i64 0]
def bodyW (k i : Nat) : List V := [.str ⟨⟨[98, 111, 100, 121]⟩⟩, .int .i64 k, .int .i64 i]
def oneW : List V := [.str ⟨⟨[99, 108, 111, 99, 107]⟩⟩, .int .i64 0, .int .i64 0, .str ⟨⟨[101, 112, 111, 99, 104]⟩⟩, .int .i64 0, .int .i64 0, .str ⟨⟨[103, 114, 97, 121, 115]⟩⟩, .int .i64 0, .int .i64 0, .str ⟨⟨[116, 111, 112]⟩⟩, .int .i64 0, .int .i64 0]
def slotW (room k : Nat) : List V := headW k ++ (List.range room).flatMap (bodyW k)
def wordsW (S room c hd : Nat) : List V :=
  oneW ++ (List.range c).flatMap pinW ++ (List.range c).flatMap (fun k => (List.range hd).flatMap (entryW k)) ++ (List.range c).flatMap viewW ++ (List.range S).flatMap (slotW room)
def sizeW (S room c hd : Nat) : Nat := 4 + c * 1 + c * hd + c * 2 + S * (2 + room)

theorem refRoom_spec (s a c hd g st : Int) (h : H) : C 149 [cfgV s a c hd g st] h = some (.int .i64 (if a < 3 then 3 else a), h) := by
  refine call_closed (af := F.withyref06_Room) (by kernel_rfl) rfl (by rfl) (by rfl) h ?_
  have ok := H.ok_empty
  unfold cfgV
  rw [S.withyref06_Room_eq]
  simp only [S.withyref06_Room, H.new_ext, H.ext_ldk_0, ok, ldB_cells, V.one, List.getElem?_cons_zero, List.getElem?_cons_succ, Option.bind_some, Option.join_some, asI_int]
  by_cases h0 : a < 3
  · simp only [h0, if_true, decide_true]; exact Ev.some rfl
  · simp only [h0, if_false, decide_false]; exact Ev.some rfl

section
variable {h : H} (ok : h.ok) (s a g st : Int) (c hd : Nat) (hc : c ≤ 8) (hhd : hd ≤ 16)
include ok hc hhd

omit hc hhd in
theorem ldF {L : List (Option Blk)} {cs : List V} {k : Nat} {v : V} (hv : cs[k]? = some v) (h1 : v.one = true) : (h.ext (some (.cells cs .rw) :: L)).ld1 (.ptr h.next k) = some v := by
  rw [H.ext_ldk_0 ok]
  simp only [List.getElem?_cons_zero, Option.join_some, ldB_cells, hv, h1]


theorem pins_loop : ∀ (k i : Nat) (x : V) (L : List (Option Blk)) (n : Nat) (l : List V), i + k = c → n + k * 1 ≤ 100000 → Acc h L x 3 n l → ∃ x' L', loopW (S.withyref06_Words_c1_B W) (S.withyref06_Words_c1_E (.ptr h.next 0) x (.int .i64 (i : Nat))) (h.ext ((some (.cells [.int .i64 s, .int .i64 a, .int .i64 c, .int .i64 hd, .int .i64 g, .int .i64 st] .rw)) :: L)) = some (.exit 0, S.withyref06_Words_c1_O (.ptr h.next 0) x', h.ext ((some (.cells [.int .i64 s, .int .i64 a, .int .i64 c, .int .i64 hd, .int .i64 g, .int .i64 st] .rw)) :: L')) ∧ Acc h L' x' 3 (n + k * 1) (l ++ (List.range' i k).flatMap pinW) := by
  refine acc_loop (fun x i => S.withyref06_Words_c1_E (.ptr h.next 0) x (.int .i64 (i : Nat))) (fun x => S.withyref06_Words_c1_O (.ptr h.next 0) x) pinW (fun i x L n l hi hn hA => ?_) (fun x L => ?_)
  · rw [S.withyref06_Words_c1_eq]
    have hf := ldF ok (L := L) (cs := [.int .i64 s, .int .i64 a, .int .i64 c, .int .i64 hd, .int .i64 g, .int .i64 st]) (k := 2) rfl rfl
    obtain ⟨x', L', h1, hA'⟩ := hA.grow (F := (some (.cells [.int .i64 s, .int .i64 a, .int .i64 c, .int .i64 hd, .int .i64 g, .int .i64 st] .rw))) (b := 32) (m := 1) (new := pinW i) rfl rfl (by omega) (by omega) (by omega) (by omega)
    have hw : wr .i64 ((i : Int) + 1) = ((i + 1 : Nat) : Int) := by rw [wr64 (by omega) (by omega)]; rfl
    refine ⟨x', L', ?_, hA'⟩
    simp only [S.withyref06_Words_c1_S, ptrAt_ptr, Nat.zero_add, hf, Option.bind_some, asI_int, show (i : Int) < ((c : Nat) : Int) by omega, decide_true, H.new_ext, H.ext_ext, H.ext_next, List.cons_append, List.length_cons]
    simp only [pinW] at h1
    rw [h1]
    simp only [Option.bind_some, hw]
  · rw [S.withyref06_Words_c1_eq]
    have hf := ldF ok (L := L) (cs := [.int .i64 s, .int .i64 a, .int .i64 c, .int .i64 hd, .int .i64 g, .int .i64 st]) (k := 2) rfl rfl
    simp only [S.withyref06_Words_c1_S, ptrAt_ptr, Nat.zero_add, hf, Option.bind_some, asI_int, Int.lt_irrefl, decide_false]

theorem entries_loop (q : Nat) : ∀ (k i : Nat) (x : V) (L : List (Option Blk)) (n : Nat) (l : List V), i + k = hd → n + k * 1 ≤ 100000 → Acc h L x 3 n l → ∃ x' L', loopW (S.withyref06_Words_c5_B W) (S.withyref06_Words_c5_E (.ptr h.next 0) x (.int .i64 (q : Nat)) (.int .i64 (i : Nat))) (h.ext ((some (.cells [.int .i64 s, .int .i64 a, .int .i64 c, .int .i64 hd, .int .i64 g, .int .i64 st] .rw)) :: L)) = some (.exit 4, S.withyref06_Words_c5_O (.ptr h.next 0) x' (.int .i64 (q : Nat)), h.ext ((some (.cells [.int .i64 s, .int .i64 a, .int .i64 c, .int .i64 hd, .int .i64 g, .int .i64 st] .rw)) :: L')) ∧ Acc h L' x' 3 (n + k * 1) (l ++ (List.range' i k).flatMap (entryW q)) := by
  refine acc_loop (fun x i => S.withyref06_Words_c5_E (.ptr h.next 0) x (.int .i64 (q : Nat)) (.int .i64 (i : Nat))) (fun x => S.withyref06_Words_c5_O (.ptr h.next 0) x (.int .i64 (q : Nat))) (entryW q) (fun i x L n l hi hn hA => ?_) (fun x L => ?_)
  · rw [S.withyref06_Words_c5_eq]
    have hf := ldF ok (L := L) (cs := [.int .i64 s, .int .i64 a, .int .i64 c, .int .i64 hd, .int .i64 g, .int .i64 st]) (k := 3) rfl rfl
    obtain ⟨x', L', h1, hA'⟩ := hA.grow (F := (some (.cells [.int .i64 s, .int .i64 a, .int .i64 c, .int .i64 hd, .int .i64 g, .int .i64 st] .rw))) (b := 32) (m := 1) (new := entryW q i) rfl rfl (by omega) (by omega) (by omega) (by omega)
    have hw : wr .i64 ((i : Int) + 1) = ((i + 1 : Nat) : Int) := by rw [wr64 (by omega) (by omega)]; rfl
    refine ⟨x', L', ?_, hA'⟩
    simp only [S.withyref06_Words_c5_S, ptrAt_ptr, Nat.zero_add, hf, Option.bind_some, asI_int, show (i : Int) < ((hd : Nat) : Int) by omega, decide_true, H.new_ext, H.ext_ext, H.ext_next, List.cons_append, List.length_cons]
    simp only [entryW] at h1
    rw [h1]
    simp only [Option.bind_some, hw]
  · rw [S.withyref06_Words_c5_eq]
    have hf := ldF ok (L := L) (cs := [.int .i64 s, .int .i64 a, .int .i64 c, .int .i64 hd, .int .i64 g, .int .i64 st]) (k := 3) rfl rfl
    simp only [S.withyref06_Words_c5_S, ptrAt_ptr, Nat.zero_add, hf, Option.bind_some, asI_int, Int.lt_irrefl, decide_false]

theorem views_loop : ∀ (k i : Nat) (x : V) (L : List (Option Blk)) (n : Nat) (l : List V), i + k = c → n + k * 2 ≤ 100000 → Acc h L x 3 n l → ∃ x' L', loopW (S.withyref06_Words_c7_B W) (S.withyref06_Words_c7_E (.ptr h.next 0) x (.int .i64 (i : Nat))) (h.ext ((some (.cells [.int .i64 s, .int .i64 a, .int .i64 c, .int .i64 hd, .int .i64 g, .int .i64 st] .rw)) :: L)) = some (.exit 6, S.withyref06_Words_c7_O (.ptr h.next 0) x', h.ext ((some (.cells [.int .i64 s, .int .i64 a, .int .i64 c, .int .i64 hd, .int .i64 g, .int .i64 st] .rw)) :: L')) ∧ Acc h L' x' 3 (n + k * 2) (l ++ (List.range' i k).flatMap viewW) := by
  refine acc_loop (fun x i => S.withyref06_Words_c7_E (.ptr h.next 0) x (.int .i64 (i : Nat))) (fun x => S.withyref06_Words_c7_O (.ptr h.next 0) x) viewW (fun i x L n l hi hn hA => ?_) (fun x L => ?_)
  · rw [S.withyref06_Words_c7_eq]
    have hf := ldF ok (L := L) (cs := [.int .i64 s, .int .i64 a, .int .i64 c, .int .i64 hd, .int .i64 g, .int .i64 st]) (k := 2) rfl rfl
    obtain ⟨x', L', h1, hA'⟩ := hA.grow (F := (some (.cells [.int .i64 s, .int .i64 a, .int .i64 c, .int .i64 hd, .int .i64 g, .int .i64 st] .rw))) (b := 32) (m := 2) (new := viewW i) rfl rfl (by omega) (by omega) (by omega) (by omega)
    have hw : wr .i64 ((i : Int) + 1) = ((i + 1 : Nat) : Int) := by rw [wr64 (by omega) (by omega)]; rfl
    refine ⟨x', L', ?_, hA'⟩
    simp only [S.withyref06_Words_c7_S, ptrAt_ptr, Nat.zero_add, hf, Option.bind_some, asI_int, show (i : Int) < ((c : Nat) : Int) by omega, decide_true, H.new_ext, H.ext_ext, H.ext_next, List.cons_append, List.length_cons]
    simp only [viewW] at h1
    rw [h1]
    simp only [Option.bind_some, hw]
  · rw [S.withyref06_Words_c7_eq]
    have hf := ldF ok (L := L) (cs := [.int .i64 s, .int .i64 a, .int .i64 c, .int .i64 hd, .int .i64 g, .int .i64 st]) (k := 2) rfl rfl
    simp only [S.withyref06_Words_c7_S, ptrAt_ptr, Nat.zero_add, hf, Option.bind_some, asI_int, Int.lt_irrefl, decide_false]

theorem allEntries_loop : ∀ (k i : Nat) (x : V) (L : List (Option Blk)) (n : Nat) (l : List V), i + k = c → n + k * hd ≤ 100000 → Acc h L x 3 n l → ∃ x' L', loopW (S.withyref06_Words_c3_B W) (S.withyref06_Words_c3_E (.ptr h.next 0) x (.int .i64 (i : Nat))) (h.ext ((some (.cells [.int .i64 s, .int .i64 a, .int .i64 c, .int .i64 hd, .int .i64 g, .int .i64 st] .rw)) :: L)) = some (.exit 2, S.withyref06_Words_c3_O (.ptr h.next 0) x', h.ext ((some (.cells [.int .i64 s, .int .i64 a, .int .i64 c, .int .i64 hd, .int .i64 g, .int .i64 st] .rw)) :: L')) ∧ Acc h L' x' 3 (n + k * hd) (l ++ (List.range' i k).flatMap fun k => (List.range' 0 hd).flatMap (entryW k)) := by
  refine acc_loop (fun x i => S.withyref06_Words_c3_E (.ptr h.next 0) x (.int .i64 (i : Nat))) (fun x => S.withyref06_Words_c3_O (.ptr h.next 0) x) (fun k => (List.range' 0 hd).flatMap (entryW k)) (fun i x L n l hi hn hA => ?_) (fun x L => ?_)
  · rw [S.withyref06_Words_c3_eq]
    have hf := ldF ok (L := L) (cs := [.int .i64 s, .int .i64 a, .int .i64 c, .int .i64 hd, .int .i64 g, .int .i64 st]) (k := 2) rfl rfl
    obtain ⟨x', L', h1, hA'⟩ := entries_loop ok s a g st c hd hc hhd i hd 0 x L n l (by omega) (by omega) hA
    have hw : wr .i64 ((i : Int) + 1) = ((i + 1 : Nat) : Int) := by rw [wr64 (by omega) (by omega)]; rfl
    rw [Nat.mul_one] at hA'
    refine ⟨x', L', ?_, hA'⟩
    have h1' : W.loop (S.withyref06_Words_c5_B W) (S.withyref06_Words_c5_E (.ptr h.next 0) x (.int .i64 (i : Nat)) (.int .i64 0)) (h.ext ((some (.cells [.int .i64 s, .int .i64 a, .int .i64 c, .int .i64 hd, .int .i64 g, .int .i64 st] .rw)) :: L)) = _ := h1
    simp only [S.withyref06_Words_c3_S, ptrAt_ptr, Nat.zero_add, hf, Option.bind_some, asI_int, show (i : Int) < ((c : Nat) : Int) by omega, decide_true]
    rw [h1']
    simp only [Option.bind_some]
    rw [S.withyref06_Words_c5_e4_eq]
    simp only [S.withyref06_Words_c5_e4, hw]
  · rw [S.withyref06_Words_c3_eq]
    have hf := ldF ok (L := L) (cs := [.int .i64 s, .int .i64 a, .int .i64 c, .int .i64 hd, .int .i64 g, .int .i64 st]) (k := 2) rfl rfl
    simp only [S.withyref06_Words_c3_S, ptrAt_ptr, Nat.zero_add, hf, Option.bind_some, asI_int, Int.lt_irrefl, decide_false]

theorem bodies_loop (q room : Nat) (hr : (if a < 3 then 3 else a) = (room : Int)) (hr2 : room ≤ 10) : ∀ (k i : Nat) (x : V) (L : List (Option Blk)) (n : Nat) (l : List V), i + k = room → n + k * 1 ≤ 100000 → Acc h L x 3 n l → ∃ x' L', loopW (S.withyref06_Words_c11_B W) (S.withyref06_Words_c11_E (.ptr h.next 0) x (.int .i64 (q : Nat)) (.int .i64 (i : Nat))) (h.ext ((some (.cells [.int .i64 s, .int .i64 a, .int .i64 c, .int .i64 hd, .int .i64 g, .int .i64 st] .rw)) :: L)) = some (.exit 10, S.withyref06_Words_c11_O (.ptr h.next 0) x' (.int .i64 (q : Nat)), h.ext ((some (.cells [.int .i64 s, .int .i64 a, .int .i64 c, .int .i64 hd, .int .i64 g, .int .i64 st] .rw)) :: L')) ∧ Acc h L' x' 3 (n + k * 1) (l ++ (List.range' i k).flatMap (bodyW q)) := by
  have hd6 : ∀ L, (h.ext ((some (.cells [.int .i64 s, .int .i64 a, .int .i64 c, .int .i64 hd, .int .i64 g, .int .i64 st] .rw)) :: L)).ldN 6 (.ptr h.next 0) = some (.agg [.int .i64 s, .int .i64 a, .int .i64 c, .int .i64 hd, .int .i64 g, .int .i64 st]) := fun L => by
    rw [H.ext_ldNk_0 ok]; rfl
  have hR := refRoom_spec s a c hd g st
  rw [hr] at hR
  unfold cfgV at hR
  refine acc_loop (fun x i => S.withyref06_Words_c11_E (.ptr h.next 0) x (.int .i64 (q : Nat)) (.int .i64 (i : Nat))) (fun x => S.withyref06_Words_c11_O (.ptr h.next 0) x (.int .i64 (q : Nat))) (bodyW q) (fun i x L n l hi hn hA => ?_) (fun x L => ?_)
  · rw [S.withyref06_Words_c11_eq]
    obtain ⟨x', L', h1, hA'⟩ := hA.grow (F := (some (.cells [.int .i64 s, .int .i64 a, .int .i64 c, .int .i64 hd, .int .i64 g, .int .i64 st] .rw))) (b := 32) (m := 1) (new := bodyW q i) rfl rfl (by omega) (by omega) (by omega) (by omega)
    have hw : wr .i64 ((i : Int) + 1) = ((i + 1 : Nat) : Int) := by rw [wr64 (by omega) (by omega)]; rfl
    refine ⟨x', L', ?_, hA'⟩
    simp only [S.withyref06_Words_c11_S, hd6, W_call, hR, Option.bind_some, asI_int, show (i : Int) < ((room : Nat) : Int) by omega, decide_true, H.new_ext, H.ext_ext, H.ext_next, List.cons_append, List.length_cons]
    simp only [bodyW] at h1
    rw [h1]
    simp only [Option.bind_some, hw]
  · rw [S.withyref06_Words_c11_eq]
    simp only [S.withyref06_Words_c11_S, hd6, W_call, hR, Option.bind_some, asI_int, Int.lt_irrefl, decide_false]

theorem slots_loop (S' room : Nat) (hS : s = (S' : Int)) (hS2 : S' ≤ 64) (hr : (if a < 3 then 3 else a) = (room : Int)) (hr2 : room ≤ 10) : ∀ (k i : Nat) (x : V) (L : List (Option Blk)) (n : Nat) (l : List V), i + k = S' → n + k * (2 + room) ≤ 100000 → Acc h L x 3 n l → ∃ x' L', loopW (S.withyref06_Words_c9_B W) (S.withyref06_Words_c9_E (.ptr h.next 0) x (.int .i64 (i : Nat))) (h.ext ((some (.cells [.int .i64 s, .int .i64 a, .int .i64 c, .int .i64 hd, .int .i64 g, .int .i64 st] .rw)) :: L)) = some (.exit 8, S.withyref06_Words_c9_O x', h.ext ((some (.cells [.int .i64 s, .int .i64 a, .int .i64 c, .int .i64 hd, .int .i64 g, .int .i64 st] .rw)) :: L')) ∧ Acc h L' x' 3 (n + k * (2 + room)) (l ++ (List.range' i k).flatMap fun k => headW k ++ (List.range' 0 room).flatMap (bodyW k)) := by
  refine acc_loop (fun x i => S.withyref06_Words_c9_E (.ptr h.next 0) x (.int .i64 (i : Nat))) (fun x => S.withyref06_Words_c9_O x) (fun k => headW k ++ (List.range' 0 room).flatMap (bodyW k)) (fun i x L n l hi hn hA => ?_) (fun x L => ?_)
  · rw [S.withyref06_Words_c9_eq]
    have hf := ldF ok (L := L) (cs := [.int .i64 s, .int .i64 a, .int .i64 c, .int .i64 hd, .int .i64 g, .int .i64 st]) (k := 0) rfl rfl
    obtain ⟨x1, L1, h1, hA1⟩ := hA.grow (F := (some (.cells [.int .i64 s, .int .i64 a, .int .i64 c, .int .i64 hd, .int .i64 g, .int .i64 st] .rw))) (b := 32) (m := 2) (new := headW i) rfl rfl (by omega) (by omega) (by omega) (by omega)
    obtain ⟨x', L', h2, hA'⟩ := bodies_loop ok s a g st c hd hc hhd i room hr hr2 room 0 x1 L1 (n + 2) (l ++ headW i) (by omega) (by omega) hA1
    have hw : wr .i64 ((i : Int) + 1) = ((i + 1 : Nat) : Int) := by rw [wr64 (by omega) (by omega)]; rfl
    rw [Nat.mul_one, List.append_assoc, Nat.add_assoc] at hA'
    refine ⟨x', L', ?_, hA'⟩
    have h2' : W.loop (S.withyref06_Words_c11_B W) (S.withyref06_Words_c11_E (.ptr h.next 0) x1 (.int .i64 (i : Nat)) (.int .i64 0)) (h.ext ((some (.cells [.int .i64 s, .int .i64 a, .int .i64 c, .int .i64 hd, .int .i64 g, .int .i64 st] .rw)) :: L1)) = _ := h2
    simp only [S.withyref06_Words_c9_S, ptrAt_ptr, Nat.zero_add, hf, Option.bind_some, asI_int, show (i : Int) < s by omega, decide_true, H.new_ext, H.ext_ext, H.ext_next, List.cons_append, List.length_cons]
    simp only [headW] at h1
    rw [h1]
    simp only [Option.bind_some]
    rw [h2']
    simp only [Option.bind_some]
    rw [S.withyref06_Words_c11_e10_eq]
    simp only [S.withyref06_Words_c11_e10, hw]
  · rw [S.withyref06_Words_c9_eq]
    have hf := ldF ok (L := L) (cs := [.int .i64 s, .int .i64 a, .int .i64 c, .int .i64 hd, .int .i64 g, .int .i64 st]) (k := 0) rfl rfl
    simp only [S.withyref06_Words_c9_S, ptrAt_ptr, Nat.zero_add, hf, Option.bind_some, asI_int, show ¬ ((S' : Nat) : Int) < s by omega, decide_false]
end

theorem range'_zero (n : Nat) : List.range' 0 n = List.range n := (List.range_eq_range').symm

theorem words_spec {s a c hd g st : Int} (hr : cfgR s a c hd g st = true) {h : H} (ok : h.ok) : ∃ x L, C 87 [cfgV s a c hd g st] h = some (x, h.ext (some (.cells [.int .i64 s, .int .i64 a, .int .i64 c, .int .i64 hd, .int .i64 g, .int .i64 st] .rw) :: L)) ∧
    Acc h L x 3 (sizeW s.toNat (if a < 3 then 3 else a).toNat c.toNat hd.toNat) (wordsW s.toNat (if a < 3 then 3 else a).toNat c.toNat hd.toNat) := by
  obtain ⟨⟨s1, s2⟩, ⟨a1, a2⟩, ⟨c1, c2⟩, ⟨d1, d2⟩, _⟩ := cfgR_iff.mp hr
  obtain ⟨c', rfl⟩ : ∃ n : Nat, c = n := ⟨c.toNat, by omega⟩
  obtain ⟨hd', rfl⟩ : ∃ n : Nat, hd = n := ⟨hd.toNat, by omega⟩
  obtain ⟨s', rfl⟩ : ∃ n : Nat, s = n := ⟨s.toNat, by omega⟩
  obtain ⟨room, hroom⟩ : ∃ n : Nat, (if a < 3 then 3 else a) = (n : Int) := ⟨(if a < 3 then 3 else a).toNat, by split <;> omega⟩
  have hroom2 : room ≤ 10 := by split at hroom <;> omega
  have hS2 : s' ≤ 64 := by omega
  rw [hroom]
  simp only [Int.toNat_natCast]
  -- loop by loop
  have hA0 : Acc h [some (.cells oneW .rw)] (.sl (h.next + 1) 0 4 (.ex 4)) 3 4 oneW := ⟨rfl, rfl, 0, Or.inr ⟨rfl, rfl⟩⟩
  obtain ⟨x1, L1, e1, A1⟩ := pins_loop ok s' a g st c' hd' (by omega) (by omega) c' 0 _ _ 4 _ (by omega) (by omega) hA0
  have b1 : c' * hd' ≤ 8 * 16 := Nat.mul_le_mul (by omega) (by omega)
  obtain ⟨x2, L2, e2, A2⟩ := allEntries_loop ok s' a g st c' hd' (by omega) (by omega) c' 0 _ _ _ _ (by omega) (by omega) A1
  obtain ⟨x3, L3, e3, A3⟩ := views_loop ok s' a g st c' hd' (by omega) (by omega) c' 0 _ _ _ _ (by omega) (by omega) A2
  have b2 : s' * (2 + room) ≤ 64 * 12 := Nat.mul_le_mul hS2 (by omega)
  obtain ⟨x4, L4, e4, A4⟩ := slots_loop ok s' a g st c' hd' (by omega) (by omega) s' room rfl hS2 hroom hroom2 s' 0 _ _ _ _ (by omega) (by omega) A3
  simp only [range'_zero] at A4
  refine ⟨x4, L4, ?_, A4⟩
  refine call_open (af := F.withyref06_Words) (by kernel_rfl) rfl ?_
  unfold cfgV
  rw [S.withyref06_Words_eq]
  simp only [S.withyref06_Words, H.new_ext, H.ext_ext, H.ext_next, List.length_singleton, List.cons_append, List.nil_append]
  have e1' : W.loop (S.withyref06_Words_c1_B W) (S.withyref06_Words_c1_E (.ptr h.next 0) (.sl (h.next + 1) 0 4 (.ex 4)) (.int .i64 0)) _ = _ := e1
  unfold oneW at e1'
  rw [e1']
  simp only [Option.bind_some]
  rw [S.withyref06_Words_c1_e0_eq]
  simp only [S.withyref06_Words_c1_e0]
  have e2' : W.loop (S.withyref06_Words_c3_B W) (S.withyref06_Words_c3_E (.ptr h.next 0) x1 (.int .i64 0)) _ = _ := e2
  rw [e2']
  simp only [Option.bind_some]
  rw [S.withyref06_Words_c3_e2_eq]
  simp only [S.withyref06_Words_c3_e2]
  have e3' : W.loop (S.withyref06_Words_c7_B W) (S.withyref06_Words_c7_E (.ptr h.next 0) x2 (.int .i64 0)) _ = _ := e3
  rw [e3']
  simp only [Option.bind_some]
  rw [S.withyref06_Words_c7_e6_eq]
  simp only [S.withyref06_Words_c7_e6]
  have e4' : W.loop (S.withyref06_Words_c9_B W) (S.withyref06_Words_c9_E (.ptr h.next 0) x3 (.int .i64 0)) _ = _ := e4
  rw [e4']
  simp only [Option.bind_some]
  rw [S.withyref06_Words_c9_e8_eq]
  rfl
end Wm
end

section
/- Where a word stands: withyref06.At, and that it is where plan says. -/
namespace Wm

abbrev wordEq : Eq' := .agg [(0, .str), (1, .int), (2, .int)]

theorem wordEq_self (nm : ByteArray) (who k : Int) : eqV wordEq (.agg [.str nm, .int .i64 who, .int .i64 k]) (.agg [.str nm, .int .i64 who, .int .i64 k]) = some true := by
  simp [eqV, eqOffs, eqCell]

theorem Acc.part {h : H} {F : Option Blk} {L : List (Option Blk)} {x : V} {n : Nat} {l : List V} (ok : h.ok) (hA : Acc h L x 3 n l) {i : Nat} (hi : i < n) : ∃ p, indexAV 3 x (.int .i64 (i : Int)) = some p ∧ (h.ext (F :: L)).ldN 3 p = some (.agg ((l.drop (i * 3)).take 3)) := by
  obtain ⟨hl, _, j, hj⟩ := hA
  have hle : i * 3 + 3 ≤ l.length := by omega
  have key : ∀ k, L[j]? = some (some (.cells l k)) → (h.ext (F :: L)).ldN 3 (.ptr (h.next + (j + 1)) (i * 3)) = some (.agg ((l.drop (i * 3)).take 3)) := fun k hk => by
    rw [H.ext_ldNk ok]
    simp only [List.getElem?_cons_succ, hk, Option.join_some, ldNB_cells, decide_eq_true hle]
  rcases hj with ⟨rfl, hjL⟩ | ⟨rfl, hjL⟩
  · refine ⟨.ptr (h.next + (j + 1)) (i * 3), ?_, key _ hjL⟩
    rw [indexAV_in (by omega) (by omega)]; simp
  · refine ⟨.ptr (h.next + (j + 1)) (i * 3), ?_, key _ hjL⟩
    rw [indexAV_in (by omega) (by omega)]; simp

theorem Acc.len {h : H} {L : List (Option Blk)} {x : V} {e n : Nat} {l : List V} (hA : Acc h L x e n l) : lenSl x = some n := by
  obtain ⟨_, _, j, ⟨rfl, _⟩ | ⟨rfl, _⟩⟩ := hA <;> rfl

theorem at_spec {s a c hd g st : Int} (hr : cfgR s a c hd g st = true) {nm : ByteArray} {who k : Int} {pre : List (List V)} {post : List V}
    (hw : wordsW s.toNat (if a < 3 then 3 else a).toNat c.toNat hd.toNat = pre.flatten ++ ([.str nm, .int .i64 who, .int .i64 k] ++ post))
    (hp : ∀ e ∈ pre, e.length = 3 ∧ eqV wordEq (.agg e) (.agg [.str nm, .int .i64 who, .int .i64 k]) = some false) (hpl : pre.length ≤ 100000) (h : H) :
    C 108 [cfgV s a c hd g st, .agg [.str nm, .int .i64 who, .int .i64 k]] h = some (.int .i64 (pre.length : Nat), h) := by
  refine call_closed (af := F.withyref06_At) (by kernel_rfl) rfl (by rfl) (by rfl) h ?_
  have ok := H.ok_empty
  have hR := ref06Right_spec s a c hd g st
  obtain ⟨x, L, hW, hA⟩ := words_spec hr (ok.ext [some (.cells [.int .i64 s, .int .i64 a, .int .i64 c, .int .i64 hd, .int .i64 g, .int .i64 st] .rw), some (.cells [.str nm, .int .i64 who, .int .i64 k] .rw)])
  rw [hr] at hR
  have ok2 := ok.ext [some (Blk.cells [.int .i64 s, .int .i64 a, .int .i64 c, .int .i64 hd, .int .i64 g, .int .i64 st] .rw), some (.cells [.str nm, .int .i64 who, .int .i64 k] .rw)]
  have hT : ∀ l, ((H.empty.ext [some (Blk.cells [.int .i64 s, .int .i64 a, .int .i64 c, .int .i64 hd, .int .i64 g, .int .i64 st] .rw), some (.cells [.str nm, .int .i64 who, .int .i64 k] .rw)]).ext l).ldN 3 (.ptr (H.empty.next + 1) 0) = some (.agg [.str nm, .int .i64 who, .int .i64 k]) := fun l => by
    rw [H.ext_ext, H.ext_ldNk ok]; rfl
  have hlw := hA.1
  rw [hw] at hA hlw
  have hfl : pre.flatten.length = pre.length * 3 := flat_length fun e he => (hp e he).1
  have hlen : pre.length < sizeW s.toNat (if a < 3 then 3 else a).toNat c.toNat hd.toNat := by
    rw [List.length_append, List.length_append, hfl] at hlw
    simp only [List.length_cons, List.length_nil] at hlw
    omega
  generalize sizeW s.toNat (if a < 3 then 3 else a).toNat c.toNat hd.toNat = n at hA hlen
  unfold cfgV at hR hW ⊢
  rw [S.withyref06_At_eq]
  simp only [S.withyref06_At, H.new_ext, H.ext_ext, H.ext_next, H.ext_ldNk_0, ok, ldNB_cells, List.length_cons, List.length_nil, Nat.zero_add, Nat.reduceAdd, Nat.reduceLeDiff, decide_true, List.getElem?_cons_zero, List.cons_append, List.nil_append, List.drop_zero, List.take_succ_cons, List.take_zero, Bool.not_true, Option.bind_some, Option.join_some, asB_bool, W_call, hR]
  simp only [hW, Option.bind_some]
  generalize hH : (H.empty.ext [some (Blk.cells [.int .i64 s, .int .i64 a, .int .i64 c, .int .i64 hd, .int .i64 g, .int .i64 st] .rw), some (.cells [.str nm, .int .i64 who, .int .i64 k] .rw)]) = hh at hA hT ok2 ⊢
  refine loop_ev (fun i : Nat => S.withyref06_At_c1_E (.ptr (H.empty.next + 1) 0) x (.int .i64 (i : Nat))) (fun i g' => i ≤ pre.length ∧ g' = hh.ext (some (.cells [.int .i64 s, .int .i64 a, .int .i64 c, .int .i64 hd, .int .i64 g, .int .i64 st] .rw) :: L)) (fun i _ => pre.length - i)
    (fun r => r = (.ret, S.withyref06_At_c1_O (.int .i64 (pre.length : Nat)), hh.ext (some (.cells [.int .i64 s, .int .i64 a, .int .i64 c, .int .i64 hd, .int .i64 g, .int .i64 st] .rw) :: L))) 0 rfl ⟨Nat.zero_le _, rfl⟩ ?_ ?_
  · rintro i g' ⟨hi, rfl⟩
    rw [S.withyref06_At_c1_eq]
    obtain ⟨p, e1, e2⟩ := hA.part (F := some (.cells [.int .i64 s, .int .i64 a, .int .i64 c, .int .i64 hd, .int .i64 g, .int .i64 st] .rw)) ok2 (show i < n by omega)
    simp only [S.withyref06_At_c1_S, hA.len, Option.bind_some, show (i : Int) < ((n : Nat) : Int) by omega, decide_true, e1, e2, hT]
    by_cases hip : i < pre.length
    · have hpi : pre[i]? = some pre[i] := List.getElem?_eq_getElem hip
      have hel : ((pre.flatten ++ ([V.str nm, V.int .i64 who, V.int .i64 k] ++ post)).drop (i * 3)).take 3 = pre[i] := by
        rw [List.drop_append_of_le_length (by omega), List.take_append_of_le_length (by rw [List.length_drop]; omega)]
        exact flat_part (fun e he => (hp e he).1) i _ hpi
      rw [hel, (hp _ (List.getElem_mem hip)).2]
      have hw1 : wr .i64 ((i : Int) + 1) = ((i + 1 : Nat) : Int) := by rw [wr64 (by omega) (by omega)]; rfl
      simp only [Option.bind_some, hw1]
      exact Ev.some (Or.inl ⟨i + 1, rfl, rfl, ⟨hip, rfl⟩, by omega⟩)
    · have : i = pre.length := by omega
      subst this
      have hel : ((pre.flatten ++ ([V.str nm, V.int .i64 who, V.int .i64 k] ++ post)).drop (pre.length * 3)).take 3 = [V.str nm, V.int .i64 who, V.int .i64 k] := by
        rw [List.drop_left' hfl]; rfl
      rw [hel, wordEq_self]
      simp only [Option.bind_some]
      exact Ev.some (Or.inr ⟨by simp, rfl⟩)
  · rintro r rfl
    simp only
    rw [S.withyref06_At_c1_r_eq]
    exact Ev.some rfl

theorem flatten_flatMap' {α β : Type} (f : α → List (List β)) : ∀ l : List α, (l.flatMap f).flatten = l.flatMap fun x => (f x).flatten
  | [] => rfl
  | x :: l => by rw [List.flatMap_cons, List.flatten_append, flatten_flatMap' f l, List.flatMap_cons]

def oneE : List (List V) := [[.str ⟨⟨[99, 108, 111, 99, 107]⟩⟩, .int .i64 0, .int .i64 0], [.str ⟨⟨[101, 112, 111, 99, 104]⟩⟩, .int .i64 0, .int .i64 0], [.str ⟨⟨[103, 114, 97, 121, 115]⟩⟩, .int .i64 0, .int .i64 0], [.str ⟨⟨[116, 111, 112]⟩⟩, .int .i64 0, .int .i64 0]]
def slotE (room q : Nat) : List (List V) := [[.str ⟨⟨[104, 101, 97, 100, 101, 114]⟩⟩, .int .i64 q, .int .i64 0], [.str ⟨⟨[108, 105, 110, 107]⟩⟩, .int .i64 q, .int .i64 0]] ++ (List.range room).map (bodyW q)
def viewE (q : Nat) : List (List V) := [[.str ⟨⟨[118, 105, 101, 119]⟩⟩, .int .i64 q, .int .i64 0], [.str ⟨⟨[115, 116, 97, 114, 116]⟩⟩, .int .i64 q, .int .i64 0]]
/-- What stands ahead of the slots; ahead of a slot. -/
def aheadE (c hd : Nat) : List (List V) := oneE ++ (List.range c).map pinW ++ (List.range c).flatMap (fun q => (List.range hd).map (entryW q)) ++ (List.range c).flatMap viewE
theorem slotE_flatten (room q : Nat) : (slotE room q).flatten = slotW room q := by
  unfold slotE slotW headW
  rw [List.flatten_append, ← List.flatMap_def]; rfl

theorem aheadE_flatten (c hd : Nat) : (aheadE c hd).flatten = oneW ++ (List.range c).flatMap pinW ++ (List.range c).flatMap (fun q => (List.range hd).flatMap (entryW q)) ++ (List.range c).flatMap viewW := by
  unfold aheadE
  rw [List.flatten_append, List.flatten_append, List.flatten_append, ← List.flatMap_def, flatten_flatMap', flatten_flatMap']
  congr 1

end Wm
end

section
/- A slice of words. -/
namespace Wm

end Wm
end

section
/- How many slots are gray: shade.Grays and withylaw09.grays. -/
namespace Wm

/-- How many words there are. -/
def totT (s a c hd : Int) : Int := slotsT c hd + s * roomT a

theorem size_spec {s a c hd g st : Int} (hr : cfgR s a c hd g st = true) (h : H) : C 264 [cfgV s a c hd g st] h = some (.int .i64 (totT s a c hd), h) := by
  refine call_closed (af := F.plan_Size) (by kernel_rfl) rfl (by rfl) (by rfl) h ?_
  have ok := H.ok_empty
  obtain ⟨⟨s1, s2⟩, ⟨a1, a2⟩, ⟨c1, c2⟩, ⟨d1, d2⟩, _⟩ := cfgR_iff.mp hr
  have hR := planRight_spec s a c hd g st
  rw [hr] at hR
  have h1 := room_spec s a c hd g st (by omega) (by omega)
  have h2 := slots_spec s a c hd g st (by omega) (by omega) (by omega) (by omega)
  have hroom : 5 ≤ roomT a ∧ roomT a ≤ 10 := by unfold roomT; omega
  obtain ⟨q1, q2⟩ := mul_bd (show 0 ≤ s by omega) s2 (show 0 ≤ roomT a by omega) hroom.2
  obtain ⟨q3, q4⟩ := mul_bd (show 0 ≤ c by omega) c2 (show 0 ≤ 1 + hd + 2 by omega) (show 1 + hd + 2 ≤ 19 by omega)
  have w1 := wr64 (n := s * roomT a) (by omega) (by omega)
  have w2 : wr .i64 (slotsT c hd + s * roomT a) = totT s a c hd := wr64 (by unfold slotsT; omega) (by unfold slotsT; omega)
  unfold cfgV at hR h1 h2 ⊢
  rw [S.plan_Size_eq]
  simp only [S.plan_Size, H.new_ext, H.ext_ldNk_0, H.ext_ldk_0, ok, ldB_cells, ldNB_cells, V.one, List.length_cons, List.length_nil, Nat.zero_add, Nat.reduceAdd, Nat.reduceLeDiff, decide_true, List.getElem?_cons_zero, List.drop_zero, List.take_succ_cons, List.take_zero, Bool.not_true, Option.bind_some, Option.join_some, ckB_some, V.beq, V.beqs, Bool.and_self, asI_int, asB_bool, W_call, hR, h1, h2, w1, w2]
  exact Ev.some rfl

end Wm
end

section
/- The words of a memory in which nothing was done: withyref06.Memory. -/
namespace Wm

def elemsW (S room c hd : Nat) : List (List V) := aheadE c hd ++ (List.range S).flatMap (slotE room)

theorem elemsW_flatten (S room c hd : Nat) : (elemsW S room c hd).flatten = wordsW S room c hd := by
  have h3 : ((List.range S).flatMap (slotE room)).flatten = (List.range S).flatMap (slotW room) := by
    rw [flatten_flatMap']
    exact congrArg (fun f => (List.range S).flatMap f) (funext fun q => slotE_flatten room q)
  unfold elemsW wordsW
  rw [List.flatten_append, aheadE_flatten, h3]

theorem sizeW_tot {s a c hd g st : Int} (hr : cfgR s a c hd g st = true) : ((sizeW s.toNat (if a < 3 then 3 else a).toNat c.toNat hd.toNat : Nat) : Int) = totT s a c hd := by
  obtain ⟨⟨s1, s2⟩, ⟨a1, a2⟩, ⟨c1, c2⟩, ⟨d1, d2⟩, _⟩ := cfgR_iff.mp hr
  have hroom : ((if a < 3 then 3 else a).toNat : Int) = max a 3 := by split <;> omega
  unfold sizeW totT slotsT roomT
  generalize (if a < 3 then 3 else a).toNat = R at hroom ⊢
  have m1 : ((c.toNat * hd.toNat : Nat) : Int) = c * hd := by rw [Int.natCast_mul, Int.toNat_of_nonneg (by omega), Int.toNat_of_nonneg (by omega)]
  have m2 : ((s.toNat * (2 + R) : Nat) : Int) = s * (2 + max a 3) := by
    rw [Int.natCast_mul, Int.toNat_of_nonneg (by omega)]
    congr 1
    omega
  have m3 : c * (1 + hd + 2) = c + c * hd + c * 2 := by rw [Int.mul_add, Int.mul_add, Int.mul_one]
  rw [m3, ← m1, ← m2]
  generalize c.toNat * hd.toNat = P
  generalize s.toNat * (2 + R) = Q
  omega

theorem ar_link {who : Int} (h0 : 0 ≤ who) (h1 : who ≤ 64) : wr .u64 (wr .i64 (who + 2)) = who + 2 := by rw [wr64 (by omega) (by omega), wru64 (by omega) (by omega)]
theorem repl_map (n : Nat) : repl [V.int .u64 0] n = (List.replicate n (0 : Int)).map (.int .u64) := by
  induction n with
  | zero => rfl
  | succ n ih => simp only [repl, ih, List.replicate_succ, List.map_cons, List.cons_append, List.nil_append]

end Wm
end

section
/- Words of a memory by what they are: all of a config, in their order, and where each stands. -/
namespace Wm

inductive Wd
  | clock | epoch | grays | top
  | pin (k : Nat)
  | entry (k i : Nat)
  | view (k : Nat)
  | start (k : Nat)
  | header (s : Nat)
  | link (s : Nat)
  | body (s i : Nat)
  deriving DecidableEq

def Cfg.S (k : Cfg) : Nat := k.s.toNat
def Cfg.room (k : Cfg) : Nat := (if k.a < 3 then 3 else k.a).toNat
def Cfg.C (k : Cfg) : Nat := k.c.toNat
def Cfg.H (k : Cfg) : Nat := k.hd.toNat
def Cfg.base (k : Cfg) : Nat := 4 + k.C + k.C * k.H + k.C * 2
def Cfg.size (k : Cfg) : Nat := k.base + k.S * (2 + k.room)

def Wd.ok (k : Cfg) : Wd → Prop
  | .clock | .epoch | .grays | .top => True
  | .pin q | .view q | .start q => q < k.C
  | .entry q i => q < k.C ∧ i < k.H
  | .header s | .link s => s < k.S
  | .body s i => s < k.S ∧ i < k.room
instance (k : Cfg) (l : Wd) : Decidable (l.ok k) := by cases l <;> (unfold Wd.ok; infer_instance)

def Wd.pos (k : Cfg) : Wd → Nat
  | .clock => 0
  | .epoch => 1
  | .grays => 2
  | .top => 3
  | .pin q => 4 + q
  | .entry q i => 4 + k.C + q * k.H + i
  | .view q => 4 + k.C + k.C * k.H + q * 2
  | .start q => 4 + k.C + k.C * k.H + q * 2 + 1
  | .header s => k.base + s * (2 + k.room)
  | .link s => k.base + s * (2 + k.room) + 1
  | .body s i => k.base + s * (2 + k.room) + 2 + i

def Wd.name : Wd → ByteArray
  | .clock => ⟨⟨[99, 108, 111, 99, 107]⟩⟩
  | .epoch => ⟨⟨[101, 112, 111, 99, 104]⟩⟩
  | .grays => ⟨⟨[103, 114, 97, 121, 115]⟩⟩
  | .top => ⟨⟨[116, 111, 112]⟩⟩
  | .pin _ => ⟨⟨[112, 105, 110]⟩⟩
  | .entry _ _ => ⟨⟨[101, 110, 116, 114, 121]⟩⟩
  | .view _ => ⟨⟨[118, 105, 101, 119]⟩⟩
  | .start _ => ⟨⟨[115, 116, 97, 114, 116]⟩⟩
  | .header _ => ⟨⟨[104, 101, 97, 100, 101, 114]⟩⟩
  | .link _ => ⟨⟨[108, 105, 110, 107]⟩⟩
  | .body _ _ => ⟨⟨[98, 111, 100, 121]⟩⟩
def Wd.who : Wd → Nat
  | .pin q | .view q | .start q | .entry q _ | .header q | .link q | .body q _ => q
  | _ => 0
def Wd.i : Wd → Nat
  | .entry _ i | .body _ i => i
  | _ => 0
def Wd.cells (l : Wd) : List V := [.str l.name, .int .i64 l.who, .int .i64 l.i]

def slotL (room q : Nat) : List Wd := .header q :: .link q :: (List.range room).map (.body q)
def Cfg.locs (k : Cfg) : List Wd :=
  [.clock, .epoch, .grays, .top] ++ (List.range k.C).map .pin ++ (List.range k.C).flatMap (fun q => (List.range k.H).map (.entry q)) ++ (List.range k.C).flatMap (fun q => [.view q, .start q]) ++ (List.range k.S).flatMap (slotL k.room)

theorem mem_locs {k : Cfg} {l : Wd} : l ∈ k.locs ↔ l.ok k := by
  unfold Cfg.locs slotL
  simp only [List.mem_append, List.mem_cons, List.not_mem_nil, or_false, List.mem_map, List.mem_range, List.mem_flatMap]
  cases l <;> simp [Wd.ok]

theorem range_mul (b m : Nat) : ∀ n, (List.range n).flatMap (fun q => (List.range m).map fun i => b + q * m + i) = (List.range (n * m)).map (b + ·)
  | 0 => by simp
  | n + 1 => by
    rw [List.range_succ, List.flatMap_append, range_mul b m n, List.flatMap_cons, List.flatMap_nil, List.append_nil, Nat.succ_mul, List.range_add, List.map_append, List.map_map]
    congr 1
    apply List.map_congr_left
    intro i _
    simp only [Function.comp]; omega

theorem map_pos (k : Cfg) : k.locs.map (Wd.pos k) = List.range k.size := by
  have e1 : ((List.range k.C).map Wd.pin).map (Wd.pos k) = (List.range k.C).map (4 + ·) := by rw [List.map_map]; rfl
  have e2 : ((List.range k.C).flatMap (fun q => (List.range k.H).map (Wd.entry q))).map (Wd.pos k) = (List.range (k.C * k.H)).map (4 + k.C + ·) := by
    rw [← range_mul, List.map_flatMap]
    congr 1; funext q; rw [List.map_map]; rfl
  have e3 : ((List.range k.C).flatMap (fun q => [Wd.view q, Wd.start q])).map (Wd.pos k) = (List.range (k.C * 2)).map (4 + k.C + k.C * k.H + ·) := by
    rw [← range_mul, List.map_flatMap]
    congr 1
  have e4 : ((List.range k.S).flatMap (slotL k.room)).map (Wd.pos k) = (List.range (k.S * (2 + k.room))).map (k.base + ·) := by
    rw [← range_mul, List.map_flatMap]
    congr 1; funext q
    unfold slotL
    rw [Nat.add_comm 2 k.room, List.range_succ_eq_map, List.range_succ_eq_map]
    simp only [List.map_cons, List.map_map, Wd.pos, Nat.add_zero]
    rw [Nat.add_comm 2 k.room]
    congr 2
    apply List.map_congr_left
    intro i _
    simp only [Function.comp, Wd.pos]
    rw [Nat.add_comm 2 k.room]; omega
  unfold Cfg.locs
  rw [List.map_append, List.map_append, List.map_append, List.map_append, e1, e2, e3, e4]
  unfold Cfg.size Cfg.base
  rw [List.range_add, List.range_add (n := 4 + k.C + k.C * k.H), List.range_add (n := 4 + k.C), List.range_add (n := 4)]
  rfl

theorem locs_length (k : Cfg) : k.locs.length = k.size := by
  have := congrArg List.length (map_pos k)
  simpa using this

theorem locs_at {k : Cfg} {i : Nat} {l : Wd} (h : k.locs[i]? = some l) : l.pos k = i := by
  have h1 : (k.locs.map (Wd.pos k))[i]? = some (l.pos k) := by rw [List.getElem?_map, h]; rfl
  rw [map_pos] at h1
  obtain ⟨h2, h3⟩ := List.getElem?_eq_some_iff.mp h1
  rw [← h3, List.getElem_range]

theorem at_locs {k : Cfg} {l : Wd} (h : l.ok k) : k.locs[l.pos k]? = some l := by
  obtain ⟨i, hi, he⟩ := List.mem_iff_getElem.mp (mem_locs.mpr h)
  have : k.locs[i]? = some l := by rw [List.getElem?_eq_getElem hi, he]
  rw [locs_at this]; exact this

theorem pos_lt {k : Cfg} {l : Wd} (h : l.ok k) : l.pos k < k.size := by
  rw [← locs_length]
  exact lt_of_get (at_locs h)

theorem pos_inj {k : Cfg} {l l' : Wd} (h : l.ok k) (h' : l'.ok k) (e : l.pos k = l'.pos k) : l = l' := by
  have h1 := at_locs h
  have h2 := at_locs h'
  rw [e, h2] at h1; cases h1; rfl

/-! ### As the references' lists -/
theorem locs_elems (k : Cfg) : k.locs.map Wd.cells = elemsW k.S k.room k.C k.H := by
  unfold Cfg.locs elemsW aheadE
  rw [List.map_append, List.map_append, List.map_append, List.map_append, List.map_map, List.map_flatMap, List.map_flatMap, List.map_flatMap]
  congr 1
  · congr 1
    · congr 1
      congr 1; funext q; rw [List.map_map]; rfl
  · congr 1; funext q
    unfold slotL slotE
    rw [List.map_cons, List.map_cons, List.map_map]; rfl

def Wd.tag : Wd → Nat
  | .clock => 0 | .epoch => 1 | .grays => 2 | .top => 3 | .pin _ => 4 | .entry _ _ => 5 | .view _ => 6 | .start _ => 7 | .header _ => 8 | .link _ => 9 | .body _ _ => 10
def tagName : Nat → ByteArray
  | 0 => ⟨⟨[99, 108, 111, 99, 107]⟩⟩
  | 1 => ⟨⟨[101, 112, 111, 99, 104]⟩⟩
  | 2 => ⟨⟨[103, 114, 97, 121, 115]⟩⟩
  | 3 => ⟨⟨[116, 111, 112]⟩⟩
  | 4 => ⟨⟨[112, 105, 110]⟩⟩
  | 5 => ⟨⟨[101, 110, 116, 114, 121]⟩⟩
  | 6 => ⟨⟨[118, 105, 101, 119]⟩⟩
  | 7 => ⟨⟨[115, 116, 97, 114, 116]⟩⟩
  | 8 => ⟨⟨[104, 101, 97, 100, 101, 114]⟩⟩
  | 9 => ⟨⟨[108, 105, 110, 107]⟩⟩
  | _ => ⟨⟨[98, 111, 100, 121]⟩⟩
theorem name_tag (l : Wd) : l.name = tagName l.tag := by cases l <;> rfl
theorem tag_lt (l : Wd) : l.tag < 11 := by cases l <;> simp [Wd.tag]
theorem tags_all : (List.range 11).all (fun a => (List.range 11).all fun b => ((tagName a).toList == (tagName b).toList) == decide (a = b)) = true := by kernel_rfl
theorem name_eq (l l' : Wd) : (l.name.toList == l'.name.toList) = decide (l.tag = l'.tag) := by
  have h := tags_all
  simp only [List.all_eq_true, List.mem_range, beq_iff_eq] at h
  rw [name_tag l, name_tag l']
  exact h _ (tag_lt l) _ (tag_lt l')
theorem eqW (l l' : Wd) : eqV wordEq (.agg l.cells) (.agg l'.cells) = some (decide (l = l')) := by
  unfold Wd.cells
  simp only [eqV, eqOffs, List.getElem?_cons_zero, List.getElem?_cons_succ, eqCell, decide_true, name_eq]
  by_cases ht : l.tag = l'.tag
  · simp only [decide_eq_true ht]
    by_cases hw : l.who = l'.who
    · have : (l.who : Int) = l'.who := by omega
      simp only [decide_eq_true this]
      by_cases hi : l.i = l'.i
      · have : (l.i : Int) = l'.i := by omega
        simp only [decide_eq_true this]
        have : l = l' := by
          cases l <;> cases l' <;> simp_all [Wd.tag, Wd.who, Wd.i]
        simp [this]
      · have h2 : ¬ (l.i : Int) = l'.i := by omega
        simp only [decide_eq_false h2]
        have : l ≠ l' := by rintro rfl; exact hi rfl
        simp [this]
    · have h2 : ¬ (l.who : Int) = l'.who := by omega
      simp only [decide_eq_false h2]
      have : l ≠ l' := by rintro rfl; exact hw rfl
      simp [this]
  · simp only [decide_eq_false ht]
    have : l ≠ l' := by rintro rfl; exact ht rfl
    simp [this]

theorem Cfg.R_iff {k : Cfg} : k.R = true ↔ (1 ≤ k.s ∧ k.s ≤ 64) ∧ (0 ≤ k.a ∧ k.a ≤ 8) ∧ (1 ≤ k.c ∧ k.c ≤ 8) ∧ (1 ≤ k.hd ∧ k.hd ≤ 16) ∧ (1 ≤ k.g ∧ k.g ≤ 1048576) ∧ (0 ≤ k.st ∧ k.st ≤ 64) := cfgR_iff

theorem Cfg.bounds {k : Cfg} (h : k.R = true) : (1 ≤ k.S ∧ k.S ≤ 64) ∧ (3 ≤ k.room ∧ k.room ≤ 8) ∧ (1 ≤ k.C ∧ k.C ≤ 8) ∧ (1 ≤ k.H ∧ k.H ≤ 16) ∧ k.base ≤ 200 ∧ k.size ≤ 1000 := by
  have := Cfg.R_iff.mp h
  have h1 : 3 ≤ k.room ∧ k.room ≤ 8 := by unfold Cfg.room; split <;> omega
  have h2 : k.C * k.H ≤ 8 * 16 := Nat.mul_le_mul (by unfold Cfg.C; omega) (by unfold Cfg.H; omega)
  have h3 : k.S * (2 + k.room) ≤ 64 * 10 := Nat.mul_le_mul (by unfold Cfg.S; omega) (by omega)
  unfold Cfg.size Cfg.base
  unfold Cfg.S Cfg.C Cfg.H at *
  omega

theorem words_flat (k : Cfg) : wordsW k.S k.room k.C k.H = (k.locs.map Wd.cells).flatten := by rw [locs_elems, elemsW_flatten]

/-- A word's place, as it is told. -/
theorem at_wd {k : Cfg} (hr : k.R = true) {l : Wd} (hl : l.ok k) (h : H) : C 108 [k.v, .agg l.cells] h = some (.int .i64 (l.pos k : Nat), h) := by
  have hlt := pos_lt hl
  have hb := Cfg.bounds hr
  have hn : ((k.locs.take (l.pos k)).map Wd.cells).length = l.pos k := by
    rw [List.length_map, List.length_take, locs_length]; omega
  have hsplit : k.locs = k.locs.take (l.pos k) ++ l :: k.locs.drop (l.pos k + 1) := by
    have h1 := at_locs hl
    obtain ⟨h2, h3⟩ := List.getElem?_eq_some_iff.mp h1
    conv => lhs; rw [← List.take_append_drop (l.pos k) k.locs, List.drop_eq_getElem_cons h2, h3]
  have := at_spec (s := k.s) (a := k.a) (c := k.c) (hd := k.hd) (g := k.g) (st := k.st) hr (nm := l.name) (who := l.who) (k := l.i) (pre := (k.locs.take (l.pos k)).map Wd.cells) (post := ((k.locs.drop (l.pos k + 1)).map Wd.cells).flatten) (by
      show wordsW k.S k.room k.C k.H = _
      rw [words_flat]
      conv => lhs; rw [hsplit, List.map_append, List.flatten_append, List.map_cons, List.flatten_cons]
      rfl) (by
      intro e he
      obtain ⟨l', h1, rfl⟩ := List.mem_map.mp he
      refine ⟨rfl, ?_⟩
      have h2 := eqW l' l
      have hne : l' ≠ l := by
        rintro rfl
        obtain ⟨i, h3, h4⟩ := List.mem_iff_getElem.mp h1
        rw [List.getElem_take] at h4
        have h5 : k.locs[i]? = some l' := by rw [List.getElem?_eq_getElem (by rw [List.length_take] at h3; omega), h4]
        have := locs_at h5
        rw [List.length_take] at h3
        omega
      rw [decide_eq_false hne] at h2
      exact h2) (by rw [hn]; omega) h
  rw [hn] at this
  exact this
end Wm
end

section
/- The program's machines as plain functions: headers, shades. -/
namespace Wm

structure Hdr where
  kind : Int
  mark : Int
  gray : Bool
  arity : Int
  gen : Int
  stamp : Int
def Hdr.cs (x : Hdr) : List V := [.int .i64 x.kind, .int .i64 x.mark, .bool x.gray, .int .i64 x.arity, .int .i64 x.gen, .int .i64 x.stamp]
def Hdr.zero : Hdr := ⟨0, 0, false, 0, 0, 0⟩
/-- A word's header. -/
def unp (w : Int) : Hdr := if okT w then ⟨getT w 0 3, getT w 3 1, decide (getT w 4 1 = 1), getT w 5 4, getT w 16 32, getT w 48 16⟩ else .zero
def Hdr.right (x : Hdr) : Bool := decide (0 ≤ x.kind) && decide (x.kind ≤ 4) && (decide (0 ≤ x.mark) && decide (x.mark ≤ 1)) && (decide (0 ≤ x.arity) && decide (x.arity ≤ 15)) && (decide (0 ≤ x.gen) && decide (x.gen ≤ 4294967295)) && (decide (0 ≤ x.stamp) && decide (x.stamp ≤ 65535))
def Hdr.word (x : Hdr) : Int := x.kind + 8 * x.mark + 16 * (if x.gray then 1 else 0) + 32 * x.arity + 65536 * x.gen + 281474976710656 * x.stamp
def pack (x : Hdr) : Int := if x.right then x.word else 0
def black (e : Int) : Int := (e / 4 + 1) % 2
def lives (w : Int) : Bool := okT w && (decide ((unp w).kind = 1) || decide ((unp w).kind = 2))
/-- May it be shaded? -/
def white (w e : Int) : Bool := lives w && !decide ((unp w).mark = black e)
def shadedH (w e : Int) : Hdr := { unp w with mark := black e, gray := true }
def shaded (w e : Int) : Int := if white w e then (shadedH w e).word else w

end Wm
end

section
/- What the memory's functions come to. -/
namespace Wm
attribute [local congr] bind_congr1

section
variable {h : H} {b bw : Nat} {m : Mem}

end
end Wm
end

section
/- Words of parts, and headers' words: word.Pack, head.Pack. -/
namespace Wm
attribute [local congr] bind_congr1

theorem or64_add {w v : Int} {a n : Nat} (h0 : 0 ≤ w) (h1 : w < 2 ^ a) (h2 : 0 ≤ v) (h3 : v < 2 ^ n) (h4 : a + n ≤ 64) : or64 w (v * 2 ^ a) = w + v * 2 ^ a ∧ w + v * 2 ^ a < 2 ^ (a + n) := by
  obtain ⟨k, rfl⟩ : ∃ k : Nat, w = k := ⟨w.toNat, by omega⟩
  obtain ⟨m, rfl⟩ : ∃ k : Nat, v = k := ⟨v.toNat, by omega⟩
  have hk : k < 2 ^ a := by have : ((k : Nat) : Int) < ((2 ^ a : Nat) : Int) := by simpa using h1
                            omega
  have hm : m < 2 ^ n := by have : ((m : Nat) : Int) < ((2 ^ n : Nat) : Int) := by simpa using h3
                            omega
  have e1 : ((m : Int) * 2 ^ a) = ((m * 2 ^ a : Nat) : Int) := by simp
  have h5 : 2 ^ (a + n) ≤ 2 ^ 64 := Nat.pow_le_pow_right (by omega) h4
  have h6 : k + m * 2 ^ a < 2 ^ (a + n) := by
    have : (m + 1) * 2 ^ a ≤ 2 ^ n * 2 ^ a := Nat.mul_le_mul_right _ hm
    rw [Nat.add_comm a n, Nat.pow_add]
    rw [Nat.add_mul, Nat.one_mul] at this
    omega
  constructor
  · unfold or64
    rw [e1, BitVec.ofInt_natCast, BitVec.ofInt_natCast, BitVec.toNat_or, BitVec.toNat_ofNat, BitVec.toNat_ofNat, Nat.mod_eq_of_lt (by omega), Nat.mod_eq_of_lt (by omega), Nat.or_comm, Nat.mul_comm, ← Nat.two_pow_add_eq_or_of_lt hk]
    rw [Nat.mul_comm]; omega
  · rw [e1]
    have : ((k + m * 2 ^ a : Nat) : Int) < ((2 ^ (a + n) : Nat) : Int) := by omega
    simpa using this

/-- Parts: how many bits, which value. -/
abbrev Parts := List (Nat × Int)
def bitsP (l : Parts) : Nat := (l.map (·.1)).sum
def sumP : Parts → Int
  | [] => 0
  | (n, v) :: l => v + 2 ^ n * sumP l
def fitP (l : Parts) : Bool := l.all fun p => decide (p.2 < 2 ^ p.1)
def cellsP (l : Parts) : List V := (l.map fun p => [V.int .i64 p.1, .int .u64 p.2]).flatten

theorem bitsP_append (l : Parts) (p : Nat × Int) : bitsP (l ++ [p]) = bitsP l + p.1 := by simp [bitsP]
theorem sumP_append : ∀ (l : Parts) (p : Nat × Int), sumP (l ++ [p]) = sumP l + p.2 * 2 ^ bitsP l
  | [], p => by simp [sumP, bitsP]
  | (n, v) :: l, p => by
    simp only [List.cons_append, sumP, sumP_append l p, bitsP, List.map_cons, List.sum_cons]
    rw [Int.mul_add, Int.pow_add, Int.add_assoc, ← Int.mul_assoc, ← Int.mul_assoc, Int.mul_comm (2 ^ n) p.2]
theorem bitsP_take {l : Parts} {i : Nat} {p : Nat × Int} (h : l[i]? = some p) : bitsP (l.take (i + 1)) = bitsP (l.take i) + p.1 ∧ sumP (l.take (i + 1)) = sumP (l.take i) + p.2 * 2 ^ bitsP (l.take i) ∧ fitP (l.take (i + 1)) = (fitP (l.take i) && decide (p.2 < 2 ^ p.1)) := by
  have : l.take (i + 1) = l.take i ++ [p] := by rw [List.take_add_one, h]; rfl
  rw [this]
  exact ⟨bitsP_append _ _, sumP_append _ _, by simp [fitP]⟩
theorem bitsP_le (l : Parts) (i : Nat) : bitsP (l.take i) ≤ bitsP l := by
  induction l generalizing i with
  | nil => simp [bitsP]
  | cons p l ih =>
    cases i with
    | zero => simp [bitsP]
    | succ i => have := ih i; simp only [bitsP, List.take_succ_cons, List.map_cons, List.sum_cons] at this ⊢; omega

theorem fits_spec {v : Int} (h0 : 0 ≤ v) {n : Nat} (hn : n ≤ 63) (h : H) : C 484 [.int .u64 v, .int .i64 n] h = some (.bool (decide (v < 2 ^ n)), h) := by
  refine call_closed (af := F.word_Fits) (by kernel_rfl) rfl (by rfl) (by rfl) h ?_
  rw [S.word_Fits_eq]
  have hs : shiftI false .u64 v (n : Int) = some (v / 2 ^ n) := by
    simp only [shiftI, show decide ((n : Int) < 0) = false from decide_eq_false (by omega), Int.toNat_natCast, show min n (Go.IntKind.bits .u64) = n from by show min n 64 = n; omega]
  have hp : (0 : Int) < 2 ^ n := Int.pow_pos (by omega)
  simp only [S.word_Fits, show decide ((0 : Int) ≤ (n : Int)) = true from decide_eq_true (by omega), show decide ((63 : Int) < (n : Int)) = false from decide_eq_false (by omega), hs, Option.bind_some]
  refine Ev.some (show V.bool _ = V.bool _ from ?_)
  congr 1
  rw [decide_eq_decide]
  constructor
  · intro q
    have := Int.lt_ediv_add_one_mul_self v hp
    rw [q] at this; simpa using this
  · intro q; exact Int.ediv_eq_zero_of_lt h0 q

theorem shl_spec {v : Int} {a : Nat} (ha : a ≤ 63) : shiftI true .u64 v (a : Int) = some (wr .u64 (v * 2 ^ a)) := by
  simp only [shiftI, show decide ((a : Int) < 0) = false from decide_eq_false (by omega), Int.toNat_natCast, show min a (Go.IntKind.bits .u64) = a from by show min a 64 = a; omega]

/-- The parts are such as occur. -/
def okP (l : Parts) : Prop := bitsP l ≤ 64 ∧ ∀ p ∈ l, 1 ≤ p.1 ∧ p.1 ≤ 63 ∧ U64 p.2

theorem wordPack_spec {l : Parts} (hl : okP l) {h : H} (ok : h.ok) {bx : Nat} {k : Bk} (hx : h.get bx = some (.cells (cellsP l) k)) :
    Ev (C 443 [.sl bx 0 l.length (.ex l.length)] h) fun r => r.1 = .tup [.int .u64 (if fitP l then sumP l else 0), .bool (fitP l)] ∧ Fr [] h r.2 := by
  obtain ⟨hb, hp⟩ := hl
  refine call_ev (af := F.word_Pack) (by kernel_rfl) rfl ?_
  rw [S.word_Pack_eq]
  simp only [S.word_Pack, lenSl, Option.bind_some]
  have hlen : l.length ≤ 64 := by
    have : ∀ l : Parts, (∀ p ∈ l, 1 ≤ p.1) → l.length ≤ bitsP l := by
      intro l
      induction l with
      | nil => intro _; simp [bitsP]
      | cons p l ih =>
        intro q
        have h1 := q p (by simp)
        have h2 := ih fun x hx => q x (by simp [hx])
        simp only [bitsP, List.map_cons, List.sum_cons, List.length_cons] at h2 ⊢
        omega
    have := this l fun p q => (hp p q).1
    omega
  refine loop_ev (α := Nat) (fun i => S.word_Pack_c1_E (.int .u64 (sumP (l.take i))) (.int .i64 (bitsP (l.take i) : Nat)) (.sl bx 0 l.length (.ex l.length)) (.int .i64 (l.length : Nat)) (.int .i64 i))
    (fun i g => i ≤ l.length ∧ fitP (l.take i) = true ∧ (0 ≤ sumP (l.take i) ∧ sumP (l.take i) < 2 ^ bitsP (l.take i)) ∧ Fr [] h g)
    (fun i _ => l.length - i) (fun r => Fr [] h r.2.2 ∧ ((r.1 = .ret ∧ fitP l = false ∧ ∃ x, r.2.1 = S.word_Pack_c1_O (.int .u64 0) (.bool false) x) ∨ (r.1 = .exit 0 ∧ fitP l = true ∧ r.2.1 = S.word_Pack_c1_O .dead .dead (.int .u64 (sumP l)))))
    0 rfl ⟨Nat.zero_le _, rfl, ⟨Int.le_refl _, by simp [sumP, bitsP]⟩, .refl ok⟩ ?_ ?_
  · rintro i g ⟨hi, hf, ⟨s0, s1⟩, fr⟩
    rw [S.word_Pack_c1_eq]
    by_cases hic : i < l.length
    · obtain ⟨p, hpi⟩ : ∃ p, l[i]? = some p := ⟨_, List.getElem?_eq_getElem hic⟩
      obtain ⟨e1, e2, e3⟩ := bitsP_take hpi
      obtain ⟨p1, p2, p3⟩ := hp p (List.mem_of_getElem? hpi)
      have hle := bitsP_le l (i + 1)
      have hidx : indexAV 2 (.sl bx 0 l.length (.ex l.length)) (.int .i64 (i : Int)) = some (.ptr bx (i * 2)) := by
        simp only [indexAV, indexOf, asIAny, show decide ((0 : Int) ≤ (i : Int)) = true from decide_eq_true (by omega), show decide ((i : Int) < (l.length : Int)) = true from decide_eq_true (by omega), Bool.and_self, Nat.zero_add, Int.toNat_natCast]
      have hg := fr.get ok hx (by simp)
      have hld : ldNB (g.get bx) (i * 2) 2 = some (.agg [.int .i64 p.1, .int .u64 p.2]) := by
        have hfl : ∀ x ∈ l.map fun p : Nat × Int => [V.int .i64 p.1, .int .u64 p.2], x.length = 2 := fun x hx => by
          obtain ⟨_, _, rfl⟩ := List.mem_map.mp hx; rfl
        have hn : (cellsP l).length = l.length * 2 := by unfold cellsP; rw [flat_length hfl, List.length_map]
        rw [hg, ldNB_cells, decide_eq_true (by rw [hn]; omega)]
        simp only
        unfold cellsP
        rw [flat_part hfl i [.int .i64 p.1, .int .u64 p.2] (by rw [List.getElem?_map, hpi]; rfl)]
      have hsm : ∀ g', C 441 [.int .i64 (bitsP (l.take i) : Nat), .int .i64 p.1] g' = some (.bool true, g') := fun g' => some_spec _ _ (by omega) (by omega) (by omega) g'
      simp only [S.word_Pack_c1_S, decide_eq_true (show (i : Int) < (l.length : Int) by omega), hidx, Option.bind_some, Option.map_some, ld1_get', ldN_get', st_get', get_put', get_new', ldB_cells, stB_cells, List.getElem?_cons_zero, List.getElem?_cons_succ, Nat.zero_add, Nat.reduceAdd, Nat.reduceLeDiff, V.one, V.cells, asI_int, asB_bool, List.length_cons, List.length_nil, Nat.beq_refl, List.all_cons, List.all_nil, Bool.not_true, Bool.or_self, Bool.and_self, decide_true, decide_false, if_true, splice, List.take_zero, List.drop_succ_cons, List.drop_zero, List.cons_append, List.nil_append, reduceCtorEq, W_call, hld, hsm, fits_spec p3.1 p2]
      cases hc : decide (p.2 < 2 ^ p.1) with
      | false =>
        simp only [Bool.not_false]
        refine Ev.some (.inr ⟨by simp, (fr.new _).put (.inr (by have := fr.le; omega)) (by simp) _, .inl ⟨rfl, ?_, _, rfl⟩⟩)
        rw [hc, Bool.and_false] at e3
        have : fitP l = true → fitP (l.take (i + 1)) = true := fun q => by
          simp only [fitP, List.all_eq_true] at q ⊢
          exact fun x hx => q x (List.mem_of_mem_take hx)
        cases hq : fitP l with
        | false => rfl
        | true => rw [this hq] at e3; cases e3
      | true =>
        have hc' := of_decide_eq_true hc
        obtain ⟨o1, o2⟩ := or64_add s0 s1 p3.1 hc' (by omega)
        have hpos : (0 : Int) ≤ p.2 * 2 ^ bitsP (l.take i) := Int.mul_nonneg p3.1 (Int.le_of_lt (Int.pow_pos (by omega)))
        have hlt : p.2 * 2 ^ bitsP (l.take i) < 18446744073709551616 := by
          have : (2 : Int) ^ (bitsP (l.take i) + p.1) ≤ 2 ^ 64 := by
            have := Nat.pow_le_pow_right (n := 2) (by omega) (show bitsP (l.take i) + p.1 ≤ 64 by omega)
            have h2 : ((2 ^ (bitsP (l.take i) + p.1) : Nat) : Int) ≤ ((2 ^ 64 : Nat) : Int) := by omega
            simpa using h2
          omega
        simp only [Option.bind_some, Bool.not_true, shl_spec (show bitsP (l.take i) ≤ 63 by omega), wru64 hpos (by omega), o1]
        have w1 : wr .i64 (((bitsP (l.take i) : Nat) : Int) + (p.1 : Int)) = ((bitsP (l.take (i + 1)) : Nat) : Int) := by rw [wr64 (by omega) (by omega), e1]; omega
        have w2 : wr .i64 ((i : Int) + 1) = ((i + 1 : Nat) : Int) := by rw [wr64 (by omega) (by omega)]; rfl
        rw [w1, w2, ← e2]
        refine Ev.some (.inl ⟨i + 1, rfl, rfl, ⟨hic, by rw [e3, hf, hc]; rfl, ⟨by rw [e2]; omega, by rw [e2, e1]; exact o2⟩, (fr.new _).put (.inr (by have := fr.le; omega)) (by simp) _⟩, Nat.sub_lt_sub_left hic (Nat.lt_succ_self i)⟩)
    · have : i = l.length := by omega
      subst this
      simp only [S.word_Pack_c1_S, decide_eq_false (show ¬ ((l.length : Nat) : Int) < (l.length : Int) by omega)]
      rw [List.take_length] at hf ⊢
      exact Ev.some (.inr ⟨by simp, fr, .inr ⟨rfl, hf, rfl⟩⟩)
  · rintro ⟨x, env, g⟩ ⟨fr, ⟨rfl, hf, y, hx⟩ | ⟨rfl, hf, hx⟩⟩
    · simp only at hx fr ⊢
      subst hx
      rw [S.word_Pack_c1_r_eq, hf]
      exact Ev.some ⟨rfl, fr⟩
    · simp only at hx fr ⊢
      subst hx
      rw [S.word_Pack_c1_e0_eq, hf]
      exact Ev.some ⟨rfl, fr⟩
end Wm
end

section
/- Headers and their words: what the functions of head come to. -/
namespace Wm
attribute [local congr] bind_congr1

def born (e : Int) : Int := if e % 4 = 0 then 1 - black e else black e
def grayW (w : Int) : Bool := okT w && (unp w).gray
theorem unp_right (w : Int) : (unp w).right = true := by
  unfold unp
  cases ho : okT w with
  | false => rfl
  | true =>
    unfold okT at ho
    simp only [Bool.and_eq_true, decide_eq_true_eq] at ho
    simp only [if_true, Hdr.right, Bool.and_eq_true, decide_eq_true_eq]
    unfold getT at ho ⊢
    simp only [Int.reducePow] at ho ⊢
    omega

theorem right_iff (x : Hdr) : x.right = true ↔ (0 ≤ x.kind ∧ x.kind ≤ 4) ∧ (0 ≤ x.mark ∧ x.mark ≤ 1) ∧ (0 ≤ x.arity ∧ x.arity ≤ 15) ∧ (0 ≤ x.gen ∧ x.gen ≤ 4294967295) ∧ (0 ≤ x.stamp ∧ x.stamp ≤ 65535) := by
  simp only [Hdr.right, Bool.and_eq_true, decide_eq_true_eq, and_assoc]

theorem word_U64 {x : Hdr} (h : x.right = true) : U64 x.word := by
  rw [right_iff] at h
  unfold Hdr.word U64
  split <;> omega

theorem black_01 (e : Int) : 0 ≤ black e ∧ black e ≤ 1 := by unfold black; omega
theorem unpack_spec {w : Int} (hw : U64 w) (h : H) : C 265 [.int .u64 w] h = some (.tup [.agg (unp w).cs, .bool (okT w)], h) := by
  rw [headUnpack_spec hw h]
  unfold unp
  cases ho : okT w <;> rfl

theorem refUnp_spec {w : Int} (hw : U64 w) (h : H) : C 109 [.int .u64 w] h = some (.tup [.agg (unp w).cs, .bool (okT w)], h) := by
  rw [refUnpack_spec hw h]
  unfold unp
  cases ho : okT w <;> rfl

/-- Numbers as they are in the machine. -/
def Hdr.i64 (x : Hdr) : Prop := x.kind ≤ 9223372036854775807 ∧ x.mark ≤ 9223372036854775807 ∧ x.arity ≤ 9223372036854775807 ∧ x.gen ≤ 9223372036854775807 ∧ x.stamp ≤ 9223372036854775807
theorem right_i64 {x : Hdr} (h : x.right = true) : x.i64 := by
  rw [right_iff] at h
  unfold Hdr.i64; omega

theorem bit_spec (b : Bool) (h : H) : C 444 [.bool b] h = some (.int .u64 (if b then 1 else 0), h) := by
  refine call_closed (af := F.head_bit) (by kernel_rfl) rfl (by rfl) (by rfl) h ?_
  rw [S.head_bit_eq]
  cases b <;> exact Ev.some rfl

theorem headPack_spec {x : Hdr} (hx : x.i64) (h : H) : C 382 [.agg x.cs] h = some (.tup [.int .u64 (pack x), .bool x.right], h) := by
  refine call_closed (af := F.head_Pack) (by kernel_rfl) rfl (by rfl) (by rfl) h ?_
  obtain ⟨k, m, g, a, n, s⟩ := x
  obtain ⟨b1, b2, b3, b4, b5⟩ := hx
  simp only at b1 b2 b3 b4 b5
  unfold Hdr.cs
  rw [S.head_Pack_eq]
  simp only [S.head_Pack, Option.bind_some, ld1_get', get_new', ldB_cells, List.getElem?_cons_zero, List.getElem?_cons_succ, Nat.zero_add, Nat.reduceAdd, Nat.reduceLeDiff, V.one, V.cells, List.length_cons, List.length_nil, Nat.beq_refl, Bool.and_true, Bool.true_and, decide_true, if_true, splice, List.take_succ_cons, List.take_zero, List.drop_succ_cons, List.drop_zero, List.cons_append, List.nil_append, fill, opd, boxc]
  generalize hH : H.empty.new (.cells [.int .i64 k, .int .i64 m, .bool g, .int .i64 a, .int .i64 n, .int .i64 s] .rw) = h0
  have g0 : h0.get H.empty.next = some (.cells [.int .i64 k, .int .i64 m, .bool g, .int .i64 a, .int .i64 n, .int .i64 s] .rw) := by rw [← hH]; exact get_new_self _ _
  have ok0 : h0.ok := by rw [← hH]; exact H.ok_empty.new _
  generalize H.empty.next = q at g0 ⊢
  let xs : List Int := [k, m, a, n, s]
  refine loop_ev (α := Nat) (fun i => S.head_Pack_c1_E (.ptr q 0) (.agg [.int .i64 k, .int .i64 m, .int .i64 a, .int .i64 n, .int .i64 s]) (.int .i64 i))
    (fun i g => g = h0 ∧ i ≤ 5 ∧ ∀ j, j < i → ∀ y, xs[j]? = some y → 0 ≤ y) (fun i _ => 5 - i)
    (fun r => r.2.2 = h0 ∧ ((r.1 = .ret ∧ r.2.1 = S.head_Pack_c1_O (.ptr q 0) (.int .u64 0) (.bool false) ∧ ¬ (0 ≤ k ∧ 0 ≤ m ∧ 0 ≤ a ∧ 0 ≤ n ∧ 0 ≤ s)) ∨ (r.1 = .exit 0 ∧ r.2.1 = S.head_Pack_c1_O (.ptr q 0) .dead .dead ∧ (0 ≤ k ∧ 0 ≤ m ∧ 0 ≤ a ∧ 0 ≤ n ∧ 0 ≤ s))))
    0 rfl ⟨rfl, by omega, fun j hj => by omega⟩ ?_ ?_
  · rintro i g' ⟨rfl, hi, hx⟩
    rw [S.head_Pack_c1_eq]
    by_cases hic : i < 5
    · obtain ⟨y, hy⟩ : ∃ y, xs[i]? = some y := ⟨_, List.getElem?_eq_getElem (by simpa [xs] using hic)⟩
      have hp : ([V.int .i64 k, .int .i64 m, .int .i64 a, .int .i64 n, .int .i64 s] : List V)[i]? = some (.int .i64 y) := by
        have : ([V.int .i64 k, .int .i64 m, .int .i64 a, .int .i64 n, .int .i64 s] : List V) = xs.map (.int .i64) := rfl
        rw [this, List.getElem?_map, hy]; rfl
      have hix : indexOf 5 (.int .i64 (i : Int)) = some i := by
        simp only [indexOf, asIAny, show decide ((0 : Int) ≤ (i : Int)) = true from decide_eq_true (by omega), show decide ((i : Int) < ((5 : Nat) : Int)) = true from decide_eq_true (by omega), Bool.and_self, Int.toNat_natCast]
      have w2 : wr .i64 ((i : Int) + 1) = ((i + 1 : Nat) : Int) := by rw [wr64 (by omega) (by omega)]; rfl
      simp only [S.head_Pack_c1_S, decide_eq_true (show (i : Int) < 5 by omega), aggCells, Option.bind_some, hix, part, Nat.mul_one, hp, asI_int, w2]
      by_cases hn : y < 0
      · simp only [decide_eq_true hn]
        refine Ev.some (.inr ⟨by simp, rfl, .inl ⟨rfl, rfl, fun q => ?_⟩⟩)
        have : i = 0 ∨ i = 1 ∨ i = 2 ∨ i = 3 ∨ i = 4 := by omega
        rcases this with rfl | rfl | rfl | rfl | rfl <;> simp [xs] at hy <;> omega
      · simp only [decide_eq_false hn]
        refine Ev.some (.inl ⟨i + 1, rfl, rfl, ⟨rfl, hic, fun j hj z hz => ?_⟩, by omega⟩)
        rcases Nat.lt_or_ge j i with q | q
        · exact hx j q z hz
        · have : j = i := by omega
          subst this
          rw [hy] at hz; cases hz; omega
    · have : i = 5 := by omega
      subst this
      simp only [S.head_Pack_c1_S, show decide (((5 : Nat) : Int) < 5) = false from rfl]
      exact Ev.some (.inr ⟨by simp, rfl, .inr ⟨rfl, rfl, hx 0 (by omega) k rfl, hx 1 (by omega) m rfl, hx 2 (by omega) a rfl, hx 3 (by omega) n rfl, hx 4 (by omega) s rfl⟩⟩)
  · rintro ⟨x, env, g'⟩ ⟨rfl, ⟨rfl, rfl, hn⟩ | ⟨rfl, rfl, p1, p2, p3, p4, p5⟩⟩
    · simp only
      rw [S.head_Pack_c1_r_eq]
      have hr : (⟨k, m, g, a, n, s⟩ : Hdr).right = false := by
        rw [Bool.eq_false_iff, ne_eq, right_iff]; simp only; omega
      unfold pack
      rw [hr]
      exact Ev.some rfl
    · simp only
      rw [S.head_Pack_c1_e0_eq]
      simp only [S.head_Pack_c1_e0, ptrAt_ptr, Option.bind_some, ld1_get', ldB_cells, List.getElem?_cons_zero, List.getElem?_cons_succ, Nat.zero_add, Nat.add_zero, Nat.reduceAdd, Nat.reduceLeDiff, V.one, V.cells, V.beq, ckB_some, asIAny, List.length_cons, List.length_nil, Nat.beq_refl, Bool.and_true, Bool.true_and, Bool.and_self, decide_true, splice, List.take_succ_cons, List.take_zero, List.drop_succ_cons, List.drop_zero, List.cons_append, List.nil_append, fill, repl, opd, boxc, W_call, g0, bit_spec]
      rw [wru64 p1 (by omega), wru64 p2 (by omega), wru64 p3 (by omega), wru64 p4 (by omega), wru64 p5 (by omega)]
      let l : Parts := [(3, k), (1, m), (1, if g then 1 else 0), (4, a), (7, 0), (32, n), (16, s)]
      have hok : okP l := ⟨by simp [l, bitsP], by
        intro p hp
        simp only [l, List.mem_cons, List.not_mem_nil, or_false] at hp
        unfold U64
        rcases hp with rfl | rfl | rfl | rfl | rfl | rfl | rfl <;> simp only <;> (try split) <;> omega⟩
      have hcells : cellsP l = [.int .i64 3, .int .u64 k, .int .i64 1, .int .u64 m, .int .i64 1, .int .u64 (if g then 1 else 0), .int .i64 4, .int .u64 a, .int .i64 7, .int .u64 0, .int .i64 32, .int .u64 n, .int .i64 16, .int .u64 s] := rfl
      refine Ev.bind (wordPack_spec (l := l) hok (ok0.new _) (get_new_self _ _)) ?_
      rintro ⟨v, g2⟩ ⟨rfl, fr⟩
      have hg2 : g2.get q = some (.cells [.int .i64 k, .int .i64 m, .bool g, .int .i64 a, .int .i64 n, .int .i64 s] .rw) :=
        fr.get (ok0.new _) (by rw [get_new_ne (ok0.ne0 g0)]; exact g0) (by simp)
      have hfit : fitP l = (decide (k < 8) && (decide (m < 2) && (decide (a < 16) && (decide (n < 4294967296) && decide (s < 65536))))) := by
        have hg1 : decide ((if g = true then (1 : Int) else 0) < 2) = true := by cases g <;> rfl
        cases g <;> simp [l, fitP] <;> rfl
      have hsum : sumP l = (⟨k, m, g, a, n, s⟩ : Hdr).word := by
        simp only [l, sumP, Hdr.word, Int.reducePow]
        cases g <;> simp only [if_true, Bool.false_eq_true, if_false] <;> omega
      cases hfl : fitP l with
      | false =>
        simp only [Option.bind_some, List.getElem?_cons_zero, List.getElem?_cons_succ, asB_bool, Bool.not_false, if_false, reduceCtorEq]
        have hr : (⟨k, m, g, a, n, s⟩ : Hdr).right = false := by
          rw [hfit] at hfl
          simp only [Bool.and_eq_false_iff, decide_eq_false_iff_not] at hfl
          rw [Bool.eq_false_iff, ne_eq, right_iff]; simp only; omega
        unfold pack
        rw [hr]
        exact Ev.some rfl
      | true =>
        rw [hfit] at hfl
        simp only [Bool.and_eq_true, decide_eq_true_eq] at hfl
        simp only [Option.bind_some, ldB_cells, List.getElem?_cons_zero, List.getElem?_cons_succ, V.one, asI_int, asB_bool, Bool.not_true, if_true, hg2]
        by_cases h4 : 4 < k
        · have hr : (⟨k, m, g, a, n, s⟩ : Hdr).right = false := by
            rw [Bool.eq_false_iff, ne_eq, right_iff]; simp only; omega
          unfold pack
          simp only [decide_eq_true h4, hr]
          exact Ev.some rfl
        · have hr : (⟨k, m, g, a, n, s⟩ : Hdr).right = true := by
            rw [right_iff]; simp only; omega
          unfold pack
          simp only [decide_eq_false h4, hr, if_true, hsum]
          exact Ev.some rfl

theorem black_spec {e : Int} (he : U64 e) (h : H) : C 381 [.int .u64 e] h = some (.int .i64 (black e), h) := by
  have hc : ∀ h, C 442 [.int .u64 e] h = some (.int .u64 (e / 4), h) := fun h => by
    refine call_closed (af := F.turn_Cycle) (by kernel_rfl) rfl (by rfl) (by rfl) h ?_
    rw [S.turn_Cycle_eq]
    simp only [S.turn_Cycle, td he.1]
    rw [wru64 (by have := he.1; omega) (by have := he.2; omega)]
    exact Ev.some rfl
  refine call_closed (af := F.turn_Black) (by kernel_rfl) rfl (by rfl) (by rfl) h ?_
  rw [S.turn_Black_eq]
  obtain ⟨h0, h1⟩ := he
  simp only [S.turn_Black, Option.bind_some, asI_int, W_call, hc]
  rw [wru64 (n := e / 4 + 1) (by omega) (by omega), tm (by omega), wr64 (by omega) (by omega)]
  exact Ev.some rfl

theorem lives_spec {w : Int} (hw : U64 w) (h : H) : C 380 [.int .u64 w] h = some (.tup [.agg (unp w).cs, .bool (lives w)], h) := by
  refine call_closed (af := F.head_lives) (by kernel_rfl) rfl (by rfl) (by rfl) h ?_
  rw [S.head_lives_eq]
  have hl : lives w = (okT w && (decide ((unp w).kind = 1) || decide ((unp w).kind = 2))) := rfl
  rw [hl]
  have n1 : ∀ x : Nat, x ≠ x + 1 := fun x => by omega
  have n2 : ∀ x : Nat, x + 1 ≠ x := fun x => by omega
  cases ho : okT w with
  | false =>
    simp only [S.head_lives, Option.bind_some, Option.map_some, ld1_get', ldN_get', st_get', get_put', get_new', ldNB_cells, stB_cells, H.next_new, List.getElem?_cons_zero, List.getElem?_cons_succ, Nat.zero_add, Nat.reduceAdd, Nat.reduceLeDiff, V.one, V.cells, List.length_cons, List.length_nil, Nat.beq_refl, List.all_cons, List.all_nil, Bool.false_and, Bool.not_true, Bool.false_or, Bool.or_self, Bool.and_self, decide_true, decide_false, if_true, if_false, splice, List.take_succ_cons, List.take_zero, List.drop_succ_cons, List.drop_zero, List.cons_append, List.nil_append, reduceCtorEq, finV, resAllV, resOfV, result, W_call, unpack_spec hw, ho, Hdr.cs, n1, n2]
    exact Ev.some rfl
  | true =>
    by_cases k1 : (unp w).kind = 1
    · simp only [S.head_lives, Option.bind_some, Option.map_some, ld1_get', ldN_get', st_get', get_put', get_new', ldB_cells, ldNB_cells, stB_cells, H.next_new, List.getElem?_cons_zero, List.getElem?_cons_succ, Nat.zero_add, Nat.reduceAdd, Nat.reduceLeDiff, Int.reduceEq, V.one, V.cells, V.beq, ckB_some, asI_int, List.length_cons, List.length_nil, Nat.beq_refl, List.all_cons, List.all_nil, Bool.not_true, Bool.or_false, Bool.false_or, Bool.or_self, Bool.and_self, decide_true, decide_false, if_true, if_false, splice, List.take_succ_cons, List.take_zero, List.drop_succ_cons, List.drop_zero, List.cons_append, List.nil_append, reduceCtorEq, finV, resAllV, resOfV, result, W_call, unpack_spec hw, ho, Hdr.cs, n1, n2, k1]
      exact Ev.some rfl
    · simp only [S.head_lives, Option.bind_some, Option.map_some, ld1_get', ldN_get', st_get', get_put', get_new', ldB_cells, ldNB_cells, stB_cells, H.next_new, List.getElem?_cons_zero, List.getElem?_cons_succ, Nat.zero_add, Nat.reduceAdd, Nat.reduceLeDiff, V.one, V.cells, V.beq, ckB_some, asI_int, List.length_cons, List.length_nil, Nat.beq_refl, List.all_cons, List.all_nil, Bool.true_and, Bool.not_true, Bool.false_or, Bool.or_self, Bool.and_self, decide_true, decide_false, if_true, if_false, splice, List.take_succ_cons, List.take_zero, List.drop_succ_cons, List.drop_zero, List.cons_append, List.nil_append, reduceCtorEq, finV, resAllV, resOfV, result, W_call, unpack_spec hw, ho, Hdr.cs, n1, n2, k1]
      exact Ev.some rfl

theorem white_iff (w e : Int) : white w e = true ↔ lives w = true ∧ (unp w).mark ≠ black e := by
  simp only [white, Bool.and_eq_true, Bool.not_eq_true', decide_eq_false_iff_not, ne_eq]

theorem shadedH_right (w e : Int) : (shadedH w e).right = true := by
  have h1 := unp_right w
  have h2 := black_01 e
  unfold shadedH
  rw [right_iff] at h1 ⊢
  simp only; omega

theorem shaded_spec {w e : Int} (hw : U64 w) (he : U64 e) (h : H) : C 267 [.int .u64 w, .int .u64 e] h = some (.tup [.int .u64 (shaded w e), .bool (white w e)], h) := by
  refine call_closed (af := F.head_Shaded) (by kernel_rfl) rfl (by rfl) (by rfl) h ?_
  rw [S.head_Shaded_eq]
  unfold shaded
  cases hl : lives w with
  | false =>
    have hwh : white w e = false := by unfold white; rw [hl]; rfl
    simp only [S.head_Shaded, Option.bind_some, Option.map_some, ld1_get', ldN_get', st_get', get_new', stB_cells, List.getElem?_cons_zero, List.getElem?_cons_succ, Nat.zero_add, Nat.reduceAdd, Nat.reduceLeDiff, V.one, V.cells, asB_bool, List.length_cons, List.length_nil, Nat.beq_refl, List.all_cons, List.all_nil, Bool.not_true, Bool.not_false, Bool.false_or, Bool.or_self, Bool.and_self, decide_true, decide_false, if_true, if_false, splice, List.take_zero, List.drop_succ_cons, List.drop_zero, List.cons_append, List.nil_append, reduceCtorEq, W_call, lives_spec hw, hl, Hdr.cs, hwh, Bool.false_eq_true]
    exact Ev.some rfl
  | true =>
    by_cases hm : (unp w).mark = black e
    · have hwh : white w e = false := by unfold white; rw [hl, decide_eq_true hm]; rfl
      simp only [S.head_Shaded, Option.bind_some, Option.map_some, ld1_get', ldN_get', st_get', get_put', get_new', put_put', ldB_cells, ldNB_cells, stB_cells, List.getElem?_cons_zero, List.getElem?_cons_succ, Nat.zero_add, Nat.reduceAdd, Nat.reduceLeDiff, V.one, V.cells, V.beq, ckB_some, asI_int, asB_bool, List.length_cons, List.length_nil, Nat.beq_refl, List.all_cons, List.all_nil, Bool.not_true, Bool.false_or, Bool.or_self, Bool.and_self, decide_true, decide_false, if_true, if_false, splice, List.take_succ_cons, List.take_zero, List.drop_succ_cons, List.drop_zero, List.cons_append, List.nil_append, reduceCtorEq, W_call, lives_spec hw, hl, Hdr.cs, hwh, black_spec he, hm, Bool.false_eq_true]
      exact Ev.some rfl
    · have hwh : white w e = true := by unfold white; rw [hl, decide_eq_false hm]; rfl
      have hp := headPack_spec (right_i64 (shadedH_right w e))
      unfold shadedH Hdr.cs at hp
      simp only [S.head_Shaded, Option.bind_some, Option.map_some, ld1_get', ldN_get', st_get', get_put', get_new', put_put', ldB_cells, ldNB_cells, stB_cells, List.getElem?_cons_zero, List.getElem?_cons_succ, Nat.zero_add, Nat.reduceAdd, Nat.reduceLeDiff, V.one, V.cells, V.beq, ckB_some, asI_int, asB_bool, List.length_cons, List.length_nil, Nat.beq_refl, List.all_cons, List.all_nil, Bool.not_true, Bool.false_or, Bool.or_self, Bool.and_self, decide_true, decide_false, if_true, splice, List.take_succ_cons, List.take_zero, List.drop_succ_cons, List.drop_zero, List.cons_append, List.nil_append, reduceCtorEq, W_call, lives_spec hw, hl, Hdr.cs, hwh, black_spec he, hm, hp]
      have hr := shadedH_right w e
      unfold shadedH at hr
      unfold pack shadedH
      rw [hr]
      exact Ev.some rfl

theorem marked_spec {w e : Int} (hw : U64 w) (he : U64 e) (h : H) : C 317 [.int .u64 w, .int .u64 e] h = some (.bool (lives w && decide ((unp w).mark = black e)), h) := by
  refine call_closed (af := F.head_Marked) (by kernel_rfl) rfl (by rfl) (by rfl) h ?_
  rw [S.head_Marked_eq]
  cases hl : lives w with
  | false =>
    simp only [S.head_Marked, Option.bind_some, Option.map_some, ld1_get', st_get', get_new', stB_cells, List.getElem?_cons_zero, List.getElem?_cons_succ, Nat.zero_add, Nat.reduceAdd, Nat.reduceLeDiff, V.one, V.cells, List.length_cons, List.length_nil, Nat.beq_refl, List.all_cons, List.all_nil, Bool.false_and, Bool.not_true, Bool.false_or, Bool.or_self, Bool.and_self, decide_true, decide_false, if_true, splice, List.take_zero, List.drop_succ_cons, List.drop_zero, List.cons_append, List.nil_append, reduceCtorEq, W_call, lives_spec hw, hl, Hdr.cs]
    exact Ev.some rfl
  | true =>
    simp only [S.head_Marked, Option.bind_some, Option.map_some, ld1_get', st_get', get_put', get_new', ldB_cells, stB_cells, List.getElem?_cons_zero, List.getElem?_cons_succ, Nat.zero_add, Nat.reduceAdd, Nat.reduceLeDiff, V.one, V.cells, V.beq, ckB_some, asI_int, List.length_cons, List.length_nil, Nat.beq_refl, List.all_cons, List.all_nil, Bool.true_and, Bool.not_true, Bool.false_or, Bool.or_self, Bool.and_self, decide_true, decide_false, if_true, splice, List.take_zero, List.drop_succ_cons, List.drop_zero, List.cons_append, List.nil_append, reduceCtorEq, W_call, lives_spec hw, hl, Hdr.cs, black_spec he]
    exact Ev.some rfl

end Wm
end

section
/- What the references' functions of the first layers come to. -/
namespace Wm
attribute [local congr] bind_congr1

theorem refBlack_spec {e : Int} (he : U64 e) (h : H) : C 110 [.int .u64 e] h = some (.int .i64 (black e), h) := by
  refine call_closed (af := F.withyref03_Black) (by kernel_rfl) rfl (by rfl) (by rfl) h ?_
  rw [S.withyref03_Black_eq]
  obtain ⟨h0, h1⟩ := he
  unfold black
  simp only [S.withyref03_Black, td h0]
  rw [wru64 (by omega) (by omega), tm (by omega)]
  by_cases h2 : e / 4 % 2 = 0
  · simp only [h2, decide_true]; exact Ev.some (show V.int _ _ = V.int _ _ by congr 1; omega)
  · simp only [h2, decide_false]; exact Ev.some (show V.int _ _ = V.int _ _ by congr 1; omega)

theorem refPack_spec {x : Hdr} (hx : x.right = true) (h : H) : C 111 [.agg x.cs] h = some (.int .u64 x.word, h) := by
  refine call_closed (af := F.withyref04_Pack) (by kernel_rfl) rfl (by rfl) (by rfl) h ?_
  rw [right_iff] at hx
  obtain ⟨k, m, g, a, n, s⟩ := x
  simp only at hx
  unfold Hdr.cs
  rw [S.withyref04_Pack_eq]
  simp only [S.withyref04_Pack, Option.bind_some, ld1_get', get_new', ldB_cells, List.getElem?_cons_zero, List.getElem?_cons_succ, V.one, asB_bool, asIAny, if_true]
  rw [wru64 (n := k) (by omega) (by omega), wru64 (n := m) (by omega) (by omega), wru64 (n := a) (by omega) (by omega), wru64 (n := n) (by omega) (by omega), wru64 (n := s) (by omega) (by omega), wru64 (n := 8 * m) (by omega) (by omega), wru64 (n := 32 * a) (by omega) (by omega), wru64 (n := 65536 * n) (by omega) (by omega), wru64 (n := 281474976710656 * s) (by omega) (by omega), wru64 (n := k + 8 * m) (by omega) (by omega), wru64 (n := k + 8 * m + 32 * a) (by omega) (by omega), wru64 (n := k + 8 * m + 32 * a + 65536 * n) (by omega) (by omega), wru64 (n := k + 8 * m + 32 * a + 65536 * n + 281474976710656 * s) (by omega) (by omega)]
  cases g with
  | true =>
    simp only
    rw [wru64 (by omega) (by omega)]
    exact Ev.some (show V.int _ _ = V.int _ _ by unfold Hdr.word; simp only [if_true]; congr 1; omega)
  | false =>
    exact Ev.some (show V.int _ _ = V.int _ _ by unfold Hdr.word; simp only [Bool.false_eq_true, if_false]; congr 1; omega)

theorem refRight_spec (x : Hdr) (h : H) : C 202 [.agg x.cs] h = some (.bool x.right, h) := by
  refine call_closed (af := F.withyref04_Right) (by kernel_rfl) rfl (by rfl) (by rfl) h ?_
  have e := right_iff x
  generalize x.right = r at e
  obtain ⟨k, m, g, a, n, s⟩ := x
  simp only at e
  unfold Hdr.cs
  rw [S.withyref04_Right_eq]
  simp only [S.withyref04_Right, Option.bind_some, ld1_get', get_new', ldB_cells, List.getElem?_cons_zero, List.getElem?_cons_succ, V.one, asI_int, if_true]
  have key : ∀ b : Bool, (b = true ↔ r = true) → (V.bool b, (h : H)).1 = V.bool r := fun b hb => by
    cases b <;> cases r <;> simp_all
  by_cases c1 : 0 ≤ k
  · by_cases c2 : k ≤ 4
    · by_cases c3 : m = 0
      · by_cases c4 : 0 ≤ a
        · by_cases c5 : a ≤ 15
          · by_cases c6 : 0 ≤ n
            · by_cases c7 : n ≤ 4294967295
              · by_cases c8 : 0 ≤ s
                · simp only [c1, c2, c3, c4, c5, c6, c7, c8, decide_true]; exact Ev.some (key _ (by rw [e, decide_eq_true_eq]; omega))
                · simp only [c1, c2, c3, c4, c5, c6, c7, c8, decide_true, decide_false]; exact Ev.some (key _ (by rw [e]; simp; omega))
              · simp only [c1, c2, c3, c4, c5, c6, c7, decide_true, decide_false]; exact Ev.some (key _ (by rw [e]; simp; omega))
            · simp only [c1, c2, c3, c4, c5, c6, decide_true, decide_false]; exact Ev.some (key _ (by rw [e]; simp; omega))
          · simp only [c1, c2, c3, c4, c5, decide_true, decide_false]; exact Ev.some (key _ (by rw [e]; simp; omega))
        · simp only [c1, c2, c3, c4, decide_true, decide_false]; exact Ev.some (key _ (by rw [e]; simp; omega))
      · by_cases c3' : m = 1
        · by_cases c4 : 0 ≤ a
          · by_cases c5 : a ≤ 15
            · by_cases c6 : 0 ≤ n
              · by_cases c7 : n ≤ 4294967295
                · by_cases c8 : 0 ≤ s
                  · simp only [c1, c2, c3', c4, c5, c6, c7, c8, decide_true, decide_false, Int.reduceEq]; exact Ev.some (key _ (by rw [e, decide_eq_true_eq]; omega))
                  · simp only [c1, c2, c3', c4, c5, c6, c7, c8, decide_true, decide_false, Int.reduceEq]; exact Ev.some (key _ (by rw [e]; simp; omega))
                · simp only [c1, c2, c3', c4, c5, c6, c7, decide_true, decide_false, Int.reduceEq]; exact Ev.some (key _ (by rw [e]; simp; omega))
              · simp only [c1, c2, c3', c4, c5, c6, decide_true, decide_false, Int.reduceEq]; exact Ev.some (key _ (by rw [e]; simp; omega))
            · simp only [c1, c2, c3', c4, c5, decide_true, decide_false, Int.reduceEq]; exact Ev.some (key _ (by rw [e]; simp; omega))
          · simp only [c1, c2, c3', c4, decide_true, decide_false, Int.reduceEq]; exact Ev.some (key _ (by rw [e]; simp; omega))
        · simp only [c1, c2, c3, c3', decide_true, decide_false]; exact Ev.some (key _ (by rw [e]; simp; omega))
    · simp only [c1, c2, decide_true, decide_false]; exact Ev.some (key _ (by rw [e]; simp; omega))
  · simp only [c1, decide_false]; exact Ev.some (key _ (by rw [e]; simp; omega))

theorem refLives_spec {w : Int} (hw : U64 w) (h : H) : C 112 [.int .u64 w] h = some (.bool (lives w), h) := by
  refine call_closed (af := F.withyref04_Lives) (by kernel_rfl) rfl (by rfl) (by rfl) h ?_
  rw [S.withyref04_Lives_eq]
  unfold lives
  cases ho : okT w with
  | false =>
    simp only [S.withyref04_Lives, Option.bind_some, Option.map_some, ld1_get', st_get', get_new', stB_cells, List.getElem?_cons_zero, List.getElem?_cons_succ, Nat.zero_add, Nat.reduceAdd, Nat.reduceLeDiff, V.one, V.cells, List.length_cons, List.length_nil, Nat.beq_refl, List.all_cons, List.all_nil, Bool.false_and, Bool.not_true, Bool.false_or, Bool.or_self, Bool.and_self, decide_true, decide_false, if_true, splice, List.take_zero, List.drop_succ_cons, List.drop_zero, List.cons_append, List.nil_append, reduceCtorEq, W_call, refUnp_spec hw, ho, Hdr.cs]
    exact Ev.some rfl
  | true =>
    by_cases k1 : (unp w).kind = 1
    · simp only [S.withyref04_Lives, Option.bind_some, Option.map_some, ld1_get', st_get', get_put', get_new', ldB_cells, stB_cells, List.getElem?_cons_zero, List.getElem?_cons_succ, Nat.zero_add, Nat.reduceAdd, Nat.reduceLeDiff, Int.reduceEq, V.one, V.cells, asI_int, List.length_cons, List.length_nil, Nat.beq_refl, List.all_cons, List.all_nil, Bool.not_true, Bool.or_false, Bool.false_or, Bool.or_self, Bool.and_self, decide_true, decide_false, if_true, splice, List.take_zero, List.drop_succ_cons, List.drop_zero, List.cons_append, List.nil_append, reduceCtorEq, W_call, refUnp_spec hw, ho, Hdr.cs, k1]
      exact Ev.some rfl
    · simp only [S.withyref04_Lives, Option.bind_some, Option.map_some, ld1_get', st_get', get_put', get_new', ldB_cells, stB_cells, List.getElem?_cons_zero, List.getElem?_cons_succ, Nat.zero_add, Nat.reduceAdd, Nat.reduceLeDiff, V.one, V.cells, asI_int, List.length_cons, List.length_nil, Nat.beq_refl, List.all_cons, List.all_nil, Bool.true_and, Bool.not_true, Bool.false_or, Bool.or_self, Bool.and_self, decide_true, decide_false, if_true, splice, List.take_zero, List.drop_succ_cons, List.drop_zero, List.cons_append, List.nil_append, reduceCtorEq, W_call, refUnp_spec hw, ho, Hdr.cs, k1]
      exact Ev.some rfl

def markedW (w e : Int) : Bool := lives w && decide ((unp w).mark = black e)
theorem refMarked_spec {w e : Int} (hw : U64 w) (he : U64 e) (h : H) : C 113 [.int .u64 w, .int .u64 e] h = some (.bool (markedW w e), h) := by
  refine call_closed (af := F.withyref04_Marked) (by kernel_rfl) rfl (by rfl) (by rfl) h ?_
  rw [S.withyref04_Marked_eq]
  unfold markedW
  cases hl : lives w with
  | false =>
    simp only [S.withyref04_Marked, Option.bind_some, Option.map_some, ld1_get', st_get', get_new', stB_cells, List.getElem?_cons_zero, List.getElem?_cons_succ, Nat.zero_add, Nat.reduceAdd, Nat.reduceLeDiff, V.one, V.cells, List.length_cons, List.length_nil, Nat.beq_refl, List.all_cons, List.all_nil, Bool.false_and, Bool.not_true, Bool.false_or, Bool.or_self, Bool.and_self, decide_true, decide_false, if_true, splice, List.take_zero, List.drop_succ_cons, List.drop_zero, List.cons_append, List.nil_append, reduceCtorEq, W_call, refUnp_spec hw, Hdr.cs, refLives_spec hw, hl]
    exact Ev.some rfl
  | true =>
    simp only [S.withyref04_Marked, Option.bind_some, Option.map_some, ld1_get', st_get', get_put', get_new', ldB_cells, stB_cells, List.getElem?_cons_zero, List.getElem?_cons_succ, Nat.zero_add, Nat.reduceAdd, Nat.reduceLeDiff, V.one, V.cells, V.beq, ckB_some, asI_int, List.length_cons, List.length_nil, Nat.beq_refl, List.all_cons, List.all_nil, Bool.true_and, Bool.not_true, Bool.false_or, Bool.or_self, Bool.and_self, decide_true, decide_false, if_true, splice, List.take_zero, List.drop_succ_cons, List.drop_zero, List.cons_append, List.nil_append, reduceCtorEq, W_call, refUnp_spec hw, Hdr.cs, refLives_spec hw, hl, refBlack_spec he]
    exact Ev.some rfl

/-! ### A config made right -/
def fitT (n lo hi : Int) : Int := lo + n % 18446744073709551616 % (hi - lo + 1)
def Cfg.fit (k : Cfg) : Cfg := ⟨fitT k.s 1 12, fitT k.a 0 4, fitT k.c 1 4, fitT k.hd 1 4, fitT k.g 1 40, fitT k.st 0 6⟩

theorem fit_spec (n : Int) {lo hi : Int} (h0 : 0 ≤ lo) (h1 : lo ≤ hi) (h2 : hi ≤ 1000) (h : H) : C 270 [.int .i64 n, .int .i64 lo, .int .i64 hi] h = some (.int .i64 (fitT n lo hi), h) := by
  refine call_closed (af := F.withyref06_fit) (by kernel_rfl) rfl (by rfl) (by rfl) h ?_
  rw [S.withyref06_fit_eq]
  have e1 : wr .u64 n = n % 18446744073709551616 := rfl
  have hb := Int.emod_nonneg (n % 18446744073709551616) (show hi - lo + 1 ≠ 0 by omega)
  have hl := Int.emod_lt_of_pos (n % 18446744073709551616) (show 0 < hi - lo + 1 by omega)
  have hne : ¬ (hi - lo + 1 = 0) := by omega
  simp only [S.withyref06_fit]
  rw [wr64 (n := hi - lo) (by omega) (by omega), wr64 (n := hi - lo + 1) (by omega) (by omega), wru64 (n := hi - lo + 1) (by omega) (by omega)]
  simp only [arith, decide_eq_false hne, Option.bind_some, e1]
  rw [tm (by omega), wr64 (n := _ % (hi - lo + 1)) (by omega) (by omega), wr64 (by omega) (by omega)]
  exact Ev.some rfl

theorem Cfg.fit_R (k : Cfg) : k.fit.R = true := by
  rw [Cfg.R_iff]
  unfold Cfg.fit fitT
  simp only
  omega
theorem Fit_spec (k : Cfg) (h : H) : C 92 [k.v] h = some (k.fit.v, h) := by
  refine call_closed (af := F.withyref06_Fit) (by kernel_rfl) rfl (by rfl) (by rfl) h ?_
  obtain ⟨s, a, c, hd, g, st⟩ := k
  unfold Cfg.v cfgV
  rw [S.withyref06_Fit_eq]
  have n1 : ∀ x : Nat, x ≠ x + 1 := fun x => by omega
  have n2 : ∀ x : Nat, x + 1 ≠ x := fun x => by omega
  simp only [S.withyref06_Fit, Option.bind_some, Option.map_some, ld1_get', ldN_get', st_get', get_put', get_new', ldB_cells, ldNB_cells, stB_cells, H.next_new, List.getElem?_cons_zero, List.getElem?_cons_succ, Nat.zero_add, Nat.reduceAdd, Nat.reduceLeDiff, V.one, V.cells, V.beq, ckB_some, List.length_cons, List.length_nil, Nat.beq_refl, List.all_cons, List.all_nil, Bool.and_true, Bool.true_and, Bool.not_true, Bool.or_self, Bool.and_self, decide_true, decide_false, if_true, if_false, splice, List.take_succ_cons, List.take_zero, List.drop_succ_cons, List.drop_zero, List.cons_append, List.nil_append, reduceCtorEq, fill, opd, boxc, finV, resAllV, resOfV, result, W_call, n1, n2, fit_spec s (lo := 1) (hi := 12) (by decide) (by decide) (by decide), fit_spec a (lo := 0) (hi := 4) (by decide) (by decide) (by decide), fit_spec c (lo := 1) (hi := 4) (by decide) (by decide) (by decide), fit_spec hd (lo := 1) (hi := 4) (by decide) (by decide) (by decide), fit_spec g (lo := 1) (hi := 40) (by decide) (by decide) (by decide), fit_spec st (lo := 0) (hi := 6) (by decide) (by decide) (by decide)]
  exact Ev.some rfl
end Wm
end

section
/- All words of a config, and those of a memory in which nothing was done: withyref06.Words, Memory. -/
namespace Wm
attribute [local congr] bind_congr1
attribute [local irreducible] wr

theorem Words_spec {k : Cfg} (hr : k.R = true) {h : H} (ok : h.ok) : ∃ (g : H) (b : Nat) (c : Cap) (kk : Bk), C 87 [k.v] h = some (.sl b 0 k.size c, g) ∧ Fr [] h g ∧ h.next ≤ b ∧ g.get b = some (.cells (k.locs.map Wd.cells).flatten kk) := by
  obtain ⟨x, L, hW, hA⟩ := words_spec (s := k.s) (a := k.a) (c := k.c) (hd := k.hd) (g := k.g) (st := k.st) hr ok
  have hn : sizeW k.S k.room k.C k.H = k.size := by unfold sizeW Cfg.size Cfg.base; omega
  change Acc h L x 3 (sizeW k.S k.room k.C k.H) (wordsW k.S k.room k.C k.H) at hA
  rw [hn, words_flat] at hA
  have hfr : ∀ l, Fr [] h (h.ext l) := fun l => ⟨by rw [H.ext_next]; omega, ok.ext l, fun b hb _ => H.ext_old hb⟩
  obtain ⟨_, _, j, ⟨rfl, hj⟩ | ⟨rfl, hj⟩⟩ := hA
  · exact ⟨_, _, _, _, hW, hfr _, by omega, by rw [H.ext_get' ok, List.getElem?_cons_succ, hj]; rfl⟩
  · exact ⟨_, _, _, _, hW, hfr _, by omega, by rw [H.ext_get' ok, List.getElem?_cons_succ, hj]; rfl⟩

theorem locs3 (k : Cfg) : ∀ x ∈ k.locs.map Wd.cells, x.length = 3 := fun x hx => by
  obtain ⟨l, _, rfl⟩ := List.mem_map.mp hx; rfl
theorem locs_cells {k : Cfg} {i : Nat} {l : Wd} (hl : k.locs[i]? = some l) (r : Nat) (hr : r < 3) : ((k.locs.map Wd.cells).flatten)[i * 3 + r]? = l.cells[r]? := by
  have h1 := flat_part (locs3 k) i l.cells (by rw [List.getElem?_map, hl]; rfl)
  have h2 := congrArg (fun x => x[r]?) h1
  simp only [List.getElem?_take, List.getElem?_drop, if_pos hr] at h2
  exact h2

/-- The words of a memory in which nothing was done. -/
def mem0 (k : Cfg) : Wd → Int
  | .clock => 1
  | .top => 1
  | .link q => if (q : Int) + 1 < k.s then q + 2 else 0
  | _ => 0
def mem00 : Wd → Int
  | .clock => 1
  | .top => 1
  | _ => 0

/-- The words, as a list, of what each word is. -/
def Cfg.row (k : Cfg) (f : Wd → Int) : List Int := k.locs.map f
theorem row_length (k : Cfg) (f : Wd → Int) : (k.row f).length = k.size := by unfold Cfg.row; rw [List.length_map, locs_length]
theorem row_at {k : Cfg} {f : Wd → Int} {l : Wd} (hl : l.ok k) : (k.row f)[l.pos k]? = some (f l) := by unfold Cfg.row; rw [List.getElem?_map, at_locs hl]; rfl
/-- A word is another one. -/
def wset (f : Wd → Int) (l : Wd) (v : Int) : Wd → Int := fun m => if m = l then v else f m
theorem wset_same (f : Wd → Int) (l : Wd) (v : Int) : wset f l v l = v := if_pos rfl
theorem wset_ne {f : Wd → Int} {l m : Wd} {v : Int} (h : m ≠ l) : wset f l v m = f m := if_neg h
theorem row_set {k : Cfg} {f : Wd → Int} {l : Wd} {v : Int} (hl : l.ok k) : (k.row f).set (l.pos k) v = k.row (wset f l v) := by
  apply List.ext_getElem?
  intro i
  unfold Cfg.row
  rw [List.getElem?_set, List.getElem?_map, List.getElem?_map]
  by_cases hi : l.pos k = i
  · subst hi
    rw [if_pos rfl, if_pos (by rw [List.length_map, locs_length]; exact pos_lt hl), at_locs hl]
    simp only [Option.map_some, wset_same]
  · rw [if_neg hi]
    cases hx : k.locs[i]? with
    | none => rfl
    | some m =>
      simp only [Option.map_some]
      rw [wset_ne]
      rintro rfl
      exact hi (locs_at hx)
theorem row_congr {k : Cfg} {f g : Wd → Int} (h : ∀ l, l.ok k → f l = g l) : k.row f = k.row g := List.map_congr_left fun l hl => h l (mem_locs.mp hl)

theorem row_st2 {g : H} {b : Nat} {ws : List Int} {kk : Bk} (hk : kk ≠ .ro) (hg : g.get b = some (.cells (ws.map (.int .u64)) kk)) {i : Nat} (hi : i < ws.length) (v : Int) : g.st 1 (.ptr b i) (.int .u64 v) = some (g.put b (some (.cells ((ws.set i v).map (.int .u64)) kk))) := by
  rw [st1_get hg hk rfl (by rw [List.length_map]; exact hi), List.map_set]

theorem sl_idx {b n i e : Nat} {c : Cap} (hi : i < n) : indexAV e (.sl b 0 n c) (.int .i64 (i : Int)) = some (.ptr b (i * e)) := by
  simp only [indexAV, indexOf, asIAny, show decide ((0 : Int) ≤ (i : Int)) = true from decide_eq_true (by omega), show decide ((i : Int) < (n : Int)) = true from decide_eq_true (by omega), Bool.and_self, Nat.zero_add, Int.toNat_natCast]
theorem sl_idx1 {b n i : Nat} {c : Cap} (hi : i < n) : indexAV 1 (.sl b 0 n c) (.int .i64 (i : Int)) = some (.ptr b i) := by rw [sl_idx hi, Nat.mul_one]

def memF (k : Cfg) (i : Nat) (l : Wd) : Int := if l.pos k < i then mem0 k l else mem00 l

theorem memF_set {k : Cfg} {l : Wd} (hlo : l.ok k) : k.row (memF k (l.pos k + 1)) = (k.row (memF k (l.pos k))).set (l.pos k) (mem0 k l) := by
  rw [row_set hlo]
  apply row_congr
  intro m hm
  simp only [memF, wset]
  by_cases he : m = l
  · subst he; rw [if_pos (Nat.lt_succ_self _), if_pos rfl]
  · rw [if_neg he]
    have hne : m.pos k ≠ l.pos k := fun q => he (pos_inj hm hlo q)
    clear he hm hlo
    by_cases hq : m.pos k < l.pos k
    · rw [if_pos (Nat.lt_succ_of_lt hq), if_pos hq]
    · rw [if_neg (by omega), if_neg hq]
theorem memF_same {k : Cfg} {l : Wd} (hlo : l.ok k) (hl : mem0 k l = mem00 l) : k.row (memF k (l.pos k + 1)) = k.row (memF k (l.pos k)) := by
  apply row_congr
  intro m hm
  simp only [memF]
  by_cases he : m = l
  · subst he; rw [if_pos (Nat.lt_succ_self _), if_neg (Nat.lt_irrefl _), hl]
  · have hne : m.pos k ≠ l.pos k := fun q => he (pos_inj hm hlo q)
    clear he hm hlo
    by_cases hq : m.pos k < l.pos k
    · rw [if_pos (Nat.lt_succ_of_lt hq), if_pos hq]
    · rw [if_neg (by omega), if_neg hq]
theorem who_le {k : Cfg} (hr : k.R = true) {l : Wd} (hl : l.ok k) : l.who ≤ 64 := by
  have hb := Cfg.bounds hr
  cases l <;> simp only [Wd.ok, Wd.who] at hl ⊢ <;> omega
theorem natlt {i n : Nat} (h : i < n) : decide ((i : Int) < (n : Int)) = true := decide_eq_true (Int.ofNat_lt.mpr h)
theorem link_name (l : Wd) : (l.name.toList == (⟨⟨[108, 105, 110, 107]⟩⟩ : ByteArray).toList) = decide (l.tag = 9) := by
  have h := name_eq l (.link 0)
  have e : (Wd.link 0).name = (⟨⟨[108, 105, 110, 107]⟩⟩ : ByteArray) := rfl
  rw [e] at h
  exact h

theorem Memory_spec {k : Cfg} (hr : k.R = true) {h : H} (ok : h.ok) : ∃ (g : H) (b : Nat), C 86 [k.v] h = some (.sl b 0 k.size (.ex k.size), g) ∧ Fr [] h g ∧ h.next ≤ b ∧ b < g.next ∧ g.get b = some (.cells ((k.row (mem0 k)).map (.int .u64)) .rw) := by
  have hb := Cfg.bounds hr
  have hsz : 4 ≤ k.size := by unfold Cfg.size Cfg.base; omega
  have hev : Ev (C 86 [k.v] h) fun r => ∃ b, r.1 = .sl b 0 k.size (.ex k.size) ∧ Fr [] h r.2 ∧ h.next ≤ b ∧ b < r.2.next ∧ r.2.get b = some (.cells ((k.row (mem0 k)).map (.int .u64)) .rw) := by
    refine call_ev (af := F.withyref06_Memory) (by kernel_rfl) rfl ?_
    obtain ⟨g0, bw, cw, kw, e0, f0, n0, w0⟩ := Words_spec hr (ok.new (.cells k.cs .rw))
    have hcs : (Blk.cells k.cs .rw) = .cells [.int .i64 k.s, .int .i64 k.a, .int .i64 k.c, .int .i64 k.hd, .int .i64 k.g, .int .i64 k.st] .rw := rfl
    have hv : k.v = .agg [.int .i64 k.s, .int .i64 k.a, .int .i64 k.c, .int .i64 k.hd, .int .i64 k.g, .int .i64 k.st] := rfl
    rw [hv, S.withyref06_Memory_eq]
    rw [hv, hcs] at e0
    have hcfg : g0.get h.next = some (.cells [.int .i64 k.s, .int .i64 k.a, .int .i64 k.c, .int .i64 k.hd, .int .i64 k.g, .int .i64 k.st] .rw) := f0.get (ok.new _) (get_new_self _ _) (by simp)
    rw [H.next_new] at n0
    have hmk : g0.mkSl 1 8 [V.int .u64 0] (k.size : Int) (k.size : Int) = some (.sl g0.next 0 k.size (.ex k.size), g0.new (.cells (repl [V.int .u64 0] k.size) .rw)) := by
      rw [mkSl_ok (e := 1) (b := 8) (z := [V.int .u64 0]) (l := (k.size : Int)) (c := (k.size : Int)) (by omega) (by omega) (by omega) (by omega) rfl (by omega)]
      simp only [Int.toNat_natCast]
    simp only [S.withyref06_Memory, lenSl_sl, Option.bind_some, ldN_get', get_new', ldNB_cells, Nat.zero_add, Nat.reduceAdd, Nat.reduceLeDiff, List.length_cons, List.length_nil, decide_true, if_true, List.take_succ_cons, List.take_zero, List.drop_zero, W_call, e0, hmk]
    have hrep : (repl [V.int .u64 0] k.size) = (List.replicate k.size (0 : Int)).map (.int .u64) := repl_map _
    rw [hrep]
    generalize hg1 : g0.new (.cells ((List.replicate k.size (0 : Int)).map (V.int .u64)) .rw) = g1
    have hg1g : g1.get g0.next = some (.cells ((List.replicate k.size (0 : Int)).map (V.int .u64)) .rw) := by rw [← hg1]; exact get_new_self _ _
    have hfr1 : Fr [] h g1 := by rw [← hg1]; exact (((Fr.refl ok).new _).trans' f0).new _
    have hw1 : g1.get bw = some (.cells (k.locs.map Wd.cells).flatten kw) := by rw [← hg1, get_new_ne (f0.ok.ne0 w0)]; exact w0
    have hcfg1 : g1.get h.next = some (.cells [.int .i64 k.s, .int .i64 k.a, .int .i64 k.c, .int .i64 k.hd, .int .i64 k.g, .int .i64 k.st] .rw) := by rw [← hg1, get_new_ne (f0.ok.ne0 hcfg)]; exact hcfg
    have hbwne : bw ≠ g0.next := f0.ok.ne0 w0
    have hcne : h.next ≠ g0.next := f0.ok.ne0 hcfg
    have hle : h.next < g0.next := by have := f0.le; rw [H.next_new] at this; omega
    generalize hz : g0.next = z at hg1g hbwne hcne hle ⊢
    have hzn : z < g1.next := by rw [← hg1, H.next_new]; omega
    clear hg1 hmk e0 f0
    have i0 := sl_idx1 (b := z) (n := k.size) (i := 0) (c := .ex k.size) (by omega)
    have i3 := sl_idx1 (b := z) (n := k.size) (i := 3) (c := .ex k.size) (by omega)
    rw [show indexAV 1 (.sl z 0 k.size (.ex k.size)) (.int .i64 0) = some (.ptr z 0) from i0]
    simp only [Option.bind_some]
    rw [row_st2 (by decide) hg1g (by rw [List.length_replicate]; omega)]
    simp only [Option.bind_some]
    rw [show indexAV 1 (.sl z 0 k.size (.ex k.size)) (.int .i64 3) = some (.ptr z 3) from i3]
    simp only [Option.bind_some]
    rw [row_st2 (by decide) (get_put_self _ _ _) (by rw [List.length_set, List.length_replicate]; omega), put_put']
    simp only [Option.bind_some]
    have hinit : ((List.replicate k.size (0 : Int)).set 0 1).set 3 1 = k.row mem00 := by
      have e : List.replicate k.size (0 : Int) = k.row (fun _ => 0) := by
        unfold Cfg.row; rw [← locs_length]; rw [List.map_const']
      rw [e]
      have h1 := row_set (k := k) (f := fun _ => 0) (l := .clock) (v := 1) trivial
      have h2 := row_set (k := k) (f := wset (fun _ => 0) .clock 1) (l := .top) (v := 1) trivial
      change (k.row _).set 0 1 = _ at h1
      change (k.row _).set 3 1 = _ at h2
      rw [h1, h2]
      apply row_congr
      intro l _
      cases l <;> simp [wset, mem00]
    rw [hinit]
    -- what stands behind so many rounds
    have hF0 : memF k 0 = mem00 := by funext l; simp [memF]
    refine loop_ev (α := Nat) (fun i => S.withyref06_Memory_c1_E (.ptr h.next 0) (.sl bw 0 k.size cw) (.sl z 0 k.size (.ex k.size)) (.int .i64 i))
      (fun i g => i ≤ k.size ∧ g = g1.put z (some (.cells ((k.row (memF k i)).map (.int .u64)) .rw))) (fun i _ => k.size - i)
      (fun r => r = (.exit 0, S.withyref06_Memory_c1_O (.sl z 0 k.size (.ex k.size)), g1.put z (some (.cells ((k.row (memF k k.size)).map (.int .u64)) .rw)))) 0 rfl ⟨by omega, by rw [hF0]⟩ ?_ ?_
    · rintro i g ⟨hi, rfl⟩
      rw [S.withyref06_Memory_c1_eq]
      by_cases hic : i < k.size
      · obtain ⟨l, hl⟩ : ∃ l, k.locs[i]? = some l := ⟨_, List.getElem?_eq_getElem (by rw [locs_length]; exact hic)⟩
        have hlo := mem_locs.mp (List.mem_of_getElem? hl)
        have hlp := locs_at hl
        have ix := sl_idx (b := bw) (n := k.size) (i := i) (e := 3) (c := cw) hic
        have ix2 := sl_idx1 (b := z) (n := k.size) (i := i) (c := .ex k.size) hic
        have c0 := locs_cells hl 0 (by omega)
        have c1 := locs_cells hl 1 (by omega)
        simp only [Nat.add_zero] at c0
        have w1 : wr .i64 ((i : Int) + 1) = ((i + 1 : Nat) : Int) := by rw [wr64 (by omega) (by omega)]; rfl
        have hwho : (l.who : Int) ≤ 64 := by
          have := who_le hr hlo
          omega
        have w2 : wr .i64 ((l.who : Int) + 1) = (l.who : Int) + 1 := wr64 (by omega) (by omega)
        have w3 : wr .u64 (wr .i64 ((l.who : Int) + 2)) = (l.who : Int) + 2 := ar_link (Int.natCast_nonneg _) hwho
        have hmu : k.size - (i + 1) < k.size - i := Nat.sub_lt_sub_left hic (Nat.lt_succ_self i)
        have hFs : ∀ v, mem0 k l = v → k.row (memF k (i + 1)) = (k.row (memF k i)).set i v := by
          rintro v rfl
          rw [← hlp]; exact memF_set hlo
        have hFsame : mem0 k l = mem00 l → k.row (memF k (i + 1)) = k.row (memF k i) := fun he => by
          rw [← hlp]; exact memF_same hlo he
        have hnm' := link_name l
        rw [show l.cells[0]? = some (.str l.name) from rfl] at c0
        rw [show l.cells[1]? = some (.int .i64 l.who) from rfl] at c1
        generalize l.name = nm at c0 hnm'
        generalize hB : (nm.toList == (⟨⟨[108, 105, 110, 107]⟩⟩ : ByteArray).toList) = B at hnm'
        generalize (k.locs.map Wd.cells).flatten = W3 at hw1 c0 c1
        generalize hwh : (l.who : Int) = who at c1 w1 w2 w3 hwho
        have hlt : decide ((i : Int) < (k.size : Int)) = true := natlt hic
        simp only [S.withyref06_Memory_c1_S, lenSl_sl, ptrAt_ptr, Option.bind_some, ld1_get', get_put', ldB_cells, List.getElem?_cons_zero, Nat.add_zero, V.one, asI_int, if_false, eqV, hlt, ix, hbwne, hcne, hw1, hcfg1, c0, c1, hB, w1, w2]
        subst hnm'
        by_cases ht : l.tag = 9
        · obtain ⟨q, rfl⟩ : ∃ q, l = .link q := by cases l <;> simp [Wd.tag] at ht; exact ⟨_, rfl⟩
          simp only [ht, decide_true]
          by_cases hc : who + 1 < k.s
          · simp only [hc, decide_true, ix2, Option.bind_some]
            rw [w3, row_st2 (by decide) (get_put_self _ _ _) (by rw [row_length]; exact hic), put_put', ← hFs _ (by simp only [mem0]; rw [← hwh] at hc ⊢; exact if_pos hc)]
            exact Ev.some (.inl ⟨i + 1, rfl, rfl, ⟨hic, rfl⟩, hmu⟩)
          · simp only [hc, decide_false]
            rw [← hFsame (by simp only [mem0, mem00]; rw [← hwh] at hc; exact if_neg hc)]
            exact Ev.some (.inl ⟨i + 1, rfl, rfl, ⟨hic, rfl⟩, hmu⟩)
        · simp only [ht, decide_false]
          rw [← hFsame (by cases l <;> first | rfl | (exfalso; exact ht rfl))]
          exact Ev.some (.inl ⟨i + 1, rfl, rfl, ⟨hic, rfl⟩, hmu⟩)
      · have : i = k.size := Nat.le_antisymm hi (Nat.le_of_not_lt hic)
        subst this
        simp only [S.withyref06_Memory_c1_S, lenSl, Option.bind_some, Int.lt_irrefl, decide_false]
        exact Ev.some (.inr ⟨by simp, rfl⟩)
    · rintro r rfl
      simp only
      rw [S.withyref06_Memory_c1_e0_eq]
      refine Ev.some ⟨z, rfl, hfr1.put (.inr (Nat.le_of_lt hle)) hzn _, Nat.le_of_lt hle, hzn, ?_⟩
      rw [get_put_self]
      congr 3
      apply row_congr
      intro l hl
      simp only [memF]
      rw [if_pos (pos_lt hl)]
  obtain ⟨⟨v, g⟩, e, b, rfl, f, n, n', w⟩ := hev
  exact ⟨g, b, e, f, n, n', w⟩
end Wm
end

section
/- The machine that makes a slot gray: shade.NewShade, Step. -/
namespace Wm
attribute [local congr] bind_congr1
attribute [local irreducible] wr

theorem headerP_at {k : Cfg} (hr : k.R = true) {q : Nat} (hq : q < k.S) : withinT k.s k.a k.c k.hd k.g k.st (q : Int) 0 = ((Wd.header q).pos k : Nat) := by
  have hb := Cfg.R_iff.mp hr
  have hq' : (q : Int) ≤ k.s - 1 := by unfold Cfg.S at hq; omega
  have hroom : (k.room : Int) = max k.a 3 := by unfold Cfg.room; split <;> omega
  have hc : (k.C : Int) = k.c := by unfold Cfg.C; omega
  have hh : (k.H : Int) = k.hd := by unfold Cfg.H; omega
  unfold withinT
  rw [if_pos ⟨hr, ⟨Int.natCast_nonneg _, hq'⟩, Int.le_refl _, by unfold roomT; omega⟩]
  unfold slotsT roomT Wd.pos Cfg.base
  rw [← hroom, ← hc, ← hh, Int.mul_add, Int.mul_add, Int.mul_one]
  have e2 : ((2 : Nat) : Int) = 2 := rfl
  simp only [Int.natCast_add, Int.natCast_mul, e2]
  omega

theorem header_at {k : Cfg} (hr : k.R = true) {q : Nat} (hq : q < k.S) (h : H) : C 261 [k.v, .int .i64 (q : Int)] h = some (.int .i64 ((Wd.header q).pos k : Nat), h) := by
  rw [← headerP_at hr hq]; exact header_spec _ _ _ _ _ _ _ h

end Wm
end

section
/- Rows of numbers, and memories of them: slices.Clone, mem.Of, mem.Words. -/
namespace Wm
attribute [local congr] bind_congr1
attribute [local irreducible] wr

/-- How many headers are gray. -/
def graysN (k : Cfg) (f : Wd → Int) : Nat := ((List.range k.S).filter fun q => grayW (f (.header q))).length
theorem totT_eq {k : Cfg} (hr : k.R = true) : totT k.s k.a k.c k.hd = (k.size : Int) := by
  have := sizeW_tot (s := k.s) (a := k.a) (c := k.c) (hd := k.hd) (g := k.g) (st := k.st) hr
  rw [← this]
  have hn : sizeW k.S k.room k.C k.H = k.size := by unfold sizeW Cfg.size Cfg.base; omega
  exact congrArg _ hn
end Wm
end

section
/- The document's words of heaps: withyref13.at, Grays. -/
namespace Wm
attribute [local congr] bind_congr1
attribute [local irreducible] wr

/-- Words in a slice. -/
structure WordsAt (k : Cfg) (g : H) (b : Nat) (f : Wd → Int) : Prop where
  own : ∃ kk, g.get b = some (.cells ((k.row f).map (.int .u64)) kk)
  u64 : ∀ l, l.ok k → U64 (f l)
theorem WordsAt.fr {k : Cfg} {g g' : H} {b : Nat} {f : Wd → Int} {L : List Nat} (Z : WordsAt k g b f) (ok : g.ok) (F : Fr L g g') (hb : b ∉ L) : WordsAt k g' b f :=
  ⟨let ⟨kk, h⟩ := Z.own; ⟨kk, F.get ok h hb⟩, Z.u64⟩
theorem WordsAt.lt {k : Cfg} {g : H} {b : Nat} {f : Wd → Int} (Z : WordsAt k g b f) (ok : g.ok) : b < g.next := let ⟨_, h⟩ := Z.own; ok.lt h
theorem WordsAt.ld {k : Cfg} {g : H} {b : Nat} {f : Wd → Int} (Z : WordsAt k g b f) {l : Wd} (hl : l.ok k) : ldB (g.get b) (l.pos k) = some (.int .u64 (f l)) := by
  obtain ⟨kk, h⟩ := Z.own
  rw [h, ldB_cells, List.getElem?_map, row_at hl]; rfl
theorem words_ix {k : Cfg} {b : Nat} {c : Cap} {l : Wd} (hl : l.ok k) : indexAV 1 (.sl b 0 k.size c) (.int .i64 (l.pos k : Nat)) = some (.ptr b (l.pos k)) := sl_idx1 (pos_lt hl)

theorem refAt13 {k : Cfg} (hr : k.R = true) {l : Wd} (hl : l.ok k) {h : H} (ok : h.ok) {b : Nat} {c : Cap} {f : Wd → Int} (Z : WordsAt k h b f) :
    Ev (C 322 [k.v, .sl b 0 k.size c, .str l.name, .int .i64 l.who, .int .i64 l.i] h) fun r => r.1 = .int .u64 (f l) ∧ Fr [] h r.2 := by
  refine call_ev (af := F.withyref13_at) (by kernel_rfl) rfl ?_
  have hv : k.v = .agg [.int .i64 k.s, .int .i64 k.a, .int .i64 k.c, .int .i64 k.hd, .int .i64 k.g, .int .i64 k.st] := rfl
  rw [hv, S.withyref13_at_eq]
  have hat := at_wd hr hl
  rw [hv] at hat
  unfold Wd.cells at hat
  have hn : ¬ (((l.pos k : Nat) : Int) < 0) := Int.not_lt.mpr (Int.natCast_nonneg _)
  have d : decide (((l.pos k : Nat) : Int) < 0) = false := decide_eq_false hn
  have hbl := Z.lt ok
  have nb : b ≠ h.next := Nat.ne_of_lt hbl
  have hix := words_ix (b := b) (c := c) hl
  have hld := Z.ld hl
  simp only [S.withyref13_at, Option.bind_some, ld1_get', ldN_get', get_new', ldNB_cells, Nat.zero_add, Nat.reduceAdd, Nat.reduceLeDiff, asI_int, List.length_cons, List.length_nil, decide_true, if_true, if_false, List.take_succ_cons, List.take_zero, List.drop_zero, W_call, hat, d, hix, nb, hld]
  exact Ev.some ⟨rfl, (Fr.refl ok).new _⟩

theorem cnt_succ (p : Nat → Bool) (n : Nat) : ((List.range (n + 1)).filter p).length = ((List.range n).filter p).length + if p n then 1 else 0 := by
  rw [List.range_succ, List.filter_append, List.length_append]
  by_cases h : p n
  · simp [h]
  · simp [h]
theorem gr_lt {i S : Nat} : decide ((i : Int) < (S : Int)) = decide (i < S) := by congr 1; apply propext; omega
theorem gr_i {i : Nat} (h : i < 1000) : wr .i64 ((i : Int) + 1) = ((i + 1 : Nat) : Int) := by rw [wr64 (by omega) (by omega)]; rfl

theorem refGrays13_spec {k : Cfg} (hr : k.R = true) {h : H} (ok : h.ok) {b : Nat} {c : Cap} {f : Wd → Int} (Z : WordsAt k h b f) :
    Ev (C 297 [k.v, .sl b 0 k.size c] h) fun r => r.1 = .int .i64 (graysN k f : Nat) ∧ Fr [] h r.2 := by
  refine call_ev (af := F.withyref13_Grays) (by kernel_rfl) rfl ?_
  have hbd := Cfg.bounds hr
  have hks : k.s = (k.S : Int) := by have := Cfg.R_iff.mp hr; unfold Cfg.S; omega
  have hv : k.v = .agg [.int .i64 k.s, .int .i64 k.a, .int .i64 k.c, .int .i64 k.hd, .int .i64 k.g, .int .i64 k.st] := rfl
  rw [hv, S.withyref13_Grays_eq]
  simp only [S.withyref13_Grays]
  have F0 : Fr [] h (h.new (.cells [.int .i64 k.s, .int .i64 k.a, .int .i64 k.c, .int .i64 k.hd, .int .i64 k.g, .int .i64 k.st] .rw)) := (Fr.refl ok).new _
  refine loop_ev (α := Nat) (fun i => S.withyref13_Grays_c1_E (.sl b 0 k.size c) (.ptr h.next 0) (.int .i64 ((((List.range i).filter fun q => grayW (f (.header q))).length : Nat) : Int)) (.int .i64 (i : Nat)))
    (fun i g => i ≤ k.S ∧ Fr [] h g ∧ g.get h.next = some (.cells [.int .i64 k.s, .int .i64 k.a, .int .i64 k.c, .int .i64 k.hd, .int .i64 k.g, .int .i64 k.st] .rw)) (fun i _ => k.S - i)
    (fun r => r.1 = .exit 0 ∧ r.2.1 = S.withyref13_Grays_c1_O (.int .i64 (graysN k f : Nat)) ∧ Fr [] h r.2.2)
    0 rfl ⟨Nat.zero_le _, F0, get_new_self _ _⟩ ?_ ?_
  rotate_left
  · rintro ⟨_, _, g⟩ ⟨rfl, rfl, F⟩
    show Ev (S.withyref13_Grays_K2 W (.exit 0) _ g) _
    rw [S.withyref13_Grays_c1_e0_eq]
    exact Ev.some ⟨rfl, F⟩
  rintro i g ⟨hi, F, hc⟩
  rw [S.withyref13_Grays_c1_eq]
  have d1 : decide ((i : Int) < k.s) = decide (i < k.S) := by rw [hks]; exact gr_lt
  by_cases hik : i < k.S
  rotate_left
  · rw [decide_eq_false hik] at d1
    have he : i = k.S := Nat.le_antisymm hi (Nat.le_of_not_lt hik)
    subst he
    simp only [S.withyref13_Grays_c1_S, ptrAt_ptr, Option.bind_some, ld1_get', ldN_get', st_get', get_new', ldB_cells, ldNB_cells, stB_cells, List.getElem?_cons_zero, Nat.zero_add, Nat.add_zero, Nat.reduceAdd, Nat.reduceLeDiff, V.one, V.cells, asI_int, List.length_cons, List.length_nil, Bool.false_or, decide_true, decide_false, if_true, splice, List.take_succ_cons, List.take_zero, List.drop_zero, List.nil_append, reduceCtorEq, W_call, hc, d1]
    exact Ev.some (.inr ⟨by simp, rfl, rfl, F⟩)
  rw [decide_eq_true hik] at d1
  have hok : (Wd.header i).ok k := hik
  have hle := List.length_filter_le (fun q => grayW (f (.header q))) (List.range i)
  rw [List.length_range] at hle
  have hi64 : i < 1000 := Nat.lt_of_lt_of_le hik (Nat.le_trans hbd.1.2 (by decide))
  have wi := gr_i hi64
  have wc := gr_i (Nat.lt_of_le_of_lt hle hi64)
  have hA := refAt13 hr hok F.ok (c := c) (Z.fr ok F (by simp))
  have hA' : Ev (C 322 [.agg [.int .i64 k.s, .int .i64 k.a, .int .i64 k.c, .int .i64 k.hd, .int .i64 k.g, .int .i64 k.st], .sl b 0 k.size c, .str ⟨⟨[104, 101, 97, 100, 101, 114]⟩⟩, .int .i64 (i : Int), .int .i64 0] g) fun r => r.1 = .int .u64 (f (.header i)) ∧ Fr [] g r.2 := hA
  have hcs := cnt_succ (fun q => grayW (f (.header q))) i
  simp only [S.withyref13_Grays_c1_S, ptrAt_ptr, Option.bind_some, ld1_get', ldN_get', st_get', get_new', ldB_cells, ldNB_cells, stB_cells, List.getElem?_cons_zero, Nat.zero_add, Nat.add_zero, Nat.reduceAdd, Nat.reduceLeDiff, V.one, V.cells, asI_int, List.length_cons, List.length_nil, Bool.false_or, decide_true, decide_false, if_true, splice, List.take_succ_cons, List.take_zero, List.drop_zero, List.nil_append, reduceCtorEq, W_call, hc, d1]
  refine Ev.bind hA' ?_
  rintro ⟨_, g2⟩ ⟨rfl, F2⟩
  have ok2 := F2.ok
  have hU := Z.u64 _ hok
  have hUn := fun h => refUnp_spec hU h
  have hkk : (unp (f (.header i))).cs = [.int .i64 (unp (f (.header i))).kind, .int .i64 (unp (f (.header i))).mark, .bool (unp (f (.header i))).gray, .int .i64 (unp (f (.header i))).arity, .int .i64 (unp (f (.header i))).gen, .int .i64 (unp (f (.header i))).stamp] := rfl
  rw [hkk] at hUn
  have F3 : ∀ b1 b2, Fr [] h ((g2.new b1).put g2.next b2) := fun b1 b2 => ((F.trans' F2).new _).put (.inr (Nat.le_trans F.le F2.le)) (Nat.lt_succ_self _) _
  have hcl := F.ok.lt hc
  have hc2 := F2.get F.ok hc (by simp)
  have ncn : h.next ≠ g2.next := Nat.ne_of_lt (F2.lt hcl)
  have hc3 : ∀ b1 b2, ((g2.new b1).put g2.next b2).get h.next = some (.cells [.int .i64 k.s, .int .i64 k.a, .int .i64 k.c, .int .i64 k.hd, .int .i64 k.g, .int .i64 k.st] .rw) := fun b1 b2 => by
    rw [get_put_ne ncn, get_new_ne ncn]; exact hc2
  have hgw : grayW (f (.header i)) = (okT (f (.header i)) && (unp (f (.header i))).gray) := rfl
  dsimp only
  cases ho : okT (f (.header i)) with
  | false =>
    rw [ho] at hUn hgw
    rw [hgw] at hcs
    simp only [Bool.false_and, Bool.false_eq_true, if_false, Nat.add_zero] at hcs
    simp only [Option.bind_some, Option.map_some, List.getElem?_cons_zero, List.getElem?_cons_succ, Nat.zero_add, Nat.reduceAdd, Nat.reduceLeDiff, V.one, List.length_cons, List.length_nil, Nat.beq_refl, List.all_cons, List.all_nil, Bool.not_true, Bool.or_self, Bool.and_self, decide_true, List.drop_succ_cons, List.drop_zero, List.cons_append, List.nil_append, hUn, wi]
    exact Ev.some (.inl ⟨i + 1, rfl, by rw [hcs], ⟨hik, F3 _ _, hc3 _ _⟩, Nat.sub_lt_sub_left hik (Nat.lt_succ_self i)⟩)
  | true =>
    rw [ho, Bool.true_and] at hgw
    rw [ho] at hUn
    cases hg : (unp (f (.header i))).gray with
    | false =>
      rw [hg] at hgw hUn
      rw [hgw] at hcs
      simp only [Bool.false_eq_true, if_false, Nat.add_zero] at hcs
      simp only [Option.bind_some, Option.map_some, get_put', get_new', ldB_cells, List.getElem?_cons_zero, List.getElem?_cons_succ, Nat.zero_add, Nat.reduceAdd, Nat.reduceLeDiff, V.one, asB_bool, List.length_cons, List.length_nil, Nat.beq_refl, List.all_cons, List.all_nil, Bool.not_true, Bool.or_self, Bool.and_self, decide_true, if_true, List.drop_succ_cons, List.drop_zero, List.cons_append, List.nil_append, hUn, wi]
      exact Ev.some (.inl ⟨i + 1, rfl, by rw [hcs], ⟨hik, F3 _ _, hc3 _ _⟩, Nat.sub_lt_sub_left hik (Nat.lt_succ_self i)⟩)
    | true =>
      rw [hg] at hgw hUn
      rw [hgw] at hcs
      simp only [if_true] at hcs
      simp only [Option.bind_some, Option.map_some, get_put', get_new', ldB_cells, List.getElem?_cons_zero, List.getElem?_cons_succ, Nat.zero_add, Nat.reduceAdd, Nat.reduceLeDiff, V.one, asB_bool, List.length_cons, List.length_nil, Nat.beq_refl, List.all_cons, List.all_nil, Bool.not_true, Bool.or_self, Bool.and_self, decide_true, if_true, List.drop_succ_cons, List.drop_zero, List.cons_append, List.nil_append, hUn, wi, wc]
      exact Ev.some (.inl ⟨i + 1, rfl, by rw [hcs], ⟨hik, F3 _ _, hc3 _ _⟩, Nat.sub_lt_sub_left hik (Nat.lt_succ_self i)⟩)
end Wm
end

section
/- Words that there aren't: withyref06.At, withyref13.at. -/
namespace Wm
attribute [local congr] bind_congr1
attribute [local irreducible] wr

theorem at_none {k : Cfg} (hr : k.R = true) {l : Wd} (hl : ¬ l.ok k) (h : H) : C 108 [k.v, .agg l.cells] h = some (.int .i64 (-1), h) := by
  have hcs : l.cells = [.str l.name, .int .i64 l.who, .int .i64 l.i] := rfl
  rw [hcs]
  refine call_closed (af := F.withyref06_At) (by kernel_rfl) rfl (by rfl) (by rfl) h ?_
  have hv : k.v = .agg [.int .i64 k.s, .int .i64 k.a, .int .i64 k.c, .int .i64 k.hd, .int .i64 k.g, .int .i64 k.st] := rfl
  have hbd := Cfg.bounds hr
  have hR := ref06Right_spec k.s k.a k.c k.hd k.g k.st
  rw [show cfgR k.s k.a k.c k.hd k.g k.st = true from hr, show cfgV k.s k.a k.c k.hd k.g k.st = k.v from rfl, hv] at hR
  have hne : (H.empty).next ≠ (H.empty).next + 1 := Nat.ne_of_lt (Nat.lt_succ_self _)
  have ok0 : ((H.empty.new (.cells [.int .i64 k.s, .int .i64 k.a, .int .i64 k.c, .int .i64 k.hd, .int .i64 k.g, .int .i64 k.st] .rw)).new (.cells [.str l.name, .int .i64 l.who, .int .i64 l.i] .rw)).ok := (H.ok_empty.new _).new _
  obtain ⟨g, b, c, kk, e1, F1, hb, hg⟩ := Words_spec hr ok0
  rw [hv] at e1
  have hc1 := F1.get ok0 (by rw [get_new_ne (by simp [H.next_new]), get_new_self]) (by simp) (b := H.empty.next)
  have hw1 := F1.get ok0 (get_new_self _ _) (by simp)
  rw [H.next_new] at hw1
  rw [hv, S.withyref06_At_eq]
  simp only [S.withyref06_At, Option.bind_some, ldN_get', get_new', ldNB_cells, H.next_new, Nat.zero_add, Nat.reduceAdd, Nat.reduceLeDiff, Int.reduceNeg, asB_bool, List.length_cons, List.length_nil, Bool.not_true, decide_true, if_true, if_false, List.take_succ_cons, List.take_zero, List.drop_zero, W_call, hR, hne, e1]
  refine loop_ev (α := Nat) (fun i => S.withyref06_At_c1_E (.ptr (H.empty.next + 1) 0) (.sl b 0 k.size c) (.int .i64 (i : Nat)))
    (fun i g' => i ≤ k.size ∧ g' = g) (fun i _ => k.size - i) (fun r => r.1 = .exit 0 ∧ r.2.1 = S.withyref06_At_c1_O .dead) 0 rfl ⟨Nat.zero_le _, rfl⟩ ?_ ?_
  rotate_left
  · rintro ⟨_, _, g'⟩ ⟨rfl, rfl⟩
    show Ev (S.withyref06_At_K2 W (.exit 0) _ g') _
    rw [S.withyref06_At_c1_e0_eq]
    exact Ev.some rfl
  rintro i g' ⟨hi, rfl⟩
  rw [S.withyref06_At_c1_eq]
  by_cases hik : i < k.size
  rotate_left
  · have d : decide ((i : Int) < (k.size : Int)) = false := decide_eq_false (by omega)
    simp only [S.withyref06_At_c1_S, lenSl_sl, Option.bind_some, ldN_get', Nat.reduceAdd, eqV, d]
    exact Ev.some (.inr ⟨by simp, rfl, rfl⟩)
  have d : decide ((i : Int) < (k.size : Int)) = true := natlt hik
  obtain ⟨w, hw⟩ : ∃ w, k.locs[i]? = some w := ⟨_, List.getElem?_eq_getElem (by rw [locs_length]; exact hik)⟩
  have hwo := mem_locs.mp (List.mem_of_getElem? hw)
  have hne2 : w ≠ l := fun q => hl (q ▸ hwo)
  have hpart := flat_part (locs3 k) i w.cells (by rw [List.getElem?_map, hw]; rfl)
  have hlen : i * 3 + 3 ≤ (k.locs.map Wd.cells).flatten.length := by rw [flat_length (locs3 k), List.length_map, locs_length]; omega
  have hld : ldNB (g'.get b) (i * 3) 3 = some (.agg w.cells) := by
    rw [hg, ldNB_cells, decide_eq_true hlen]
    simp only [hpart]
  have hix : indexAV 3 (.sl b 0 k.size c) (.int .i64 (i : Int)) = some (.ptr b (i * 3)) := sl_idx hik
  have he := eqW w l
  rw [decide_eq_false hne2, hcs] at he
  have he2 : eqOffs w.cells [V.str l.name, V.int Go.IntKind.i64 l.who, V.int Go.IntKind.i64 l.i] [(0, Ck.str), (1, Ck.int), (2, Ck.int)] = some false := he
  have wi := gr_i (i := i) (by omega)
  simp only [S.withyref06_At_c1_S, lenSl_sl, Option.bind_some, ldN_get', ldNB_cells, Nat.zero_add, Nat.reduceAdd, Nat.reduceLeDiff, List.length_cons, List.length_nil, decide_true, List.take_succ_cons, List.take_zero, List.drop_zero, eqV, d, hix, hld, hw1, he2, wi]
  exact Ev.some (.inl ⟨i + 1, rfl, rfl, ⟨hik, rfl⟩, Nat.sub_lt_sub_left hik (Nat.lt_succ_self i)⟩)

theorem refAt13_none {k : Cfg} (hr : k.R = true) {l : Wd} (hl : ¬ l.ok k) {h : H} (ok : h.ok) (x : V) :
    Ev (C 322 [k.v, x, .str l.name, .int .i64 l.who, .int .i64 l.i] h) fun r => r.1 = .int .u64 0 ∧ Fr [] h r.2 := by
  refine call_ev (af := F.withyref13_at) (by kernel_rfl) rfl ?_
  have hv : k.v = .agg [.int .i64 k.s, .int .i64 k.a, .int .i64 k.c, .int .i64 k.hd, .int .i64 k.g, .int .i64 k.st] := rfl
  rw [hv, S.withyref13_at_eq]
  have hat := at_none hr hl
  rw [hv] at hat
  unfold Wd.cells at hat
  have d : decide ((-1 : Int) < 0) = true := rfl
  simp only [S.withyref13_at, Option.bind_some, ldN_get', get_new', ldNB_cells, Nat.zero_add, Nat.reduceAdd, Nat.reduceLeDiff, Int.reduceLT, Int.reduceNeg, asI_int, List.length_cons, List.length_nil, decide_true, if_true, List.take_succ_cons, List.take_zero, List.drop_zero, W_call, hat]
  exact Ev.some ⟨rfl, (Fr.refl ok).new _⟩
end Wm
end

section
/- Tops: a tag and a slot. -/
namespace Wm
attribute [local congr] bind_congr1
attribute [local irreducible] wr

end Wm
end

section
/- Shades over words by what they are. -/
namespace Wm
attribute [local congr] bind_congr1
attribute [local irreducible] wr

section
variable {k : Cfg} {f : Wd → Int} {n : Int} {t : Touch} {l : Wd}
end

end Wm
end

section
/- The memory and the book of when things took effect: what stands in them, and their functions. -/
namespace Wm
attribute [local congr] bind_congr1
attribute [local irreducible] wr

/-! ### The book -/
structure BookT where
  now : Int
  born : Int → Option Int
  turned : Int → Option Int
end Wm
end

section
/- Machines of a config that isn't right, and of none (Made). -/
namespace Wm

/-- A call that makes something of a config, or nothing. -/
def Made (o : Option (V × H)) (h : H) (b : Bool) : Prop := ∃ l v, o = some (v, h.ext l) ∧ match b with
  | true => ∃ p q, v = .ptr p q
  | false => v = .nilp

end Wm
end

section
/- A client's table that holds nothing. -/
namespace Wm

/-- A client's place. -/
def placeT (s a c hd g st who behind each i : Int) : Int :=
  if cfgR s a c hd g st = true ∧ (0 ≤ who ∧ who ≤ c - 1) ∧ (0 ≤ i ∧ i ≤ each - 1) then 4 + behind * c + who * each + i else -1

theorem place_spec (s a c hd g st who behind each i : Int) (hb : 0 ≤ behind ∧ behind ≤ 17) (he : 1 ≤ each ∧ each ≤ 16) (h : H) :
    C 397 [cfgV s a c hd g st, .int .i64 who, .int .i64 behind, .int .i64 each, .int .i64 i] h = some (.int .i64 (placeT s a c hd g st who behind each i), h) := by
  refine call_closed (af := F.plan_place) (by kernel_rfl) rfl (by rfl) (by rfl) h ?_
  have ok := H.ok_empty
  have hR := planRight_spec s a c hd g st
  cases hr : cfgR s a c hd g st with
  | false =>
    rw [hr] at hR
    unfold cfgV at hR ⊢
    rw [S.plan_place_eq]
    simp only [S.plan_place, H.new_ext, H.ext_ldNk_0, H.ext_ldk_0, ok, ldB_cells, ldNB_cells, V.one, List.length_cons, List.length_nil, Nat.zero_add, Nat.reduceAdd, Nat.reduceLeDiff, decide_true, List.getElem?_cons_zero, List.getElem?_cons_succ, List.drop_zero, List.take_succ_cons, List.take_zero, Bool.not_false, Option.bind_some, Option.join_some, asI_int, asB_bool, W_call, hR]
    exact Ev.some (by simp [placeT, hr])
  | true =>
    obtain ⟨⟨s1, s2⟩, ⟨a1, a2⟩, ⟨c1, c2⟩, ⟨d1, d2⟩, _⟩ := cfgR_iff.mp hr
    rw [hr] at hR
    unfold cfgV at hR ⊢
    rw [S.plan_place_eq]
    simp only [S.plan_place, H.new_ext, H.ext_ldNk_0, H.ext_ldk_0, ok, ldB_cells, ldNB_cells, V.one, List.length_cons, List.length_nil, Nat.zero_add, Nat.reduceAdd, Nat.reduceLeDiff, decide_true, List.getElem?_cons_zero, List.getElem?_cons_succ, List.drop_zero, List.take_succ_cons, List.take_zero, Bool.not_true, Option.bind_some, Option.join_some, asI_int, asB_bool, W_call, hR, between_spec]
    rw [wr64 (n := c - 1) (by omega) (by omega), wr64 (n := each - 1) (by omega) (by omega)]
    by_cases p1 : 0 ≤ who ∧ who ≤ c - 1
    · simp only [decide_eq_true p1.1, decide_eq_true p1.2, Bool.not_true, Bool.and_self]
      by_cases p2 : 0 ≤ i ∧ i ≤ each - 1
      · simp only [decide_eq_true p2.1, decide_eq_true p2.2, Bool.not_true, Bool.and_self]
        obtain ⟨q1, q2⟩ := mul_bd hb.1 hb.2 (show 0 ≤ c by omega) c2
        obtain ⟨q3, q4⟩ := mul_bd p1.1 (show who ≤ 7 by omega) (show 0 ≤ each by omega) he.2
        rw [wr64 (n := behind * c) (by omega) (by omega), wr64 (n := 4 + behind * c) (by omega) (by omega), wr64 (n := who * each) (by omega) (by omega), wr64 (n := 4 + behind * c + who * each) (by omega) (by omega), wr64 (by omega) (by omega)]
        refine Ev.some ?_
        unfold placeT
        rw [if_pos ⟨hr, p1, p2⟩]
      · have : (decide (0 ≤ i) && decide (i ≤ each - 1)) = false := by
          rw [Bool.eq_false_iff]; intro q
          simp only [Bool.and_eq_true, decide_eq_true_eq] at q
          exact p2 q
        simp only [this, Bool.not_false]
        refine Ev.some ?_
        unfold placeT
        rw [if_neg (fun q => p2 q.2.2)]
    · have : (decide (0 ≤ who) && decide (who ≤ c - 1)) = false := by
        rw [Bool.eq_false_iff]; intro q
        simp only [Bool.and_eq_true, decide_eq_true_eq] at q
        exact p1 q
      simp only [this, Bool.not_false]
      refine Ev.some ?_
      unfold placeT
      rw [if_neg (fun q => p1 q.2.1)]

end Wm
end

section
/- Where words stand, as the program's plan tells; which slot a word names. -/
namespace Wm
attribute [local congr] bind_congr1
attribute [local irreducible] wr

theorem Cfg.ints {k : Cfg} (hr : k.R = true) : k.s = (k.S : Int) ∧ k.c = (k.C : Int) ∧ k.hd = (k.H : Int) ∧ max k.a 3 = (k.room : Int) := by
  have := Cfg.R_iff.mp hr
  refine ⟨by unfold Cfg.S; omega, by unfold Cfg.C; omega, by unfold Cfg.H; omega, ?_⟩
  unfold Cfg.room; split <;> omega

theorem withinP {k : Cfg} (hr : k.R = true) {q i : Nat} (hq : q < k.S) (hi : i < 2 + k.room) : withinT k.s k.a k.c k.hd k.g k.st (q : Int) (i : Int) = ((k.base + q * (2 + k.room) + i : Nat) : Int) := by
  obtain ⟨h1, h2, h3, h4⟩ := Cfg.ints hr
  unfold withinT
  rw [if_pos ⟨hr, ⟨Int.natCast_nonneg _, by omega⟩, Int.natCast_nonneg _, by unfold roomT; omega⟩]
  unfold slotsT roomT Cfg.base
  rw [h4, h2, h3, Int.mul_add, Int.mul_add, Int.mul_one]
  have e2 : ((2 : Nat) : Int) = 2 := rfl
  simp only [Int.natCast_add, Int.natCast_mul, e2]
  omega

theorem wr_2i {i : Nat} (h : i ≤ 100) : wr .i64 (2 + (i : Int)) = 2 + (i : Int) := wr64 (by omega) (by omega)
theorem body_at {k : Cfg} (hr : k.R = true) {q i : Nat} (hq : q < k.S) (hi : i < k.room) (h : H) : C 305 [k.v, .int .i64 (q : Int), .int .i64 (i : Int)] h = some (.int .i64 ((Wd.body q i).pos k : Nat), h) := by
  refine call_closed (af := F.plan_Body) (by kernel_rfl) rfl (by rfl) (by rfl) h ?_
  have hb := Cfg.bounds hr
  have hv : k.v = .agg [.int .i64 k.s, .int .i64 k.a, .int .i64 k.c, .int .i64 k.hd, .int .i64 k.g, .int .i64 k.st] := rfl
  have e1 := withinP hr hq (show 2 + i < 2 + k.room by omega)
  have e2 : ((2 + i : Nat) : Int) = 2 + (i : Int) := by omega
  have hw := fun h => within_spec k.s k.a k.c k.hd k.g k.st (q : Int) (2 + (i : Int)) h
  rw [← e2, e1, e2] at hw
  have e4 : k.base + q * (2 + k.room) + (2 + i) = (Wd.body q i).pos k := by simp only [Wd.pos]; omega
  rw [e4] at hw
  have c1 : decide ((i : Int) < 0) = false := decide_eq_false (by omega)
  have c2 : decide ((8 : Int) < (i : Int)) = false := decide_eq_false (by omega)
  have e3 := wr_2i (i := i) (by omega)
  rw [hv, S.plan_Body_eq]
  simp only [S.plan_Body, c1, c2, Option.bind_some, ldN_get', get_new', ldNB_cells, Nat.zero_add, Nat.reduceAdd, Nat.reduceLeDiff, List.length_cons, List.length_nil, decide_true, if_true, List.take_succ_cons, List.take_zero, List.drop_zero, W_call]
  rw [e3, show (V.agg [.int .i64 k.s, .int .i64 k.a, .int .i64 k.c, .int .i64 k.hd, .int .i64 k.g, .int .i64 k.st]) = cfgV k.s k.a k.c k.hd k.g k.st from rfl, hw]
  exact Ev.some rfl

theorem placeP {k : Cfg} (hr : k.R = true) {q b e i : Nat} (hq : q < k.C) (hi : i < e) : placeT k.s k.a k.c k.hd k.g k.st (q : Int) (b : Int) (e : Int) (i : Int) = ((4 + b * k.C + q * e + i : Nat) : Int) := by
  obtain ⟨h1, h2, h3, h4⟩ := Cfg.ints hr
  unfold placeT
  rw [if_pos ⟨hr, ⟨Int.natCast_nonneg _, by omega⟩, Int.natCast_nonneg _, by omega⟩, h2]
  have e2 : ((4 : Nat) : Int) = 4 := rfl
  simp only [Int.natCast_add, Int.natCast_mul, e2]

theorem entry_at {k : Cfg} (hr : k.R = true) {q i : Nat} (hq : q < k.C) (hi : i < k.H) (h : H) : C 319 [k.v, .int .i64 (q : Int), .int .i64 (i : Int)] h = some (.int .i64 ((Wd.entry q i).pos k : Nat), h) := by
  refine call_closed (af := F.plan_Entry) (by kernel_rfl) rfl (by rfl) (by rfl) h ?_
  have hb := Cfg.bounds hr
  obtain ⟨h1, h2, h3, h4⟩ := Cfg.ints hr
  have hv : k.v = .agg [.int .i64 k.s, .int .i64 k.a, .int .i64 k.c, .int .i64 k.hd, .int .i64 k.g, .int .i64 k.st] := rfl
  have e1 := placeP hr hq (b := 1) (e := k.H) (i := i) hi
  have hw := fun h => place_spec k.s k.a k.c k.hd k.g k.st (q : Int) 1 k.hd (i : Int) (by omega) (by omega) h
  have e4 : placeT k.s k.a k.c k.hd k.g k.st (q : Int) 1 k.hd (i : Int) = ((Wd.entry q i).pos k : Nat) := by
    rw [show placeT k.s k.a k.c k.hd k.g k.st (q : Int) 1 k.hd (i : Int) = placeT k.s k.a k.c k.hd k.g k.st (q : Int) ((1 : Nat) : Int) (k.H : Int) (i : Int) by rw [← h3]; rfl, e1]
    simp only [Wd.pos]; congr 1; omega
  rw [e4] at hw
  rw [hv, S.plan_Entry_eq]
  simp only [S.plan_Entry, Option.bind_some, ld1_get', ldN_get', get_new', ldB_cells, ldNB_cells, List.getElem?_cons_zero, List.getElem?_cons_succ, Nat.zero_add, Nat.reduceAdd, Nat.reduceLeDiff, V.one, List.length_cons, List.length_nil, decide_true, if_true, List.take_succ_cons, List.take_zero, List.drop_zero, W_call]
  rw [show (V.agg [.int .i64 k.s, .int .i64 k.a, .int .i64 k.c, .int .i64 k.hd, .int .i64 k.g, .int .i64 k.st]) = cfgV k.s k.a k.c k.hd k.g k.st from rfl, hw]
  exact Ev.some rfl

theorem start_at {k : Cfg} (hr : k.R = true) {q : Nat} (hq : q < k.C) (h : H) : C 321 [k.v, .int .i64 (q : Int)] h = some (.int .i64 ((Wd.start q).pos k : Nat), h) := by
  refine call_closed (af := F.plan_Start) (by kernel_rfl) rfl (by rfl) (by rfl) h ?_
  have hb := Cfg.bounds hr
  obtain ⟨h1, h2, h3, h4⟩ := Cfg.ints hr
  have hv : k.v = .agg [.int .i64 k.s, .int .i64 k.a, .int .i64 k.c, .int .i64 k.hd, .int .i64 k.g, .int .i64 k.st] := rfl
  have e1 := placeP hr hq (b := 1 + k.H) (e := 2) (i := 1) (by omega)
  have hw := fun h => place_spec k.s k.a k.c k.hd k.g k.st (q : Int) (1 + k.hd) 2 1 (by omega) (by omega) h
  have e4 : placeT k.s k.a k.c k.hd k.g k.st (q : Int) (1 + k.hd) 2 1 = ((Wd.start q).pos k : Nat) := by
    rw [show placeT k.s k.a k.c k.hd k.g k.st (q : Int) (1 + k.hd) 2 1 = placeT k.s k.a k.c k.hd k.g k.st (q : Int) ((1 + k.H : Nat) : Int) ((2 : Nat) : Int) ((1 : Nat) : Int) by rw [h3]; congr 1, e1]
    simp only [Wd.pos]; congr 1; rw [Nat.add_mul, Nat.one_mul, Nat.mul_comm k.H]; omega
  rw [e4] at hw
  have e5 : wr .i64 (1 + k.hd) = 1 + k.hd := wr64 (by omega) (by omega)
  rw [hv, S.plan_Start_eq]
  simp only [S.plan_Start, Option.bind_some, ld1_get', ldN_get', get_new', ldB_cells, ldNB_cells, List.getElem?_cons_zero, List.getElem?_cons_succ, Nat.zero_add, Nat.reduceAdd, Nat.reduceLeDiff, V.one, asI_int, List.length_cons, List.length_nil, decide_true, if_true, List.take_succ_cons, List.take_zero, List.drop_zero, W_call]
  rw [e5, show (V.agg [.int .i64 k.s, .int .i64 k.a, .int .i64 k.c, .int .i64 k.hd, .int .i64 k.g, .int .i64 k.st]) = cfgV k.s k.a k.c k.hd k.g k.st from rfl, hw]
  exact Ev.some rfl

end Wm
end

section
/- Fields' machines over words by what they are: stamps, turns. -/
namespace Wm
attribute [local congr] bind_congr1
attribute [local irreducible] wr

/-- Where the memory and the book stand. -/
structure Adr where
  p : Nat
  pw : Nat
  bk : Nat
  m1 : Nat
  m2 : Nat
section
variable {h : H} {A : Adr} {k : Cfg} {f : Wd → Int} {n : Int} {B : BookT}
end

end Wm
end

section
/- Fields' machines: turns of the clock, the newest record of a field. -/
namespace Wm
attribute [local congr] bind_congr1
attribute [local irreducible] wr

/-- A slot's number; -1: none. -/
def sl (o : Option Nat) : Int := match o with
  | none => -1
  | some q => q
end Wm
end

section
/- Fields' machines: reads. -/
namespace Wm
attribute [local congr] bind_congr1
attribute [local irreducible] wr

end Wm
end

section
/- Fields' machines: a record is laid on a field. -/
namespace Wm
attribute [local congr] bind_congr1
attribute [local irreducible] wr

end Wm
end

section
/- Fields' machines: a field as it was in a view. -/
namespace Wm
attribute [local congr] bind_congr1
attribute [local irreducible] wr

end Wm
end

section
/- A machine alone: it goes on until it is over. Lays, reads and turns alone. -/
namespace Wm
attribute [local congr] bind_congr1
attribute [local irreducible] wr

/-- Steps until it is over, within so many. -/
def Go {X : Type} (st : X → X) (fin : X → Prop) : Nat → X → (X → Prop) → Prop
  | 0, _, _ => False
  | m + 1, x, Q => (fin (st x) ∧ Q (st x)) ∨ (¬ fin (st x) ∧ Go st fin m (st x) Q)
section
variable {X : Type} {st : X → X} {fin : X → Prop}
end

end Wm
end

section
/- Sweeps: the machine, and whether a machine's work ends. -/
namespace Wm
attribute [local congr] bind_congr1
attribute [local irreducible] wr

end Wm
end

section
/- A slot is laid on the free list; a slot comes back. -/
namespace Wm
attribute [local congr] bind_congr1
attribute [local irreducible] wr

structure Psh where
  at' : Int
  top : Int
/-! ### A slot comes back -/
structure Fre where
  back : Bool
  gone : Bool
  now : Int
  push : Option Psh
  next : Int
end Wm
end

section
/- Reclaims. -/
namespace Wm
attribute [local congr] bind_congr1
attribute [local irreducible] wr

structure Rcl where
  back : Nat
  gone : Nat
  slot : Nat
  free : Option Fre
end Wm
end

section
/- Slices that grow: what is appended, one element at a time. -/
namespace Wm
attribute [local congr] bind_congr1
attribute [local irreducible] wr

/-- The block of a slice. -/
def V.blk : V → List Nat
  | .sl b _ _ _ => [b]
  | _ => []

/-- A slice that grew: elements of 'e' cells. -/
def Grown (g : Nat → Option Blk) (x : V) (e : Nat) (l : List V) : Prop :=
  (x = .nilsl ∧ l = []) ∨ ∃ b n, x = .sl b 0 n (.op e) ∧ l.length = n * e ∧ g b = some (.cells l (.gr e))

theorem Grown.nil (g : Nat → Option Blk) (e : Nat) : Grown g .nilsl e [] := .inl ⟨rfl, rfl⟩
theorem Grown.len {g : Nat → Option Blk} {x : V} {e : Nat} {l : List V} (G : Grown g x e l) (he : 0 < e) : ∃ n, lenSl x = some n ∧ l.length = n * e := by
  obtain ⟨rfl, rfl⟩ | ⟨b, n, rfl, hl, _⟩ := G
  · exact ⟨0, rfl, by simp⟩
  · exact ⟨n, rfl, hl⟩
theorem Grown.len1 {g : Nat → Option Blk} {x : V} {l : List V} (G : Grown g x 1 l) : lenSl x = some l.length := by
  obtain ⟨n, h1, h2⟩ := G.len (by omega)
  rw [h1, h2, Nat.mul_one]
theorem Grown.fr {g g' : H} {L : List Nat} {x : V} {e : Nat} {l : List V} (G : Grown g.get x e l) (ok : g.ok) (F : Fr L g g') (h : ∀ b ∈ x.blk, b ∉ L) : Grown g'.get x e l := by
  obtain h1 | ⟨b, n, rfl, hl, hb⟩ := G
  · exact .inl h1
  · exact .inr ⟨b, n, rfl, hl, F.get ok hb (h b (by simp [V.blk]))⟩
/-- An element. -/
theorem Grown.at1 {g : H} {x : V} {l : List V} (G : Grown g.get x 1 l) {i : Nat} {v : V} (hv : l[i]? = some v) (h1 : v.one = true) : ∃ b, indexAV 1 x (.int .i64 (i : Int)) = some (.ptr b i) ∧ g.ld1 (.ptr b i) = some v := by
  have hi := lt_of_get hv
  obtain ⟨rfl, rfl⟩ | ⟨b, n, rfl, hl, hb⟩ := G
  · simp at hv
  · refine ⟨b, sl_idx1 (by omega), ?_⟩
    rw [ld1_get', hb, ldB_cells, hv]; simp only [h1]

theorem Grown.push {g : H} (ok : g.ok) {x : V} {e : Nat} {l new : List V} {nb : Nat} {k : Bk} {bytes : Nat} (G : Grown g.get x e l) (hn : g.get nb = some (.cells new k)) (hlen : new.length = e) (h1 : new.all V.one = true) (he : 0 < e) (hb : 0 < bytes ∧ bytes ≤ 1000) (hs : l.length ≤ 1000000) :
    ∃ x' g', g.append e bytes x (.sl nb 0 1 (.ex 1)) = some (x', g') ∧ Fr x.blk g g' ∧ Grown g'.get x' e (l ++ new) ∧ (∀ b ∈ x'.blk, g.next ≤ b) ∧ x'.blk ≠ [] := by
  have hslc : g.slc e (.sl nb 0 1 (.ex 1)) = some new := by
    rw [slc_get hn (by omega), List.drop_zero, List.take_of_length_le (by omega)]
  obtain ⟨rfl, rfl⟩ | ⟨b, n, rfl, hl, hbk⟩ := G
  · refine ⟨_, _, append_nil (n := 1) rfl hslc (by omega) h1 (by omega) he hb.1, (Fr.refl ok).new _, .inr ⟨_, _, rfl, by simp; omega, ?_⟩, by simp [V.blk], by simp [V.blk]⟩
    rw [List.nil_append]; exact get_new_self _ _
  · have hnn : n ≤ 1000000 := by
      have : n * 1 ≤ n * e := Nat.mul_le_mul_left _ he
      omega
    have hold : g.slc e (.sl b 0 n (.op e)) = some l := by rw [slc_get hbk (by omega), List.drop_zero, List.take_of_length_le (by omega)]
    have hsz : (n + 1 + (n + 1) / 2 + 1000) * bytes ≤ 281474976710656 := by
      have : (n + 1 + (n + 1) / 2 + 1000) * bytes ≤ 2000000 * 1000 := Nat.mul_le_mul (by omega) hb.2
      omega
    refine ⟨_, _, append_op (n := 1) rfl hslc hold hbk h1 hsz he hb.1, ?_, .inr ⟨_, _, rfl, by rw [List.length_append, hl, hlen, Nat.add_mul, Nat.one_mul], get_new_self _ _⟩, by simp [V.blk], by simp [V.blk]⟩
    exact ((Fr.refl ok).put (.inl (by simp [V.blk])) (ok.lt hbk) _).new _

/-- A row of numbers of a kind that is only read, or nil. -/
def RowN (kd : Go.IntKind) (g : Nat → Option Blk) (x : V) (ws : List Int) : Prop := (x = .nilsl ∧ ws = []) ∨ ∃ b c k, x = .sl b 0 ws.length c ∧ g b = some (.cells (ws.map (.int kd)) k)
theorem RowN.len {kd : Go.IntKind} {g : Nat → Option Blk} {x : V} {ws : List Int} (h : RowN kd g x ws) : lenSl x = some ws.length := by
  obtain ⟨rfl, rfl⟩ | ⟨b, c, k, rfl, _⟩ := h <;> rfl
theorem RowN.at {kd : Go.IntKind} {g : H} {x : V} {ws : List Int} (h : RowN kd g.get x ws) {i : Nat} {w : Int} (hw : ws[i]? = some w) : ∃ b, indexAV 1 x (.int .i64 (i : Int)) = some (.ptr b i) ∧ g.ld1 (.ptr b i) = some (.int kd w) := by
  have hi := lt_of_get hw
  obtain ⟨rfl, rfl⟩ | ⟨b, c, k, rfl, hb⟩ := h
  · simp at hw
  · refine ⟨b, sl_idx1 hi, ?_⟩
    rw [ld1_get', hb, ldB_cells, List.getElem?_map, hw]; rfl
theorem RowN.fr {kd : Go.IntKind} {g g' : H} {L : List Nat} {x : V} {ws : List Int} (h : RowN kd g.get x ws) (ok : g.ok) (F : Fr L g g') (hL : ∀ b ∈ x.blk, b ∉ L) : RowN kd g'.get x ws := by
  obtain h1 | ⟨b, c, k, rfl, hb⟩ := h
  · exact .inl h1
  · exact .inr ⟨b, c, k, rfl, F.get ok hb (hL b (by simp [V.blk]))⟩
end Wm
end

section
/- The free list, by the document: withyref07.List, Same. -/
namespace Wm
attribute [local congr] bind_congr1
attribute [local irreducible] wr

end Wm
end

section
/- The memory that the laws of layer 9 begin with: withylaw09.filled. -/
namespace Wm
attribute [local congr] bind_congr1
attribute [local irreducible] wr

theorem mem0_U64 {k : Cfg} (hr : k.R = true) (w : Wd) : U64 (mem0 k w) := by
  have hb := Cfg.R_iff.mp hr
  cases w <;> simp only [mem0, U64] <;> (try split) <;> omega
theorem graysN_le (k : Cfg) (f : Wd → Int) : graysN k f ≤ k.S := by
  unfold graysN
  have := List.length_filter_le (fun q => grayW (f (.header q))) (List.range k.S)
  rwa [List.length_range] at this
theorem row_splice {ws : List Int} {p : Nat} (hp : p < ws.length) {kd : Go.IntKind} {v : Int} : (ws.map (V.int kd)).take p ++ [V.int kd v] ++ (ws.map (V.int kd)).drop (p + 1) = (ws.set p v).map (V.int kd) := by
  rw [List.map_set, List.set_eq_take_append_cons_drop, if_pos (by rw [List.length_map]; exact hp), List.append_assoc]; rfl

end Wm
end

section
/- What arguments are, as lists of typed things. -/
namespace Wm

theorem chunks {α : Type} {P : List V → Prop} {enc : α → List V} {Q : α → Prop} {z : Nat} (hP : ∀ c, P c → ∃ y, c = enc y ∧ Q y) :
    ∀ (n : Nat) (cs : List V), cs.length = n * z → (∀ i, i < n → P ((cs.drop (i * z)).take z)) → ∃ ys : List α, cs = (ys.map enc).flatten ∧ ys.length = n ∧ ∀ y ∈ ys, Q y
  | 0, cs, hl, _ => ⟨[], by simpa using hl, rfl, by simp⟩
  | n + 1, cs, hl, h => by
    obtain ⟨y, hy, qy⟩ := hP _ (h 0 (by omega))
    have hl2 : (cs.drop z).length = n * z := by rw [List.length_drop, hl, Nat.add_mul]; omega
    obtain ⟨ys, h1, h2, h3⟩ := chunks hP n (cs.drop z) hl2 (fun i hi => by
      have := h (i + 1) (by omega)
      rw [Nat.add_mul, Nat.one_mul, Nat.add_comm (i * z) z, ← List.drop_drop] at this
      exact this)
    refine ⟨y :: ys, ?_, by simp [h2], fun x hx => ?_⟩
    · rw [List.map_cons, List.flatten_cons, ← h1, ← hy, Nat.zero_mul, List.drop_zero, List.take_append_drop]
    · rcases List.mem_cons.mp hx with rfl | hx
      · exact qy
      · exact h3 x hx

theorem flat_ones {α β : Type} (f : α → β) (l : List α) : (l.map fun m => [f m]).flatten = l.map f := by
  induction l with
  | nil => rfl
  | cons x l ih => simp only [List.map_cons, List.flatten_cons, ih, List.cons_append, List.nil_append]

theorem rowN_of {g : Nat → Option Blk} {kd : Go.IntKind} {by' : Nat} {v : V} (h : CellOk g (.sl by' [.int kd]) v) :
    ∃ ws, RowN kd g v ws ∧ (∀ w ∈ ws, (Go.Lit.int kd w).wf = true) ∧ ws.length * by' ≤ 140737488351232 ∧ ws.length ≤ Go.maxLen := by
  unfold CellOk at h
  rcases h with rfl | ⟨b, n, cs, rfl, ⟨h1, h2⟩, h3, h4, h5⟩
  · exact ⟨[], .inl ⟨rfl, rfl⟩, by simp, by simp, by simp⟩
  · obtain ⟨ws, e1, e2, e3⟩ := chunks (α := Int) (enc := fun m => [V.int kd m]) (Q := fun w => (Go.Lit.int kd w).wf = true) (P := CellsOk g [.int kd]) (fun c hc => by
      obtain ⟨v, vs, rfl, ⟨m, rfl, hm⟩, h⟩ := hc
      unfold CellsOk at h
      subst h
      exact ⟨m, rfl, hm⟩) n cs h4 h5
    have e4 : cs = ws.map (.int kd) := by
      rw [e1]; exact flat_ones _ ws
    subst e2
    exact ⟨ws, .inr ⟨b, _, .ro, rfl, by rw [h3, e4]⟩, e3, h2, h1⟩

theorem wf_i64 {n : Int} (h : (Go.Lit.int .i64 n).wf = true) : -9223372036854775808 ≤ n ∧ n ≤ 9223372036854775807 := by
  simpa [Go.Lit.wf, Go.IntKind.min, Go.IntKind.max, Go.IntKind.signed, Go.IntKind.bits] using h
theorem wf_u64 {n : Int} (h : (Go.Lit.int .u64 n).wf = true) : U64 n := by
  have : 0 ≤ n ∧ n ≤ 18446744073709551615 := by simpa [Go.Lit.wf, Go.IntKind.min, Go.IntKind.max, Go.IntKind.signed, Go.IntKind.bits] using h
  exact ⟨this.1, by omega⟩

end Wm
end

section
/- Slots as the laws of heaps take them: headers, and words of bodies. -/
namespace Wm
attribute [local congr] bind_congr1
attribute [local irreducible] wr

structure Slt where
  head : Hdr
  v : V
  body : List Int
def Slt.cs (s : Slt) : List V := s.head.cs ++ [s.v]
def slotSh : List CSh := [.int .i64, .int .i64, .bool, .int .i64, .int .i64, .int .i64, .sl 8 [.int .u64]]
structure RowS (g : Nat → Option Blk) (x : V) (l : List Slt) : Prop where
  row : (x = .nilsl ∧ l = []) ∨ ∃ b c k, x = .sl b 0 l.length c ∧ g b = some (.cells (l.map Slt.cs).flatten k)
  body : ∀ s ∈ l, RowN .u64 g s.v s.body
theorem slt7 (l : List Slt) : ∀ x ∈ l.map Slt.cs, x.length = 7 := fun x hx => by
  obtain ⟨_, _, rfl⟩ := List.mem_map.mp hx; rfl
theorem RowS.len {g : Nat → Option Blk} {x : V} {l : List Slt} (h : RowS g x l) : lenSl x = some l.length := by
  obtain ⟨rfl, rfl⟩ | ⟨b, c, k, rfl, _⟩ := h.row <;> rfl
theorem RowN.one {kd : Go.IntKind} {g : Nat → Option Blk} {x : V} {ws : List Int} (h : RowN kd g x ws) : x.one = true := by
  obtain ⟨rfl, _⟩ | ⟨b, c, k, rfl, _⟩ := h <;> rfl
theorem RowS.fr {g g' : H} {x : V} {l : List Slt} (h : RowS g.get x l) (ok : g.ok) (F : Fr [] g g') : RowS g'.get x l := by
  refine ⟨?_, fun s hs => (h.body s hs).fr ok F (by simp)⟩
  obtain h1 | ⟨b, c, k, rfl, hb⟩ := h.row
  · exact .inl h1
  · exact .inr ⟨b, c, k, rfl, F.get ok hb (by simp)⟩
theorem RowS.at {g : H} {x : V} {l : List Slt} (h : RowS g.get x l) (ok : g.ok) {i : Nat} {y : Slt} (hy : l[i]? = some y) :
    ∃ b, indexAV 7 x (.int .i64 (i : Int)) = some (.ptr b (i * 7)) ∧ ldNB (g.get b) (i * 7) 6 = some (.agg y.head.cs) ∧ ldB (g.get b) (i * 7 + 6) = some y.v ∧ b < g.next := by
  have hi := lt_of_get hy
  obtain ⟨rfl, rfl⟩ | ⟨b, c, k, rfl, hb⟩ := h.row
  · simp at hy
  · have hn : (l.map Slt.cs).flatten.length = l.length * 7 := by rw [flat_length (slt7 l), List.length_map]
    have hp := flat_part (slt7 l) i y.cs (by rw [List.getElem?_map, hy]; rfl)
    have at' : ∀ j, j < 7 → (l.map Slt.cs).flatten[i * 7 + j]? = y.cs[j]? := fun j hj => by
      rw [← hp, List.getElem?_take, if_pos hj, List.getElem?_drop]
    have h6 : ((l.map Slt.cs).flatten.drop (i * 7)).take 6 = y.head.cs := by
      have : ((l.map Slt.cs).flatten.drop (i * 7)).take 6 = (((l.map Slt.cs).flatten.drop (i * 7)).take 7).take 6 := by rw [List.take_take]; rfl
      rw [this, hp]; rfl
    have hone := (h.body y (List.mem_of_getElem? hy)).one
    refine ⟨b, sl_idx hi, ?_, ?_, ok.lt hb⟩
    · rw [hb, ldNB_cells, decide_eq_true (by rw [hn]; omega), h6]
    · rw [hb, ldB_cells, at' 6 (by decide)]
      show (match y.v.one with | true => some y.v | false => none) = _
      rw [hone]
structure Slt.okS (s : Slt) : Prop where
  head : s.head.i64
  body : ∀ w ∈ s.body, U64 w
theorem rowS_of {g : Nat → Option Blk} {by' : Nat} {v : V} (h : CellOk g (.sl by' slotSh) v) :
    ∃ l, RowS g v l ∧ (∀ y ∈ l, y.okS) ∧ l.length * by' ≤ 140737488351232 ∧ l.length ≤ Go.maxLen := by
  unfold CellOk at h
  rcases h with rfl | ⟨b, n, cs, rfl, ⟨h1, h2⟩, h3, h4, h5⟩
  · exact ⟨[], ⟨.inl ⟨rfl, rfl⟩, by simp⟩, by simp, by simp, by simp⟩
  · obtain ⟨ws, e1, e2, e3⟩ := chunks (α := Slt) (enc := Slt.cs) (Q := fun s => s.okS ∧ RowN .u64 g s.v s.body) (P := CellsOk g slotSh) (fun c hc => by
      obtain ⟨_, _, rfl, ⟨y0, rfl, b0⟩, _, _, rfl, ⟨y1, rfl, b1⟩, _, _, rfl, ⟨y2, rfl⟩, _, _, rfl, ⟨y3, rfl, b3⟩, _, _, rfl, ⟨y4, rfl, b4⟩, _, _, rfl, ⟨y5, rfl, b5⟩, x6, _, rfl, h6, rfl⟩ := hc
      obtain ⟨bs, r1, r2, _, _⟩ := rowN_of h6
      exact ⟨⟨⟨y0, y1, y2, y3, y4, y5⟩, x6, bs⟩, rfl, ⟨⟨(wf_i64 b0).2, (wf_i64 b1).2, (wf_i64 b3).2, (wf_i64 b4).2, (wf_i64 b5).2⟩, fun w hw => wf_u64 (r2 w hw)⟩, r1⟩) n cs h4 h5
    subst e2
    exact ⟨ws, ⟨.inr ⟨b, _, .ro, rfl, by rw [h3, e1]⟩, fun s hs => (e3 s hs).2⟩, fun s hs => (e3 s hs).1, h2, h1⟩

/-! ### What is laid -/
def hdL (l : List Slt) (q : Nat) : Hdr := match l[q]? with
  | some y => if y.head.right then y.head else Hdr.zero
  | none => Hdr.zero
def bodyL (l : List Slt) (q i : Nat) : Int := match l[q]? with
  | some y => if y.head.right then (y.body[i]?).getD 0 else 0
  | none => 0
/-- The first slot that is free, from one on. -/
def topG (l : List Slt) : Nat → Nat → Int
  | _, 0 => 0
  | n, d + 1 => if (hdL l n).kind = 0 then (n : Int) + 1 else topG l (n + 1) d
def topL (k : Cfg) (l : List Slt) (n : Nat) : Int := topG l n (k.S - n)
theorem topL_S (k : Cfg) (l : List Slt) : topL k l k.S = 0 := by unfold topL; rw [Nat.sub_self]; rfl
theorem topL_at {k : Cfg} (l : List Slt) {n : Nat} (h : n < k.S) : topL k l n = if (hdL l n).kind = 0 then (n : Int) + 1 else topL k l (n + 1) := by
  unfold topL
  rw [show k.S - n = (k.S - (n + 1)) + 1 by omega]
  rfl
theorem topG_bd (l : List Slt) : ∀ (d n : Nat), 0 ≤ topG l n d ∧ topG l n d ≤ ((n + d : Nat) : Int)
  | 0, n => ⟨Int.le_refl 0, by show (0 : Int) ≤ _; omega⟩
  | d + 1, n => by
    have := topG_bd l d (n + 1)
    unfold topG
    split <;> omega
theorem topL_bd (k : Cfg) (l : List Slt) {n : Nat} (h : n ≤ k.S) : 0 ≤ topL k l n ∧ topL k l n ≤ k.S := by
  have := topG_bd l (k.S - n) n
  unfold topL
  rw [show n + (k.S - n) = k.S by omega] at this
  exact this
theorem zero_right : Hdr.zero.right = true := by decide
theorem hdL_right (l : List Slt) (q : Nat) : (hdL l q).right = true := by
  unfold hdL
  split
  · split
    · assumption
    · exact zero_right
  · exact zero_right
theorem bodyL_U64 {l : List Slt} (h : ∀ y ∈ l, y.okS) (q i : Nat) : U64 (bodyL l q i) := by
  have z : U64 0 := ⟨by decide, by decide⟩
  unfold bodyL
  split
  · rename_i y hy
    split
    · cases hb : y.body[i]? with
      | none => exact z
      | some w => exact (h y (List.mem_of_getElem? hy)).body w (List.mem_of_getElem? hb)
    · exact z
  · exact z
/-- The words when the slots from one on are laid. -/
def laidS (k : Cfg) (l : List Slt) (j : Nat) : Wd → Int
  | .header q => if j ≤ q then (hdL l q).word else 0
  | .body q i => if j ≤ q then bodyL l q i else 0
  | .link q => if j ≤ q ∧ (hdL l q).kind = 0 then topL k l (q + 1) else mem0 k (.link q)
  | w => mem0 k w
theorem laidS_top {k : Cfg} (l : List Slt) : k.row (laidS k l k.S) = k.row (mem0 k) := by
  apply row_congr
  intro w hw
  cases w with
  | header q => have hq : q < k.S := hw; simp only [laidS, mem0]; rw [if_neg (Nat.not_le_of_lt hq)]
  | body q i => have hq : q < k.S := hw.1; simp only [laidS, mem0]; rw [if_neg (Nat.not_le_of_lt hq)]
  | link q => have hq : q < k.S := hw; simp only [laidS]; rw [if_neg (fun h => Nat.not_le_of_lt hq h.1)]
  | _ => rfl
/-- The words of one body, so many of them. -/
def bodyI (f : Wd → Int) (s : Nat) (b : List Int) (n : Nat) : Wd → Int
  | .body q i => if q = s ∧ i < n then (b[i]?).getD 0 else f (.body q i)
  | w => f w
theorem bodyI_zero (f : Wd → Int) (s : Nat) (b : List Int) : bodyI f s b 0 = f := by
  funext w; cases w <;> simp [bodyI]
theorem bodyI_succ {k : Cfg} (f : Wd → Int) {s n : Nat} {b : List Int} {v : Int} (hs : s < k.S) (hn : n < k.room) (hv : b[n]? = some v) : (k.row (bodyI f s b n)).set ((Wd.body s n).pos k) v = k.row (bodyI f s b (n + 1)) := by
  rw [row_set (show (Wd.body s n).ok k from ⟨hs, hn⟩)]
  apply row_congr
  intro w _
  unfold wset
  cases w with
  | body q i =>
    simp only [bodyI, Wd.body.injEq]
    by_cases h1 : q = s ∧ i = n
    · obtain ⟨rfl, rfl⟩ := h1
      rw [if_pos ⟨rfl, rfl⟩, if_pos ⟨rfl, Nat.lt_succ_self _⟩, hv]; rfl
    · rw [if_neg h1]
      by_cases h2 : q = s ∧ i < n
      · rw [if_pos h2, if_pos ⟨h2.1, Nat.lt_succ_of_lt h2.2⟩]
      · rw [if_neg h2, if_neg (fun h => by
          rcases Nat.lt_succ_iff_lt_or_eq.mp h.2 with h3 | h3
          · exact h2 ⟨h.1, h3⟩
          · exact h1 ⟨h.1, h3⟩)]
  | _ => rfl
/-- One slot more: its body is laid, then its header, then its link. -/
theorem laidS_step {k : Cfg} {l : List Slt} {s n : Nat} (hs : s < k.S) {b : List Int} (hb : ∀ i, i < k.room → bodyL l s i = if i < n then (b[i]?).getD 0 else 0) :
    k.row (laidS k l s) = k.row (if (hdL l s).kind = 0 then wset (wset (bodyI (laidS k l (s + 1)) s b n) (.header s) (hdL l s).word) (.link s) (topL k l (s + 1)) else wset (bodyI (laidS k l (s + 1)) s b n) (.header s) (hdL l s).word) := by
  apply row_congr
  intro w hw
  have key : ∀ w, w.ok k → (∀ q, w ≠ .link q) → laidS k l s w = wset (bodyI (laidS k l (s + 1)) s b n) (.header s) (hdL l s).word w := by
    intro w hw hl
    unfold wset
    cases w with
    | header q =>
      simp only [laidS, bodyI, Wd.header.injEq]
      by_cases h1 : q = s
      · subst h1; rw [if_pos (Nat.le_refl _), if_pos rfl]
      · rw [if_neg h1]
        by_cases h2 : s ≤ q
        · rw [if_pos h2, if_pos (by omega)]
        · rw [if_neg h2, if_neg (by omega)]
    | body q i =>
      have hi : i < k.room := hw.2
      simp only [laidS, bodyI, reduceCtorEq, if_false]
      by_cases h1 : q = s
      · subst h1
        rw [if_pos (Nat.le_refl _), hb i hi]
        by_cases h2 : i < n
        · rw [if_pos h2, if_pos ⟨rfl, h2⟩]
        · rw [if_neg h2, if_neg (fun h => h2 h.2), if_neg (Nat.not_succ_le_self q)]
      · rw [if_neg (fun h : q = s ∧ i < n => h1 h.1)]
        by_cases h2 : s ≤ q
        · rw [if_pos h2, if_pos (by omega)]
        · rw [if_neg h2, if_neg (by omega)]
    | link q => exact absurd rfl (hl q)
    | _ => rfl
  cases w with
  | link q =>
    by_cases hk : (hdL l s).kind = 0
    · rw [if_pos hk]
      unfold wset
      simp only [laidS, bodyI, Wd.link.injEq, reduceCtorEq, if_false]
      by_cases h1 : q = s
      · subst h1; rw [if_pos ⟨Nat.le_refl _, hk⟩, if_pos rfl]
      · rw [if_neg h1]
        by_cases h2 : s ≤ q
        · by_cases h3 : (hdL l q).kind = 0
          · rw [if_pos ⟨h2, h3⟩, if_pos ⟨by omega, h3⟩]
          · rw [if_neg (fun h => h3 h.2), if_neg (fun h => h3 h.2)]
        · rw [if_neg (fun h => h2 h.1), if_neg (fun h => h2 (by omega))]
    · rw [if_neg hk]
      unfold wset
      simp only [laidS, bodyI, reduceCtorEq, if_false]
      by_cases h1 : q = s
      · subst h1; rw [if_neg (fun h => hk h.2), if_neg (fun h => Nat.not_succ_le_self q h.1)]
      · by_cases h2 : s ≤ q
        · by_cases h3 : (hdL l q).kind = 0
          · rw [if_pos ⟨h2, h3⟩, if_pos ⟨by omega, h3⟩]
          · rw [if_neg (fun h => h3 h.2), if_neg (fun h => h3 h.2)]
        · rw [if_neg (fun h => h2 h.1), if_neg (fun h => h2 (by omega))]
  | header q =>
    rw [key _ hw (by simp)]
    split
    · exact (wset_ne (by simp)).symm
    · rfl
  | body q i =>
    rw [key _ hw (by simp)]
    split
    · exact (wset_ne (by simp)).symm
    · rfl
  | clock => rw [key _ hw (by simp)]; split; exact (wset_ne (by simp)).symm; rfl
  | epoch => rw [key _ hw (by simp)]; split; exact (wset_ne (by simp)).symm; rfl
  | grays => rw [key _ hw (by simp)]; split; exact (wset_ne (by simp)).symm; rfl
  | top => rw [key _ hw (by simp)]; split; exact (wset_ne (by simp)).symm; rfl
  | pin q => rw [key _ hw (by simp)]; split; exact (wset_ne (by simp)).symm; rfl
  | entry q i => rw [key _ hw (by simp)]; split; exact (wset_ne (by simp)).symm; rfl
  | view q => rw [key _ hw (by simp)]; split; exact (wset_ne (by simp)).symm; rfl
  | start q => rw [key _ hw (by simp)]; split; exact (wset_ne (by simp)).symm; rfl
end Wm
end

section
/- Heaps that are laid by the document: withyref13.Laid. -/
namespace Wm
attribute [local congr] bind_congr1
attribute [local irreducible] wr

def cfgB (k : Cfg) : Blk := .cells [.int .i64 k.s, .int .i64 k.a, .int .i64 k.c, .int .i64 k.hd, .int .i64 k.g, .int .i64 k.st] .rw
/-- What stands where while a heap is laid. -/
structure LdAt (k : Cfg) (h g : H) (cb bw : Nat) (f : Wd → Int) : Prop where
  fr : Fr [] h g
  cfg : g.get cb = some (cfgB k)
  row : g.get bw = some (.cells ((k.row f).map (.int .u64)) .rw)
  ncb : h.next ≤ cb
  nbw : h.next ≤ bw
  ne : cb ≠ bw
theorem LdAt.fr' {k : Cfg} {h g g' : H} {cb bw : Nat} {f : Wd → Int} (Z : LdAt k h g cb bw f) (F : Fr [] g g') : LdAt k h g' cb bw f :=
  ⟨Z.fr.trans' F, F.get Z.fr.ok Z.cfg (by simp), F.get Z.fr.ok Z.row (by simp), Z.ncb, Z.nbw, Z.ne⟩
theorem LdAt.set {k : Cfg} {h g : H} {cb bw : Nat} {f : Wd → Int} (Z : LdAt k h g cb bw f) {l : Wd} (hl : l.ok k) {v : Int} {cs : List V} (hcs : cs = ((k.row f).map (V.int .u64)).take (l.pos k) ++ [.int .u64 v] ++ ((k.row f).map (V.int .u64)).drop (l.pos k + 1)) : LdAt k h (g.put bw (some (.cells cs .rw))) cb bw (wset f l v) := by
  have ok := Z.fr.ok
  have hbl := ok.lt Z.row
  refine ⟨Z.fr.put (.inr Z.nbw) hbl _, by rw [get_put_ne Z.ne]; exact Z.cfg, ?_, Z.ncb, Z.nbw, Z.ne⟩
  rw [get_put_self, hcs, row_splice (by rw [row_length]; exact pos_lt hl), row_set hl]
theorem LdAt.row_eq {k : Cfg} {h g : H} {cb bw : Nat} {f f' : Wd → Int} (Z : LdAt k h g cb bw f) (e : k.row f = k.row f') : LdAt k h g cb bw f' :=
  ⟨Z.fr, Z.cfg, e ▸ Z.row, Z.ncb, Z.nbw, Z.ne⟩
/-- A store into the words. -/
theorem LdAt.le {k : Cfg} {f : Wd → Int} {l : Wd} (hl : l.ok k) : decide (l.pos k + 1 ≤ ((k.row f).map (V.int .u64)).length) = true := decide_eq_true (by rw [List.length_map, row_length]; exact pos_lt hl)

theorem ld_i {i : Nat} (h : i < 1000) : wr .i64 ((i : Int) + 1) = ((i + 1 : Nat) : Int) := by rw [wr64 (by omega) (by omega)]; rfl
theorem room_int {k : Cfg} (hr : k.R = true) : (if k.a < 3 then 3 else k.a) = (k.room : Int) := by
  have := Cfg.R_iff.mp hr
  unfold Cfg.room; split <;> omega
theorem ld_lt (i n : Nat) : decide ((i : Int) < (n : Int)) = decide (i < n) := by congr 1; apply propext; omega

/-- A body is laid. -/
theorem laid_body {k : Cfg} (hr : k.R = true) {h : H} (ok : h.ok) {x1 x2 x3 : V} {l : List Slt} (hx : RowS h.get x1 l) (hu : ∀ y ∈ l, y.okS) {s : Nat} (hs : s < k.S) {y : Slt} (hy : l[s]? = some y) {cb bw hb : Nat} {f : Wd → Int} {top : Int} {g0 : H} (Z0 : LdAt k h g0 cb bw f)
    (K : AX × List V × H → Option (AX × List V × H)) (R : AX × List V × H → Prop)
    (hK : ∀ (n : Nat) (g : H), (n = k.room ∨ n = y.body.length) → n ≤ k.room → Fr [bw] g0 g → LdAt k h g cb bw (bodyI f s y.body n) →
      Ev (K (.exit 2, S.withyref13_Laid_c4_O x1 x2 x3 (.ptr cb 0) (.sl bw 0 k.size (.ex k.size)) (.int .u64 top) (.int .i64 (s : Nat)) (.ptr hb 0), g)) R) :
    Ev ((W.loop (S.withyref13_Laid_c4_B W) (S.withyref13_Laid_c4_E x1 x2 x3 (.ptr cb 0) (.sl bw 0 k.size (.ex k.size)) (.int .u64 top) (.int .i64 (s : Nat)) (.ptr hb 0) (.int .i64 0)) g0).bind K) R := by
  have hbd := Cfg.bounds hr
  refine loop_ev (α := Nat) (fun i => S.withyref13_Laid_c4_E x1 x2 x3 (.ptr cb 0) (.sl bw 0 k.size (.ex k.size)) (.int .u64 top) (.int .i64 (s : Nat)) (.ptr hb 0) (.int .i64 (i : Nat)))
    (fun i g => i ≤ k.room ∧ i ≤ y.body.length ∧ Fr [bw] g0 g ∧ LdAt k h g cb bw (bodyI f s y.body i)) (fun i _ => k.room - i)
    (fun r => ∃ n, r.1 = .exit 2 ∧ r.2.1 = S.withyref13_Laid_c4_O x1 x2 x3 (.ptr cb 0) (.sl bw 0 k.size (.ex k.size)) (.int .u64 top) (.int .i64 (s : Nat)) (.ptr hb 0) ∧ (n = k.room ∨ n = y.body.length) ∧ n ≤ k.room ∧ Fr [bw] g0 r.2.2 ∧ LdAt k h r.2.2 cb bw (bodyI f s y.body n))
    0 rfl ⟨Nat.zero_le _, Nat.zero_le _, .refl Z0.fr.ok, by rw [bodyI_zero]; exact Z0⟩ ?_ ?_
  rotate_left
  · rintro ⟨_, _, g⟩ ⟨n, rfl, rfl, h1, h2, F, Z⟩
    exact hK n g h1 h2 F Z
  rintro i g ⟨hi, hib, F, Z⟩
  rw [S.withyref13_Laid_c4_eq]
  have hv : k.v = .agg [.int .i64 k.s, .int .i64 k.a, .int .i64 k.c, .int .i64 k.hd, .int .i64 k.g, .int .i64 k.st] := rfl
  have hcfg := Z.cfg
  unfold cfgB at hcfg
  have hroom := fun h => refRoom_spec k.s k.a k.c k.hd k.g k.st h
  unfold cfgV at hroom
  rw [room_int hr] at hroom
  have d1 := ld_lt i k.room
  by_cases hik : i < k.room
  rotate_left
  · rw [decide_eq_false hik] at d1
    simp only [S.withyref13_Laid_c4_S, Option.bind_some, ldN_get', ldNB_cells, Nat.zero_add, Nat.reduceAdd, Nat.reduceLeDiff, asI_int, List.length_cons, List.length_nil, decide_true, List.take_succ_cons, List.take_zero, List.drop_zero, W_call, hcfg, hroom, d1]
    exact Ev.some (.inr ⟨by simp, i, rfl, rfl, .inl (Nat.le_antisymm hi (Nat.le_of_not_lt hik)), hi, F, Z⟩)
  rw [decide_eq_true hik] at d1
  obtain ⟨xb, e1, _, e3, _⟩ := (hx.fr ok Z.fr).at Z.fr.ok hy
  have hB := (hx.body y (List.mem_of_getElem? hy)).fr ok Z.fr (by simp)
  have hBl := hB.len
  have d2 := ld_lt i y.body.length
  by_cases hil : i < y.body.length
  rotate_left
  · rw [decide_eq_false hil] at d2
    simp only [S.withyref13_Laid_c4_S, ptrAt_ptr, Option.bind_some, ld1_get', ldN_get', ldNB_cells, Nat.zero_add, Nat.reduceAdd, Nat.reduceLeDiff, asI_int, List.length_cons, List.length_nil, decide_true, List.take_succ_cons, List.take_zero, List.drop_zero, W_call, hcfg, hroom, d1, e1, e3, hBl, d2]
    exact Ev.some (.inr ⟨by simp, i, rfl, rfl, .inr (Nat.le_antisymm hib (Nat.le_of_not_lt hil)), hi, F, Z⟩)
  rw [decide_eq_true hil] at d2
  obtain ⟨v, hvi⟩ : ∃ v, y.body[i]? = some v := ⟨_, List.getElem?_eq_getElem hil⟩
  obtain ⟨vb, f1, f2⟩ := hB.at hvi
  have hbok : (Wd.body s i).ok k := ⟨hs, hik⟩
  have hat := at_wd hr hbok
  rw [hv] at hat
  have hat' : ∀ h, C 108 [.agg [.int .i64 k.s, .int .i64 k.a, .int .i64 k.c, .int .i64 k.hd, .int .i64 k.g, .int .i64 k.st], .agg [.str ⟨⟨[98, 111, 100, 121]⟩⟩, .int .i64 (s : Int), .int .i64 (i : Int)]] h = some (.int .i64 ((Wd.body s i).pos k : Nat), h) := hat
  have hix : indexAV 1 (.sl bw 0 k.size (.ex k.size)) (.int .i64 ((Wd.body s i).pos k : Nat)) = some (.ptr bw ((Wd.body s i).pos k)) := sl_idx1 (pos_lt hbok)
  have hrow := Z.row
  have hle := LdAt.le (f := bodyI f s y.body i) hbok
  have hne0 : decide (Bk.rw = Bk.ro) = false := rfl
  have wi := ld_i (i := i) (Nat.lt_of_lt_of_le hik (Nat.le_trans hbd.2.1.2 (by decide)))
  have hvb : V.beq y.v y.v = true := by
    rcases hB with ⟨h1, _⟩ | ⟨b, c, kk, h1, _⟩
    · rw [h1]; rfl
    · rw [h1]; simp [V.beq]
  have Z1 := Z.set (v := v) hbok rfl
  simp only [ld1_get'] at f2
  generalize hcs : ((k.row (bodyI f s y.body i)).map (V.int .u64)).take ((Wd.body s i).pos k) ++ [.int .u64 v] ++ ((k.row (bodyI f s y.body i)).map (V.int .u64)).drop ((Wd.body s i).pos k + 1) = cs at Z1
  simp only [S.withyref13_Laid_c4_S, ptrAt_ptr, Option.bind_some, Option.map_some, ld1_get', ldN_get', st_get', ldNB_cells, stB_cells, Nat.zero_add, Nat.reduceAdd, Nat.reduceLeDiff, V.one, V.cells, V.beq, ckB_some, asI_int, List.length_cons, List.length_nil, Nat.beq_refl, List.all_cons, List.all_nil, Bool.not_true, Bool.or_self, Bool.and_self, decide_true, decide_false, splice, List.take_succ_cons, List.take_zero, List.drop_zero, reduceCtorEq, W_call, hcfg, hroom, d1, e1, e3, hBl, d2, f1, f2, hat', hvb, hix, hrow, hle, hcs, wi]
  have Z2 := Z1.row_eq (f' := bodyI f s y.body (i + 1)) (by rw [← row_set hbok]; exact bodyI_succ f hs hik hvi)
  exact Ev.some (.inl ⟨i + 1, rfl, rfl, ⟨hik, hil, F.put (.inl (by simp)) (Z.fr.ok.lt Z.row) _, Z2⟩, Nat.sub_lt_sub_left hik (Nat.lt_succ_self i)⟩)

theorem ld_s {s S : Nat} (h : s < S) (h64 : S ≤ 64) : decide ((0 : Int) ≤ (s : Int)) = true ∧ wr .u64 (wr .i64 ((s : Int) + 1)) = (s : Int) + 1 ∧ wr .i64 ((s : Int) - 1) = (s : Int) - 1 := by
  refine ⟨decide_eq_true (by omega), ?_, wr64 (by omega) (by omega)⟩
  rw [wr64 (n := (s : Int) + 1) (by omega) (by omega), wru64 (by omega) (by omega)]
theorem hdL_none {l : List Slt} {s : Nat} (h : l[s]? = none) : hdL l s = Hdr.zero ∧ ∀ i, bodyL l s i = 0 := by
  unfold hdL bodyL; rw [h]; exact ⟨rfl, fun _ => rfl⟩
theorem hdL_wrong {l : List Slt} {s : Nat} {y : Slt} (h : l[s]? = some y) (hr : y.head.right = false) : hdL l s = Hdr.zero ∧ ∀ i, bodyL l s i = 0 := by
  unfold hdL bodyL; rw [h]; simp only [hr]; exact ⟨rfl, fun _ => rfl⟩
theorem hdL_right' {l : List Slt} {s : Nat} {y : Slt} (h : l[s]? = some y) (hr : y.head.right = true) : hdL l s = y.head ∧ ∀ i, bodyL l s i = (y.body[i]?).getD 0 := by
  unfold hdL bodyL; rw [h]; simp only [hr, if_true]; exact ⟨trivial, fun _ => trivial⟩

section
variable {k : Cfg} (hr : k.R = true) {h : H} (ok : h.ok) {x1 x2 x3 : V} {l : List Slt} (hx : RowS h.get x1 l) (hu : ∀ y ∈ l, y.okS)
include hr ok hx hu
/-- A slot is laid. -/
theorem laid_slot {s : Nat} (hs : s < k.S) {cb bw : Nat} {g : H} (Z : LdAt k h g cb bw (laidS k l (s + 1))) :
    Ev (S.withyref13_Laid_c1_S W x1 x2 x3 (.ptr cb 0) (.sl bw 0 k.size (.ex k.size)) (topL k l (s + 1)) (s : Nat) g) fun r => r.1 = .normal ∧ r.2.1 = S.withyref13_Laid_c1_E x1 x2 x3 (.ptr cb 0) (.sl bw 0 k.size (.ex k.size)) (.int .u64 (topL k l s)) (.int .i64 ((s : Int) - 1)) ∧ LdAt k h r.2.2 cb bw (laidS k l s) := by
  have hbd := Cfg.bounds hr
  obtain ⟨d0, ws1, ws2⟩ := ld_s hs hbd.1.2
  have hv : k.v = .agg [.int .i64 k.s, .int .i64 k.a, .int .i64 k.c, .int .i64 k.hd, .int .i64 k.g, .int .i64 k.st] := rfl
  have hhok : (Wd.header s).ok k := hs
  have hlok : (Wd.link s).ok k := hs
  have hat := at_wd hr hhok
  have hal := at_wd hr hlok
  rw [hv] at hat hal
  have hat' : ∀ h, C 108 [.agg [.int .i64 k.s, .int .i64 k.a, .int .i64 k.c, .int .i64 k.hd, .int .i64 k.g, .int .i64 k.st], .agg [.str ⟨⟨[104, 101, 97, 100, 101, 114]⟩⟩, .int .i64 (s : Int), .int .i64 0]] h = some (.int .i64 ((Wd.header s).pos k : Nat), h) := hat
  have hal' : ∀ h, C 108 [.agg [.int .i64 k.s, .int .i64 k.a, .int .i64 k.c, .int .i64 k.hd, .int .i64 k.g, .int .i64 k.st], .agg [.str ⟨⟨[108, 105, 110, 107]⟩⟩, .int .i64 (s : Int), .int .i64 0]] h = some (.int .i64 ((Wd.link s).pos k : Nat), h) := hal
  have hix : indexAV 1 (.sl bw 0 k.size (.ex k.size)) (.int .i64 ((Wd.header s).pos k : Nat)) = some (.ptr bw ((Wd.header s).pos k)) := sl_idx1 (pos_lt hhok)
  have hil : indexAV 1 (.sl bw 0 k.size (.ex k.size)) (.int .i64 ((Wd.link s).pos k : Nat)) = some (.ptr bw ((Wd.link s).pos k)) := sl_idx1 (pos_lt hlok)
  have hne0 : decide (Bk.rw = Bk.ro) = false := rfl
  have ok0 := Z.fr.ok
  have hcl := ok0.lt Z.cfg
  have hbl := ok0.lt Z.row
  have ncn : cb ≠ g.next := Nat.ne_of_lt hcl
  have nbn : bw ≠ g.next := Nat.ne_of_lt hbl
  have ncb := Z.ne
  have htop := topL_at l hs
  have hle1 : ∀ f, decide ((Wd.header s).pos k + 1 ≤ ((k.row f).map (V.int .u64)).length) = true := fun f => LdAt.le hhok
  have hle2 : ∀ f, decide ((Wd.link s).pos k + 1 ≤ ((k.row f).map (V.int .u64)).length) = true := fun f => LdAt.le hlok
  have hsp1 : ∀ f v, ((k.row f).map (V.int .u64)).take ((Wd.header s).pos k) ++ [.int .u64 v] ++ ((k.row f).map (V.int .u64)).drop ((Wd.header s).pos k + 1) = (k.row (wset f (.header s) v)).map (V.int .u64) := fun f v => by
    rw [row_splice (by rw [row_length]; exact pos_lt hhok), row_set hhok]
  have hsp2 : ∀ f v, ((k.row f).map (V.int .u64)).take ((Wd.link s).pos k) ++ [.int .u64 v] ++ ((k.row f).map (V.int .u64)).drop ((Wd.link s).pos k + 1) = (k.row (wset f (.link s) v)).map (V.int .u64) := fun f v => by
    rw [row_splice (by rw [row_length]; exact pos_lt hlok), row_set hlok]
  have hxl := hx.len
  have d1 := ld_lt s l.length
  -- a slot that is nothing
  have nothing : hdL l s = Hdr.zero → (∀ i, bodyL l s i = 0) → k.row (wset (wset (laidS k l (s + 1)) (.header s) Hdr.zero.word) (.link s) (topL k l (s + 1))) = k.row (laidS k l s) ∧ topL k l s = (s : Int) + 1 := fun hz hb => by
    have e := laidS_step (k := k) (l := l) (n := 0) hs (b := []) (fun i _ => by rw [hb i, if_neg (Nat.not_lt_zero i)])
    rw [hz, if_pos (show Hdr.zero.kind = 0 from rfl), bodyI_zero] at e
    refine ⟨e.symm, ?_⟩
    rw [htop, hz, if_pos (show Hdr.zero.kind = 0 from rfl)]
  have Zn : ∀ (b1 b2 : _) (f' : Wd → Int), k.row f' = k.row (laidS k l s) → LdAt k h ((((g.new b1).put g.next b2)).put bw (some (.cells ((k.row f').map (.int .u64)) .rw))) cb bw (laidS k l s) := fun b1 b2 f' e => by
    refine ⟨(((Z.fr.new _).put (.inr Z.fr.le) (Nat.lt_succ_self _) _).put (.inr Z.nbw) (Nat.lt_succ_of_lt hbl) _), ?_, by rw [get_put_self, e], Z.ncb, Z.nbw, Z.ne⟩
    rw [get_put_ne ncb, get_put_ne ncn, get_new_ne ncn]; exact Z.cfg
  have hcfg := Z.cfg
  have hrow := Z.row
  unfold cfgB at hcfg
  have hPz := fun h => refPack_spec (x := Hdr.zero) zero_right h
  simp only [Hdr.cs, Hdr.zero] at hPz
  by_cases hsl : s < l.length
  rotate_left
  · rw [decide_eq_false hsl] at d1
    obtain ⟨hz, hb⟩ := hdL_none (List.getElem?_eq_none (Nat.le_of_not_lt hsl) : l[s]? = none)
    obtain ⟨e, ht⟩ := nothing hz hb
    simp only [Hdr.zero] at e
    simp only [S.withyref13_Laid_c1_S, Option.bind_some, Option.map_some, ld1_get', ldN_get', st_get', get_put', get_new', put_put', ldB_cells, ldNB_cells, stB_cells, List.getElem?_cons_zero, Nat.zero_add, Nat.reduceAdd, Nat.reduceLeDiff, V.one, V.cells, V.beq, V.beqs, ckB_some, asI_int, List.length_cons, List.length_nil, Nat.beq_refl, List.all_cons, List.all_nil, Bool.not_true, Bool.or_self, Bool.and_self, decide_true, decide_false, if_true, if_false, splice, List.take_succ_cons, List.take_zero, List.drop_succ_cons, List.drop_zero, List.cons_append, List.nil_append, reduceCtorEq, W_call, d0, hxl, d1, hcfg, ncn, ncb, nbn, nbn.symm, hat', hPz, hix, hrow, hle1, hsp1, hal', hil, hle2, hsp2, ws1, ws2, BEq.rfl]
    exact Ev.some ⟨rfl, by rw [ht], Zn _ _ _ e⟩
  rw [decide_eq_true hsl] at d1
  obtain ⟨y, hy⟩ : ∃ y, l[s]? = some y := ⟨_, List.getElem?_eq_getElem hsl⟩
  obtain ⟨xb, e1, e2, _, hxbl⟩ := (hx.fr ok Z.fr).at ok0 hy
  have nxn : xb ≠ g.next := Nat.ne_of_lt hxbl
  have hRt := fun h => refRight_spec y.head h
  cases hyr : y.head.right with
  | false =>
    rw [hyr] at hRt
    obtain ⟨hz, hb⟩ := hdL_wrong hy hyr
    obtain ⟨e, ht⟩ := nothing hz hb
    simp only [Hdr.zero] at e
    simp only [S.withyref13_Laid_c1_S, ptrAt_ptr, Option.bind_some, Option.map_some, ld1_get', ldN_get', st_get', get_put', get_new', put_put', ldB_cells, ldNB_cells, stB_cells, List.getElem?_cons_zero, Nat.zero_add, Nat.add_zero, Nat.reduceAdd, Nat.reduceLeDiff, V.one, V.cells, V.beq, V.beqs, ckB_some, asI_int, asB_bool, List.length_cons, List.length_nil, Nat.beq_refl, List.all_cons, List.all_nil, Bool.not_true, Bool.false_or, Bool.or_self, Bool.and_self, decide_true, decide_false, if_true, if_false, splice, List.take_succ_cons, List.take_zero, List.drop_succ_cons, List.drop_zero, List.cons_append, List.nil_append, reduceCtorEq, W_call, d0, hxl, d1, e1, e2, nxn, hRt, hcfg, ncn, ncb, nbn, nbn.symm, hat', hPz, hix, hrow, hle1, hsp1, hal', hil, hle2, hsp2, ws1, ws2, BEq.rfl]
    exact Ev.some ⟨rfl, by rw [ht], Zn _ _ _ e⟩
  | true =>
    rw [hyr] at hRt
    obtain ⟨hz, hb⟩ := hdL_right' hy hyr
    have hPk := fun h => refPack_spec hyr h
    have hkk : y.head.cs = [.int .i64 y.head.kind, .int .i64 y.head.mark, .bool y.head.gray, .int .i64 y.head.arity, .int .i64 y.head.gen, .int .i64 y.head.stamp] := rfl
    rw [hkk] at e2 hRt hPk
    simp only [S.withyref13_Laid_c1_S, ptrAt_ptr, Option.bind_some, Option.map_some, ld1_get', ldN_get', st_get', get_put', get_new', put_put', ldNB_cells, stB_cells, Nat.zero_add, Nat.add_zero, Nat.reduceAdd, Nat.reduceLeDiff, V.one, V.cells, asB_bool, List.length_cons, List.length_nil, Nat.beq_refl, List.all_cons, List.all_nil, Bool.not_true, Bool.or_self, Bool.and_self, decide_true, decide_false, if_true, if_false, splice, List.take_succ_cons, List.take_zero, List.drop_succ_cons, List.drop_zero, List.cons_append, List.nil_append, reduceCtorEq, W_call, d0, hxl, d1, e1, e2, nxn, hRt]
    have F1 : Fr [] g ((g.new (.cells [.int .i64 0, .int .i64 0, .bool false, .int .i64 0, .int .i64 0, .int .i64 0] .rw)).put g.next (some (.cells [.int .i64 y.head.kind, .int .i64 y.head.mark, .bool y.head.gray, .int .i64 y.head.arity, .int .i64 y.head.gen, .int .i64 y.head.stamp] .rw))) := ((Fr.refl ok0).new _).put (.inr (Nat.le_refl _)) (Nat.lt_succ_self _) _
    refine laid_body hr ok hx hu hs hy (Z.fr' F1) _ _ ?_
    intro n g2 hn hnr F2 Z2
    show Ev (S.withyref13_Laid_K7 W (.exit 2) _ g2) _
    rw [S.withyref13_Laid_c4_e2_eq]
    have hown := F2.get F1.ok (get_put_self _ _ _) (by simp [nbn.symm])
    have hcfg2 := Z2.cfg
    have hrow2 := Z2.row
    have ok2 := F2.ok
    have hcl2 := ok2.lt hcfg2
    have hbl2 := ok2.lt hrow2
    unfold cfgB at hcfg2
    have e := laidS_step (k := k) (l := l) (n := n) hs (b := y.body) (fun i hi => by
      rw [hb i]
      by_cases h1 : i < n
      · rw [if_pos h1]
      · rw [if_neg h1]
        rcases hn with h2 | h2
        · exact absurd (h2 ▸ hi) h1
        · rw [List.getElem?_eq_none (by rw [← h2]; exact Nat.le_of_not_lt h1)]; rfl)
    rw [hz] at e htop
    by_cases hk0 : y.head.kind = 0
    · rw [if_pos hk0] at e htop
      have dk : decide (y.head.kind = 0) = true := decide_eq_true hk0
      simp only [S.withyref13_Laid_c4_e2, ptrAt_ptr, Option.bind_some, Option.map_some, ld1_get', ldN_get', st_get', get_put', put_put', ldB_cells, ldNB_cells, stB_cells, List.getElem?_cons_zero, Nat.zero_add, Nat.add_zero, Nat.reduceAdd, Nat.reduceLeDiff, V.one, V.cells, V.beq, V.beqs, ckB_some, asI_int, List.length_cons, List.length_nil, Nat.beq_refl, List.all_cons, List.all_nil, Bool.not_true, Bool.or_self, Bool.and_self, decide_true, decide_false, if_true, if_false, splice, List.take_succ_cons, List.take_zero, List.drop_zero, reduceCtorEq, W_call, hcfg2, hown, nbn.symm, hat', hPk, hix, hrow2, hle1, hsp1, ncb, dk, hal', hil, hle2, hsp2, ws1, ws2, BEq.rfl]
      refine Ev.some ⟨rfl, by rw [htop], ⟨Z2.fr.put (.inr Z.nbw) hbl2 _, by rw [get_put_ne ncb]; exact Z2.cfg, by rw [get_put_self, e], Z.ncb, Z.nbw, Z.ne⟩⟩
    · rw [if_neg hk0] at e htop
      have dk : decide (y.head.kind = 0) = false := decide_eq_false hk0
      simp only [S.withyref13_Laid_c4_e2, ptrAt_ptr, Option.bind_some, Option.map_some, ld1_get', ldN_get', st_get', get_put', ldB_cells, ldNB_cells, stB_cells, List.getElem?_cons_zero, Nat.zero_add, Nat.add_zero, Nat.reduceAdd, Nat.reduceLeDiff, V.one, V.cells, V.beq, V.beqs, ckB_some, asI_int, List.length_cons, List.length_nil, Nat.beq_refl, List.all_cons, List.all_nil, Bool.not_true, Bool.or_self, Bool.and_self, decide_true, decide_false, if_false, splice, List.take_succ_cons, List.take_zero, List.drop_zero, reduceCtorEq, W_call, hcfg2, hown, nbn.symm, hat', hPk, hix, hrow2, hle1, hsp1, dk, ws2, BEq.rfl]
      refine Ev.some ⟨rfl, by rw [htop], ⟨Z2.fr.put (.inr Z.nbw) hbl2 _, by rw [get_put_ne ncb]; exact Z2.cfg, by rw [get_put_self, e], Z.ncb, Z.nbw, Z.ne⟩⟩
end

/-! ### Roots, views, grays -/
def rootW (k : Cfg) (j : Nat) : Wd := if j / k.C < k.H then .entry (j % k.C) (j / k.C) else .start (j % k.C)
def rootsF (k : Cfg) (f : Wd → Int) (roots : List Int) : Nat → Wd → Int
  | 0 => f
  | n + 1 => wset (rootsF k f roots n) (rootW k n) ((roots[n]?).getD 0 % 20)
def viewsF (f : Wd → Int) (views : List Int) : Nat → Wd → Int
  | 0 => f
  | n + 1 => wset (viewsF f views n) (.view n) ((views[n]?).getD 0)
def laidT (k : Cfg) (l : List Slt) : Wd → Int := wset (laidS k l 0) .top (topL k l 0)
def laidV (k : Cfg) (l : List Slt) (roots views : List Int) : Wd → Int := viewsF (rootsF k (laidT k l) roots (min roots.length (k.C * (k.H + 1)))) views (min views.length k.C)
/-- The words of a heap that is laid. -/
def laidW (k : Cfg) (l : List Slt) (roots views : List Int) : Wd → Int := wset (laidV k l roots views) .grays (graysN k (laidV k l roots views) : Nat)

theorem laidS_U64 {k : Cfg} (hr : k.R = true) {l : List Slt} (hu : ∀ y ∈ l, y.okS) (j : Nat) (w : Wd) : U64 (laidS k l j w) := by
  have z : U64 0 := ⟨by decide, by decide⟩
  have hS := (Cfg.bounds hr).1
  cases w with
  | header q =>
    simp only [laidS]; split
    · exact word_U64 (hdL_right l q)
    · exact z
  | body q i =>
    simp only [laidS]; split
    · exact bodyL_U64 hu q i
    · exact z
  | link q =>
    simp only [laidS]; split
    · unfold topL
      have := topG_bd l (k.S - (q + 1)) (q + 1)
      by_cases h : q + 1 ≤ k.S
      · exact ⟨this.1, by omega⟩
      · rw [show k.S - (q + 1) = 0 by omega]; exact z
    · exact mem0_U64 hr (.link q)
  | clock => exact mem0_U64 hr .clock
  | epoch => exact mem0_U64 hr .epoch
  | grays => exact mem0_U64 hr .grays
  | top => exact mem0_U64 hr .top
  | pin q => exact mem0_U64 hr (.pin q)
  | entry q i => exact mem0_U64 hr (.entry q i)
  | view q => exact mem0_U64 hr (.view q)
  | start q => exact mem0_U64 hr (.start q)
theorem wset_U64 {f : Wd → Int} {w0 : Wd} {v : Int} (h : ∀ w, U64 (f w)) (hv : U64 v) (w : Wd) : U64 (wset f w0 v w) := by
  unfold wset; split
  · exact hv
  · exact h w
theorem rootsF_U64 {k : Cfg} {f : Wd → Int} {roots : List Int} (h : ∀ w, U64 (f w)) : ∀ n w, U64 (rootsF k f roots n w)
  | 0, w => h w
  | n + 1, w => wset_U64 (rootsF_U64 h n) ⟨by omega, by omega⟩ w
theorem viewsF_U64 {f : Wd → Int} {views : List Int} (h : ∀ w, U64 (f w)) (hv : ∀ v ∈ views, U64 v) : ∀ n w, U64 (viewsF f views n w)
  | 0, w => h w
  | n + 1, w => wset_U64 (viewsF_U64 h hv n) (by
      cases hn : views[n]? with
      | none => exact ⟨by decide, by decide⟩
      | some v => exact hv v (List.mem_of_getElem? hn)) w
theorem laidV_U64 {k : Cfg} (hr : k.R = true) {l : List Slt} (hu : ∀ y ∈ l, y.okS) {roots views : List Int} (hv : ∀ v ∈ views, U64 v) (w : Wd) : U64 (laidV k l roots views w) := by
  unfold laidV
  refine viewsF_U64 (rootsF_U64 (fun w => ?_) _) hv _ w
  have hb := topL_bd k l (Nat.zero_le k.S)
  have hS := (Cfg.bounds hr).1
  exact wset_U64 (laidS_U64 hr hu 0) ⟨hb.1, by omega⟩ w
theorem laidW_U64 {k : Cfg} (hr : k.R = true) {l : List Slt} (hu : ∀ y ∈ l, y.okS) {roots views : List Int} (hv : ∀ v ∈ views, U64 v) (w : Wd) : U64 (laidW k l roots views w) := by
  unfold laidW
  have hS := (Cfg.bounds hr).1
  have := graysN_le k (laidV k l roots views)
  exact wset_U64 (laidV_U64 hr hu hv) ⟨by omega, by omega⟩ w

theorem LdAt.rows {k : Cfg} {h g : H} {cb bw : Nat} {f : Wd → Int} (Z : LdAt k h g cb bw f) {l : Wd} (hl : l.ok k) (v : Int) :
    g.st 1 (.ptr bw (l.pos k)) (.int .u64 v) = some (g.put bw (some (.cells ((k.row (wset f l v)).map (.int .u64)) .rw))) ∧ LdAt k h (g.put bw (some (.cells ((k.row (wset f l v)).map (.int .u64)) .rw))) cb bw (wset f l v) := by
  have hsp : ((k.row f).map (V.int .u64)).take (l.pos k) ++ [.int .u64 v] ++ ((k.row f).map (V.int .u64)).drop (l.pos k + 1) = (k.row (wset f l v)).map (V.int .u64) := by
    rw [row_splice (by rw [row_length]; exact pos_lt hl), row_set hl]
  have h1 := row_st2 (g := g) (b := bw) (ws := k.row f) (kk := .rw) (by decide) Z.row (i := l.pos k) (by rw [row_length]; exact pos_lt hl) v
  refine ⟨?_, Z.set hl hsp.symm⟩
  rw [h1, row_set hl]

theorem ld_j {j C : Nat} (hC : 1 ≤ C) (h8 : C ≤ 8) (hj : j < 1000) : arith .rem .i64 (j : Int) (C : Int) = some ((j % C : Nat) : Int) ∧ arith .quo .i64 (j : Int) (C : Int) = some ((j / C : Nat) : Int) := by
  have h0 : decide ((C : Int) = 0) = false := decide_eq_false (by omega)
  have e1 : Int.tmod (j : Int) (C : Int) = ((j % C : Nat) : Int) := by rw [Int.tmod_eq_emod_of_nonneg (by omega)]; rfl
  have e2 : Int.tdiv (j : Int) (C : Int) = ((j / C : Nat) : Int) := by rw [Int.tdiv_eq_ediv_of_nonneg (by omega)]; rfl
  have l1 := Nat.mod_lt j hC
  have l2 := Nat.div_le_self j C
  refine ⟨by simp only [arith, h0, e1], ?_⟩
  simp only [arith, h0, e2]
  generalize j / C = d at l2 ⊢
  rw [wr64 (by omega) (by omega)]
theorem ld_mul {C H : Nat} (hC : C ≤ 8) (hH : H ≤ 16) : wr .i64 ((C : Int) * (wr .i64 ((H : Int) + 1))) = ((C * (H + 1) : Nat) : Int) := by
  have h1 : C * (H + 1) ≤ 8 * 17 := Nat.mul_le_mul hC (by omega)
  rw [wr64 (n := (H : Int) + 1) (by omega) (by omega)]
  have h2 : (C : Int) * ((H : Int) + 1) = ((C * (H + 1) : Nat) : Int) := by rw [Int.natCast_mul]; rfl
  rw [h2, wr64 (by omega) (by omega)]

theorem LdAt.stB {k : Cfg} {h g : H} {cb bw : Nat} {f : Wd → Int} (Z : LdAt k h g cb bw f) {l : Wd} (hl : l.ok k) (v : Int) :
    stB (g.get bw) (l.pos k) [.int .u64 v] = some (.cells ((k.row (wset f l v)).map (.int .u64)) .rw) := by
  have hne0 : decide (Bk.rw = Bk.ro) = false := rfl
  have hsp : ((k.row f).map (V.int .u64)).take (l.pos k) ++ [.int .u64 v] ++ ((k.row f).map (V.int .u64)).drop (l.pos k + 1) = (k.row (wset f l v)).map (V.int .u64) := by
    rw [row_splice (by rw [row_length]; exact pos_lt hl), row_set hl]
  have hle := LdAt.le (f := f) hl
  have hone : [V.int .u64 v].all V.one = true := rfl
  have hlen : [V.int .u64 v].length = 1 := rfl
  rw [Z.row, stB_cells, hlen, hle, hone, hne0]
  show some (Blk.cells (splice _ _ _) _) = _
  unfold splice
  rw [hlen, hsp]
theorem LdAt.ix {k : Cfg} {bw : Nat} {l : Wd} (hl : l.ok k) : indexAV 1 (.sl bw 0 k.size (.ex k.size)) (.int .i64 (l.pos k : Nat)) = some (.ptr bw (l.pos k)) := sl_idx1 (pos_lt hl)
theorem LdAt.put {k : Cfg} {h g : H} {cb bw : Nat} {f : Wd → Int} (Z : LdAt k h g cb bw f) {l : Wd} (hl : l.ok k) (v : Int) :
    LdAt k h (g.put bw (some (.cells ((k.row (wset f l v)).map (.int .u64)) .rw))) cb bw (wset f l v) := (Z.rows hl v).2

/-- One root. -/
theorem laid_root {k : Cfg} (hr : k.R = true) (hH : k.hd = (k.H : Int)) {h : H} {x2 x3 : V} {cb bw : Nat} {f : Wd → Int} {g : H} (Z : LdAt k h g cb bw f) {i n v : Int} {p q L : Nat} (hl : lenSl x2 = some L)
    (d1 : decide (i < (L : Int)) = true) (hm : wr .i64 (k.c * (wr .i64 (k.hd + 1))) = n) (d2 : decide (i < n) = true) (ar : arith .rem .i64 i k.c = some (p : Int)) (aq : arith .quo .i64 i k.c = some (q : Int))
    (hpC : p < k.C) {vb vo : Nat} (f1 : indexAV 1 x2 (.int .i64 i) = some (.ptr vb vo)) (f2 : ldB (g.get vb) vo = some (.int .u64 v)) (hv0 : 0 ≤ v) {i' : Int} (wi : wr .i64 (i + 1) = i') :
    Ev (S.withyref13_Laid_c6_S W x2 x3 (.ptr cb 0) (.sl bw 0 k.size (.ex k.size)) i g) fun r => r.1 = .normal ∧ r.2.1 = S.withyref13_Laid_c6_E x2 x3 (.ptr cb 0) (.sl bw 0 k.size (.ex k.size)) (.int .i64 i') ∧ LdAt k h r.2.2 cb bw (wset f (if q < k.H then .entry p q else .start p) (v % 20)) := by
  have hcfg := Z.cfg
  unfold cfgB at hcfg
  have hv : k.v = .agg [.int .i64 k.s, .int .i64 k.a, .int .i64 k.c, .int .i64 k.hd, .int .i64 k.g, .int .i64 k.st] := rfl
  have htm : Int.tmod v 20 = v % 20 := tm hv0
  by_cases hq : q < k.H
  · have d3 : decide ((q : Int) < k.hd) = true := by rw [hH]; exact decide_eq_true (Int.ofNat_lt.mpr hq)
    have hwok : (Wd.entry p q).ok k := ⟨hpC, hq⟩
    have hat := at_wd hr hwok
    rw [hv] at hat
    have hat' : ∀ h, C 108 [.agg [.int .i64 k.s, .int .i64 k.a, .int .i64 k.c, .int .i64 k.hd, .int .i64 k.g, .int .i64 k.st], .agg [.str ⟨⟨[101, 110, 116, 114, 121]⟩⟩, .int .i64 (p : Int), .int .i64 (q : Int)]] h = some (.int .i64 ((Wd.entry p q).pos k : Nat), h) := hat
    have hix := LdAt.ix (bw := bw) hwok
    have hst := Z.stB hwok (v % 20)
    rw [if_pos hq]
    have Z1 := Z.put hwok (v % 20)
    simp only [S.withyref13_Laid_c6_S, ptrAt_ptr, Option.bind_some, Option.map_some, ld1_get', ldN_get', st_get', ldB_cells, ldNB_cells, List.getElem?_cons_zero, List.getElem?_cons_succ, Nat.zero_add, Nat.reduceAdd, Nat.reduceLeDiff, V.one, V.cells, V.beq, ckB_some, asI_int, List.length_cons, List.length_nil, Nat.beq_refl, Bool.and_self, decide_true, List.take_succ_cons, List.take_zero, List.drop_zero, W_call, hl, d1, hcfg, hm, d2, ar, aq, d3, f1, f2, hat', hix, hst, htm, wi]
    exact Ev.some ⟨rfl, rfl, Z1⟩
  · have d3 : decide ((q : Int) < k.hd) = false := by rw [hH]; exact decide_eq_false (fun h => hq (Int.ofNat_lt.mp h))
    have hwok : (Wd.start p).ok k := hpC
    have hat := at_wd hr hwok
    rw [hv] at hat
    have hat' : ∀ h, C 108 [.agg [.int .i64 k.s, .int .i64 k.a, .int .i64 k.c, .int .i64 k.hd, .int .i64 k.g, .int .i64 k.st], .agg [.str ⟨⟨[115, 116, 97, 114, 116]⟩⟩, .int .i64 (p : Int), .int .i64 0]] h = some (.int .i64 ((Wd.start p).pos k : Nat), h) := hat
    have hix := LdAt.ix (bw := bw) hwok
    have hst := Z.stB hwok (v % 20)
    rw [if_neg hq]
    have Z1 := Z.put hwok (v % 20)
    simp only [S.withyref13_Laid_c6_S, ptrAt_ptr, Option.bind_some, Option.map_some, ld1_get', ldN_get', st_get', ldB_cells, ldNB_cells, List.getElem?_cons_zero, List.getElem?_cons_succ, Nat.zero_add, Nat.reduceAdd, Nat.reduceLeDiff, V.one, V.cells, V.beq, ckB_some, asI_int, List.length_cons, List.length_nil, Nat.beq_refl, Bool.and_self, decide_true, List.take_succ_cons, List.take_zero, List.drop_zero, W_call, hl, d1, hcfg, hm, d2, ar, aq, d3, f1, f2, hat', hix, hst, htm, wi]
    exact Ev.some ⟨rfl, rfl, Z1⟩

theorem laid_root_end {k : Cfg} {h : H} {x2 x3 : V} {cb bw : Nat} {f : Wd → Int} {g : H} (Z : LdAt k h g cb bw f) {i n : Int} {L : Nat} (hl : lenSl x2 = some L) (hm : wr .i64 (k.c * (wr .i64 (k.hd + 1))) = n)
    (d : decide (i < (L : Int)) = false ∨ (decide (i < (L : Int)) = true ∧ decide (i < n) = false)) :
    S.withyref13_Laid_c6_S W x2 x3 (.ptr cb 0) (.sl bw 0 k.size (.ex k.size)) i g = some (.exit 4, S.withyref13_Laid_c6_O x3 (.ptr cb 0) (.sl bw 0 k.size (.ex k.size)), g) := by
  have hcfg := Z.cfg
  unfold cfgB at hcfg
  rcases d with d1 | ⟨d1, d2⟩
  · simp only [S.withyref13_Laid_c6_S, Option.bind_some, hl, d1]
  · simp only [S.withyref13_Laid_c6_S, ptrAt_ptr, Option.bind_some, ld1_get', ldN_get', ldB_cells, ldNB_cells, List.getElem?_cons_zero, List.getElem?_cons_succ, Nat.zero_add, Nat.reduceAdd, Nat.reduceLeDiff, V.one, asI_int, List.length_cons, List.length_nil, decide_true, List.take_succ_cons, List.take_zero, List.drop_zero, W_call, hl, d1, hcfg, hm, d2]

section
variable {k : Cfg} (hr : k.R = true) {h : H} (ok : h.ok) {x2 x3 : V} {roots views : List Int}
include hr ok
/-- The roots are laid. -/
theorem laid_roots (hx2 : RowN .u64 h.get x2 roots) (hu : ∀ w ∈ roots, U64 w) {cb bw : Nat} {f : Wd → Int} {g0 : H} (Z0 : LdAt k h g0 cb bw f)
    (K : AX × List V × H → Option (V × H)) (R : V × H → Prop)
    (hK : ∀ g : H, LdAt k h g cb bw (rootsF k f roots (min roots.length (k.C * (k.H + 1)))) → Ev (K (.exit 4, S.withyref13_Laid_c6_O x3 (.ptr cb 0) (.sl bw 0 k.size (.ex k.size)), g)) R) :
    Ev ((W.loop (S.withyref13_Laid_c6_B W) (S.withyref13_Laid_c6_E x2 x3 (.ptr cb 0) (.sl bw 0 k.size (.ex k.size)) (.int .i64 0)) g0).bind K) R := by
  have hbd := Cfg.bounds hr
  have hR := Cfg.R_iff.mp hr
  have hc : k.c = (k.C : Int) := by unfold Cfg.C; omega
  have hh : k.hd = (k.H : Int) := by unfold Cfg.H; omega
  have hmul : wr .i64 (k.c * (wr .i64 (k.hd + 1))) = ((k.C * (k.H + 1) : Nat) : Int) := by rw [hc, hh]; exact ld_mul hbd.2.2.1.2 hbd.2.2.2.1.2
  have hmx : k.C * (k.H + 1) ≤ 8 * 17 := Nat.mul_le_mul hbd.2.2.1.2 (Nat.succ_le_succ hbd.2.2.2.1.2)
  generalize hN : k.C * (k.H + 1) = N at hmul hmx hK
  refine loop_ev (α := Nat) (fun i => S.withyref13_Laid_c6_E x2 x3 (.ptr cb 0) (.sl bw 0 k.size (.ex k.size)) (.int .i64 (i : Nat)))
    (fun i g => i ≤ roots.length ∧ i ≤ N ∧ LdAt k h g cb bw (rootsF k f roots i)) (fun i _ => roots.length - i)
    (fun r => r.1 = .exit 4 ∧ r.2.1 = S.withyref13_Laid_c6_O x3 (.ptr cb 0) (.sl bw 0 k.size (.ex k.size)) ∧ LdAt k h r.2.2 cb bw (rootsF k f roots (min roots.length N)))
    0 rfl ⟨Nat.zero_le _, Nat.zero_le _, Z0⟩ ?_ ?_
  rotate_left
  · rintro ⟨_, _, g⟩ ⟨rfl, rfl, Z⟩
    exact hK g Z
  rintro i g ⟨hi, him, Z⟩
  rw [S.withyref13_Laid_c6_eq]
  have hl := (hx2.fr ok Z.fr (by simp) : RowN .u64 g.get x2 roots).len
  have d1 := ld_lt i roots.length
  by_cases hil : i < roots.length
  rotate_left
  · rw [decide_eq_false hil] at d1
    rw [laid_root_end Z hl hmul (.inl d1)]
    have e : min roots.length N = i := by clear d1 hmul; omega
    exact Ev.some (.inr ⟨by simp, rfl, rfl, by rw [e]; exact Z⟩)
  rw [decide_eq_true hil] at d1
  have d2 := ld_lt i N
  by_cases himl : i < N
  rotate_left
  · rw [decide_eq_false himl] at d2
    rw [laid_root_end Z hl hmul (.inr ⟨d1, d2⟩)]
    have e : min roots.length N = i := by clear d1 d2 hmul; omega
    exact Ev.some (.inr ⟨by simp, rfl, rfl, by rw [e]; exact Z⟩)
  rw [decide_eq_true himl] at d2
  have hi1000 : i < 1000 := Nat.lt_of_lt_of_le himl (Nat.le_trans hmx (by decide))
  obtain ⟨ar, aq⟩ := ld_j hbd.2.2.1.1 hbd.2.2.1.2 hi1000
  rw [← hc] at ar aq
  obtain ⟨v, hvi⟩ : ∃ v, roots[i]? = some v := ⟨_, List.getElem?_eq_getElem hil⟩
  have hvu := hu v (List.mem_of_getElem? hvi)
  obtain ⟨vb, f1, f2⟩ := (hx2.fr ok Z.fr (by simp)).at hvi
  have wi := ld_i hi1000
  simp only [ld1_get'] at f2
  refine (laid_root hr hh Z hl d1 hmul d2 ar aq (Nat.mod_lt i hbd.2.2.1.1) f1 f2 hvu.1 wi).mono ?_
  rintro ⟨_, _, g'⟩ ⟨rfl, rfl, Z1⟩
  refine .inl ⟨i + 1, rfl, rfl, ⟨hil, himl, ?_⟩, Nat.sub_lt_sub_left hil (Nat.lt_succ_self i)⟩
  have e : rootsF k f roots (i + 1) = wset (rootsF k f roots i) (if i / k.C < k.H then .entry (i % k.C) (i / k.C) else .start (i % k.C)) (v % 20) := by
    show wset _ (rootW k i) ((roots[i]?).getD 0 % 20) = _
    rw [hvi]; rfl
  rw [e]; exact Z1

/-- The views are laid. -/
theorem laid_views (hx3 : RowN .u64 h.get x3 views) {cb bw : Nat} {f : Wd → Int} {g0 : H} (Z0 : LdAt k h g0 cb bw f)
    (K : AX × List V × H → Option (V × H)) (R : V × H → Prop)
    (hK : ∀ g : H, LdAt k h g cb bw (viewsF f views (min views.length k.C)) → Ev (K (.exit 6, S.withyref13_Laid_c8_O (.ptr cb 0) (.sl bw 0 k.size (.ex k.size)), g)) R) :
    Ev ((W.loop (S.withyref13_Laid_c8_B W) (S.withyref13_Laid_c8_E x3 (.ptr cb 0) (.sl bw 0 k.size (.ex k.size)) (.int .i64 0)) g0).bind K) R := by
  have hbd := Cfg.bounds hr
  have hR := Cfg.R_iff.mp hr
  have hc : k.c = (k.C : Int) := by unfold Cfg.C; omega
  have hv : k.v = .agg [.int .i64 k.s, .int .i64 k.a, .int .i64 k.c, .int .i64 k.hd, .int .i64 k.g, .int .i64 k.st] := rfl
  refine loop_ev (α := Nat) (fun i => S.withyref13_Laid_c8_E x3 (.ptr cb 0) (.sl bw 0 k.size (.ex k.size)) (.int .i64 (i : Nat)))
    (fun i g => i ≤ views.length ∧ i ≤ k.C ∧ LdAt k h g cb bw (viewsF f views i)) (fun i _ => views.length - i)
    (fun r => r.1 = .exit 6 ∧ r.2.1 = S.withyref13_Laid_c8_O (.ptr cb 0) (.sl bw 0 k.size (.ex k.size)) ∧ LdAt k h r.2.2 cb bw (viewsF f views (min views.length k.C)))
    0 rfl ⟨Nat.zero_le _, Nat.zero_le _, Z0⟩ ?_ ?_
  rotate_left
  · rintro ⟨_, _, g⟩ ⟨rfl, rfl, Z⟩
    exact hK g Z
  rintro i g ⟨hi, him, Z⟩
  rw [S.withyref13_Laid_c8_eq]
  have hl := (hx3.fr ok Z.fr (by simp) : RowN .u64 g.get x3 views).len
  have hcfg := Z.cfg
  unfold cfgB at hcfg
  have d1 := ld_lt i views.length
  by_cases hil : i < views.length
  rotate_left
  · rw [decide_eq_false hil] at d1
    have e : min views.length k.C = i := by clear d1; omega
    simp only [S.withyref13_Laid_c8_S, Option.bind_some, hl, d1]
    exact Ev.some (.inr ⟨by simp, rfl, rfl, by rw [e]; exact Z⟩)
  rw [decide_eq_true hil] at d1
  have d2 : decide ((i : Int) < k.c) = decide (i < k.C) := by rw [hc]; exact ld_lt i k.C
  by_cases himl : i < k.C
  rotate_left
  · rw [decide_eq_false himl] at d2
    have e : min views.length k.C = i := by clear d1 d2; omega
    simp only [S.withyref13_Laid_c8_S, ptrAt_ptr, Option.bind_some, ld1_get', ldN_get', ldB_cells, ldNB_cells, List.getElem?_cons_zero, List.getElem?_cons_succ, Nat.zero_add, Nat.reduceAdd, Nat.reduceLeDiff, V.one, asI_int, List.length_cons, List.length_nil, decide_true, List.take_succ_cons, List.take_zero, List.drop_zero, W_call, hl, d1, hcfg, d2]
    exact Ev.some (.inr ⟨by simp, rfl, rfl, by rw [e]; exact Z⟩)
  rw [decide_eq_true himl] at d2
  have hi1000 : i < 1000 := Nat.lt_of_lt_of_le himl (Nat.le_trans hbd.2.2.1.2 (by decide))
  obtain ⟨v, hvi⟩ : ∃ v, views[i]? = some v := ⟨_, List.getElem?_eq_getElem hil⟩
  obtain ⟨vb, f1, f2⟩ := (hx3.fr ok Z.fr (by simp)).at hvi
  have wi := ld_i hi1000
  simp only [ld1_get'] at f2
  have hwok : (Wd.view i).ok k := himl
  have hat := at_wd hr hwok
  rw [hv] at hat
  have hat' : ∀ h, C 108 [.agg [.int .i64 k.s, .int .i64 k.a, .int .i64 k.c, .int .i64 k.hd, .int .i64 k.g, .int .i64 k.st], .agg [.str ⟨⟨[118, 105, 101, 119]⟩⟩, .int .i64 (i : Int), .int .i64 0]] h = some (.int .i64 ((Wd.view i).pos k : Nat), h) := hat
  have hix := LdAt.ix (bw := bw) hwok
  have hst := Z.stB hwok v
  have Z1 := Z.put hwok v
  simp only [S.withyref13_Laid_c8_S, ptrAt_ptr, Option.bind_some, Option.map_some, ld1_get', ldN_get', st_get', ldB_cells, ldNB_cells, List.getElem?_cons_zero, List.getElem?_cons_succ, Nat.zero_add, Nat.reduceAdd, Nat.reduceLeDiff, V.one, V.cells, V.beq, ckB_some, asI_int, List.length_cons, List.length_nil, Nat.beq_refl, Bool.and_self, decide_true, List.take_succ_cons, List.take_zero, List.drop_zero, W_call, hl, d1, hcfg, d2, f1, f2, hat', hix, hst, wi]
  refine Ev.some (.inl ⟨i + 1, rfl, rfl, ⟨hil, himl, ?_⟩, Nat.sub_lt_sub_left hil (Nat.lt_succ_self i)⟩)
  have e : viewsF f views (i + 1) = wset (viewsF f views i) (.view i) v := by
    show wset _ _ ((views[i]?).getD 0) = _
    rw [hvi]; rfl
  rw [e]; exact Z1
end

/-- A heap is laid. -/
theorem laid_spec {k : Cfg} (hr : k.R = true) {h : H} (ok : h.ok) {x1 x2 x3 : V} {l : List Slt} {roots views : List Int} (hx : RowS h.get x1 l) (hu : ∀ y ∈ l, y.okS) (hx2 : RowN .u64 h.get x2 roots) (hu2 : ∀ w ∈ roots, U64 w) (hx3 : RowN .u64 h.get x3 views) (hu3 : ∀ w ∈ views, U64 w) :
    Ev (C 121 [k.v, x1, x2, x3] h) fun r => ∃ b, r.1 = .sl b 0 k.size (.ex k.size) ∧ Fr [] h r.2 ∧ h.next ≤ b ∧ r.2.get b = some (.cells ((k.row (laidW k l roots views)).map (.int .u64)) .rw) := by
  have hbd := Cfg.bounds hr
  refine call_ev (af := F.withyref13_Laid) (by kernel_rfl) rfl ?_
  obtain ⟨g0, bw, e0, f0, n0, n1, w0⟩ := Memory_spec hr (ok.new (.cells k.cs .rw))
  have hv : k.v = .agg [.int .i64 k.s, .int .i64 k.a, .int .i64 k.c, .int .i64 k.hd, .int .i64 k.g, .int .i64 k.st] := rfl
  have hcs : (Blk.cells k.cs .rw) = .cells [.int .i64 k.s, .int .i64 k.a, .int .i64 k.c, .int .i64 k.hd, .int .i64 k.g, .int .i64 k.st] .rw := rfl
  rw [hv, S.withyref13_Laid_eq]
  rw [hv, hcs] at e0
  rw [hcs] at f0
  have hfr0 : Fr [] h g0 := ((Fr.refl ok).new _).trans' f0
  have hcfg : g0.get h.next = some (cfgB k) := f0.get (ok.new _) (get_new_self _ _) (by simp)
  rw [H.next_new] at n0
  have Z0 : LdAt k h g0 h.next bw (laidS k l k.S) := ⟨hfr0, hcfg, by rw [laidS_top]; exact w0, Nat.le_refl _, by omega, by omega⟩
  have hks : k.s = (k.S : Int) := by have := Cfg.R_iff.mp hr; unfold Cfg.S; omega
  have ws : wr .i64 (k.s - 1) = (k.S : Int) - 1 := by rw [hks]; exact wr64 (by omega) (by omega)
  have hcfg' := hcfg
  unfold cfgB at hcfg'
  simp only [S.withyref13_Laid, Option.bind_some, ld1_get', ldN_get', get_new', ldB_cells, ldNB_cells, List.getElem?_cons_zero, Nat.zero_add, Nat.reduceAdd, Nat.reduceLeDiff, V.one, asI_int, List.length_cons, List.length_nil, decide_true, if_true, List.take_succ_cons, List.take_zero, List.drop_zero, W_call, e0, hcfg', ws]
  rw [← topL_S k l]
  refine loop_ev (α := Nat) (fun j => S.withyref13_Laid_c1_E x1 x2 x3 (.ptr h.next 0) (.sl bw 0 k.size (.ex k.size)) (.int .u64 (topL k l j)) (.int .i64 ((j : Int) - 1)))
    (fun j g => j ≤ k.S ∧ LdAt k h g h.next bw (laidS k l j)) (fun j _ => j)
    (fun r => r.1 = .exit 0 ∧ r.2.1 = S.withyref13_Laid_c1_O x2 x3 (.ptr h.next 0) (.sl bw 0 k.size (.ex k.size)) (.int .u64 (topL k l 0)) ∧ LdAt k h r.2.2 h.next bw (laidS k l 0))
    k.S rfl ⟨Nat.le_refl _, Z0⟩ ?_ ?_
  · rintro j g ⟨hj, Z⟩
    rw [S.withyref13_Laid_c1_eq]
    cases j with
    | zero =>
      have d : decide ((0 : Int) ≤ ((0 : Nat) : Int) - 1) = false := rfl
      simp only [S.withyref13_Laid_c1_S, d]
      exact Ev.some (.inr ⟨by simp, rfl, rfl, Z⟩)
    | succ s =>
      have e : ((s + 1 : Nat) : Int) - 1 = (s : Int) := by clear ws; omega
      rw [e]
      refine (laid_slot hr ok hx hu hj Z).mono ?_
      rintro ⟨_, _, g'⟩ ⟨rfl, rfl, Z1⟩
      exact .inl ⟨s, rfl, rfl, ⟨Nat.le_of_lt hj, Z1⟩, Nat.lt_succ_self s⟩
  rintro ⟨_, _, g⟩ ⟨rfl, rfl, Z⟩
  dsimp only at Z ⊢
  rw [S.withyref13_Laid_c1_e0_eq]
  have htok : (Wd.top).ok k := trivial
  have i3 : indexAV 1 (.sl bw 0 k.size (.ex k.size)) (.int .i64 3) = some (.ptr bw 3) := LdAt.ix (l := .top) trivial
  have hst : stB (g.get bw) 3 [.int .u64 (topL k l 0)] = _ := Z.stB (l := .top) htok (topL k l 0)
  simp only [S.withyref13_Laid_c1_e0, Option.bind_some, Option.map_some, st_get', Nat.zero_add, V.cells, List.length_cons, List.length_nil, Nat.beq_refl, i3, hst]
  refine laid_roots hr ok hx2 hu2 (Z.put (l := .top) htok (topL k l 0)) _ _ ?_
  intro g2 Z2
  show Ev (S.withyref13_Laid_K9 W (.exit 4) _ g2) _
  rw [S.withyref13_Laid_c6_e4_eq]
  simp only [S.withyref13_Laid_c6_e4]
  refine laid_views hr ok hx3 Z2 _ _ ?_
  intro g3 Z3
  show Ev (S.withyref13_Laid_K11 W (.exit 6) _ g3) _
  rw [S.withyref13_Laid_c8_e6_eq]
  have Z3 : LdAt k h g3 h.next bw (laidV k l roots views) := Z3
  have hU := fun w => laidV_U64 hr hu (roots := roots) hu3 w
  obtain ⟨⟨v1, g4⟩, e4, rfl, f4⟩ := refGrays13_spec hr Z3.fr.ok (c := .ex k.size) (⟨⟨_, Z3.row⟩, fun w _ => hU w⟩ : WordsAt k g3 bw (laidV k l roots views))
  rw [hv] at e4
  have Z4 := Z3.fr' f4
  have hcfg3 := Z3.cfg
  unfold cfgB at hcfg3
  have i2 : indexAV 1 (.sl bw 0 k.size (.ex k.size)) (.int .i64 2) = some (.ptr bw 2) := LdAt.ix (l := .grays) trivial
  have hgl := graysN_le k (laidV k l roots views)
  have hw : wr .u64 ((graysN k (laidV k l roots views) : Nat) : Int) = (graysN k (laidV k l roots views) : Nat) := wru64 (by omega) (by omega)
  have hst4 : stB (g4.get bw) 2 [.int .u64 ((graysN k (laidV k l roots views) : Nat) : Int)] = _ := Z4.stB (l := .grays) trivial _
  have Z5 := Z4.put (l := .grays) trivial ((graysN k (laidV k l roots views) : Nat) : Int)
  simp only [S.withyref13_Laid_c8_e6, Option.bind_some, Option.map_some, ldN_get', st_get', ldNB_cells, Nat.zero_add, Nat.reduceAdd, Nat.reduceLeDiff, V.cells, asIAny, List.length_cons, List.length_nil, Nat.beq_refl, decide_true, List.take_succ_cons, List.take_zero, List.drop_zero, W_call, hcfg3, e4, asIAny, hw, i2, hst4]
  exact Ev.some ⟨bw, rfl, Z5.fr, Z5.nbw, Z5.row⟩
end Wm
end

section
/- A Reclaim alone. -/
namespace Wm
attribute [local congr] bind_congr1
attribute [local irreducible] wr

abbrev RclSt := Rcl × (Wd → Int) × Int
def rclFin (k : Cfg) (x : RclSt) : Prop := x.1.slot = k.S
instance (k : Cfg) (x : RclSt) : Decidable (rclFin k x) := inferInstanceAs (Decidable (x.1.slot = k.S))

end Wm
end

