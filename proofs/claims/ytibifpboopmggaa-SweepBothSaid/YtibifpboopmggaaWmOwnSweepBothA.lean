/- What the functions come to, and the law: of my machine. -/
import Derived.Test.YtibifpboopmggaaWmEv
import Derived.Test.YtibifpboopmggaaWmProgSweepBoth
import Derived.Test.YtibifpboopmggaaWmTxtSweepBothA
import Derived.Test.YtibifpboopmggaaWmHeap
import Derived.Test.YtibifpboopmggaaWmPOp0
import Derived.Test.YtibifpboopmggaaWmOpen
set_option linter.all false
section
/- What was there is as it was. -/
namespace Wm
end Wm
end

section
/- What the functions of plan come to. -/
namespace Wm

theorem between_spec (x lo hi : Int) (h : H) : C 376 [.int .i64 x, .int .i64 lo, .int .i64 hi] h = some (.bool (decide (lo ≤ x) && decide (x ≤ hi)), h) := by
  refine call_closed (af := F.plan_between) (by kernel_rfl) rfl (by rfl) (by rfl) h ?_
  rw [S.plan_between_eq]
  unfold S.plan_between
  by_cases h1 : lo ≤ x <;> simp [h1, Ev.iff_some]

/-- A config, as a value. -/
def cfgV (s a c hd g st : Int) : V := .agg [.int .i64 s, .int .i64 a, .int .i64 c, .int .i64 hd, .int .i64 g, .int .i64 st]
/-- Is it right? -/
def cfgR (s a c hd g st : Int) : Bool := (decide (1 ≤ s) && decide (s ≤ 64)) && (decide (0 ≤ a) && decide (a ≤ 8)) && (decide (1 ≤ c) && decide (c ≤ 8)) && (decide (1 ≤ hd) && decide (hd ≤ 16)) && (decide (1 ≤ g) && decide (g ≤ 1048576)) && (decide (0 ≤ st) && decide (st ≤ 64))

theorem ld1_new {h : H} {cs : List V} {k : Bk} (o : Nat) : (h.new (.cells cs k)).ld1 (.ptr h.next o) = match cs[o]? with
    | some v => match V.one v with
      | true => some v
      | false => none
    | none => none := by
  simp only [H.ld1, get_new_self]; rfl

theorem planRight_spec (s a c hd g st : Int) (h : H) : C 263 [cfgV s a c hd g st] h = some (.bool (cfgR s a c hd g st), h) := by
  refine call_closed (af := F.plan_Right) (by kernel_rfl) rfl (by rfl) (by rfl) h ?_
  unfold cfgV
  rw [S.plan_Right_eq]
  simp only [S.plan_Right, ld1_new, V.one, List.getElem?_cons_zero, List.getElem?_cons_succ, Option.bind_some, W_call, between_spec]
  unfold cfgR
  generalize (decide (1 ≤ s) && decide (s ≤ 64)) = b1
  generalize (decide (0 ≤ a) && decide (a ≤ 8)) = b2
  generalize (decide (1 ≤ c) && decide (c ≤ 8)) = b3
  generalize (decide (1 ≤ hd) && decide (hd ≤ 16)) = b4
  generalize (decide (1 ≤ g) && decide (g ≤ 1048576)) = b5
  cases b1 <;> cases b2 <;> cases b3 <;> cases b4 <;> cases b5 <;> simp [Ev.iff_some]

theorem ref06Right_spec (s a c hd g st : Int) (h : H) : C 85 [cfgV s a c hd g st] h = some (.bool (cfgR s a c hd g st), h) := by
  refine call_closed (af := F.withyref06_Right) (by kernel_rfl) rfl (by rfl) (by rfl) h ?_
  unfold cfgV
  rw [S.withyref06_Right_eq]
  simp only [S.withyref06_Right, ld1_new, V.one, List.getElem?_cons_zero, List.getElem?_cons_succ, Option.bind_some, asI, decide_true]
  unfold cfgR
  by_cases h1 : 1 ≤ s <;> simp only [h1, decide_true, decide_false, Bool.false_and, Bool.true_and, Ev.iff_some]
  by_cases h2 : s ≤ 64 <;> simp only [h2, decide_true, decide_false, Bool.false_and, Bool.true_and, Ev.iff_some]
  by_cases h3 : 0 ≤ a <;> simp only [h3, decide_true, decide_false, Bool.false_and, Bool.true_and, Ev.iff_some]
  by_cases h4 : a ≤ 8 <;> simp only [h4, decide_true, decide_false, Bool.false_and, Bool.true_and, Ev.iff_some]
  by_cases h5 : 1 ≤ c <;> simp only [h5, decide_true, decide_false, Bool.false_and, Bool.true_and, Ev.iff_some]
  by_cases h6 : c ≤ 8 <;> simp only [h6, decide_true, decide_false, Bool.false_and, Bool.true_and, Ev.iff_some]
  by_cases h7 : 1 ≤ hd <;> simp only [h7, decide_true, decide_false, Bool.false_and, Bool.true_and, Ev.iff_some]
  by_cases h8 : hd ≤ 16 <;> simp only [h8, decide_true, decide_false, Bool.false_and, Bool.true_and, Ev.iff_some]
  by_cases h9 : 1 ≤ g <;> simp only [h9, decide_true, decide_false, Bool.false_and, Bool.true_and, Ev.iff_some]
  by_cases h10 : g ≤ 1048576 <;> simp only [h10, decide_true, decide_false, Bool.false_and, Bool.true_and, Ev.iff_some]
  by_cases h11 : 0 ≤ st <;> simp only [h11, decide_true, decide_false, Bool.false_and, Bool.true_and, Ev.iff_some]

end Wm
end

section
/- A config that is right. -/
namespace Wm
theorem cfgR_iff {s a c hd g st : Int} : cfgR s a c hd g st = true ↔ (1 ≤ s ∧ s ≤ 64) ∧ (0 ≤ a ∧ a ≤ 8) ∧ (1 ≤ c ∧ c ≤ 8) ∧ (1 ≤ hd ∧ hd ≤ 16) ∧ (1 ≤ g ∧ g ≤ 1048576) ∧ (0 ≤ st ∧ st ≤ 64) := by
  simp only [cfgR, Bool.and_eq_true, decide_eq_true_eq, and_assoc]

end Wm
end

section
/- Where everything stands in the memory: what the functions of plan come to. -/
namespace Wm

theorem mul_bd {x y X Y : Int} (h0 : 0 ≤ x) (h1 : x ≤ X) (h2 : 0 ≤ y) (h3 : y ≤ Y) : 0 ≤ x * y ∧ x * y ≤ X * Y :=
  ⟨Int.mul_nonneg h0 h2, Int.mul_le_mul h1 h3 h2 (Int.le_trans h0 h1)⟩

def roomT (a : Int) : Int := 2 + max a 3
def slotsT (c hd : Int) : Int := 4 + c * (1 + hd + 2)

theorem room_spec (s a c hd g st : Int) (h0 : 0 ≤ a) (h1 : a ≤ 8) (h : H) : C 378 [cfgV s a c hd g st] h = some (.int .i64 (roomT a), h) := by
  refine call_closed (af := F.plan_room) (by kernel_rfl) rfl (by rfl) (by rfl) h ?_
  have ok := H.ok_empty
  unfold cfgV
  rw [S.plan_room_eq]
  simp only [S.plan_room, H.new_ext, H.ext_ldk_0, ok, ldB_cells, V.one, List.getElem?_cons_zero, List.getElem?_cons_succ, Option.bind_some, Option.join_some, asI_int]
  rw [wr64 (by omega) (by omega)]
  exact Ev.some rfl

theorem slots_spec (s a c hd g st : Int) (h0 : 0 ≤ c) (h1 : c ≤ 8) (h2 : 0 ≤ hd) (h3 : hd ≤ 16) (h : H) : C 377 [cfgV s a c hd g st] h = some (.int .i64 (slotsT c hd), h) := by
  refine call_closed (af := F.plan_slots) (by kernel_rfl) rfl (by rfl) (by rfl) h ?_
  have ok := H.ok_empty
  unfold cfgV
  rw [S.plan_slots_eq]
  simp only [S.plan_slots, H.new_ext, H.ext_ldk_0, ok, ldB_cells, V.one, List.getElem?_cons_zero, List.getElem?_cons_succ, Option.bind_some, Option.join_some, asI_int]
  rw [wr64 (n := 1 + hd) (by omega) (by omega), wr64 (n := 1 + hd + 2) (by omega) (by omega)]
  obtain ⟨q1, q2⟩ := mul_bd h0 h1 (show 0 ≤ 1 + hd + 2 by omega) (show 1 + hd + 2 ≤ 19 by omega)
  rw [wr64 (n := c * (1 + hd + 2)) (by omega) (by omega), wr64 (by omega) (by omega)]
  exact Ev.some rfl

def withinT (s a c hd g st slot i : Int) : Int :=
  if cfgR s a c hd g st = true ∧ (0 ≤ slot ∧ slot ≤ s - 1) ∧ (0 ≤ i ∧ i ≤ roomT a - 1) then slotsT c hd + slot * roomT a + i else -1

theorem within_spec (s a c hd g st slot i : Int) (h : H) : C 375 [cfgV s a c hd g st, .int .i64 slot, .int .i64 i] h = some (.int .i64 (withinT s a c hd g st slot i), h) := by
  refine call_closed (af := F.plan_within) (by kernel_rfl) rfl (by rfl) (by rfl) h ?_
  have ok := H.ok_empty
  have hR := planRight_spec s a c hd g st
  cases hr : cfgR s a c hd g st with
  | false =>
    rw [hr] at hR
    unfold cfgV at hR ⊢
    rw [S.plan_within_eq]
    simp only [S.plan_within, H.new_ext, H.ext_ldNk_0, H.ext_ldk_0, ok, ldB_cells, ldNB_cells, V.one, List.length_cons, List.length_nil, Nat.zero_add, Nat.reduceAdd, Nat.reduceLeDiff, decide_true, List.getElem?_cons_zero, List.drop_zero, List.take_succ_cons, List.take_zero, Bool.not_false, Option.bind_some, Option.join_some, asI_int, asB_bool, W_call, hR]
    exact Ev.some (by simp [withinT, hr])
  | true =>
    obtain ⟨⟨s1, s2⟩, ⟨a1, a2⟩, ⟨c1, c2⟩, ⟨d1, d2⟩, _⟩ := cfgR_iff.mp hr
    rw [hr] at hR
    have h1 := room_spec s a c hd g st (by omega) (by omega)
    have h2 := slots_spec s a c hd g st (by omega) (by omega) (by omega) (by omega)
    unfold cfgV at hR h1 h2 ⊢
    rw [S.plan_within_eq]
    simp only [S.plan_within, H.new_ext, H.ext_ldNk_0, H.ext_ldk_0, ok, ldB_cells, ldNB_cells, V.one, List.length_cons, List.length_nil, Nat.zero_add, Nat.reduceAdd, Nat.reduceLeDiff, decide_true, List.getElem?_cons_zero, List.drop_zero, List.take_succ_cons, List.take_zero, Bool.not_true, Option.bind_some, Option.join_some, ckB_some, V.beq, V.beqs, Bool.and_self, asI_int, asB_bool, W_call, hR, h1, h2, between_spec]
    have hroom : 5 ≤ roomT a ∧ roomT a ≤ 10 := by unfold roomT; omega
    rw [wr64 (n := s - 1) (by omega) (by omega), wr64 (n := roomT a - 1) (by omega) (by omega)]
    by_cases p1 : 0 ≤ slot ∧ slot ≤ s - 1
    · simp only [decide_eq_true p1.1, decide_eq_true p1.2, Bool.not_true, Bool.and_self]
      by_cases p2 : 0 ≤ i ∧ i ≤ roomT a - 1
      · simp only [decide_eq_true p2.1, decide_eq_true p2.2, Bool.not_true, Bool.and_self]
        obtain ⟨q1, q2⟩ := mul_bd p1.1 (show slot ≤ 63 by omega) (show 0 ≤ roomT a by omega) hroom.2
        obtain ⟨q3, q4⟩ := mul_bd (show 0 ≤ c by omega) c2 (show 0 ≤ 1 + hd + 2 by omega) (show 1 + hd + 2 ≤ 19 by omega)
        have q5 : slotsT c hd = 4 + c * (1 + hd + 2) := rfl
        rw [wr64 (n := slot * roomT a) (by omega) (by omega), wr64 (n := slotsT c hd + slot * roomT a) (by omega) (by omega), wr64 (by omega) (by omega)]
        refine Ev.some ?_
        unfold withinT
        rw [if_pos ⟨hr, p1, p2⟩]
      · have : (decide (0 ≤ i) && decide (i ≤ roomT a - 1)) = false := by
          rw [Bool.eq_false_iff]; intro q
          simp only [Bool.and_eq_true, decide_eq_true_eq] at q
          exact p2 q
        simp only [this, Bool.not_false]
        refine Ev.some ?_
        unfold withinT
        rw [if_neg (fun q => p2 q.2.2)]
    · have : (decide (0 ≤ slot) && decide (slot ≤ s - 1)) = false := by
        rw [Bool.eq_false_iff]; intro q
        simp only [Bool.and_eq_true, decide_eq_true_eq] at q
        exact p1 q
      simp only [this, Bool.not_false]
      refine Ev.some ?_
      unfold withinT
      rw [if_neg (fun q => p1 q.2.1)]

theorem header_spec (s a c hd g st slot : Int) (h : H) : C 261 [cfgV s a c hd g st, .int .i64 slot] h = some (.int .i64 (withinT s a c hd g st slot 0), h) := by
  refine call_closed (af := F.plan_Header) (by kernel_rfl) rfl (by rfl) (by rfl) h ?_
  have ok := H.ok_empty
  have hW := within_spec s a c hd g st slot 0
  unfold cfgV at hW ⊢
  rw [S.plan_Header_eq]
  simp only [S.plan_Header, H.new_ext, H.ext_ldNk_0, ok, ldNB_cells, List.length_cons, List.length_nil, Nat.zero_add, Nat.reduceAdd, Nat.reduceLeDiff, decide_true, List.getElem?_cons_zero, List.drop_zero, List.take_succ_cons, List.take_zero, Option.bind_some, Option.join_some, W_call, hW]
  exact Ev.some rfl

end Wm
end

section
/- Slices that grow, and loops. -/
namespace Wm
theorem mkSl_ok {h : H} {e b : Nat} {z : List V} {l c : Int} (h1 : 0 ≤ l) (h2 : l ≤ c) (h3 : c * b ≤ 140737488355328) (h4 : c ≤ 9223372036854775807) (h5 : z.length = e) (h6 : 0 < e) :
    h.mkSl e b z l c = some (.sl h.next 0 l.toNat (.ex c.toNat), h.new (.cells (repl z c.toNat) .rw)) := by
  subst h5
  simp [H.mkSl, h1, h2, h3, h4, h6]

theorem append_op {h : H} {e b bb o len n : Nat} {x : V} {new old cs : List V} (hx : lenSl x = some n) (hn : h.slc e x = some new) (ho : h.slc e (.sl bb o len (.op e)) = some old) (hg : h.get bb = some (.cells cs (.gr e))) (h1 : new.all V.one = true) (h2 : (len + n + (len + n) / 2 + 1000) * b ≤ 281474976710656) (he : 0 < e) (hb : 0 < b) :
    h.append e b (.sl bb o len (.op e)) x = some (.sl h.next 0 (len + n) (.op e), (h.put bb none).new (.cells (old ++ new) (.gr e))) := by
  have h3 : lenSl (.sl bb o len (.op e)) = some len := rfl
  simp only [H.append, hx, hn, h3, ho, h1, h2, he, hb, decide_true, Bool.and_self, hg, Nat.beq_refl]

theorem append_nil {h : H} {e b n : Nat} {x : V} {new : List V} (hx : lenSl x = some n) (hn : h.slc e x = some new) (h0 : n ≠ 0) (h1 : new.all V.one = true) (h2 : (n + n / 2 + 1000) * b ≤ 281474976710656) (he : 0 < e) (hb : 0 < b) :
    h.append e b .nilsl x = some (.sl h.next 0 n (.op e), h.new (.cells new (.gr e))) := by
  have h3 : lenSl .nilsl = some 0 := rfl
  have h4 : h.slc e .nilsl = some [] := rfl
  have h5 : Nat.beq n 0 = false := by cases n with
    | zero => exact absurd rfl h0
    | succ n => rfl
  simp only [H.append, hx, hn, h3, h4, h1, h2, he, hb, decide_true, Bool.and_self, Nat.zero_add, h5, List.nil_append]

theorem slc_get {h : H} {e bb o len : Nat} {cap : Cap} {cs : List V} {k : Bk} (hg : h.get bb = some (.cells cs k)) (hl : o + len * e ≤ cs.length) : h.slc e (.sl bb o len cap) = some ((cs.drop o).take (len * e)) := by
  simp only [H.slc, ldc_get hg hl]

theorem st1_get {h : H} {b o : Nat} {cs : List V} {k : Bk} {v : V} (hb : h.get b = some (.cells cs k)) (hk : k ≠ .ro) (hv : v.one = true) (hl : o < cs.length) : h.st 1 (.ptr b o) v = some (h.put b (some (.cells (cs.set o v) k))) := by
  have hc : v.cells = [v] := by cases v <;> first | rfl | simp [V.one] at hv
  have hs : splice cs o [v] = cs.set o v := by
    simp only [splice, List.length_singleton]
    rw [List.set_eq_take_append_cons_drop, if_pos hl]
    simp
  have h6 := stc_get hb hk (vs := [v]) (by simp [hv]) (show o + [v].length ≤ cs.length by simp; omega)
  rw [hs] at h6
  simp only [H.st, hc, List.length_singleton, Nat.beq, h6]

theorem loop_ev {α : Type} {call : Nat → List V → H → Option (V × H)} {meth : Nat → Nat → Option Nat} {b : List V → H → Option (AX × List V × H)} {R : Type} {k : AX × List V × H → Option R} {Q : R → Prop} {e : List V} {h : H} (enc : α → List V) (I : α → H → Prop) (μ : α → H → Nat) (P : AX × List V × H → Prop) (a : α) (he : e = enc a) (h0 : I a h)
    (step : ∀ a h, I a h → Ev (b (enc a) h) fun r => (∃ a', r.1 = .normal ∧ r.2.1 = enc a' ∧ I a' r.2.2 ∧ μ a' r.2.2 < μ a h) ∨ (r.1 ≠ .normal ∧ P r)) (out : ∀ r, P r → Ev (k r) Q) : Ev (((envW meth call).loop b e h).bind k) Q := by
  subst he
  exact Ev.bind (loopW_ev enc I μ step a h h0) out

end Wm
end

section
/- A slice that one element is appended to, among blocks that came. -/
namespace Wm

theorem indexAV_in {b o n e : Nat} {c : Cap} {i : Int} {k : Go.IntKind} (h0 : 0 ≤ i) (h1 : i < n) : indexAV e (.sl b o n c) (.int k i) = some (.ptr b (o + i.toNat * e)) := by
  simp only [indexAV, indexOf, asIAny, h0, h1, decide_true, Bool.and_self]

section
variable {h : H} {P : List (Option Blk)} {e b : Nat} {new : List V}

theorem grow_new (hn : new.length = e) : (h.ext (P ++ [some (.cells new .rw)])).slc e (.sl (h.next + P.length) 0 1 (.ex 1)) = some new := by
  rw [slc_get (cs := new) (k := .rw) ?_ (by omega)]
  · rw [List.drop_zero, List.take_of_length_le (by omega)]
  · rw [H.ext_get (by rw [List.length_append]; exact Nat.lt_succ_self _), List.getElem?_append_right (Nat.le_refl _), Nat.sub_self]; rfl

theorem grow_nil (hn : new.length = e) (h1 : new.all V.one = true) (he : 0 < e) (hb : 0 < b ∧ b ≤ 1000) :
    (h.ext (P ++ [some (.cells new .rw)])).append e b .nilsl (.sl (h.next + P.length) 0 1 (.ex 1)) = some (.sl (h.next + (P.length + 1)) 0 1 (.op e), h.ext (P ++ [some (Blk.cells new .rw)] ++ [some (Blk.cells new (.gr e))])) := by
  rw [append_nil (n := 1) rfl (grow_new hn) (by omega) h1 (by omega) he hb.1, H.new_ext, H.ext_ext, H.ext_next]
  have e1 : (P ++ [some (Blk.cells new .rw)]).length = P.length + 1 := by rw [List.length_append]; rfl
  rw [e1]

theorem grow_op {j i : Nat} {cs : List V} (hj : P[j]? = some (some (.cells cs (.gr e)))) (hc : cs.length = i * e) (hn : new.length = e) (h1 : new.all V.one = true) (he : 0 < e) (hb : 0 < b) (hi : (i + 1 + (i + 1) / 2 + 1000) * b ≤ 281474976710656) :
    (h.ext (P ++ [some (.cells new .rw)])).append e b (.sl (h.next + j) 0 i (.op e)) (.sl (h.next + P.length) 0 1 (.ex 1)) =
      some (.sl (h.next + (P.length + 1)) 0 (i + 1) (.op e), h.ext ((P ++ [some (Blk.cells new .rw)]).set j none ++ [some (Blk.cells (cs ++ new) (.gr e))])) := by
  have hlt : j < P.length := by
    rcases Nat.lt_or_ge j P.length with q | q
    · exact q
    · rw [List.getElem?_eq_none q] at hj; cases hj
  have e1 : (P ++ [some (Blk.cells new .rw)]).length = P.length + 1 := by rw [List.length_append]; rfl
  have hbk : (h.ext (P ++ [some (.cells new .rw)])).get (h.next + j) = some (.cells cs (.gr e)) := by
    rw [H.ext_get (by rw [e1]; omega), List.getElem?_append_left hlt, hj]; rfl
  have hs : (h.ext (P ++ [some (.cells new .rw)])).slc e (.sl (h.next + j) 0 i (.op e)) = some cs := by
    rw [slc_get hbk (by omega), List.drop_zero, List.take_of_length_le (by omega)]
  rw [append_op (n := 1) rfl (grow_new hn) hs hbk h1 hi he hb, H.ext_put (by rw [e1]; omega), H.new_ext, H.ext_ext, H.ext_next, e1]
end
end Wm
end

section
/- A header's word: what the functions of word, head and withyref04 come to. -/
namespace Wm

def U64 (w : Int) : Prop := 0 ≤ w ∧ w < 18446744073709551616

/-- So many bits, from one on. -/
def getT (w : Int) (at' n : Nat) : Int := w / (2 ^ at' : Int) % (2 ^ n : Int)

theorem and64_mask {x : Int} (hx : U64 x) {n : Nat} (hn : n ≤ 64) : and64 x (2 ^ n - 1) = x % (2 ^ n : Int) := by
  obtain ⟨h0, h1⟩ := hx
  obtain ⟨k, rfl⟩ : ∃ k : Nat, x = k := ⟨x.toNat, by omega⟩
  have e1 : (2 ^ n - 1 : Int) = ((2 ^ n - 1 : Nat) : Int) := by
    have : 1 ≤ 2 ^ n := Nat.one_le_two_pow
    rw [Int.natCast_sub this]; simp
  have h2 : 2 ^ n ≤ 2 ^ 64 := Nat.pow_le_pow_right (by omega) hn
  have h3 : 2 ^ n - 1 < 2 ^ 64 := by have : 1 ≤ 2 ^ n := Nat.one_le_two_pow; omega
  unfold and64
  rw [e1, BitVec.ofInt_natCast, BitVec.ofInt_natCast, BitVec.toNat_and, BitVec.toNat_ofNat, BitVec.toNat_ofNat, Nat.mod_eq_of_lt (by omega), Nat.mod_eq_of_lt h3, Nat.and_two_pow_sub_one_eq_mod]
  simp

theorem getT_range {w : Int} (hw : U64 w) (a n : Nat) : U64 (w / (2 ^ a : Int)) := by
  obtain ⟨h0, h1⟩ := hw
  have h2 : (0 : Int) < 2 ^ a := Int.pow_pos (by omega)
  refine ⟨Int.ediv_nonneg h0 (by omega), ?_⟩
  have := Int.ediv_le_self (2 ^ a : Int) h0
  omega

theorem some_spec (a n : Int) (h0 : 0 ≤ a) (h1 : 1 ≤ n) (h2 : a + n ≤ 64) (h : H) : C 441 [.int .i64 a, .int .i64 n] h = some (.bool true, h) := by
  refine call_closed (af := F.word_some) (by kernel_rfl) rfl (by rfl) (by rfl) h ?_
  rw [S.word_some_eq]
  simp only [S.word_some, show 1 ≤ n from h1, show n ≤ 64 by omega, h0, decide_true]
  rw [wr64 (by omega) (by omega)]
  exact Ev.some (by simp; omega)

theorem mask_spec (n : Nat) (hn : n ≤ 63) (h : H) : C 449 [.int .i64 n] h = some (.int .u64 (2 ^ n - 1), h) := by
  refine call_closed (af := F.word_mask) (by kernel_rfl) rfl (by rfl) (by rfl) h ?_
  rw [S.word_mask_eq]
  have h1 : ¬ (n : Int) < 0 := by omega
  have hp : (1 : Nat) ≤ 2 ^ n := Nat.one_le_two_pow
  have hq : 2 ^ n ≤ 2 ^ 63 := Nat.pow_le_pow_right (by omega) hn
  have hc : ((2 ^ n : Nat) : Int) = (2 ^ n : Int) := by simp
  have e1 : (2 ^ n : Int) ≤ 9223372036854775808 := by rw [← hc]; omega
  have e2 : (1 : Int) ≤ 2 ^ n := by rw [← hc]; omega
  simp only [S.word_mask, shiftI, decide_eq_false h1, Int.toNat_natCast, show min n (Go.IntKind.bits .u64) = n from by show min n 64 = n; omega, Option.bind_some, Int.one_mul]
  rw [wru64 (n := 2 ^ n) (by omega) (by omega), wru64 (by omega) (by omega)]
  exact Ev.some rfl

theorem get_spec {w : Int} (hw : U64 w) (a n : Nat) (h1 : 1 ≤ n) (h2 : a + n ≤ 64) (h3 : n ≤ 63) (h : H) : C 396 [.int .u64 w, .int .i64 a, .int .i64 n] h = some (.int .u64 (getT w a n), h) := by
  refine call_closed (af := F.word_Get) (by kernel_rfl) rfl (by rfl) (by rfl) h ?_
  rw [S.word_Get_eq]
  have h4 : ¬ (a : Int) < 0 := by omega
  simp only [S.word_Get, W_call, some_spec (a : Int) (n : Int) (by omega) (by omega) (by omega), asB_bool, Option.bind_some, Bool.not_true, shiftI, decide_eq_false h4, Int.toNat_natCast, show min a (Go.IntKind.bits .u64) = a from by show min a 64 = a; omega, mask_spec n h3, asI_int]
  rw [and64_mask (getT_range hw a n) (by omega)]
  exact Ev.some rfl

/-- The seven values of a word. -/
def sevenT (w : Int) : List Int := [getT w 0 3, getT w 3 1, getT w 4 1, getT w 5 4, getT w 9 7, getT w 16 32, getT w 48 16]
def sizesT : List Nat := [3, 1, 1, 4, 7, 32, 16]
def sumT (i : Nat) : Nat := (sizesT.take i).sum

theorem size_at (w : Int) : ∀ i, i < 7 → ∃ n : Nat, ([.int .i64 3, .int .i64 1, .int .i64 1, .int .i64 4, .int .i64 7, .int .i64 32, .int .i64 16] : List V)[i]? = some (.int .i64 n) ∧ 1 ≤ n ∧ sumT i + n ≤ 64 ∧ n ≤ 63 ∧ sumT (i + 1) = sumT i + n ∧ (sevenT w).take (i + 1) = (sevenT w).take i ++ [getT w (sumT i) n]
  | 0, _ => ⟨3, rfl, by decide, by decide, by decide, rfl, rfl⟩
  | 1, _ => ⟨1, rfl, by decide, by decide, by decide, rfl, rfl⟩
  | 2, _ => ⟨1, rfl, by decide, by decide, by decide, rfl, rfl⟩
  | 3, _ => ⟨4, rfl, by decide, by decide, by decide, rfl, rfl⟩
  | 4, _ => ⟨7, rfl, by decide, by decide, by decide, rfl, rfl⟩
  | 5, _ => ⟨32, rfl, by decide, by decide, by decide, rfl, rfl⟩
  | 6, _ => ⟨16, rfl, by decide, by decide, by decide, rfl, rfl⟩
  | n + 7, h => by omega

theorem unpack_loop {w : Int} (hw : U64 w) {h : H} (ok : h.ok) (A : Option Blk) :
    Ev (C 379 [.int .u64 w, .sl (h.next + 1) 0 7 (.ex 7)] (h.ext [A, some (.cells [.int .i64 3, .int .i64 1, .int .i64 1, .int .i64 4, .int .i64 7, .int .i64 32, .int .i64 16] .rw)])) fun r =>
      ∃ j L, r = (.tup [.sl (h.next + (j + 2)) 0 7 (.op 1), .bool true], h.ext (A :: some (.cells [.int .i64 3, .int .i64 1, .int .i64 1, .int .i64 4, .int .i64 7, .int .i64 32, .int .i64 16] .rw) :: L)) ∧ L[j]? = some (some (.cells ((sevenT w).map (.int .u64)) (.gr 1))) := by
  refine call_ev (af := F.word_Unpack) (by kernel_rfl) rfl ?_
  rw [S.word_Unpack_eq]
  simp only [S.word_Unpack, lenSl, Option.bind_some]
  generalize hZ : (some (Blk.cells [.int .i64 3, .int .i64 1, .int .i64 1, .int .i64 4, .int .i64 7, .int .i64 32, .int .i64 16] .rw)) = Z
  refine loop_ev (α := Nat × V) (fun a => S.word_Unpack_c1_E (.int .u64 w) a.2 (.int .i64 (sumT a.1 : Nat)) (.sl (h.next + 1) 0 7 (.ex 7)) (.int .i64 (7 : Nat)) (.int .i64 a.1))
    (fun a g => a.1 ≤ 7 ∧ ∃ L, g = h.ext (A :: Z :: L) ∧ ((a.1 = 0 ∧ a.2 = .nilsl) ∨ ∃ j, a.2 = .sl (h.next + (j + 2)) 0 a.1 (.op 1) ∧ j < L.length ∧ L[j]? = some (some (.cells (((sevenT w).take a.1).map (.int .u64)) (.gr 1)))))
    (fun a _ => 7 - a.1) (fun r => ∃ j L, r = (.exit 0, S.word_Unpack_c1_O .dead .dead (.sl (h.next + (j + 2)) 0 7 (.op 1)), h.ext (A :: Z :: L)) ∧ L[j]? = some (some (.cells ((sevenT w).map (.int .u64)) (.gr 1))))
    (0, .nilsl) rfl ⟨Nat.zero_le _, [], rfl, Or.inl ⟨rfl, rfl⟩⟩ ?_ ?_
  · rintro ⟨i, x⟩ g ⟨hi, L, rfl, hx⟩
    simp only at hi hx ⊢
    rw [S.word_Unpack_c1_eq]
    simp only [S.word_Unpack_c1_S]
    by_cases hic : (i : Int) < ((7 : Nat) : Int)
    · have hi7 : i < 7 := by omega
      simp only [decide_eq_true hic]
      obtain ⟨n, hn, n1, n2, n3, n4, n5⟩ := size_at w i hi7
      have hld : (h.ext (A :: Z :: L)).ld1 (.ptr (h.next + 1) i) = some (.int .i64 n) := by
        rw [H.ext_ldk ok]
        simp only [List.getElem?_cons_succ, List.getElem?_cons_zero, Option.join_some, ← hZ, ldB_cells, hn, V.one]
      have e1 : indexAV 1 (.sl (h.next + 1) 0 7 (.ex 7)) (.int .i64 (i : Int)) = some (.ptr (h.next + 1) i) := by
        rw [indexAV_in (by omega) (by omega)]
        simp
      have hfill : ∀ v : Int, fill (repl [V.int .u64 0] 1) [] [(0, 1, .c (.int .u64 v))] = some [.int .u64 v] := fun v => rfl
      have hw1 : wr .i64 ((sumT i : Nat) + (n : Int)) = ((sumT (i + 1) : Nat) : Int) := by rw [wr64 (by omega) (by omega), n4]; omega
      have hw2 : wr .i64 ((i : Int) + 1) = ((i + 1 : Nat) : Int) := by rw [wr64 (by omega) (by omega)]; rfl
      simp only [e1, hld, Option.bind_some, W_call, some_spec ((sumT i : Nat) : Int) (n : Int) (by omega) (by omega) (by omega), asB_bool, Bool.not_true, get_spec hw (sumT i) n n1 n2 n3, hfill, asI_int, hw1, hw2, H.new_ext, H.ext_ext, H.ext_next]
      rcases hx with ⟨rfl, rfl⟩ | ⟨j, rfl, hj, hjL⟩
      · rw [grow_nil (P := A :: Z :: L) (e := 1) (b := 8) (new := [.int .u64 (getT w (sumT 0) n)]) rfl rfl (by decide) (by decide)]
        simp only [Option.bind_some]
        refine Ev.some (Or.inl ⟨(1, .sl (h.next + ((A :: Z :: L).length + 1)) 0 1 (.op 1)), rfl, rfl, ⟨by omega, L ++ [some (.cells [.int .u64 (getT w (sumT 0) n)] .rw)] ++ [some (.cells [.int .u64 (getT w (sumT 0) n)] (.gr 1))], rfl, Or.inr ⟨L.length + 1, ?_, ?_, ?_⟩⟩, by omega⟩)
        · simp only [List.length_cons]
        · simp
        · rw [List.getElem?_append_right (by simp)]
          simp [n5]
      · rw [grow_op (P := A :: Z :: L) (e := 1) (b := 8) (j := j + 2) (i := i) (cs := ((sevenT w).take i).map (.int .u64)) (new := [.int .u64 (getT w (sumT i) n)]) (by simpa using hjL) ?_ rfl rfl (by decide) (by decide) (by omega)]
        · simp only [Option.bind_some]
          refine Ev.some (Or.inl ⟨(i + 1, .sl (h.next + ((A :: Z :: L).length + 1)) 0 (i + 1) (.op 1)), rfl, rfl, ⟨hi7, (L ++ [some (Blk.cells [.int .u64 (getT w (sumT i) n)] .rw)]).set j none ++ [some (.cells (((sevenT w).take i).map (.int .u64) ++ [.int .u64 (getT w (sumT i) n)]) (.gr 1))], ?_, Or.inr ⟨L.length + 1, ?_, ?_, ?_⟩⟩, by omega⟩)
          · simp only [List.cons_append, List.set_cons_succ]
          · simp only [List.length_cons]
          · simp
          · rw [List.getElem?_append_right (by simp)]
            simp [n5]
        · rw [List.length_map, List.length_take]
          have : (sevenT w).length = 7 := rfl
          omega
    · simp only [decide_eq_false hic]
      have h7 : i = 7 := by omega
      subst h7
      rcases hx with ⟨h1, _⟩ | ⟨j, rfl, hj, hjL⟩
      · cases h1
      · exact Ev.some (Or.inr ⟨by simp, j, L, rfl, hjL⟩)
  · rintro r ⟨j, L, rfl, hL⟩
    simp only
    rw [S.word_Unpack_c1_e0_eq]
    exact Ev.some ⟨j, L, rfl, hL⟩

def hdrT (w : Int) : List V := [.int .i64 (getT w 0 3), .int .i64 (getT w 3 1), .bool (decide (getT w 4 1 = 1)), .int .i64 (getT w 5 4), .int .i64 (getT w 16 32), .int .i64 (getT w 48 16)]
def hdr0 : List V := [.int .i64 0, .int .i64 0, .bool false, .int .i64 0, .int .i64 0, .int .i64 0]
/-- Is it a header's word? -/
def okT (w : Int) : Bool := decide (getT w 0 3 ≤ 4) && decide (getT w 9 7 = 0)

theorem getT_small (w : Int) (a n : Nat) (hn : n ≤ 62) : 0 ≤ getT w a n ∧ getT w a n ≤ 4611686018427387904 := by
  have h2 : (0 : Int) < 2 ^ n := Int.pow_pos (by omega)
  have h3 : ((2 ^ n : Nat) : Int) = (2 ^ n : Int) := by simp
  have h4 : 2 ^ n ≤ 2 ^ 62 := Nat.pow_le_pow_right (by omega) hn
  refine ⟨Int.emod_nonneg _ (by omega), ?_⟩
  have := Int.emod_lt_of_pos (w / (2 ^ a : Int)) h2
  unfold getT
  omega

theorem headUnpack_spec {w : Int} (hw : U64 w) (h : H) : C 265 [.int .u64 w] h = some (.tup [.agg (match okT w with | true => hdrT w | false => hdr0), .bool (okT w)], h) := by
  refine call_closed (af := F.head_Unpack) (by kernel_rfl) rfl (by rfl) (by cases okT w <;> rfl) h ?_
  rw [S.head_Unpack_eq]
  have ok := H.ok_empty
  obtain ⟨r, e, j, L, rfl, hL⟩ := unpack_loop hw ok (some (.cells [.int .i64 0, .int .i64 0, .bool false, .int .i64 0, .int .i64 0, .int .i64 0] .rw))
  have hld : ∀ i v, (sevenT w)[i]? = some v → (H.empty.ext (some (.cells [.int .i64 0, .int .i64 0, .bool false, .int .i64 0, .int .i64 0, .int .i64 0] .rw) :: some (.cells [.int .i64 3, .int .i64 1, .int .i64 1, .int .i64 4, .int .i64 7, .int .i64 32, .int .i64 16] .rw) :: L)).ld1 (.ptr (H.empty.next + (j + 2)) i) = some (.int .u64 v) := by
    intro i v hv
    rw [H.ext_ldk ok]
    simp only [List.getElem?_cons_succ, hL, Option.join_some, ldB_cells, List.getElem?_map, hv, Option.map_some, V.one]
  have x0 : indexAV 1 (.sl (H.empty.next + (j + 2)) 0 7 (.op 1)) (.int .i64 0) = some (.ptr (H.empty.next + (j + 2)) 0) := rfl
  have d0 := hld 0 (getT w 0 3) rfl
  have x1 : indexAV 1 (.sl (H.empty.next + (j + 2)) 0 7 (.op 1)) (.int .i64 1) = some (.ptr (H.empty.next + (j + 2)) 1) := rfl
  have d1 := hld 1 (getT w 3 1) rfl
  have x2 : indexAV 1 (.sl (H.empty.next + (j + 2)) 0 7 (.op 1)) (.int .i64 2) = some (.ptr (H.empty.next + (j + 2)) 2) := rfl
  have d2 := hld 2 (getT w 4 1) rfl
  have x3 : indexAV 1 (.sl (H.empty.next + (j + 2)) 0 7 (.op 1)) (.int .i64 3) = some (.ptr (H.empty.next + (j + 2)) 3) := rfl
  have d3 := hld 3 (getT w 5 4) rfl
  have x4 : indexAV 1 (.sl (H.empty.next + (j + 2)) 0 7 (.op 1)) (.int .i64 4) = some (.ptr (H.empty.next + (j + 2)) 4) := rfl
  have d4 := hld 4 (getT w 9 7) rfl
  have x5 : indexAV 1 (.sl (H.empty.next + (j + 2)) 0 7 (.op 1)) (.int .i64 5) = some (.ptr (H.empty.next + (j + 2)) 5) := rfl
  have d5 := hld 5 (getT w 16 32) rfl
  have x6 : indexAV 1 (.sl (H.empty.next + (j + 2)) 0 7 (.op 1)) (.int .i64 6) = some (.ptr (H.empty.next + (j + 2)) 6) := rfl
  have d6 := hld 6 (getT w 48 16) rfl
  have e7 : ¬ (((7 : Nat) : Int) < 7) := by omega
  have q0 := getT_small w 0 3 (by omega)
  have q1 := getT_small w 3 1 (by omega)
  have q3 := getT_small w 5 4 (by omega)
  have q5 := getT_small w 16 32 (by omega)
  have q6 := getT_small w 48 16 (by omega)
  have w0 := wr64 (n := getT w 0 3) (by omega) (by omega)
  have w1 := wr64 (n := getT w 3 1) (by omega) (by omega)
  have w3 := wr64 (n := getT w 5 4) (by omega) (by omega)
  have w5 := wr64 (n := getT w 16 32) (by omega) (by omega)
  have w6 := wr64 (n := getT w 48 16) (by omega) (by omega)
  have hany : ∀ (k : Go.IntKind) (n : Int), asIAny (.int k n) = some n := fun _ _ => rfl
  clear q0 q1 q3 q5 q6 hld
  by_cases k1 : getT w 0 3 ≤ 4
  · have k1' : ¬ 4 < getT w 0 3 := by clear w0 w1 w3 w5 w6; omega
    by_cases k2 : getT w 9 7 = 0
    · simp only [S.head_Unpack, H.new_ext, H.ext_ext, H.ext_next, H.ext_ldNk_0, H.ext_stk_0, ok, ldNB_cells, stB_cells, V.one, V.cells, List.length_cons, List.length_nil, Nat.zero_add, Nat.reduceAdd, Nat.reduceLeDiff, decide_true, decide_false, List.getElem?_cons_zero, List.getElem?_cons_succ, List.cons_append, List.nil_append, List.drop_zero, List.drop_succ_cons, List.take_succ_cons, List.take_zero, List.set_cons_zero, splice, List.all_cons, List.all_nil, Bool.not_true, Bool.or_false, Option.bind_some, Option.map_some, Option.join_some, Bool.and_self, finV, resAllV, resOfV, result, asI_int, reduceCtorEq, W_call, e, lenSl, e7, x0, x1, x2, x3, x4, x5, x6, d0, d1, d2, d3, d4, d5, d6, k1', k2, hany, w0, w1, w3, w5, w6]
      exact Ev.some (by simp [okT, k1, k2, hdrT])
    · simp only [S.head_Unpack, H.new_ext, H.ext_ext, H.ext_next, H.ext_ldNk_0, H.ext_stk_0, ok, ldNB_cells, stB_cells, V.one, V.cells, List.length_cons, List.length_nil, Nat.zero_add, Nat.reduceAdd, Nat.reduceLeDiff, decide_true, decide_false, List.getElem?_cons_zero, List.getElem?_cons_succ, List.cons_append, List.nil_append, List.drop_zero, List.drop_succ_cons, List.take_succ_cons, List.take_zero, List.set_cons_zero, splice, List.all_cons, List.all_nil, Bool.not_true, Bool.not_false, Bool.or_false, Option.bind_some, Option.map_some, Option.join_some, Bool.and_self, finV, resAllV, resOfV, result, asI_int, reduceCtorEq, W_call, e, lenSl, e7, x0, x1, x2, x3, x4, x5, x6, d0, d1, d2, d3, d4, d5, d6, k1', k2, hany, w0, w1, w3, w5, w6]
      exact Ev.some (by simp [okT, k1, k2, hdr0])
  · have k1' : 4 < getT w 0 3 := by clear w0 w1 w3 w5 w6; omega
    simp only [S.head_Unpack, H.new_ext, H.ext_ext, H.ext_next, H.ext_ldNk_0, H.ext_stk_0, ok, ldNB_cells, stB_cells, V.one, V.cells, List.length_cons, List.length_nil, Nat.zero_add, Nat.reduceAdd, Nat.reduceLeDiff, decide_true, decide_false, List.getElem?_cons_zero, List.getElem?_cons_succ, List.cons_append, List.nil_append, List.drop_zero, List.drop_succ_cons, List.take_succ_cons, List.take_zero, List.set_cons_zero, splice, List.all_cons, List.all_nil, Bool.not_true, Bool.or_false, Option.bind_some, Option.map_some, Option.join_some, Bool.and_self, finV, resAllV, resOfV, result, asI_int, reduceCtorEq, W_call, e, lenSl, e7, x0, x1, x2, x3, x4, x5, x6, d0, d1, d2, d3, d4, d5, d6, k1', hany, w0, w1, w3, w5, w6]
    exact Ev.some (by simp [okT, k1, hdr0])

theorem tm {a b : Int} (h : 0 ≤ a) : Int.tmod a b = a % b := Int.tmod_eq_emod_of_nonneg h
theorem td {a b : Int} (h : 0 ≤ a) : Int.tdiv a b = a / b := Int.tdiv_eq_ediv_of_nonneg h

theorem refUnpack_spec {w : Int} (hw : U64 w) (h : H) : C 109 [.int .u64 w] h = some (.tup [.agg (match okT w with | true => hdrT w | false => hdr0), .bool (okT w)], h) := by
  refine call_closed (af := F.withyref04_Unpack) (by kernel_rfl) rfl (by rfl) (by cases okT w <;> rfl) h ?_
  rw [S.withyref04_Unpack_eq]
  have ok := H.ok_empty
  obtain ⟨h0, h1⟩ := hw
  have e0 : wr .i64 (Int.tmod w 8) = getT w 0 3 := by rw [tm h0, wr64 (by omega) (by omega)]; simp [getT]
  have e1 : wr .i64 (Int.tmod (wr .u64 (Int.tdiv w 8)) 2) = getT w 3 1 := by rw [td h0, wru64 (by omega) (by omega), tm (by omega), wr64 (by omega) (by omega)]; rfl
  have e2 : Int.tmod (wr .u64 (Int.tdiv w 16)) 2 = getT w 4 1 := by rw [td h0, wru64 (by omega) (by omega), tm (by omega)]; rfl
  have e3 : wr .i64 (Int.tmod (wr .u64 (Int.tdiv w 32)) 16) = getT w 5 4 := by rw [td h0, wru64 (by omega) (by omega), tm (by omega), wr64 (by omega) (by omega)]; rfl
  have e4 : wr .i64 (Int.tmod (wr .u64 (Int.tdiv w 65536)) 4294967296) = getT w 16 32 := by rw [td h0, wru64 (by omega) (by omega), tm (by omega), wr64 (by omega) (by omega)]; rfl
  have e5 : wr .i64 (wr .u64 (Int.tdiv w 281474976710656)) = getT w 48 16 := by
    rw [td h0, wru64 (by omega) (by omega), wr64 (by omega) (by omega)]
    show _ = w / 281474976710656 % 65536
    omega
  have e6 : Int.tmod (wr .u64 (Int.tdiv w 512)) 128 = getT w 9 7 := by rw [td h0, wru64 (by omega) (by omega), tm (by omega)]; rfl
  clear h0 h1
  by_cases k1 : getT w 0 3 ≤ 4
  · have k1' : ¬ 4 < getT w 0 3 := by clear e0 e1 e2 e3 e4 e5 e6; omega
    by_cases k2 : getT w 9 7 = 0
    · simp only [S.withyref04_Unpack, H.new_ext, H.ext_ext, H.ext_next, H.ext_ldNk_0, H.ext_ldNk, H.ext_ldk, H.ext_stk_0, H.ext_stk, ok, ldB_cells, ldNB_cells, stB_cells, V.one, V.cells, List.length_cons, List.length_nil, Nat.zero_add, Nat.reduceAdd, Nat.reduceLeDiff, decide_true, decide_false, List.getElem?_cons_zero, List.getElem?_cons_succ, List.cons_append, List.nil_append, List.drop_zero, List.drop_succ_cons, List.take_succ_cons, List.take_zero, List.set_cons_zero, List.set_cons_succ, splice, List.all_cons, List.all_nil, Bool.not_true, Bool.or_false, Option.bind_some, Option.map_some, Option.join_some, Bool.and_self, finV, resAllV, resOfV, result, asI_int, reduceCtorEq, e0, e1, e2, e3, e4, e5, e6, k1', k2]
      exact Ev.some (by simp [okT, k1, k2, hdrT])
    · simp only [S.withyref04_Unpack, H.new_ext, H.ext_ext, H.ext_next, H.ext_ldNk_0, H.ext_ldk, H.ext_stk_0, H.ext_stk, ok, ldB_cells, ldNB_cells, stB_cells, V.one, V.cells, List.length_cons, List.length_nil, Nat.zero_add, Nat.reduceAdd, Nat.reduceLeDiff, decide_true, decide_false, List.getElem?_cons_zero, List.getElem?_cons_succ, List.cons_append, List.nil_append, List.drop_zero, List.drop_succ_cons, List.take_succ_cons, List.take_zero, List.set_cons_zero, List.set_cons_succ, splice, List.all_cons, List.all_nil, Bool.not_true, Bool.not_false, Bool.or_false, Option.bind_some, Option.map_some, Option.join_some, Bool.and_self, finV, resAllV, resOfV, result, asI_int, reduceCtorEq, e0, e1, e2, e3, e4, e5, e6, k1', k2]
      exact Ev.some (by simp [okT, k1, k2, hdr0])
  · have k1' : 4 < getT w 0 3 := by clear e0 e1 e2 e3 e4 e5 e6; omega
    simp only [S.withyref04_Unpack, H.new_ext, H.ext_ext, H.ext_next, H.ext_ldNk_0, H.ext_ldNk, H.ext_ldk, H.ext_stk_0, H.ext_stk, ok, ldB_cells, ldNB_cells, stB_cells, V.one, V.cells, List.length_cons, List.length_nil, Nat.zero_add, Nat.reduceAdd, Nat.reduceLeDiff, decide_true, decide_false, List.getElem?_cons_zero, List.getElem?_cons_succ, List.cons_append, List.nil_append, List.drop_zero, List.drop_succ_cons, List.take_succ_cons, List.take_zero, List.set_cons_zero, List.set_cons_succ, splice, List.all_cons, List.all_nil, Bool.not_true, Bool.or_false, Option.bind_some, Option.map_some, Option.join_some, Bool.and_self, finV, resAllV, resOfV, result, asI_int, reduceCtorEq, e0, e1, e2, e3, e4, e5, e6, k1']
    exact Ev.some (by simp [okT, k1, hdr0])
end Wm
end

section
/- Frames: what of a heap stays; known blocks are read and written. -/
namespace Wm

theorem bind_congr1 {α β : Type} {x y : Option α} {f : α → Option β} (h : x = y) : x.bind f = y.bind f := by rw [h]

/-- Blocks of 'h' outside of 'L' are as they were; more may have come. -/
structure Fr (L : List Nat) (h h' : H) : Prop where
  le : h.next ≤ h'.next
  ok : h'.ok
  same : ∀ b, b < h.next → b ∉ L → h'.get b = h.get b

theorem Fr.refl {L : List Nat} {h : H} (ok : h.ok) : Fr L h h := ⟨Nat.le_refl _, ok, fun _ _ _ => rfl⟩
theorem Fr.new {L : List Nat} {h h' : H} (f : Fr L h h') (x : Blk) : Fr L h (h'.new x) :=
  ⟨by have := f.le; simp only [H.next_new]; omega, f.ok.new x, fun b hb hL => by rw [get_new_ne (by have := f.le; omega)]; exact f.same b hb hL⟩
theorem Fr.put {L : List Nat} {h h' : H} (f : Fr L h h') {b : Nat} (hb : b ∈ L ∨ h.next ≤ b) (hl : b < h'.next) (x : Option Blk) : Fr L h (h'.put b x) :=
  ⟨f.le, f.ok.put hl x, fun c hc hL => by
    rw [get_put_ne (by rintro rfl; rcases hb with q | q; exact hL q; omega)]; exact f.same c hc hL⟩
theorem Fr.trans {L L' : List Nat} {h h1 h2 : H} (f : Fr L h h1) (g : Fr L' h1 h2) (hL : ∀ b ∈ L', b ∈ L ∨ h.next ≤ b) : Fr L h h2 :=
  ⟨Nat.le_trans f.le g.le, g.ok, fun b hb hn => by
    rw [g.same b (by have := f.le; omega) (fun q => by rcases hL b q with q | q; exact hn q; omega)]; exact f.same b hb hn⟩
theorem Fr.trans' {L : List Nat} {h h1 h2 : H} (f : Fr L h h1) (g : Fr L h1 h2) : Fr L h h2 := f.trans g fun _ q => .inl q
theorem Fr.mono {L L' : List Nat} {h h1 : H} (f : Fr L h h1) (hL : ∀ b ∈ L, b ∈ L' ∨ h.next ≤ b) : Fr L' h h1 :=
  ⟨f.le, f.ok, fun b hb hn => f.same b hb fun q => by rcases hL b q with q | q; exact hn q; omega⟩
theorem Fr.get {L : List Nat} {h h' : H} (f : Fr L h h') (ok : h.ok) {b : Nat} {x : Blk} (hb : h.get b = some x) (hL : b ∉ L) : h'.get b = some x := by
  rw [f.same b (ok.lt hb) hL]; exact hb
theorem Fr.lt {L : List Nat} {h h' : H} (f : Fr L h h') {b : Nat} (hb : b < h.next) : b < h'.next := Nat.lt_of_lt_of_le hb f.le

/-! ### Reads and writes of blocks that are known -/
section
variable {h : H} {n b o : Nat}
theorem ld1_get' : h.ld1 (.ptr b o) = ldB (h.get b) o := H.ld1_eq
theorem ldN_get' : h.ldN (n + 1) (.ptr b o) = ldNB (h.get b) o (n + 1) := H.ldN_eq (Nat.succ_ne_zero n)
theorem st_get' {x : V} : h.st n (.ptr b o) x = match Nat.beq x.cells.length n with
    | true => (stB (h.get b) o x.cells).map fun y => h.put b (some y)
    | false => none := by
  simp only [H.st]
  split
  · rename_i hb; simp only [hb, H.stc_eq]
  · rename_i hb; simp only [hb]
theorem get_put' {x : Option Blk} {c : Nat} : (h.put b x).get c = if c = b then x else h.get c := H.get_put _ _ _ _
theorem get_new' {x : Blk} {c : Nat} : (h.new x).get c = if c = h.next then some x else h.get c := H.get_new _ _ _
theorem put_put' {x y : Option Blk} : (h.put b x).put b y = h.put b y := by
  simp only [H.put, T.put, T.put'_put' _ _ _ _ _ _ (Nat.lt_succ_self _) (Nat.lt_succ_self _)]
end
theorem lenSl_sl (b o n : Nat) (c : Cap) : lenSl (.sl b o n c) = some n := rfl
theorem nilc_ptr (b o : Nat) : nilc (.ptr b o) = some (.ptr b o) := rfl
theorem eqPtr_ptr (b o : Nat) : eqPtr (.ptr b o) .nilp = some false := rfl
theorem eqPtr_nil : eqPtr .nilp .nilp = some true := rfl
theorem H.ok.ne0 {h : H} (ok : h.ok) {b : Nat} {x : Blk} (hb : h.get b = some x) : b ≠ h.next := by have := ok.lt hb; omega

/-! ### Configs -/
structure Cfg where
  s : Int
  a : Int
  c : Int
  hd : Int
  g : Int
  st : Int
def Cfg.cs (k : Cfg) : List V := [.int .i64 k.s, .int .i64 k.a, .int .i64 k.c, .int .i64 k.hd, .int .i64 k.g, .int .i64 k.st]
def Cfg.v (k : Cfg) : V := cfgV k.s k.a k.c k.hd k.g k.st
def Cfg.R (k : Cfg) : Bool := cfgR k.s k.a k.c k.hd k.g k.st

/-! ### Words of a memory -/
structure Touch where
  kind : Int
  at' : Int
  was : Int
  now : Int
structure Mem where
  ws : List Int
  n : Int
  last : Touch

def Mem.there (m : Mem) (k : Int) : Bool := decide (0 ≤ k) && decide (k < m.ws.length)
def Mem.w (m : Mem) (k : Int) : Int := m.ws.getD k.toNat 0
def Mem.touch (m : Mem) (kind k now : Int) : Mem := ⟨m.ws.set k.toNat now, wr .i64 (m.n + 1), ⟨kind, k, m.w k, now⟩⟩
def Mem.load (m : Mem) (k : Int) : Mem := if m.there k then m.touch 1 k (m.w k) else m
def Mem.val (m : Mem) (k : Int) : Int := if m.there k then m.w k else 0
def Mem.store (m : Mem) (k v : Int) : Mem := if m.there k then m.touch 2 k v else m
def Mem.swap (m : Mem) (k old now : Int) : Mem := if m.there k then m.touch 3 k (if m.w k = old then now else m.w k) else m
def Mem.swaps (m : Mem) (k old : Int) : Bool := m.there k && decide (m.w k = old)
/-- A memory stands in these two blocks. -/
structure MemAt (h : H) (b bw : Nat) (m : Mem) : Prop where
  ne : b ≠ bw
  own : ∃ c, h.get b = some (.cells [.sl bw 0 m.ws.length c, .int .i64 m.n, .int .i64 m.last.kind, .int .i64 m.last.at', .int .u64 m.last.was, .int .u64 m.last.now] .rw)
  row : ∃ k, k ≠ Bk.ro ∧ h.get bw = some (.cells (m.ws.map (.int .u64)) k)
  u64 : ∀ w ∈ m.ws, U64 w
  small : m.ws.length ≤ 65536

theorem MemAt.fr {h h' : H} {L : List Nat} {b bw : Nat} {m : Mem} (M : MemAt h b bw m) (ok : h.ok) (f : Fr L h h') (h1 : b ∉ L) (h2 : bw ∉ L) : MemAt h' b bw m := by
  obtain ⟨ne, ⟨c, ho⟩, ⟨k, hk, hr⟩, hu, hs⟩ := M
  exact ⟨ne, ⟨c, f.get ok ho h1⟩, ⟨k, hk, f.get ok hr h2⟩, hu, hs⟩
theorem MemAt.w64 {h : H} {b bw : Nat} {m : Mem} (M : MemAt h b bw m) (k : Int) : U64 (m.w k) := by
  unfold Mem.w
  rw [List.getD_eq_getElem?_getD]
  cases hk : m.ws[k.toNat]? with
  | none => exact ⟨by decide, by decide⟩
  | some w => exact M.u64 w (List.mem_of_getElem? hk)
end Wm
end

section
/- The program's machines as plain functions: headers, shades. -/
namespace Wm

structure Hdr where
  kind : Int
  mark : Int
  gray : Bool
  arity : Int
  gen : Int
  stamp : Int
def Hdr.cs (x : Hdr) : List V := [.int .i64 x.kind, .int .i64 x.mark, .bool x.gray, .int .i64 x.arity, .int .i64 x.gen, .int .i64 x.stamp]
def Hdr.zero : Hdr := ⟨0, 0, false, 0, 0, 0⟩
/-- A word's header. -/
def unp (w : Int) : Hdr := if okT w then ⟨getT w 0 3, getT w 3 1, decide (getT w 4 1 = 1), getT w 5 4, getT w 16 32, getT w 48 16⟩ else .zero
def Hdr.right (x : Hdr) : Bool := decide (0 ≤ x.kind) && decide (x.kind ≤ 4) && (decide (0 ≤ x.mark) && decide (x.mark ≤ 1)) && (decide (0 ≤ x.arity) && decide (x.arity ≤ 15)) && (decide (0 ≤ x.gen) && decide (x.gen ≤ 4294967295)) && (decide (0 ≤ x.stamp) && decide (x.stamp ≤ 65535))
def Hdr.word (x : Hdr) : Int := x.kind + 8 * x.mark + 16 * (if x.gray then 1 else 0) + 32 * x.arity + 65536 * x.gen + 281474976710656 * x.stamp
def pack (x : Hdr) : Int := if x.right then x.word else 0
def black (e : Int) : Int := (e / 4 + 1) % 2
def lives (w : Int) : Bool := okT w && (decide ((unp w).kind = 1) || decide ((unp w).kind = 2))
/-- May it be shaded? -/
def white (w e : Int) : Bool := lives w && !decide ((unp w).mark = black e)
end Wm
end

section
/- What the memory's functions come to. -/
namespace Wm
attribute [local congr] bind_congr1

section
variable {h : H} {b bw : Nat} {m : Mem}

theorem MemAt.size (M : MemAt h b bw m) : C 413 [.ptr b 0] h = some (.int .i64 m.ws.length, h) := by
  obtain ⟨ne, ⟨c, ho⟩, -, -, -⟩ := M
  refine call_open (af := F.mem_Mem_Size) (by kernel_rfl) rfl ?_
  rw [S.mem_Mem_Size_eq]
  simp only [S.mem_Mem_Size, eqV, eqPtr, Option.bind_some, nilc, ptrAt_ptr, ld1_get', ho, ldB_cells, List.getElem?_cons_zero, V.one, lenSl, Nat.add_zero]

theorem MemAt.there (M : MemAt h b bw m) (k : Int) : C 346 [.ptr b 0, .int .i64 k] h = some (.bool (m.there k), h) := by
  refine call_open (af := F.mem_Mem_there) (by kernel_rfl) rfl ?_
  rw [S.mem_Mem_there_eq]
  unfold Mem.there
  cases hk : decide (0 ≤ k) with
  | true => simp only [S.mem_Mem_there, hk, W_call, M.size, Option.bind_some, asI_int, Bool.true_and]
  | false => simp only [S.mem_Mem_there, hk, Bool.false_and]

theorem MemAt.touch (M : MemAt h b bw m) (ok : h.ok) {k now kind : Int} (hk : m.there k = true) (hn : U64 now) :
    ∃ h', C 347 [.ptr b 0, .int .i64 kind, .int .i64 k, .int .u64 now] h = some (.tup [], h') ∧ Fr [b, bw] h h' ∧ MemAt h' b bw (m.touch kind k now) := by
  obtain ⟨ne, ⟨c, ho⟩, ⟨kk, hkk, hr⟩, hu, hs⟩ := M
  unfold Mem.there at hk
  simp only [Bool.and_eq_true, decide_eq_true_eq] at hk
  obtain ⟨k0, k1⟩ := hk
  have hidx : (m.ws.map (V.int .u64))[k.toNat]? = some (.int .u64 (m.w k)) := by
    rw [List.getElem?_map, List.getElem?_eq_getElem (by omega), Option.map_some]
    simp only [Mem.w, List.getD_eq_getElem?_getD]
    rw [List.getElem?_eq_getElem (by omega)]; rfl
  have hro : decide (kk = Bk.ro) = false := decide_eq_false hkk
  have hle : decide (k.toNat + 1 ≤ (m.ws.map (V.int .u64)).length) = true := by rw [decide_eq_true_eq, List.length_map]; omega
  have hix : indexAV 1 (.sl bw 0 m.ws.length c) (.int .i64 k) = some (.ptr bw k.toNat) := by
    simp only [indexAV, indexOf, asIAny, k0, k1, decide_true, Bool.and_self, Nat.mul_one, Nat.zero_add]
  refine ⟨(h.put b (some (.cells [.sl bw 0 m.ws.length c, .int .i64 (wr .i64 (m.n + 1)), .int .i64 kind, .int .i64 k, .int .u64 (m.w k), .int .u64 now] .rw))).put bw (some (.cells ((m.touch kind k now).ws.map (.int .u64)) kk)), call_open (af := F.mem_Mem_touch) (by kernel_rfl) rfl ?_, ?_, ?_⟩
  · rw [S.mem_Mem_touch_eq]
    simp only [S.mem_Mem_touch, nilc_ptr, ptrAt_ptr, Option.bind_some, Option.map_some, ld1_get', st_get', get_put', put_put', ldB_cells, stB_cells, List.getElem?_cons_zero, List.getElem?_cons_succ, Nat.zero_add, Nat.add_zero, Nat.reduceAdd, Nat.reduceLeDiff, V.one, V.cells, asI_int, List.length_cons, List.length_nil, Nat.beq_refl, List.all_cons, List.all_nil, Bool.and_true, Bool.true_and, Bool.not_true, Bool.false_or, Bool.or_self, Bool.and_self, decide_true, decide_false, if_true, if_false, splice, List.take_succ_cons, List.take_zero, List.drop_succ_cons, List.drop_zero, List.cons_append, List.nil_append, reduceCtorEq, fill, opd, boxc, ho, hr, ne.symm, hix, hidx, hro, hle]
    have e : (m.touch kind k now).ws.map (V.int .u64) = (m.ws.map (V.int .u64)).take k.toNat ++ V.int .u64 now :: (m.ws.map (V.int .u64)).drop (k.toNat + 1) := by
      simp only [Mem.touch, List.map_set]
      rw [List.set_eq_take_append_cons_drop, if_pos (by rw [List.length_map]; omega)]
    rw [e, List.append_assoc]; rfl
  · exact ((Fr.refl ok).put (.inl (by simp)) (ok.lt ho) _).put (.inl (by simp)) (ok.lt hr) _
  · refine ⟨ne, ⟨c, ?_⟩, ⟨kk, hkk, ?_⟩, ?_, ?_⟩
    · rw [get_put_ne ne, get_put_self]
      simp only [Mem.touch, List.length_set]
    · rw [get_put_self]
    · intro w hw
      rcases List.mem_or_eq_of_mem_set hw with q | rfl
      · exact hu w q
      · exact hn
    · simp only [Mem.touch, List.length_set]; exact hs

theorem MemAt.touches (M : MemAt h b bw m) : C 107 [.ptr b 0] h = some (.int .i64 m.n, h) := by
  obtain ⟨ne, ⟨c, ho⟩, -, -, -⟩ := M
  refine call_open (af := F.mem_Mem_Touches) (by kernel_rfl) rfl ?_
  rw [S.mem_Mem_Touches_eq]
  simp only [S.mem_Mem_Touches, nilc_ptr, eqPtr_ptr, ptrAt_ptr, Option.bind_some, ld1_get', ldB_cells, List.getElem?_cons_zero, List.getElem?_cons_succ, Nat.zero_add, V.one, eqV, ho]

theorem MemAt.idx (M : MemAt h b bw m) {k : Int} (hk : m.there k = true) {c : Cap} : indexAV 1 (.sl bw 0 m.ws.length c) (.int .i64 k) = some (.ptr bw k.toNat) ∧ h.ld1 (.ptr bw k.toNat) = some (.int .u64 (m.w k)) := by
  obtain ⟨ne, -, ⟨kk, hkk, hr⟩, hu, hs⟩ := M
  unfold Mem.there at hk
  simp only [Bool.and_eq_true, decide_eq_true_eq] at hk
  obtain ⟨k0, k1⟩ := hk
  constructor
  · simp only [indexAV, indexOf, asIAny, k0, k1, decide_true, Bool.and_self, Nat.mul_one, Nat.zero_add]
  · rw [ld1_get', hr, ldB_cells, List.getElem?_map, List.getElem?_eq_getElem (by omega), Option.map_some]
    simp only [Mem.w, List.getD_eq_getElem?_getD]
    rw [List.getElem?_eq_getElem (by omega)]; rfl

theorem MemAt.ldw (M : MemAt h b bw m) : ∃ c, h.ld1 (.ptr b 0) = some (.sl bw 0 m.ws.length c) := by
  obtain ⟨ne, ⟨c, ho⟩, -, -, -⟩ := M
  exact ⟨c, by rw [ld1_get', ho]; rfl⟩

theorem Mem.touch_w {kind k now : Int} (hk : m.there k = true) : (m.touch kind k now).w k = now := by
  unfold Mem.there at hk
  simp only [Bool.and_eq_true, decide_eq_true_eq] at hk
  simp only [Mem.touch, Mem.w, List.getD_eq_getElem?_getD]
  rw [List.getElem?_set_self (by omega)]; rfl
theorem Mem.touch_there {kind k now j : Int} : (m.touch kind k now).there j = m.there j := by
  simp only [Mem.touch, Mem.there, List.length_set]

/-- What a function of the memory comes to. -/
def MemDo (o : Option (V × H)) (h : H) (b bw : Nat) (v : V) (m : Mem) : Prop := ∃ h', o = some (v, h') ∧ Fr [b, bw] h h' ∧ MemAt h' b bw m

theorem MemAt.load (M : MemAt h b bw m) (ok : h.ok) (k : Int) : MemDo (C 266 [.ptr b 0, .int .i64 k] h) h b bw (.int .u64 (m.val k)) (m.load k) := by
  unfold Mem.val Mem.load
  cases hk : m.there k with
  | false =>
    refine ⟨h, call_open (af := F.mem_Mem_Load) (by kernel_rfl) rfl ?_, .refl ok, by simpa using M⟩
    rw [S.mem_Mem_Load_eq]
    simp only [S.mem_Mem_Load, nilc_ptr, ptrAt_ptr, Option.bind_some, ld1_get', Nat.add_zero, asB_bool, Bool.not_false, if_false, W_call, M.there, hk, Bool.false_eq_true]
  | true =>
    obtain ⟨h', e, f, M'⟩ := M.touch ok hk (M.w64 k) (kind := 1)
    obtain ⟨c, el⟩ := M.ldw
    obtain ⟨c', el'⟩ := M'.ldw
    obtain ⟨i1, i2⟩ := M.idx hk (c := c)
    obtain ⟨i3, i4⟩ := M'.idx (k := k) (by rw [Mem.touch_there]; exact hk) (c := c')
    rw [Mem.touch_w hk] at i4
    refine ⟨h', call_open (af := F.mem_Mem_Load) (by kernel_rfl) rfl ?_, f, M'⟩
    rw [S.mem_Mem_Load_eq]
    simp only [S.mem_Mem_Load, nilc, ptrAt_ptr, Nat.zero_add, Option.bind_some, asB_bool, Bool.not_true, W_call, M.there, hk, el, i1, i2, e, el', i3, i4, if_true]

theorem MemAt.store (M : MemAt h b bw m) (ok : h.ok) (k : Int) {v : Int} (hv : U64 v) : MemDo (C 203 [.ptr b 0, .int .i64 k, .int .u64 v] h) h b bw (.bool (m.there k)) (m.store k v) := by
  unfold Mem.store
  cases hk : m.there k with
  | false =>
    refine ⟨h, call_open (af := F.mem_Mem_Store) (by kernel_rfl) rfl ?_, .refl ok, by simpa using M⟩
    rw [S.mem_Mem_Store_eq]
    simp only [S.mem_Mem_Store, Option.bind_some, asB_bool, Bool.not_false, W_call, M.there, hk]
  | true =>
    obtain ⟨h', e, f, M'⟩ := M.touch ok hk hv (kind := 2)
    refine ⟨h', call_open (af := F.mem_Mem_Store) (by kernel_rfl) rfl ?_, f, M'⟩
    rw [S.mem_Mem_Store_eq]
    simp only [S.mem_Mem_Store, Option.bind_some, asB_bool, Bool.not_true, W_call, M.there, hk, e]

theorem MemAt.swap (M : MemAt h b bw m) (ok : h.ok) (k old : Int) {v : Int} (hv : U64 v) : MemDo (C 269 [.ptr b 0, .int .i64 k, .int .u64 old, .int .u64 v] h) h b bw (.bool (m.swaps k old)) (m.swap k old v) := by
  unfold Mem.swap Mem.swaps
  cases hk : m.there k with
  | false =>
    refine ⟨h, call_open (af := F.mem_Mem_Swap) (by kernel_rfl) rfl ?_, .refl ok, by simpa using M⟩
    rw [S.mem_Mem_Swap_eq]
    simp only [S.mem_Mem_Swap, nilc_ptr, ptrAt_ptr, Option.bind_some, ld1_get', Nat.add_zero, asB_bool, Bool.false_and, Bool.not_false, W_call, M.there, hk]
  | true =>
    obtain ⟨c, el⟩ := M.ldw
    obtain ⟨i1, i2⟩ := M.idx hk (c := c)
    by_cases ho : m.w k = old
    · obtain ⟨h', e, f, M'⟩ := M.touch ok hk hv (kind := 3)
      refine ⟨h', call_open (af := F.mem_Mem_Swap) (by kernel_rfl) rfl ?_, f, by simpa [ho] using M'⟩
      rw [S.mem_Mem_Swap_eq]
      simp only [S.mem_Mem_Swap, nilc, ptrAt_ptr, Nat.zero_add, Option.bind_some, asB_bool, asI_int, Bool.not_true, W_call, M.there, hk, el, i1, i2, e, decide_eq_true ho, Bool.and_self]
    · obtain ⟨h', e, f, M'⟩ := M.touch ok hk (M.w64 k) (kind := 3)
      refine ⟨h', call_open (af := F.mem_Mem_Swap) (by kernel_rfl) rfl ?_, f, by simpa [ho] using M'⟩
      rw [S.mem_Mem_Swap_eq]
      simp only [S.mem_Mem_Swap, nilc, ptrAt_ptr, Nat.zero_add, Option.bind_some, asB_bool, asI_int, Bool.not_true, Bool.not_false, W_call, M.there, hk, el, i1, i2, e, decide_eq_false ho, Bool.and_false]

end
end Wm
end

section
/- Words of parts, and headers' words: word.Pack, head.Pack. -/
namespace Wm
attribute [local congr] bind_congr1

theorem or64_add {w v : Int} {a n : Nat} (h0 : 0 ≤ w) (h1 : w < 2 ^ a) (h2 : 0 ≤ v) (h3 : v < 2 ^ n) (h4 : a + n ≤ 64) : or64 w (v * 2 ^ a) = w + v * 2 ^ a ∧ w + v * 2 ^ a < 2 ^ (a + n) := by
  obtain ⟨k, rfl⟩ : ∃ k : Nat, w = k := ⟨w.toNat, by omega⟩
  obtain ⟨m, rfl⟩ : ∃ k : Nat, v = k := ⟨v.toNat, by omega⟩
  have hk : k < 2 ^ a := by have : ((k : Nat) : Int) < ((2 ^ a : Nat) : Int) := by simpa using h1
                            omega
  have hm : m < 2 ^ n := by have : ((m : Nat) : Int) < ((2 ^ n : Nat) : Int) := by simpa using h3
                            omega
  have e1 : ((m : Int) * 2 ^ a) = ((m * 2 ^ a : Nat) : Int) := by simp
  have h5 : 2 ^ (a + n) ≤ 2 ^ 64 := Nat.pow_le_pow_right (by omega) h4
  have h6 : k + m * 2 ^ a < 2 ^ (a + n) := by
    have : (m + 1) * 2 ^ a ≤ 2 ^ n * 2 ^ a := Nat.mul_le_mul_right _ hm
    rw [Nat.add_comm a n, Nat.pow_add]
    rw [Nat.add_mul, Nat.one_mul] at this
    omega
  constructor
  · unfold or64
    rw [e1, BitVec.ofInt_natCast, BitVec.ofInt_natCast, BitVec.toNat_or, BitVec.toNat_ofNat, BitVec.toNat_ofNat, Nat.mod_eq_of_lt (by omega), Nat.mod_eq_of_lt (by omega), Nat.or_comm, Nat.mul_comm, ← Nat.two_pow_add_eq_or_of_lt hk]
    rw [Nat.mul_comm]; omega
  · rw [e1]
    have : ((k + m * 2 ^ a : Nat) : Int) < ((2 ^ (a + n) : Nat) : Int) := by omega
    simpa using this

/-- Parts: how many bits, which value. -/
abbrev Parts := List (Nat × Int)
def bitsP (l : Parts) : Nat := (l.map (·.1)).sum
def sumP : Parts → Int
  | [] => 0
  | (n, v) :: l => v + 2 ^ n * sumP l
def fitP (l : Parts) : Bool := l.all fun p => decide (p.2 < 2 ^ p.1)
def cellsP (l : Parts) : List V := (l.map fun p => [V.int .i64 p.1, .int .u64 p.2]).flatten

theorem bitsP_append (l : Parts) (p : Nat × Int) : bitsP (l ++ [p]) = bitsP l + p.1 := by simp [bitsP]
theorem sumP_append : ∀ (l : Parts) (p : Nat × Int), sumP (l ++ [p]) = sumP l + p.2 * 2 ^ bitsP l
  | [], p => by simp [sumP, bitsP]
  | (n, v) :: l, p => by
    simp only [List.cons_append, sumP, sumP_append l p, bitsP, List.map_cons, List.sum_cons]
    rw [Int.mul_add, Int.pow_add, Int.add_assoc, ← Int.mul_assoc, ← Int.mul_assoc, Int.mul_comm (2 ^ n) p.2]
theorem bitsP_take {l : Parts} {i : Nat} {p : Nat × Int} (h : l[i]? = some p) : bitsP (l.take (i + 1)) = bitsP (l.take i) + p.1 ∧ sumP (l.take (i + 1)) = sumP (l.take i) + p.2 * 2 ^ bitsP (l.take i) ∧ fitP (l.take (i + 1)) = (fitP (l.take i) && decide (p.2 < 2 ^ p.1)) := by
  have : l.take (i + 1) = l.take i ++ [p] := by rw [List.take_add_one, h]; rfl
  rw [this]
  exact ⟨bitsP_append _ _, sumP_append _ _, by simp [fitP]⟩
theorem bitsP_le (l : Parts) (i : Nat) : bitsP (l.take i) ≤ bitsP l := by
  induction l generalizing i with
  | nil => simp [bitsP]
  | cons p l ih =>
    cases i with
    | zero => simp [bitsP]
    | succ i => have := ih i; simp only [bitsP, List.take_succ_cons, List.map_cons, List.sum_cons] at this ⊢; omega

theorem fits_spec {v : Int} (h0 : 0 ≤ v) {n : Nat} (hn : n ≤ 63) (h : H) : C 484 [.int .u64 v, .int .i64 n] h = some (.bool (decide (v < 2 ^ n)), h) := by
  refine call_closed (af := F.word_Fits) (by kernel_rfl) rfl (by rfl) (by rfl) h ?_
  rw [S.word_Fits_eq]
  have hs : shiftI false .u64 v (n : Int) = some (v / 2 ^ n) := by
    simp only [shiftI, show decide ((n : Int) < 0) = false from decide_eq_false (by omega), Int.toNat_natCast, show min n (Go.IntKind.bits .u64) = n from by show min n 64 = n; omega]
  have hp : (0 : Int) < 2 ^ n := Int.pow_pos (by omega)
  simp only [S.word_Fits, show decide ((0 : Int) ≤ (n : Int)) = true from decide_eq_true (by omega), show decide ((63 : Int) < (n : Int)) = false from decide_eq_false (by omega), hs, Option.bind_some]
  refine Ev.some (show V.bool _ = V.bool _ from ?_)
  congr 1
  rw [decide_eq_decide]
  constructor
  · intro q
    have := Int.lt_ediv_add_one_mul_self v hp
    rw [q] at this; simpa using this
  · intro q; exact Int.ediv_eq_zero_of_lt h0 q

theorem shl_spec {v : Int} {a : Nat} (ha : a ≤ 63) : shiftI true .u64 v (a : Int) = some (wr .u64 (v * 2 ^ a)) := by
  simp only [shiftI, show decide ((a : Int) < 0) = false from decide_eq_false (by omega), Int.toNat_natCast, show min a (Go.IntKind.bits .u64) = a from by show min a 64 = a; omega]

/-- The parts are such as occur. -/
def okP (l : Parts) : Prop := bitsP l ≤ 64 ∧ ∀ p ∈ l, 1 ≤ p.1 ∧ p.1 ≤ 63 ∧ U64 p.2

theorem wordPack_spec {l : Parts} (hl : okP l) {h : H} (ok : h.ok) {bx : Nat} {k : Bk} (hx : h.get bx = some (.cells (cellsP l) k)) :
    Ev (C 443 [.sl bx 0 l.length (.ex l.length)] h) fun r => r.1 = .tup [.int .u64 (if fitP l then sumP l else 0), .bool (fitP l)] ∧ Fr [] h r.2 := by
  obtain ⟨hb, hp⟩ := hl
  refine call_ev (af := F.word_Pack) (by kernel_rfl) rfl ?_
  rw [S.word_Pack_eq]
  simp only [S.word_Pack, lenSl, Option.bind_some]
  have hlen : l.length ≤ 64 := by
    have : ∀ l : Parts, (∀ p ∈ l, 1 ≤ p.1) → l.length ≤ bitsP l := by
      intro l
      induction l with
      | nil => intro _; simp [bitsP]
      | cons p l ih =>
        intro q
        have h1 := q p (by simp)
        have h2 := ih fun x hx => q x (by simp [hx])
        simp only [bitsP, List.map_cons, List.sum_cons, List.length_cons] at h2 ⊢
        omega
    have := this l fun p q => (hp p q).1
    omega
  refine loop_ev (α := Nat) (fun i => S.word_Pack_c1_E (.int .u64 (sumP (l.take i))) (.int .i64 (bitsP (l.take i) : Nat)) (.sl bx 0 l.length (.ex l.length)) (.int .i64 (l.length : Nat)) (.int .i64 i))
    (fun i g => i ≤ l.length ∧ fitP (l.take i) = true ∧ (0 ≤ sumP (l.take i) ∧ sumP (l.take i) < 2 ^ bitsP (l.take i)) ∧ Fr [] h g)
    (fun i _ => l.length - i) (fun r => Fr [] h r.2.2 ∧ ((r.1 = .ret ∧ fitP l = false ∧ ∃ x, r.2.1 = S.word_Pack_c1_O (.int .u64 0) (.bool false) x) ∨ (r.1 = .exit 0 ∧ fitP l = true ∧ r.2.1 = S.word_Pack_c1_O .dead .dead (.int .u64 (sumP l)))))
    0 rfl ⟨Nat.zero_le _, rfl, ⟨Int.le_refl _, by simp [sumP, bitsP]⟩, .refl ok⟩ ?_ ?_
  · rintro i g ⟨hi, hf, ⟨s0, s1⟩, fr⟩
    rw [S.word_Pack_c1_eq]
    by_cases hic : i < l.length
    · obtain ⟨p, hpi⟩ : ∃ p, l[i]? = some p := ⟨_, List.getElem?_eq_getElem hic⟩
      obtain ⟨e1, e2, e3⟩ := bitsP_take hpi
      obtain ⟨p1, p2, p3⟩ := hp p (List.mem_of_getElem? hpi)
      have hle := bitsP_le l (i + 1)
      have hidx : indexAV 2 (.sl bx 0 l.length (.ex l.length)) (.int .i64 (i : Int)) = some (.ptr bx (i * 2)) := by
        simp only [indexAV, indexOf, asIAny, show decide ((0 : Int) ≤ (i : Int)) = true from decide_eq_true (by omega), show decide ((i : Int) < (l.length : Int)) = true from decide_eq_true (by omega), Bool.and_self, Nat.zero_add, Int.toNat_natCast]
      have hg := fr.get ok hx (by simp)
      have hld : ldNB (g.get bx) (i * 2) 2 = some (.agg [.int .i64 p.1, .int .u64 p.2]) := by
        have hfl : ∀ x ∈ l.map fun p : Nat × Int => [V.int .i64 p.1, .int .u64 p.2], x.length = 2 := fun x hx => by
          obtain ⟨_, _, rfl⟩ := List.mem_map.mp hx; rfl
        have hn : (cellsP l).length = l.length * 2 := by unfold cellsP; rw [flat_length hfl, List.length_map]
        rw [hg, ldNB_cells, decide_eq_true (by rw [hn]; omega)]
        simp only
        unfold cellsP
        rw [flat_part hfl i [.int .i64 p.1, .int .u64 p.2] (by rw [List.getElem?_map, hpi]; rfl)]
      have hsm : ∀ g', C 441 [.int .i64 (bitsP (l.take i) : Nat), .int .i64 p.1] g' = some (.bool true, g') := fun g' => some_spec _ _ (by omega) (by omega) (by omega) g'
      simp only [S.word_Pack_c1_S, decide_eq_true (show (i : Int) < (l.length : Int) by omega), hidx, Option.bind_some, Option.map_some, ld1_get', ldN_get', st_get', get_put', get_new', ldB_cells, stB_cells, List.getElem?_cons_zero, List.getElem?_cons_succ, Nat.zero_add, Nat.reduceAdd, Nat.reduceLeDiff, V.one, V.cells, asI_int, asB_bool, List.length_cons, List.length_nil, Nat.beq_refl, List.all_cons, List.all_nil, Bool.not_true, Bool.or_self, Bool.and_self, decide_true, decide_false, if_true, splice, List.take_zero, List.drop_succ_cons, List.drop_zero, List.cons_append, List.nil_append, reduceCtorEq, W_call, hld, hsm, fits_spec p3.1 p2]
      cases hc : decide (p.2 < 2 ^ p.1) with
      | false =>
        simp only [Bool.not_false]
        refine Ev.some (.inr ⟨by simp, (fr.new _).put (.inr (by have := fr.le; omega)) (by simp) _, .inl ⟨rfl, ?_, _, rfl⟩⟩)
        rw [hc, Bool.and_false] at e3
        have : fitP l = true → fitP (l.take (i + 1)) = true := fun q => by
          simp only [fitP, List.all_eq_true] at q ⊢
          exact fun x hx => q x (List.mem_of_mem_take hx)
        cases hq : fitP l with
        | false => rfl
        | true => rw [this hq] at e3; cases e3
      | true =>
        have hc' := of_decide_eq_true hc
        obtain ⟨o1, o2⟩ := or64_add s0 s1 p3.1 hc' (by omega)
        have hpos : (0 : Int) ≤ p.2 * 2 ^ bitsP (l.take i) := Int.mul_nonneg p3.1 (Int.le_of_lt (Int.pow_pos (by omega)))
        have hlt : p.2 * 2 ^ bitsP (l.take i) < 18446744073709551616 := by
          have : (2 : Int) ^ (bitsP (l.take i) + p.1) ≤ 2 ^ 64 := by
            have := Nat.pow_le_pow_right (n := 2) (by omega) (show bitsP (l.take i) + p.1 ≤ 64 by omega)
            have h2 : ((2 ^ (bitsP (l.take i) + p.1) : Nat) : Int) ≤ ((2 ^ 64 : Nat) : Int) := by omega
            simpa using h2
          omega
        simp only [Option.bind_some, Bool.not_true, shl_spec (show bitsP (l.take i) ≤ 63 by omega), wru64 hpos (by omega), o1]
        have w1 : wr .i64 (((bitsP (l.take i) : Nat) : Int) + (p.1 : Int)) = ((bitsP (l.take (i + 1)) : Nat) : Int) := by rw [wr64 (by omega) (by omega), e1]; omega
        have w2 : wr .i64 ((i : Int) + 1) = ((i + 1 : Nat) : Int) := by rw [wr64 (by omega) (by omega)]; rfl
        rw [w1, w2, ← e2]
        refine Ev.some (.inl ⟨i + 1, rfl, rfl, ⟨hic, by rw [e3, hf, hc]; rfl, ⟨by rw [e2]; omega, by rw [e2, e1]; exact o2⟩, (fr.new _).put (.inr (by have := fr.le; omega)) (by simp) _⟩, Nat.sub_lt_sub_left hic (Nat.lt_succ_self i)⟩)
    · have : i = l.length := by omega
      subst this
      simp only [S.word_Pack_c1_S, decide_eq_false (show ¬ ((l.length : Nat) : Int) < (l.length : Int) by omega)]
      rw [List.take_length] at hf ⊢
      exact Ev.some (.inr ⟨by simp, fr, .inr ⟨rfl, hf, rfl⟩⟩)
  · rintro ⟨x, env, g⟩ ⟨fr, ⟨rfl, hf, y, hx⟩ | ⟨rfl, hf, hx⟩⟩
    · simp only at hx fr ⊢
      subst hx
      rw [S.word_Pack_c1_r_eq, hf]
      exact Ev.some ⟨rfl, fr⟩
    · simp only at hx fr ⊢
      subst hx
      rw [S.word_Pack_c1_e0_eq, hf]
      exact Ev.some ⟨rfl, fr⟩
end Wm
end

section
/- Headers and their words: what the functions of head come to. -/
namespace Wm
attribute [local congr] bind_congr1

def born (e : Int) : Int := if e % 4 = 0 then 1 - black e else black e
def grayW (w : Int) : Bool := okT w && (unp w).gray
def retired (w e : Int) : Int := if white w e then ({ unp w with kind := 3, gray := false, stamp := e % 65536 } : Hdr).word else w
def limbo (w : Int) : Bool := okT w && decide ((unp w).kind = 3)
def freed (w gens : Int) : Int := if limbo w then (if gens ≤ (unp w).gen + 1 ∨ 4294967296 ≤ (unp w).gen + 1 then ({ unp w with kind := 4 } : Hdr).word else (⟨0, 0, false, 0, (unp w).gen + 1, 0⟩ : Hdr).word) else w

theorem unp_right (w : Int) : (unp w).right = true := by
  unfold unp
  cases ho : okT w with
  | false => rfl
  | true =>
    unfold okT at ho
    simp only [Bool.and_eq_true, decide_eq_true_eq] at ho
    simp only [if_true, Hdr.right, Bool.and_eq_true, decide_eq_true_eq]
    unfold getT at ho ⊢
    simp only [Int.reducePow] at ho ⊢
    omega

theorem right_iff (x : Hdr) : x.right = true ↔ (0 ≤ x.kind ∧ x.kind ≤ 4) ∧ (0 ≤ x.mark ∧ x.mark ≤ 1) ∧ (0 ≤ x.arity ∧ x.arity ≤ 15) ∧ (0 ≤ x.gen ∧ x.gen ≤ 4294967295) ∧ (0 ≤ x.stamp ∧ x.stamp ≤ 65535) := by
  simp only [Hdr.right, Bool.and_eq_true, decide_eq_true_eq, and_assoc]

theorem word_U64 {x : Hdr} (h : x.right = true) : U64 x.word := by
  rw [right_iff] at h
  unfold Hdr.word U64
  split <;> omega

theorem okT_word {x : Hdr} (h : x.right = true) : okT x.word = true := by
  rw [right_iff] at h
  unfold okT getT
  simp only [Bool.and_eq_true, decide_eq_true_eq, Int.reducePow]
  unfold Hdr.word
  split <;> omega

theorem unp_word {x : Hdr} (h : x.right = true) : unp x.word = x := by
  unfold unp
  rw [okT_word h, if_pos rfl]
  rw [right_iff] at h
  obtain ⟨k, m, g, a, n, s⟩ := x
  simp only at h
  unfold getT Hdr.word
  simp only [Int.reducePow, Hdr.mk.injEq]
  cases g <;> simp only [if_true, Bool.false_eq_true, if_false, decide_eq_true_eq, decide_eq_false_iff_not] <;> omega

theorem word_unp {w : Int} (hw : U64 w) (ho : okT w = true) : (unp w).word = w := by
  unfold unp
  rw [ho, if_pos rfl]
  unfold okT at ho
  simp only [Bool.and_eq_true, decide_eq_true_eq] at ho
  unfold getT at ho ⊢
  unfold Hdr.word U64 at *
  simp only [Int.reducePow, decide_eq_true_eq] at ho ⊢
  split <;> omega

theorem unpack_spec {w : Int} (hw : U64 w) (h : H) : C 265 [.int .u64 w] h = some (.tup [.agg (unp w).cs, .bool (okT w)], h) := by
  rw [headUnpack_spec hw h]
  unfold unp
  cases ho : okT w <;> rfl

theorem refUnp_spec {w : Int} (hw : U64 w) (h : H) : C 109 [.int .u64 w] h = some (.tup [.agg (unp w).cs, .bool (okT w)], h) := by
  rw [refUnpack_spec hw h]
  unfold unp
  cases ho : okT w <;> rfl

/-- Numbers as they are in the machine. -/
def Hdr.i64 (x : Hdr) : Prop := x.kind ≤ 9223372036854775807 ∧ x.mark ≤ 9223372036854775807 ∧ x.arity ≤ 9223372036854775807 ∧ x.gen ≤ 9223372036854775807 ∧ x.stamp ≤ 9223372036854775807
theorem right_i64 {x : Hdr} (h : x.right = true) : x.i64 := by
  rw [right_iff] at h
  unfold Hdr.i64; omega

theorem bit_spec (b : Bool) (h : H) : C 444 [.bool b] h = some (.int .u64 (if b then 1 else 0), h) := by
  refine call_closed (af := F.head_bit) (by kernel_rfl) rfl (by rfl) (by rfl) h ?_
  rw [S.head_bit_eq]
  cases b <;> exact Ev.some rfl

theorem headPack_spec {x : Hdr} (hx : x.i64) (h : H) : C 382 [.agg x.cs] h = some (.tup [.int .u64 (pack x), .bool x.right], h) := by
  refine call_closed (af := F.head_Pack) (by kernel_rfl) rfl (by rfl) (by rfl) h ?_
  obtain ⟨k, m, g, a, n, s⟩ := x
  obtain ⟨b1, b2, b3, b4, b5⟩ := hx
  simp only at b1 b2 b3 b4 b5
  unfold Hdr.cs
  rw [S.head_Pack_eq]
  simp only [S.head_Pack, Option.bind_some, ld1_get', get_new', ldB_cells, List.getElem?_cons_zero, List.getElem?_cons_succ, Nat.zero_add, Nat.reduceAdd, Nat.reduceLeDiff, V.one, V.cells, List.length_cons, List.length_nil, Nat.beq_refl, Bool.and_true, Bool.true_and, decide_true, if_true, splice, List.take_succ_cons, List.take_zero, List.drop_succ_cons, List.drop_zero, List.cons_append, List.nil_append, fill, opd, boxc]
  generalize hH : H.empty.new (.cells [.int .i64 k, .int .i64 m, .bool g, .int .i64 a, .int .i64 n, .int .i64 s] .rw) = h0
  have g0 : h0.get H.empty.next = some (.cells [.int .i64 k, .int .i64 m, .bool g, .int .i64 a, .int .i64 n, .int .i64 s] .rw) := by rw [← hH]; exact get_new_self _ _
  have ok0 : h0.ok := by rw [← hH]; exact H.ok_empty.new _
  generalize H.empty.next = q at g0 ⊢
  let xs : List Int := [k, m, a, n, s]
  refine loop_ev (α := Nat) (fun i => S.head_Pack_c1_E (.ptr q 0) (.agg [.int .i64 k, .int .i64 m, .int .i64 a, .int .i64 n, .int .i64 s]) (.int .i64 i))
    (fun i g => g = h0 ∧ i ≤ 5 ∧ ∀ j, j < i → ∀ y, xs[j]? = some y → 0 ≤ y) (fun i _ => 5 - i)
    (fun r => r.2.2 = h0 ∧ ((r.1 = .ret ∧ r.2.1 = S.head_Pack_c1_O (.ptr q 0) (.int .u64 0) (.bool false) ∧ ¬ (0 ≤ k ∧ 0 ≤ m ∧ 0 ≤ a ∧ 0 ≤ n ∧ 0 ≤ s)) ∨ (r.1 = .exit 0 ∧ r.2.1 = S.head_Pack_c1_O (.ptr q 0) .dead .dead ∧ (0 ≤ k ∧ 0 ≤ m ∧ 0 ≤ a ∧ 0 ≤ n ∧ 0 ≤ s))))
    0 rfl ⟨rfl, by omega, fun j hj => by omega⟩ ?_ ?_
  · rintro i g' ⟨rfl, hi, hx⟩
    rw [S.head_Pack_c1_eq]
    by_cases hic : i < 5
    · obtain ⟨y, hy⟩ : ∃ y, xs[i]? = some y := ⟨_, List.getElem?_eq_getElem (by simpa [xs] using hic)⟩
      have hp : ([V.int .i64 k, .int .i64 m, .int .i64 a, .int .i64 n, .int .i64 s] : List V)[i]? = some (.int .i64 y) := by
        have : ([V.int .i64 k, .int .i64 m, .int .i64 a, .int .i64 n, .int .i64 s] : List V) = xs.map (.int .i64) := rfl
        rw [this, List.getElem?_map, hy]; rfl
      have hix : indexOf 5 (.int .i64 (i : Int)) = some i := by
        simp only [indexOf, asIAny, show decide ((0 : Int) ≤ (i : Int)) = true from decide_eq_true (by omega), show decide ((i : Int) < ((5 : Nat) : Int)) = true from decide_eq_true (by omega), Bool.and_self, Int.toNat_natCast]
      have w2 : wr .i64 ((i : Int) + 1) = ((i + 1 : Nat) : Int) := by rw [wr64 (by omega) (by omega)]; rfl
      simp only [S.head_Pack_c1_S, decide_eq_true (show (i : Int) < 5 by omega), aggCells, Option.bind_some, hix, part, Nat.mul_one, hp, asI_int, w2]
      by_cases hn : y < 0
      · simp only [decide_eq_true hn]
        refine Ev.some (.inr ⟨by simp, rfl, .inl ⟨rfl, rfl, fun q => ?_⟩⟩)
        have : i = 0 ∨ i = 1 ∨ i = 2 ∨ i = 3 ∨ i = 4 := by omega
        rcases this with rfl | rfl | rfl | rfl | rfl <;> simp [xs] at hy <;> omega
      · simp only [decide_eq_false hn]
        refine Ev.some (.inl ⟨i + 1, rfl, rfl, ⟨rfl, hic, fun j hj z hz => ?_⟩, by omega⟩)
        rcases Nat.lt_or_ge j i with q | q
        · exact hx j q z hz
        · have : j = i := by omega
          subst this
          rw [hy] at hz; cases hz; omega
    · have : i = 5 := by omega
      subst this
      simp only [S.head_Pack_c1_S, show decide (((5 : Nat) : Int) < 5) = false from rfl]
      exact Ev.some (.inr ⟨by simp, rfl, .inr ⟨rfl, rfl, hx 0 (by omega) k rfl, hx 1 (by omega) m rfl, hx 2 (by omega) a rfl, hx 3 (by omega) n rfl, hx 4 (by omega) s rfl⟩⟩)
  · rintro ⟨x, env, g'⟩ ⟨rfl, ⟨rfl, rfl, hn⟩ | ⟨rfl, rfl, p1, p2, p3, p4, p5⟩⟩
    · simp only
      rw [S.head_Pack_c1_r_eq]
      have hr : (⟨k, m, g, a, n, s⟩ : Hdr).right = false := by
        rw [Bool.eq_false_iff, ne_eq, right_iff]; simp only; omega
      unfold pack
      rw [hr]
      exact Ev.some rfl
    · simp only
      rw [S.head_Pack_c1_e0_eq]
      simp only [S.head_Pack_c1_e0, ptrAt_ptr, Option.bind_some, ld1_get', ldB_cells, List.getElem?_cons_zero, List.getElem?_cons_succ, Nat.zero_add, Nat.add_zero, Nat.reduceAdd, Nat.reduceLeDiff, V.one, V.cells, V.beq, ckB_some, asIAny, List.length_cons, List.length_nil, Nat.beq_refl, Bool.and_true, Bool.true_and, Bool.and_self, decide_true, splice, List.take_succ_cons, List.take_zero, List.drop_succ_cons, List.drop_zero, List.cons_append, List.nil_append, fill, repl, opd, boxc, W_call, g0, bit_spec]
      rw [wru64 p1 (by omega), wru64 p2 (by omega), wru64 p3 (by omega), wru64 p4 (by omega), wru64 p5 (by omega)]
      let l : Parts := [(3, k), (1, m), (1, if g then 1 else 0), (4, a), (7, 0), (32, n), (16, s)]
      have hok : okP l := ⟨by simp [l, bitsP], by
        intro p hp
        simp only [l, List.mem_cons, List.not_mem_nil, or_false] at hp
        unfold U64
        rcases hp with rfl | rfl | rfl | rfl | rfl | rfl | rfl <;> simp only <;> (try split) <;> omega⟩
      have hcells : cellsP l = [.int .i64 3, .int .u64 k, .int .i64 1, .int .u64 m, .int .i64 1, .int .u64 (if g then 1 else 0), .int .i64 4, .int .u64 a, .int .i64 7, .int .u64 0, .int .i64 32, .int .u64 n, .int .i64 16, .int .u64 s] := rfl
      refine Ev.bind (wordPack_spec (l := l) hok (ok0.new _) (get_new_self _ _)) ?_
      rintro ⟨v, g2⟩ ⟨rfl, fr⟩
      have hg2 : g2.get q = some (.cells [.int .i64 k, .int .i64 m, .bool g, .int .i64 a, .int .i64 n, .int .i64 s] .rw) :=
        fr.get (ok0.new _) (by rw [get_new_ne (ok0.ne0 g0)]; exact g0) (by simp)
      have hfit : fitP l = (decide (k < 8) && (decide (m < 2) && (decide (a < 16) && (decide (n < 4294967296) && decide (s < 65536))))) := by
        have hg1 : decide ((if g = true then (1 : Int) else 0) < 2) = true := by cases g <;> rfl
        cases g <;> simp [l, fitP] <;> rfl
      have hsum : sumP l = (⟨k, m, g, a, n, s⟩ : Hdr).word := by
        simp only [l, sumP, Hdr.word, Int.reducePow]
        cases g <;> simp only [if_true, Bool.false_eq_true, if_false] <;> omega
      cases hfl : fitP l with
      | false =>
        simp only [Option.bind_some, List.getElem?_cons_zero, List.getElem?_cons_succ, asB_bool, Bool.not_false, if_false, reduceCtorEq]
        have hr : (⟨k, m, g, a, n, s⟩ : Hdr).right = false := by
          rw [hfit] at hfl
          simp only [Bool.and_eq_false_iff, decide_eq_false_iff_not] at hfl
          rw [Bool.eq_false_iff, ne_eq, right_iff]; simp only; omega
        unfold pack
        rw [hr]
        exact Ev.some rfl
      | true =>
        rw [hfit] at hfl
        simp only [Bool.and_eq_true, decide_eq_true_eq] at hfl
        simp only [Option.bind_some, ldB_cells, List.getElem?_cons_zero, List.getElem?_cons_succ, V.one, asI_int, asB_bool, Bool.not_true, if_true, hg2]
        by_cases h4 : 4 < k
        · have hr : (⟨k, m, g, a, n, s⟩ : Hdr).right = false := by
            rw [Bool.eq_false_iff, ne_eq, right_iff]; simp only; omega
          unfold pack
          simp only [decide_eq_true h4, hr]
          exact Ev.some rfl
        · have hr : (⟨k, m, g, a, n, s⟩ : Hdr).right = true := by
            rw [right_iff]; simp only; omega
          unfold pack
          simp only [decide_eq_false h4, hr, if_true, hsum]
          exact Ev.some rfl

theorem black_spec {e : Int} (he : U64 e) (h : H) : C 381 [.int .u64 e] h = some (.int .i64 (black e), h) := by
  have hc : ∀ h, C 442 [.int .u64 e] h = some (.int .u64 (e / 4), h) := fun h => by
    refine call_closed (af := F.turn_Cycle) (by kernel_rfl) rfl (by rfl) (by rfl) h ?_
    rw [S.turn_Cycle_eq]
    simp only [S.turn_Cycle, td he.1]
    rw [wru64 (by have := he.1; omega) (by have := he.2; omega)]
    exact Ev.some rfl
  refine call_closed (af := F.turn_Black) (by kernel_rfl) rfl (by rfl) (by rfl) h ?_
  rw [S.turn_Black_eq]
  obtain ⟨h0, h1⟩ := he
  simp only [S.turn_Black, Option.bind_some, asI_int, W_call, hc]
  rw [wru64 (n := e / 4 + 1) (by omega) (by omega), tm (by omega), wr64 (by omega) (by omega)]
  exact Ev.some rfl

theorem lives_spec {w : Int} (hw : U64 w) (h : H) : C 380 [.int .u64 w] h = some (.tup [.agg (unp w).cs, .bool (lives w)], h) := by
  refine call_closed (af := F.head_lives) (by kernel_rfl) rfl (by rfl) (by rfl) h ?_
  rw [S.head_lives_eq]
  have hl : lives w = (okT w && (decide ((unp w).kind = 1) || decide ((unp w).kind = 2))) := rfl
  rw [hl]
  have n1 : ∀ x : Nat, x ≠ x + 1 := fun x => by omega
  have n2 : ∀ x : Nat, x + 1 ≠ x := fun x => by omega
  cases ho : okT w with
  | false =>
    simp only [S.head_lives, Option.bind_some, Option.map_some, ld1_get', ldN_get', st_get', get_put', get_new', ldNB_cells, stB_cells, H.next_new, List.getElem?_cons_zero, List.getElem?_cons_succ, Nat.zero_add, Nat.reduceAdd, Nat.reduceLeDiff, V.one, V.cells, List.length_cons, List.length_nil, Nat.beq_refl, List.all_cons, List.all_nil, Bool.false_and, Bool.not_true, Bool.false_or, Bool.or_self, Bool.and_self, decide_true, decide_false, if_true, if_false, splice, List.take_succ_cons, List.take_zero, List.drop_succ_cons, List.drop_zero, List.cons_append, List.nil_append, reduceCtorEq, finV, resAllV, resOfV, result, W_call, unpack_spec hw, ho, Hdr.cs, n1, n2]
    exact Ev.some rfl
  | true =>
    by_cases k1 : (unp w).kind = 1
    · simp only [S.head_lives, Option.bind_some, Option.map_some, ld1_get', ldN_get', st_get', get_put', get_new', ldB_cells, ldNB_cells, stB_cells, H.next_new, List.getElem?_cons_zero, List.getElem?_cons_succ, Nat.zero_add, Nat.reduceAdd, Nat.reduceLeDiff, Int.reduceEq, V.one, V.cells, V.beq, ckB_some, asI_int, List.length_cons, List.length_nil, Nat.beq_refl, List.all_cons, List.all_nil, Bool.not_true, Bool.or_false, Bool.false_or, Bool.or_self, Bool.and_self, decide_true, decide_false, if_true, if_false, splice, List.take_succ_cons, List.take_zero, List.drop_succ_cons, List.drop_zero, List.cons_append, List.nil_append, reduceCtorEq, finV, resAllV, resOfV, result, W_call, unpack_spec hw, ho, Hdr.cs, n1, n2, k1]
      exact Ev.some rfl
    · simp only [S.head_lives, Option.bind_some, Option.map_some, ld1_get', ldN_get', st_get', get_put', get_new', ldB_cells, ldNB_cells, stB_cells, H.next_new, List.getElem?_cons_zero, List.getElem?_cons_succ, Nat.zero_add, Nat.reduceAdd, Nat.reduceLeDiff, V.one, V.cells, V.beq, ckB_some, asI_int, List.length_cons, List.length_nil, Nat.beq_refl, List.all_cons, List.all_nil, Bool.true_and, Bool.not_true, Bool.false_or, Bool.or_self, Bool.and_self, decide_true, decide_false, if_true, if_false, splice, List.take_succ_cons, List.take_zero, List.drop_succ_cons, List.drop_zero, List.cons_append, List.nil_append, reduceCtorEq, finV, resAllV, resOfV, result, W_call, unpack_spec hw, ho, Hdr.cs, n1, n2, k1]
      exact Ev.some rfl

theorem white_iff (w e : Int) : white w e = true ↔ lives w = true ∧ (unp w).mark ≠ black e := by
  simp only [white, Bool.and_eq_true, Bool.not_eq_true', decide_eq_false_iff_not, ne_eq]

theorem retiredH_right {w e : Int} : ({ unp w with kind := 3, gray := false, stamp := e % 65536 } : Hdr).right = true := by
  have h1 := unp_right w
  rw [right_iff] at h1 ⊢
  simp only; omega

theorem and_ffff {e : Int} (he : U64 e) : and64 e 65535 = e % 65536 := and64_mask he (n := 16) (by decide)

theorem retired_spec {w e : Int} (hw : U64 w) (he : U64 e) (h : H) : C 340 [.int .u64 w, .int .u64 e] h = some (.tup [.int .u64 (retired w e), .bool (white w e)], h) := by
  refine call_closed (af := F.head_Retired) (by kernel_rfl) rfl (by rfl) (by rfl) h ?_
  rw [S.head_Retired_eq]
  unfold retired
  cases hl : lives w with
  | false =>
    have hwh : white w e = false := by unfold white; rw [hl]; rfl
    simp only [S.head_Retired, Option.bind_some, Option.map_some, ld1_get', ldN_get', st_get', get_new', stB_cells, List.getElem?_cons_zero, List.getElem?_cons_succ, Nat.zero_add, Nat.reduceAdd, Nat.reduceLeDiff, V.one, V.cells, asB_bool, List.length_cons, List.length_nil, Nat.beq_refl, List.all_cons, List.all_nil, Bool.not_true, Bool.not_false, Bool.false_or, Bool.or_self, Bool.and_self, decide_true, decide_false, if_true, if_false, splice, List.take_zero, List.drop_succ_cons, List.drop_zero, List.cons_append, List.nil_append, reduceCtorEq, W_call, lives_spec hw, hl, Hdr.cs, hwh, Bool.false_eq_true]
    exact Ev.some rfl
  | true =>
    by_cases hm : (unp w).mark = black e
    · have hwh : white w e = false := by unfold white; rw [hl, decide_eq_true hm]; rfl
      simp only [S.head_Retired, Option.bind_some, Option.map_some, ld1_get', ldN_get', st_get', get_put', get_new', put_put', ldB_cells, ldNB_cells, stB_cells, List.getElem?_cons_zero, List.getElem?_cons_succ, Nat.zero_add, Nat.reduceAdd, Nat.reduceLeDiff, V.one, V.cells, V.beq, ckB_some, asI_int, asB_bool, List.length_cons, List.length_nil, Nat.beq_refl, List.all_cons, List.all_nil, Bool.not_true, Bool.false_or, Bool.or_self, Bool.and_self, decide_true, decide_false, if_true, if_false, splice, List.take_succ_cons, List.take_zero, List.drop_succ_cons, List.drop_zero, List.cons_append, List.nil_append, reduceCtorEq, W_call, lives_spec hw, hl, Hdr.cs, hwh, black_spec he, hm, Bool.false_eq_true]
      exact Ev.some rfl
    · have hwh : white w e = true := by unfold white; rw [hl, decide_eq_false hm]; rfl
      have hr := retiredH_right (w := w) (e := e)
      have hp := headPack_spec (right_i64 hr)
      unfold Hdr.cs at hp
      have hw3 : wr .i64 (e % 65536) = e % 65536 := wr64 (by omega) (by omega)
      simp only [S.head_Retired, Option.bind_some, Option.map_some, ld1_get', ldN_get', st_get', get_put', get_new', put_put', ldB_cells, ldNB_cells, stB_cells, List.getElem?_cons_zero, List.getElem?_cons_succ, Nat.zero_add, Nat.reduceAdd, Nat.reduceLeDiff, V.one, V.cells, V.beq, ckB_some, asI_int, asB_bool, List.length_cons, List.length_nil, Nat.beq_refl, List.all_cons, List.all_nil, Bool.not_true, Bool.false_or, Bool.or_self, Bool.and_self, decide_true, decide_false, if_true, splice, List.take_succ_cons, List.take_zero, List.drop_succ_cons, List.drop_zero, List.cons_append, List.nil_append, reduceCtorEq, W_call, lives_spec hw, hl, Hdr.cs, hwh, black_spec he, hm, and_ffff he, hw3, hp]
      unfold pack
      rw [hr]
      exact Ev.some rfl

theorem freed_spec {w gens : Int} (hw : U64 w) (h : H) : C 409 [.int .u64 w, .int .i64 gens] h = some (.tup [.int .u64 (freed w gens), .bool (limbo w)], h) := by
  refine call_closed (af := F.head_Freed) (by kernel_rfl) rfl (by rfl) (by rfl) h ?_
  rw [S.head_Freed_eq]
  unfold freed limbo
  cases ho : okT w with
  | false =>
    simp only [S.head_Freed, Option.bind_some, Option.map_some, ld1_get', ldN_get', st_get', get_new', stB_cells, List.getElem?_cons_zero, List.getElem?_cons_succ, Nat.zero_add, Nat.reduceAdd, Nat.reduceLeDiff, V.one, V.cells, asB_bool, List.length_cons, List.length_nil, Nat.beq_refl, List.all_cons, List.all_nil, Bool.false_and, Bool.not_true, Bool.not_false, Bool.false_or, Bool.or_self, Bool.and_self, decide_true, decide_false, if_true, if_false, splice, List.take_zero, List.drop_succ_cons, List.drop_zero, List.cons_append, List.nil_append, reduceCtorEq, W_call, unpack_spec hw, ho, Hdr.cs, Bool.false_eq_true]
    exact Ev.some rfl
  | true =>
    by_cases hk : (unp w).kind = 3
    · have hu := unp_right w
      rw [right_iff] at hu
      have w1 : wr .i64 ((unp w).gen + 1) = (unp w).gen + 1 := wr64 (by omega) (by omega)
      have hr4 : ({ unp w with kind := 4 } : Hdr).right = true := by rw [right_iff]; simp only; omega
      have hp4 := headPack_spec (right_i64 hr4)
      unfold Hdr.cs at hp4
      by_cases c1 : gens ≤ (unp w).gen + 1
      · simp only [S.head_Freed, Option.bind_some, Option.map_some, ld1_get', ldN_get', st_get', get_put', get_new', put_put', ldB_cells, ldNB_cells, stB_cells, List.getElem?_cons_zero, List.getElem?_cons_succ, Nat.zero_add, Nat.reduceAdd, Nat.reduceLeDiff, V.one, V.cells, asI_int, asB_bool, List.length_cons, List.length_nil, Nat.beq_refl, List.all_cons, List.all_nil, Bool.not_true, Bool.false_or, Bool.or_self, Bool.and_self, decide_true, decide_false, if_true, splice, List.take_succ_cons, List.take_zero, List.drop_succ_cons, List.drop_zero, List.cons_append, List.nil_append, reduceCtorEq, W_call, unpack_spec hw, ho, Hdr.cs, hk, w1, c1, hp4, true_or]
        unfold pack
        rw [hr4]
        exact Ev.some rfl
      · by_cases c2 : 4294967296 ≤ (unp w).gen + 1
        · simp only [S.head_Freed, Option.bind_some, Option.map_some, ld1_get', ldN_get', st_get', get_put', get_new', put_put', ldB_cells, ldNB_cells, stB_cells, List.getElem?_cons_zero, List.getElem?_cons_succ, Nat.zero_add, Nat.reduceAdd, Nat.reduceLeDiff, V.one, V.cells, asI_int, asB_bool, List.length_cons, List.length_nil, Nat.beq_refl, List.all_cons, List.all_nil, Bool.not_true, Bool.false_or, Bool.or_self, Bool.and_self, decide_true, decide_false, if_true, splice, List.take_succ_cons, List.take_zero, List.drop_succ_cons, List.drop_zero, List.cons_append, List.nil_append, reduceCtorEq, W_call, unpack_spec hw, ho, Hdr.cs, hk, w1, c1, c2, hp4, or_true]
          unfold pack
          rw [hr4]
          exact Ev.some rfl
        · have hr0 : (⟨0, 0, false, 0, (unp w).gen + 1, 0⟩ : Hdr).right = true := by rw [right_iff]; simp only; omega
          have hp0 := headPack_spec (right_i64 hr0)
          unfold Hdr.cs at hp0
          simp only at hp0
          simp only [S.head_Freed, Option.bind_some, Option.map_some, ld1_get', ldN_get', st_get', get_put', get_new', put_put', ldB_cells, ldNB_cells, stB_cells, List.getElem?_cons_zero, List.getElem?_cons_succ, Nat.zero_add, Nat.reduceAdd, Nat.reduceLeDiff, V.one, V.cells, asI_int, asB_bool, List.length_cons, List.length_nil, Nat.beq_refl, List.all_cons, List.all_nil, Bool.not_true, Bool.false_or, Bool.or_self, Bool.and_self, decide_true, decide_false, if_true, if_false, splice, List.take_succ_cons, List.take_zero, List.drop_succ_cons, List.drop_zero, List.cons_append, List.nil_append, reduceCtorEq, W_call, unpack_spec hw, ho, Hdr.cs, hk, w1, c1, c2, hp0, or_self]
          unfold pack
          rw [hr0]
          exact Ev.some rfl
    · simp only [S.head_Freed, Option.bind_some, Option.map_some, ld1_get', ldN_get', st_get', get_put', get_new', put_put', ldB_cells, ldNB_cells, stB_cells, List.getElem?_cons_zero, List.getElem?_cons_succ, Nat.zero_add, Nat.reduceAdd, Nat.reduceLeDiff, V.one, V.cells, asI_int, asB_bool, List.length_cons, List.length_nil, Nat.beq_refl, List.all_cons, List.all_nil, Bool.and_false, Bool.not_true, Bool.not_false, Bool.false_or, Bool.or_self, Bool.and_self, decide_true, decide_false, if_true, if_false, splice, List.take_succ_cons, List.take_zero, List.drop_succ_cons, List.drop_zero, List.cons_append, List.nil_append, reduceCtorEq, W_call, unpack_spec hw, ho, Hdr.cs, hk, Bool.false_eq_true]
      exact Ev.some rfl

end Wm
end

section
/- A slice that grows among blocks that came: what it holds. -/
namespace Wm

/-- The slice holds these cells; its block is one of those behind the first. -/
def Acc (h : H) (L : List (Option Blk)) (x : V) (e n : Nat) (l : List V) : Prop :=
  l.length = n * e ∧ l.all V.one = true ∧ ∃ j, (x = .sl (h.next + (j + 1)) 0 n (.op e) ∧ L[j]? = some (some (.cells l (.gr e)))) ∨ (x = .sl (h.next + (j + 1)) 0 n (.ex n) ∧ L[j]? = some (some (.cells l .rw)))

theorem lt_of_get {α : Type} {l : List α} {j : Nat} {x : α} (h : l[j]? = some x) : j < l.length := by
  rcases Nat.lt_or_ge j l.length with q | q
  · exact q
  · rw [List.getElem?_eq_none q] at h; cases h

theorem append_ex' {h : H} {e b bb o len n c : Nat} {x : V} {new old : List V} (hx : lenSl x = some n) (hn : h.slc e x = some new) (ho : h.slc e (.sl bb o len (.ex c)) = some old) (h1 : new.all V.one = true) (h2 : (len + n + (len + n) / 2 + 1000) * b ≤ 281474976710656) (he : 0 < e) (hb : 0 < b) (hc : ¬ len + n ≤ c) :
    h.append e b (.sl bb o len (.ex c)) x = some (.sl h.next 0 (len + n) (.op e), h.new (.cells (old ++ new) (.gr e))) := by
  have h3 : lenSl (.sl bb o len (.ex c)) = some len := rfl
  simp only [H.append, hx, hn, h3, ho, h1, h2, he, hb, decide_true, Bool.and_self, hc, decide_false]

theorem Acc.grow {h : H} {F : Option Blk} {L : List (Option Blk)} {x : V} {e n m b : Nat} {l new : List V} (hA : Acc h L x e n l) (hn : new.length = m * e) (h1 : new.all V.one = true) (hm : 0 < m) (he : 0 < e) (hb : 0 < b) (hs : (n + m + (n + m) / 2 + 1000) * b ≤ 281474976710656) :
    ∃ x' L', (h.ext (F :: (L ++ [some (.cells new .rw)]))).append e b x (.sl (h.next + (L.length + 1)) 0 m (.ex m)) = some (x', h.ext (F :: L')) ∧ Acc h L' x' e (n + m) (l ++ new) := by
  obtain ⟨hl, ho, j, hj⟩ := hA
  have hlen : (l ++ new).length = (n + m) * e := by rw [List.length_append, hl, hn, Nat.add_mul]
  have hone : (l ++ new).all V.one = true := by rw [List.all_append, ho, h1]; rfl
  have e1 : (F :: (L ++ [some (Blk.cells new .rw)])).length = L.length + 2 := by rw [List.length_cons, List.length_append]; rfl
  have hnew : (h.ext (F :: (L ++ [some (.cells new .rw)]))).slc e (.sl (h.next + (L.length + 1)) 0 m (.ex m)) = some new := by
    rw [slc_get (cs := new) (k := .rw) ?_ (by omega)]
    · rw [List.drop_zero, List.take_of_length_le (by omega)]
    · rw [H.ext_get (by rw [e1]; omega), List.getElem?_cons_succ, List.getElem?_append_right (Nat.le_refl _), Nat.sub_self]; rfl
  rcases hj with ⟨rfl, hjL⟩ | ⟨rfl, hjL⟩
  · have hlt := lt_of_get hjL
    have hbk : (h.ext (F :: (L ++ [some (.cells new .rw)]))).get (h.next + (j + 1)) = some (.cells l (.gr e)) := by
      rw [H.ext_get (by rw [e1]; omega), List.getElem?_cons_succ, List.getElem?_append_left hlt, hjL]; rfl
    have hold : (h.ext (F :: (L ++ [some (.cells new .rw)]))).slc e (.sl (h.next + (j + 1)) 0 n (.op e)) = some l := by
      rw [slc_get hbk (by omega), List.drop_zero, List.take_of_length_le (by omega)]
    refine ⟨.sl (h.next + (L.length + 2)) 0 (n + m) (.op e), (L ++ [some (Blk.cells new .rw)]).set j none ++ [some (Blk.cells (l ++ new) (.gr e))], ?_, hlen, hone, L.length + 1, Or.inl ⟨rfl, ?_⟩⟩
    · rw [append_op (n := m) rfl hnew hold hbk h1 hs he hb, H.ext_put (by rw [e1]; omega), H.new_ext, H.ext_ext, H.ext_next, e1]
      rfl
    · rw [List.getElem?_append_right (by rw [List.length_set, List.length_append]; exact Nat.le_refl _), List.length_set, List.length_append]
      simp only [List.length_singleton, Nat.sub_self, List.getElem?_cons_zero]
  · have hlt := lt_of_get hjL
    have hbk : (h.ext (F :: (L ++ [some (.cells new .rw)]))).get (h.next + (j + 1)) = some (.cells l .rw) := by
      rw [H.ext_get (by rw [e1]; omega), List.getElem?_cons_succ, List.getElem?_append_left hlt, hjL]; rfl
    have hold : (h.ext (F :: (L ++ [some (.cells new .rw)]))).slc e (.sl (h.next + (j + 1)) 0 n (.ex n)) = some l := by
      rw [slc_get hbk (by omega), List.drop_zero, List.take_of_length_le (by omega)]
    refine ⟨.sl (h.next + (L.length + 2)) 0 (n + m) (.op e), L ++ [some (Blk.cells new .rw)] ++ [some (Blk.cells (l ++ new) (.gr e))], ?_, hlen, hone, L.length + 1, Or.inl ⟨rfl, ?_⟩⟩
    · rw [append_ex' (n := m) rfl hnew hold h1 hs he hb (by omega), H.new_ext, H.ext_ext, H.ext_next, e1]
      rfl
    · rw [List.getElem?_append_right (by rw [List.length_append]; exact Nat.le_refl _), List.length_append]
      simp only [List.length_singleton, Nat.sub_self, List.getElem?_cons_zero]
end Wm
end

section
/- All words of a config, in their order: withyref06.Words. -/
namespace Wm

/-- A loop that counts, and appends so many elements each time. -/
theorem acc_loop {h : H} {F : Option Blk} {e N m id : Nat} {B : List V → H → Option (AX × List V × H)} (enc : V → Nat → List V) (O : V → List V) (new : Nat → List V)
    (hstep : ∀ i x L n l, i < N → n + m ≤ 100000 → Acc h L x e n l → ∃ x' L', B (enc x i) (h.ext (F :: L)) = some (.normal, enc x' (i + 1), h.ext (F :: L')) ∧ Acc h L' x' e (n + m) (l ++ new i))
    (hout : ∀ x L, B (enc x N) (h.ext (F :: L)) = some (.exit id, O x, h.ext (F :: L))) :
    ∀ (k i : Nat) (x : V) (L : List (Option Blk)) (n : Nat) (l : List V), i + k = N → n + k * m ≤ 100000 → Acc h L x e n l → ∃ x' L', loopW B (enc x i) (h.ext (F :: L)) = some (.exit id, O x', h.ext (F :: L')) ∧ Acc h L' x' e (n + k * m) (l ++ (List.range' i k).flatMap new)
  | 0, i, x, L, n, l, hi, _, hA => by
    have : i = N := by omega
    subst this
    exact ⟨x, L, loopW_out (hout x L) (by simp), by simpa using hA⟩
  | k + 1, i, x, L, n, l, hi, hn, hA => by
    rw [Nat.add_mul] at hn
    obtain ⟨x1, L1, h1, hA1⟩ := hstep i x L n l (by omega) (by omega) hA
    obtain ⟨x2, L2, h2, hA2⟩ := acc_loop enc O new hstep hout k (i + 1) x1 L1 (n + m) (l ++ new i) (by omega) (by omega) hA1
    refine ⟨x2, L2, loopW_next h1 h2, ?_⟩
    rw [show n + (k + 1) * m = n + m + k * m by rw [Nat.add_mul]; omega, List.range'_succ, List.flatMap_cons, ← List.append_assoc]
    exact hA2

/-- A word's description. -/
def pinW (k : Nat) : List V := [.str ⟨⟨[112, 105, 110]⟩⟩, .int .i64 k, .int .i64 0]
def entryW (k i : Nat) : List V := [.str ⟨⟨[101, 110, 116, 114, 121]⟩⟩, .int .i64 k, .int .i64 i]
def viewW (k : Nat) : List V := [.str ⟨⟨[118, 105, 101, 119]⟩⟩, .int .i64 k, .int .i64 0, .str ⟨⟨[115, 116, 97, 114, 116]⟩⟩, .int .i64 k, .int .i64 0]
def headW (k : Nat) : List V := [.str ⟨⟨[104, 101, 97, 100, 101, 114]⟩⟩, .int .i64 k, .int .i64 0, .str ⟨⟨[108, 105, 110, 107]⟩⟩, .int .i64 k, .int .i64 0]
def bodyW (k i : Nat) : List V := [.str ⟨⟨[98, 111, 100, 121]⟩⟩, .int .i64 k, .int .i64 i]
def oneW : List V := [.str ⟨⟨[99, 108, 111, 99, 107]⟩⟩, .int .i64 0, .int .i64 0, .str ⟨⟨[101, 112, 111, 99, 104]⟩⟩, .int .i64 0, .int .i64 0, .str ⟨⟨[103, 114, 97, 121, 115]⟩⟩, .int .i64 0, .int .i64 0, .str ⟨⟨[116, 111, 112]⟩⟩, .int .i64 0, .int .i64 0]
def slotW (room k : Nat) : List V := headW k ++ (List.range room).flatMap (bodyW k)
def wordsW (S room c hd : Nat) : List V :=
  oneW ++ (List.range c).flatMap pinW ++ (List.range c).flatMap (fun k => (List.range hd).flatMap (entryW k)) ++ (List.range c).flatMap viewW ++ (List.range S).flatMap (slotW room)
def sizeW (S room c hd : Nat) : Nat := 4 + c * 1 + c * hd + c * 2 + S * (2 + room)

theorem refRoom_spec (s a c hd g st : Int) (h : H) : C 149 [cfgV s a c hd g st] h = some (.int .i64 (if a < 3 then 3 else a), h) := by
  refine call_closed (af := F.withyref06_Room) (by kernel_rfl) rfl (by rfl) (by rfl) h ?_
  have ok := H.ok_empty
  unfold cfgV
  rw [S.withyref06_Room_eq]
  simp only [S.withyref06_Room, H.new_ext, H.ext_ldk_0, ok, ldB_cells, V.one, List.getElem?_cons_zero, List.getElem?_cons_succ, Option.bind_some, Option.join_some, asI_int]
  by_cases h0 : a < 3
  · simp only [h0, if_true, decide_true]; exact Ev.some rfl
  · simp only [h0, if_false, decide_false]; exact Ev.some rfl

section
variable {h : H} (ok : h.ok) (s a g st : Int) (c hd : Nat) (hc : c ≤ 8) (hhd : hd ≤ 16)
include ok hc hhd

omit hc hhd in
theorem ldF {L : List (Option Blk)} {cs : List V} {k : Nat} {v : V} (hv : cs[k]? = some v) (h1 : v.one = true) : (h.ext (some (.cells cs .rw) :: L)).ld1 (.ptr h.next k) = some v := by
  rw [H.ext_ldk_0 ok]
  simp only [List.getElem?_cons_zero, Option.join_some, ldB_cells, hv, h1]


theorem pins_loop : ∀ (k i : Nat) (x : V) (L : List (Option Blk)) (n : Nat) (l : List V), i + k = c → n + k * 1 ≤ 100000 → Acc h L x 3 n l → ∃ x' L', loopW (S.withyref06_Words_c1_B W) (S.withyref06_Words_c1_E (.ptr h.next 0) x (.int .i64 (i : Nat))) (h.ext ((some (.cells [.int .i64 s, .int .i64 a, .int .i64 c, .int .i64 hd, .int .i64 g, .int .i64 st] .rw)) :: L)) = some (.exit 0, S.withyref06_Words_c1_O (.ptr h.next 0) x', h.ext ((some (.cells [.int .i64 s, .int .i64 a, .int .i64 c, .int .i64 hd, .int .i64 g, .int .i64 st] .rw)) :: L')) ∧ Acc h L' x' 3 (n + k * 1) (l ++ (List.range' i k).flatMap pinW) := by
  refine acc_loop (fun x i => S.withyref06_Words_c1_E (.ptr h.next 0) x (.int .i64 (i : Nat))) (fun x => S.withyref06_Words_c1_O (.ptr h.next 0) x) pinW (fun i x L n l hi hn hA => ?_) (fun x L => ?_)
  · rw [S.withyref06_Words_c1_eq]
    have hf := ldF ok (L := L) (cs := [.int .i64 s, .int .i64 a, .int .i64 c, .int .i64 hd, .int .i64 g, .int .i64 st]) (k := 2) rfl rfl
    obtain ⟨x', L', h1, hA'⟩ := hA.grow (F := (some (.cells [.int .i64 s, .int .i64 a, .int .i64 c, .int .i64 hd, .int .i64 g, .int .i64 st] .rw))) (b := 32) (m := 1) (new := pinW i) rfl rfl (by omega) (by omega) (by omega) (by omega)
    have hw : wr .i64 ((i : Int) + 1) = ((i + 1 : Nat) : Int) := by rw [wr64 (by omega) (by omega)]; rfl
    refine ⟨x', L', ?_, hA'⟩
    simp only [S.withyref06_Words_c1_S, ptrAt_ptr, Nat.zero_add, hf, Option.bind_some, asI_int, show (i : Int) < ((c : Nat) : Int) by omega, decide_true, H.new_ext, H.ext_ext, H.ext_next, List.cons_append, List.length_cons]
    simp only [pinW] at h1
    rw [h1]
    simp only [Option.bind_some, hw]
  · rw [S.withyref06_Words_c1_eq]
    have hf := ldF ok (L := L) (cs := [.int .i64 s, .int .i64 a, .int .i64 c, .int .i64 hd, .int .i64 g, .int .i64 st]) (k := 2) rfl rfl
    simp only [S.withyref06_Words_c1_S, ptrAt_ptr, Nat.zero_add, hf, Option.bind_some, asI_int, Int.lt_irrefl, decide_false]

theorem entries_loop (q : Nat) : ∀ (k i : Nat) (x : V) (L : List (Option Blk)) (n : Nat) (l : List V), i + k = hd → n + k * 1 ≤ 100000 → Acc h L x 3 n l → ∃ x' L', loopW (S.withyref06_Words_c5_B W) (S.withyref06_Words_c5_E (.ptr h.next 0) x (.int .i64 (q : Nat)) (.int .i64 (i : Nat))) (h.ext ((some (.cells [.int .i64 s, .int .i64 a, .int .i64 c, .int .i64 hd, .int .i64 g, .int .i64 st] .rw)) :: L)) = some (.exit 4, S.withyref06_Words_c5_O (.ptr h.next 0) x' (.int .i64 (q : Nat)), h.ext ((some (.cells [.int .i64 s, .int .i64 a, .int .i64 c, .int .i64 hd, .int .i64 g, .int .i64 st] .rw)) :: L')) ∧ Acc h L' x' 3 (n + k * 1) (l ++ (List.range' i k).flatMap (entryW q)) := by
  refine acc_loop (fun x i => S.withyref06_Words_c5_E (.ptr h.next 0) x (.int .i64 (q : Nat)) (.int .i64 (i : Nat))) (fun x => S.withyref06_Words_c5_O (.ptr h.next 0) x (.int .i64 (q : Nat))) (entryW q) (fun i x L n l hi hn hA => ?_) (fun x L => ?_)
  · rw [S.withyref06_Words_c5_eq]
    have hf := ldF ok (L := L) (cs := [.int .i64 s, .int .i64 a, .int .i64 c, .int .i64 hd, .int .i64 g, .int .i64 st]) (k := 3) rfl rfl
    obtain ⟨x', L', h1, hA'⟩ := hA.grow (F := (some (.cells [.int .i64 s, .int .i64 a, .int .i64 c, .int .i64 hd, .int .i64 g, .int .i64 st] .rw))) (b := 32) (m := 1) (new := entryW q i) rfl rfl (by omega) (by omega) (by omega) (by omega)
    have hw : wr .i64 ((i : Int) + 1) = ((i + 1 : Nat) : Int) := by rw [wr64 (by omega) (by omega)]; rfl
    refine ⟨x', L', ?_, hA'⟩
    simp only [S.withyref06_Words_c5_S, ptrAt_ptr, Nat.zero_add, hf, Option.bind_some, asI_int, show (i : Int) < ((hd : Nat) : Int) by omega, decide_true, H.new_ext, H.ext_ext, H.ext_next, List.cons_append, List.length_cons]
    simp only [entryW] at h1
    rw [h1]
    simp only [Option.bind_some, hw]
  · rw [S.withyref06_Words_c5_eq]
    have hf := ldF ok (L := L) (cs := [.int .i64 s, .int .i64 a, .int .i64 c, .int .i64 hd, .int .i64 g, .int .i64 st]) (k := 3) rfl rfl
    simp only [S.withyref06_Words_c5_S, ptrAt_ptr, Nat.zero_add, hf, Option.bind_some, asI_int, Int.lt_irrefl, decide_false]

theorem views_loop : ∀ (k i : Nat) (x : V) (L : List (Option Blk)) (n : Nat) (l : List V), i + k = c → n + k * 2 ≤ 100000 → Acc h L x 3 n l → ∃ x' L', loopW (S.withyref06_Words_c7_B W) (S.withyref06_Words_c7_E (.ptr h.next 0) x (.int .i64 (i : Nat))) (h.ext ((some (.cells [.int .i64 s, .int .i64 a, .int .i64 c, .int .i64 hd, .int .i64 g, .int .i64 st] .rw)) :: L)) = some (.exit 6, S.withyref06_Words_c7_O (.ptr h.next 0) x', h.ext ((some (.cells [.int .i64 s, .int .i64 a, .int .i64 c, .int .i64 hd, .int .i64 g, .int .i64 st] .rw)) :: L')) ∧ Acc h L' x' 3 (n + k * 2) (l ++ (List.range' i k).flatMap viewW) := by
  refine acc_loop (fun x i => S.withyref06_Words_c7_E (.ptr h.next 0) x (.int .i64 (i : Nat))) (fun x => S.withyref06_Words_c7_O (.ptr h.next 0) x) viewW (fun i x L n l hi hn hA => ?_) (fun x L => ?_)
  · rw [S.withyref06_Words_c7_eq]
    have hf := ldF ok (L := L) (cs := [.int .i64 s, .int .i64 a, .int .i64 c, .int .i64 hd, .int .i64 g, .int .i64 st]) (k := 2) rfl rfl
    obtain ⟨x', L', h1, hA'⟩ := hA.grow (F := (some (.cells [.int .i64 s, .int .i64 a, .int .i64 c, .int .i64 hd, .int .i64 g, .int .i64 st] .rw))) (b := 32) (m := 2) (new := viewW i) rfl rfl (by omega) (by omega) (by omega) (by omega)
    have hw : wr .i64 ((i : Int) + 1) = ((i + 1 : Nat) : Int) := by rw [wr64 (by omega) (by omega)]; rfl
    refine ⟨x', L', ?_, hA'⟩
    simp only [S.withyref06_Words_c7_S, ptrAt_ptr, Nat.zero_add, hf, Option.bind_some, asI_int, show (i : Int) < ((c : Nat) : Int) by omega, decide_true, H.new_ext, H.ext_ext, H.ext_next, List.cons_append, List.length_cons]
    simp only [viewW] at h1
    rw [h1]
    simp only [Option.bind_some, hw]
  · rw [S.withyref06_Words_c7_eq]
    have hf := ldF ok (L := L) (cs := [.int .i64 s, .int .i64 a, .int .i64 c, .int .i64 hd, .int .i64 g, .int .i64 st]) (k := 2) rfl rfl
    simp only [S.withyref06_Words_c7_S, ptrAt_ptr, Nat.zero_add, hf, Option.bind_some, asI_int, Int.lt_irrefl, decide_false]

theorem allEntries_loop : ∀ (k i : Nat) (x : V) (L : List (Option Blk)) (n : Nat) (l : List V), i + k = c → n + k * hd ≤ 100000 → Acc h L x 3 n l → ∃ x' L', loopW (S.withyref06_Words_c3_B W) (S.withyref06_Words_c3_E (.ptr h.next 0) x (.int .i64 (i : Nat))) (h.ext ((some (.cells [.int .i64 s, .int .i64 a, .int .i64 c, .int .i64 hd, .int .i64 g, .int .i64 st] .rw)) :: L)) = some (.exit 2, S.withyref06_Words_c3_O (.ptr h.next 0) x', h.ext ((some (.cells [.int .i64 s, .int .i64 a, .int .i64 c, .int .i64 hd, .int .i64 g, .int .i64 st] .rw)) :: L')) ∧ Acc h L' x' 3 (n + k * hd) (l ++ (List.range' i k).flatMap fun k => (List.range' 0 hd).flatMap (entryW k)) := by
  refine acc_loop (fun x i => S.withyref06_Words_c3_E (.ptr h.next 0) x (.int .i64 (i : Nat))) (fun x => S.withyref06_Words_c3_O (.ptr h.next 0) x) (fun k => (List.range' 0 hd).flatMap (entryW k)) (fun i x L n l hi hn hA => ?_) (fun x L => ?_)
  · rw [S.withyref06_Words_c3_eq]
    have hf := ldF ok (L := L) (cs := [.int .i64 s, .int .i64 a, .int .i64 c, .int .i64 hd, .int .i64 g, .int .i64 st]) (k := 2) rfl rfl
    obtain ⟨x', L', h1, hA'⟩ := entries_loop ok s a g st c hd hc hhd i hd 0 x L n l (by omega) (by omega) hA
    have hw : wr .i64 ((i : Int) + 1) = ((i + 1 : Nat) : Int) := by rw [wr64 (by omega) (by omega)]; rfl
    rw [Nat.mul_one] at hA'
    refine ⟨x', L', ?_, hA'⟩
    have h1' : W.loop (S.withyref06_Words_c5_B W) (S.withyref06_Words_c5_E (.ptr h.next 0) x (.int .i64 (i : Nat)) (.int .i64 0)) (h.ext ((some (.cells [.int .i64 s, .int .i64 a, .int .i64 c, .int .i64 hd, .int .i64 g, .int .i64 st] .rw)) :: L)) = _ := h1
    simp only [S.withyref06_Words_c3_S, ptrAt_ptr, Nat.zero_add, hf, Option.bind_some, asI_int, show (i : Int) < ((c : Nat) : Int) by omega, decide_true]
    rw [h1']
    simp only [Option.bind_some]
    rw [S.withyref06_Words_c5_e4_eq]
    simp only [S.withyref06_Words_c5_e4, hw]
  · rw [S.withyref06_Words_c3_eq]
    have hf := ldF ok (L := L) (cs := [.int .i64 s, .int .i64 a, .int .i64 c, .int .i64 hd, .int .i64 g, .int .i64 st]) (k := 2) rfl rfl
    simp only [S.withyref06_Words_c3_S, ptrAt_ptr, Nat.zero_add, hf, Option.bind_some, asI_int, Int.lt_irrefl, decide_false]

theorem bodies_loop (q room : Nat) (hr : (if a < 3 then 3 else a) = (room : Int)) (hr2 : room ≤ 10) : ∀ (k i : Nat) (x : V) (L : List (Option Blk)) (n : Nat) (l : List V), i + k = room → n + k * 1 ≤ 100000 → Acc h L x 3 n l → ∃ x' L', loopW (S.withyref06_Words_c11_B W) (S.withyref06_Words_c11_E (.ptr h.next 0) x (.int .i64 (q : Nat)) (.int .i64 (i : Nat))) (h.ext ((some (.cells [.int .i64 s, .int .i64 a, .int .i64 c, .int .i64 hd, .int .i64 g, .int .i64 st] .rw)) :: L)) = some (.exit 10, S.withyref06_Words_c11_O (.ptr h.next 0) x' (.int .i64 (q : Nat)), h.ext ((some (.cells [.int .i64 s, .int .i64 a, .int .i64 c, .int .i64 hd, .int .i64 g, .int .i64 st] .rw)) :: L')) ∧ Acc h L' x' 3 (n + k * 1) (l ++ (List.range' i k).flatMap (bodyW q)) := by
  have hd6 : ∀ L, (h.ext ((some (.cells [.int .i64 s, .int .i64 a, .int .i64 c, .int .i64 hd, .int .i64 g, .int .i64 st] .rw)) :: L)).ldN 6 (.ptr h.next 0) = some (.agg [.int .i64 s, .int .i64 a, .int .i64 c, .int .i64 hd, .int .i64 g, .int .i64 st]) := fun L => by
    rw [H.ext_ldNk_0 ok]; rfl
  have hR := refRoom_spec s a c hd g st
  rw [hr] at hR
  unfold cfgV at hR
  refine acc_loop (fun x i => S.withyref06_Words_c11_E (.ptr h.next 0) x (.int .i64 (q : Nat)) (.int .i64 (i : Nat))) (fun x => S.withyref06_Words_c11_O (.ptr h.next 0) x (.int .i64 (q : Nat))) (bodyW q) (fun i x L n l hi hn hA => ?_) (fun x L => ?_)
  · rw [S.withyref06_Words_c11_eq]
    obtain ⟨x', L', h1, hA'⟩ := hA.grow (F := (some (.cells [.int .i64 s, .int .i64 a, .int .i64 c, .int .i64 hd, .int .i64 g, .int .i64 st] .rw))) (b := 32) (m := 1) (new := bodyW q i) rfl rfl (by omega) (by omega) (by omega) (by omega)
    have hw : wr .i64 ((i : Int) + 1) = ((i + 1 : Nat) : Int) := by rw [wr64 (by omega) (by omega)]; rfl
    refine ⟨x', L', ?_, hA'⟩
    simp only [S.withyref06_Words_c11_S, hd6, W_call, hR, Option.bind_some, asI_int, show (i : Int) < ((room : Nat) : Int) by omega, decide_true, H.new_ext, H.ext_ext, H.ext_next, List.cons_append, List.length_cons]
    simp only [bodyW] at h1
    rw [h1]
    simp only [Option.bind_some, hw]
  · rw [S.withyref06_Words_c11_eq]
    simp only [S.withyref06_Words_c11_S, hd6, W_call, hR, Option.bind_some, asI_int, Int.lt_irrefl, decide_false]

theorem slots_loop (S' room : Nat) (hS : s = (S' : Int)) (hS2 : S' ≤ 64) (hr : (if a < 3 then 3 else a) = (room : Int)) (hr2 : room ≤ 10) : ∀ (k i : Nat) (x : V) (L : List (Option Blk)) (n : Nat) (l : List V), i + k = S' → n + k * (2 + room) ≤ 100000 → Acc h L x 3 n l → ∃ x' L', loopW (S.withyref06_Words_c9_B W) (S.withyref06_Words_c9_E (.ptr h.next 0) x (.int .i64 (i : Nat))) (h.ext ((some (.cells [.int .i64 s, .int .i64 a, .int .i64 c, .int .i64 hd, .int .i64 g, .int .i64 st] .rw)) :: L)) = some (.exit 8, S.withyref06_Words_c9_O x', h.ext ((some (.cells [.int .i64 s, .int .i64 a, .int .i64 c, .int .i64 hd, .int .i64 g, .int .i64 st] .rw)) :: L')) ∧ Acc h L' x' 3 (n + k * (2 + room)) (l ++ (List.range' i k).flatMap fun k => headW k ++ (List.range' 0 room).flatMap (bodyW k)) := by
  refine acc_loop (fun x i => S.withyref06_Words_c9_E (.ptr h.next 0) x (.int .i64 (i : Nat))) (fun x => S.withyref06_Words_c9_O x) (fun k => headW k ++ (List.range' 0 room).flatMap (bodyW k)) (fun i x L n l hi hn hA => ?_) (fun x L => ?_)
  · rw [S.withyref06_Words_c9_eq]
    have hf := ldF ok (L := L) (cs := [.int .i64 s, .int .i64 a, .int .i64 c, .int .i64 hd, .int .i64 g, .int .i64 st]) (k := 0) rfl rfl
    obtain ⟨x1, L1, h1, hA1⟩ := hA.grow (F := (some (.cells [.int .i64 s, .int .i64 a, .int .i64 c, .int .i64 hd, .int .i64 g, .int .i64 st] .rw))) (b := 32) (m := 2) (new := headW i) rfl rfl (by omega) (by omega) (by omega) (by omega)
    obtain ⟨x', L', h2, hA'⟩ := bodies_loop ok s a g st c hd hc hhd i room hr hr2 room 0 x1 L1 (n + 2) (l ++ headW i) (by omega) (by omega) hA1
    have hw : wr .i64 ((i : Int) + 1) = ((i + 1 : Nat) : Int) := by rw [wr64 (by omega) (by omega)]; rfl
    rw [Nat.mul_one, List.append_assoc, Nat.add_assoc] at hA'
    refine ⟨x', L', ?_, hA'⟩
    have h2' : W.loop (S.withyref06_Words_c11_B W) (S.withyref06_Words_c11_E (.ptr h.next 0) x1 (.int .i64 (i : Nat)) (.int .i64 0)) (h.ext ((some (.cells [.int .i64 s, .int .i64 a, .int .i64 c, .int .i64 hd, .int .i64 g, .int .i64 st] .rw)) :: L1)) = _ := h2
    simp only [S.withyref06_Words_c9_S, ptrAt_ptr, Nat.zero_add, hf, Option.bind_some, asI_int, show (i : Int) < s by omega, decide_true, H.new_ext, H.ext_ext, H.ext_next, List.cons_append, List.length_cons]
    simp only [headW] at h1
    rw [h1]
    simp only [Option.bind_some]
    rw [h2']
    simp only [Option.bind_some]
    rw [S.withyref06_Words_c11_e10_eq]
    simp only [S.withyref06_Words_c11_e10, hw]
  · rw [S.withyref06_Words_c9_eq]
    have hf := ldF ok (L := L) (cs := [.int .i64 s, .int .i64 a, .int .i64 c, .int .i64 hd, .int .i64 g, .int .i64 st]) (k := 0) rfl rfl
    simp only [S.withyref06_Words_c9_S, ptrAt_ptr, Nat.zero_add, hf, Option.bind_some, asI_int, show ¬ ((S' : Nat) : Int) < s by omega, decide_false]
end

theorem range'_zero (n : Nat) : List.range' 0 n = List.range n := (List.range_eq_range').symm

theorem words_spec {s a c hd g st : Int} (hr : cfgR s a c hd g st = true) {h : H} (ok : h.ok) : ∃ x L, C 87 [cfgV s a c hd g st] h = some (x, h.ext (some (.cells [.int .i64 s, .int .i64 a, .int .i64 c, .int .i64 hd, .int .i64 g, .int .i64 st] .rw) :: L)) ∧
    Acc h L x 3 (sizeW s.toNat (if a < 3 then 3 else a).toNat c.toNat hd.toNat) (wordsW s.toNat (if a < 3 then 3 else a).toNat c.toNat hd.toNat) := by
  obtain ⟨⟨s1, s2⟩, ⟨a1, a2⟩, ⟨c1, c2⟩, ⟨d1, d2⟩, _⟩ := cfgR_iff.mp hr
  obtain ⟨c', rfl⟩ : ∃ n : Nat, c = n := ⟨c.toNat, by omega⟩
  obtain ⟨hd', rfl⟩ : ∃ n : Nat, hd = n := ⟨hd.toNat, by omega⟩
  obtain ⟨s', rfl⟩ : ∃ n : Nat, s = n := ⟨s.toNat, by omega⟩
  obtain ⟨room, hroom⟩ : ∃ n : Nat, (if a < 3 then 3 else a) = (n : Int) := ⟨(if a < 3 then 3 else a).toNat, by split <;> omega⟩
  have hroom2 : room ≤ 10 := by split at hroom <;> omega
  have hS2 : s' ≤ 64 := by omega
  rw [hroom]
  simp only [Int.toNat_natCast]
  -- loop by loop
  have hA0 : Acc h [some (.cells oneW .rw)] (.sl (h.next + 1) 0 4 (.ex 4)) 3 4 oneW := ⟨rfl, rfl, 0, Or.inr ⟨rfl, rfl⟩⟩
  obtain ⟨x1, L1, e1, A1⟩ := pins_loop ok s' a g st c' hd' (by omega) (by omega) c' 0 _ _ 4 _ (by omega) (by omega) hA0
  have b1 : c' * hd' ≤ 8 * 16 := Nat.mul_le_mul (by omega) (by omega)
  obtain ⟨x2, L2, e2, A2⟩ := allEntries_loop ok s' a g st c' hd' (by omega) (by omega) c' 0 _ _ _ _ (by omega) (by omega) A1
  obtain ⟨x3, L3, e3, A3⟩ := views_loop ok s' a g st c' hd' (by omega) (by omega) c' 0 _ _ _ _ (by omega) (by omega) A2
  have b2 : s' * (2 + room) ≤ 64 * 12 := Nat.mul_le_mul hS2 (by omega)
  obtain ⟨x4, L4, e4, A4⟩ := slots_loop ok s' a g st c' hd' (by omega) (by omega) s' room rfl hS2 hroom hroom2 s' 0 _ _ _ _ (by omega) (by omega) A3
  simp only [range'_zero] at A4
  refine ⟨x4, L4, ?_, A4⟩
  refine call_open (af := F.withyref06_Words) (by kernel_rfl) rfl ?_
  unfold cfgV
  rw [S.withyref06_Words_eq]
  simp only [S.withyref06_Words, H.new_ext, H.ext_ext, H.ext_next, List.length_singleton, List.cons_append, List.nil_append]
  have e1' : W.loop (S.withyref06_Words_c1_B W) (S.withyref06_Words_c1_E (.ptr h.next 0) (.sl (h.next + 1) 0 4 (.ex 4)) (.int .i64 0)) _ = _ := e1
  unfold oneW at e1'
  rw [e1']
  simp only [Option.bind_some]
  rw [S.withyref06_Words_c1_e0_eq]
  simp only [S.withyref06_Words_c1_e0]
  have e2' : W.loop (S.withyref06_Words_c3_B W) (S.withyref06_Words_c3_E (.ptr h.next 0) x1 (.int .i64 0)) _ = _ := e2
  rw [e2']
  simp only [Option.bind_some]
  rw [S.withyref06_Words_c3_e2_eq]
  simp only [S.withyref06_Words_c3_e2]
  have e3' : W.loop (S.withyref06_Words_c7_B W) (S.withyref06_Words_c7_E (.ptr h.next 0) x2 (.int .i64 0)) _ = _ := e3
  rw [e3']
  simp only [Option.bind_some]
  rw [S.withyref06_Words_c7_e6_eq]
  simp only [S.withyref06_Words_c7_e6]
  have e4' : W.loop (S.withyref06_Words_c9_B W) (S.withyref06_Words_c9_E (.ptr h.next 0) x3 (.int .i64 0)) _ = _ := e4
  rw [e4']
  simp only [Option.bind_some]
  rw [S.withyref06_Words_c9_e8_eq]
  rfl
end Wm
end

section
/- Where a word stands: withyref06.At, and that it is where plan says. -/
namespace Wm

abbrev wordEq : Eq' := .agg [(0, .str), (1, .int), (2, .int)]

theorem wordEq_self (nm : ByteArray) (who k : Int) : eqV wordEq (.agg [.str nm, .int .i64 who, .int .i64 k]) (.agg [.str nm, .int .i64 who, .int .i64 k]) = some true := by
  simp [eqV, eqOffs, eqCell]

theorem Acc.part {h : H} {F : Option Blk} {L : List (Option Blk)} {x : V} {n : Nat} {l : List V} (ok : h.ok) (hA : Acc h L x 3 n l) {i : Nat} (hi : i < n) : ∃ p, indexAV 3 x (.int .i64 (i : Int)) = some p ∧ (h.ext (F :: L)).ldN 3 p = some (.agg ((l.drop (i * 3)).take 3)) := by
  obtain ⟨hl, _, j, hj⟩ := hA
  have hle : i * 3 + 3 ≤ l.length := by omega
  have key : ∀ k, L[j]? = some (some (.cells l k)) → (h.ext (F :: L)).ldN 3 (.ptr (h.next + (j + 1)) (i * 3)) = some (.agg ((l.drop (i * 3)).take 3)) := fun k hk => by
    rw [H.ext_ldNk ok]
    simp only [List.getElem?_cons_succ, hk, Option.join_some, ldNB_cells, decide_eq_true hle]
  rcases hj with ⟨rfl, hjL⟩ | ⟨rfl, hjL⟩
  · refine ⟨.ptr (h.next + (j + 1)) (i * 3), ?_, key _ hjL⟩
    rw [indexAV_in (by omega) (by omega)]; simp
  · refine ⟨.ptr (h.next + (j + 1)) (i * 3), ?_, key _ hjL⟩
    rw [indexAV_in (by omega) (by omega)]; simp

theorem Acc.len {h : H} {L : List (Option Blk)} {x : V} {e n : Nat} {l : List V} (hA : Acc h L x e n l) : lenSl x = some n := by
  obtain ⟨_, _, j, ⟨rfl, _⟩ | ⟨rfl, _⟩⟩ := hA <;> rfl

theorem at_spec {s a c hd g st : Int} (hr : cfgR s a c hd g st = true) {nm : ByteArray} {who k : Int} {pre : List (List V)} {post : List V}
    (hw : wordsW s.toNat (if a < 3 then 3 else a).toNat c.toNat hd.toNat = pre.flatten ++ ([.str nm, .int .i64 who, .int .i64 k] ++ post))
    (hp : ∀ e ∈ pre, e.length = 3 ∧ eqV wordEq (.agg e) (.agg [.str nm, .int .i64 who, .int .i64 k]) = some false) (hpl : pre.length ≤ 100000) (h : H) :
    C 108 [cfgV s a c hd g st, .agg [.str nm, .int .i64 who, .int .i64 k]] h = some (.int .i64 (pre.length : Nat), h) := by
  refine call_closed (af := F.withyref06_At) (by kernel_rfl) rfl (by rfl) (by rfl) h ?_
  have ok := H.ok_empty
  have hR := ref06Right_spec s a c hd g st
  obtain ⟨x, L, hW, hA⟩ := words_spec hr (ok.ext [some (.cells [.int .i64 s, .int .i64 a, .int .i64 c, .int .i64 hd, .int .i64 g, .int .i64 st] .rw), some (.cells [.str nm, .int .i64 who, .int .i64 k] .rw)])
  rw [hr] at hR
  have ok2 := ok.ext [some (Blk.cells [.int .i64 s, .int .i64 a, .int .i64 c, .int .i64 hd, .int .i64 g, .int .i64 st] .rw), some (.cells [.str nm, .int .i64 who, .int .i64 k] .rw)]
  have hT : ∀ l, ((H.empty.ext [some (Blk.cells [.int .i64 s, .int .i64 a, .int .i64 c, .int .i64 hd, .int .i64 g, .int .i64 st] .rw), some (.cells [.str nm, .int .i64 who, .int .i64 k] .rw)]).ext l).ldN 3 (.ptr (H.empty.next + 1) 0) = some (.agg [.str nm, .int .i64 who, .int .i64 k]) := fun l => by
    rw [H.ext_ext, H.ext_ldNk ok]; rfl
  have hlw := hA.1
  rw [hw] at hA hlw
  have hfl : pre.flatten.length = pre.length * 3 := flat_length fun e he => (hp e he).1
  have hlen : pre.length < sizeW s.toNat (if a < 3 then 3 else a).toNat c.toNat hd.toNat := by
    rw [List.length_append, List.length_append, hfl] at hlw
    simp only [List.length_cons, List.length_nil] at hlw
    omega
  generalize sizeW s.toNat (if a < 3 then 3 else a).toNat c.toNat hd.toNat = n at hA hlen
  unfold cfgV at hR hW ⊢
  rw [S.withyref06_At_eq]
  simp only [S.withyref06_At, H.new_ext, H.ext_ext, H.ext_next, H.ext_ldNk_0, ok, ldNB_cells, List.length_cons, List.length_nil, Nat.zero_add, Nat.reduceAdd, Nat.reduceLeDiff, decide_true, List.getElem?_cons_zero, List.cons_append, List.nil_append, List.drop_zero, List.take_succ_cons, List.take_zero, Bool.not_true, Option.bind_some, Option.join_some, asB_bool, W_call, hR]
  simp only [hW, Option.bind_some]
  generalize hH : (H.empty.ext [some (Blk.cells [.int .i64 s, .int .i64 a, .int .i64 c, .int .i64 hd, .int .i64 g, .int .i64 st] .rw), some (.cells [.str nm, .int .i64 who, .int .i64 k] .rw)]) = hh at hA hT ok2 ⊢
  refine loop_ev (fun i : Nat => S.withyref06_At_c1_E (.ptr (H.empty.next + 1) 0) x (.int .i64 (i : Nat))) (fun i g' => i ≤ pre.length ∧ g' = hh.ext (some (.cells [.int .i64 s, .int .i64 a, .int .i64 c, .int .i64 hd, .int .i64 g, .int .i64 st] .rw) :: L)) (fun i _ => pre.length - i)
    (fun r => r = (.ret, S.withyref06_At_c1_O (.int .i64 (pre.length : Nat)), hh.ext (some (.cells [.int .i64 s, .int .i64 a, .int .i64 c, .int .i64 hd, .int .i64 g, .int .i64 st] .rw) :: L))) 0 rfl ⟨Nat.zero_le _, rfl⟩ ?_ ?_
  · rintro i g' ⟨hi, rfl⟩
    rw [S.withyref06_At_c1_eq]
    obtain ⟨p, e1, e2⟩ := hA.part (F := some (.cells [.int .i64 s, .int .i64 a, .int .i64 c, .int .i64 hd, .int .i64 g, .int .i64 st] .rw)) ok2 (show i < n by omega)
    simp only [S.withyref06_At_c1_S, hA.len, Option.bind_some, show (i : Int) < ((n : Nat) : Int) by omega, decide_true, e1, e2, hT]
    by_cases hip : i < pre.length
    · have hpi : pre[i]? = some pre[i] := List.getElem?_eq_getElem hip
      have hel : ((pre.flatten ++ ([V.str nm, V.int .i64 who, V.int .i64 k] ++ post)).drop (i * 3)).take 3 = pre[i] := by
        rw [List.drop_append_of_le_length (by omega), List.take_append_of_le_length (by rw [List.length_drop]; omega)]
        exact flat_part (fun e he => (hp e he).1) i _ hpi
      rw [hel, (hp _ (List.getElem_mem hip)).2]
      have hw1 : wr .i64 ((i : Int) + 1) = ((i + 1 : Nat) : Int) := by rw [wr64 (by omega) (by omega)]; rfl
      simp only [Option.bind_some, hw1]
      exact Ev.some (Or.inl ⟨i + 1, rfl, rfl, ⟨hip, rfl⟩, by omega⟩)
    · have : i = pre.length := by omega
      subst this
      have hel : ((pre.flatten ++ ([V.str nm, V.int .i64 who, V.int .i64 k] ++ post)).drop (pre.length * 3)).take 3 = [V.str nm, V.int .i64 who, V.int .i64 k] := by
        rw [List.drop_left' hfl]; rfl
      rw [hel, wordEq_self]
      simp only [Option.bind_some]
      exact Ev.some (Or.inr ⟨by simp, rfl⟩)
  · rintro r rfl
    simp only
    rw [S.withyref06_At_c1_r_eq]
    exact Ev.some rfl

theorem flatten_flatMap' {α β : Type} (f : α → List (List β)) : ∀ l : List α, (l.flatMap f).flatten = l.flatMap fun x => (f x).flatten
  | [] => rfl
  | x :: l => by rw [List.flatMap_cons, List.flatten_append, flatten_flatMap' f l, List.flatMap_cons]

def oneE : List (List V) := [[.str ⟨⟨[99, 108, 111, 99, 107]⟩⟩, .int .i64 0, .int .i64 0], [.str ⟨⟨[101, 112, 111, 99, 104]⟩⟩, .int .i64 0, .int .i64 0], [.str ⟨⟨[103, 114, 97, 121, 115]⟩⟩, .int .i64 0, .int .i64 0], [.str ⟨⟨[116, 111, 112]⟩⟩, .int .i64 0, .int .i64 0]]
def slotE (room q : Nat) : List (List V) := [[.str ⟨⟨[104, 101, 97, 100, 101, 114]⟩⟩, .int .i64 q, .int .i64 0], [.str ⟨⟨[108, 105, 110, 107]⟩⟩, .int .i64 q, .int .i64 0]] ++ (List.range room).map (bodyW q)
def viewE (q : Nat) : List (List V) := [[.str ⟨⟨[118, 105, 101, 119]⟩⟩, .int .i64 q, .int .i64 0], [.str ⟨⟨[115, 116, 97, 114, 116]⟩⟩, .int .i64 q, .int .i64 0]]
/-- What stands ahead of the slots; ahead of a slot. -/
def aheadE (c hd : Nat) : List (List V) := oneE ++ (List.range c).map pinW ++ (List.range c).flatMap (fun q => (List.range hd).map (entryW q)) ++ (List.range c).flatMap viewE
theorem slotE_flatten (room q : Nat) : (slotE room q).flatten = slotW room q := by
  unfold slotE slotW headW
  rw [List.flatten_append, ← List.flatMap_def]; rfl

theorem aheadE_flatten (c hd : Nat) : (aheadE c hd).flatten = oneW ++ (List.range c).flatMap pinW ++ (List.range c).flatMap (fun q => (List.range hd).flatMap (entryW q)) ++ (List.range c).flatMap viewW := by
  unfold aheadE
  rw [List.flatten_append, List.flatten_append, List.flatten_append, ← List.flatMap_def, flatten_flatMap', flatten_flatMap']
  congr 1

end Wm
end

section
/- A slice of words. -/
namespace Wm

def RowIs (g : Nat → Option Blk) (u : V) (x : List Int) : Prop := x.length ≤ 9223372036854775807 ∧ ((u = .nilsl ∧ x = []) ∨ ∃ b c k, u = .sl b 0 x.length c ∧ g b = some (.cells (x.map (.int .u64)) k))
theorem RowIs.len {g : Nat → Option Blk} {u : V} {x : List Int} (h : RowIs g u x) : lenSl u = some x.length := by
  rcases h with ⟨_, ⟨rfl, rfl⟩ | ⟨b, c, k, rfl, _⟩⟩ <;> rfl
end Wm
end

section
/- How many slots are gray: shade.Grays and withylaw09.grays. -/
namespace Wm

end Wm
end

section
/- The words of a memory in which nothing was done: withyref06.Memory. -/
namespace Wm

def elemsW (S room c hd : Nat) : List (List V) := aheadE c hd ++ (List.range S).flatMap (slotE room)

theorem elemsW_flatten (S room c hd : Nat) : (elemsW S room c hd).flatten = wordsW S room c hd := by
  have h3 : ((List.range S).flatMap (slotE room)).flatten = (List.range S).flatMap (slotW room) := by
    rw [flatten_flatMap']
    exact congrArg (fun f => (List.range S).flatMap f) (funext fun q => slotE_flatten room q)
  unfold elemsW wordsW
  rw [List.flatten_append, aheadE_flatten, h3]

theorem ar_link {who : Int} (h0 : 0 ≤ who) (h1 : who ≤ 64) : wr .u64 (wr .i64 (who + 2)) = who + 2 := by rw [wr64 (by omega) (by omega), wru64 (by omega) (by omega)]
theorem repl_map (n : Nat) : repl [V.int .u64 0] n = (List.replicate n (0 : Int)).map (.int .u64) := by
  induction n with
  | zero => rfl
  | succ n ih => simp only [repl, ih, List.replicate_succ, List.map_cons, List.cons_append, List.nil_append]

end Wm
end

section
/- Words of a memory by what they are: all of a config, in their order, and where each stands. -/
namespace Wm

inductive Wd
  | clock | epoch | grays | top
  | pin (k : Nat)
  | entry (k i : Nat)
  | view (k : Nat)
  | start (k : Nat)
  | header (s : Nat)
  | link (s : Nat)
  | body (s i : Nat)
  deriving DecidableEq

def Cfg.S (k : Cfg) : Nat := k.s.toNat
def Cfg.room (k : Cfg) : Nat := (if k.a < 3 then 3 else k.a).toNat
def Cfg.C (k : Cfg) : Nat := k.c.toNat
def Cfg.H (k : Cfg) : Nat := k.hd.toNat
def Cfg.base (k : Cfg) : Nat := 4 + k.C + k.C * k.H + k.C * 2
def Cfg.size (k : Cfg) : Nat := k.base + k.S * (2 + k.room)

def Wd.ok (k : Cfg) : Wd → Prop
  | .clock | .epoch | .grays | .top => True
  | .pin q | .view q | .start q => q < k.C
  | .entry q i => q < k.C ∧ i < k.H
  | .header s | .link s => s < k.S
  | .body s i => s < k.S ∧ i < k.room
instance (k : Cfg) (l : Wd) : Decidable (l.ok k) := by cases l <;> (unfold Wd.ok; infer_instance)

def Wd.pos (k : Cfg) : Wd → Nat
  | .clock => 0
  | .epoch => 1
  | .grays => 2
  | .top => 3
  | .pin q => 4 + q
  | .entry q i => 4 + k.C + q * k.H + i
  | .view q => 4 + k.C + k.C * k.H + q * 2
  | .start q => 4 + k.C + k.C * k.H + q * 2 + 1
  | .header s => k.base + s * (2 + k.room)
  | .link s => k.base + s * (2 + k.room) + 1
  | .body s i => k.base + s * (2 + k.room) + 2 + i

def Wd.name : Wd → ByteArray
  | .clock => ⟨⟨[99, 108, 111, 99, 107]⟩⟩
  | .epoch => ⟨⟨[101, 112, 111, 99, 104]⟩⟩
  | .grays => ⟨⟨[103, 114, 97, 121, 115]⟩⟩
  | .top => ⟨⟨[116, 111, 112]⟩⟩
  | .pin _ => ⟨⟨[112, 105, 110]⟩⟩
  | .entry _ _ => ⟨⟨[101, 110, 116, 114, 121]⟩⟩
  | .view _ => ⟨⟨[118, 105, 101, 119]⟩⟩
  | .start _ => ⟨⟨[115, 116, 97, 114, 116]⟩⟩
  | .header _ => ⟨⟨[104, 101, 97, 100, 101, 114]⟩⟩
  | .link _ => ⟨⟨[108, 105, 110, 107]⟩⟩
  | .body _ _ => ⟨⟨[98, 111, 100, 121]⟩⟩
def Wd.who : Wd → Nat
  | .pin q | .view q | .start q | .entry q _ | .header q | .link q | .body q _ => q
  | _ => 0
def Wd.i : Wd → Nat
  | .entry _ i | .body _ i => i
  | _ => 0
def Wd.cells (l : Wd) : List V := [.str l.name, .int .i64 l.who, .int .i64 l.i]

def slotL (room q : Nat) : List Wd := .header q :: .link q :: (List.range room).map (.body q)
def Cfg.locs (k : Cfg) : List Wd :=
  [.clock, .epoch, .grays, .top] ++ (List.range k.C).map .pin ++ (List.range k.C).flatMap (fun q => (List.range k.H).map (.entry q)) ++ (List.range k.C).flatMap (fun q => [.view q, .start q]) ++ (List.range k.S).flatMap (slotL k.room)

theorem mem_locs {k : Cfg} {l : Wd} : l ∈ k.locs ↔ l.ok k := by
  unfold Cfg.locs slotL
  simp only [List.mem_append, List.mem_cons, List.not_mem_nil, or_false, List.mem_map, List.mem_range, List.mem_flatMap]
  cases l <;> simp [Wd.ok]

theorem range_mul (b m : Nat) : ∀ n, (List.range n).flatMap (fun q => (List.range m).map fun i => b + q * m + i) = (List.range (n * m)).map (b + ·)
  | 0 => by simp
  | n + 1 => by
    rw [List.range_succ, List.flatMap_append, range_mul b m n, List.flatMap_cons, List.flatMap_nil, List.append_nil, Nat.succ_mul, List.range_add, List.map_append, List.map_map]
    congr 1
    apply List.map_congr_left
    intro i _
    simp only [Function.comp]; omega

theorem map_pos (k : Cfg) : k.locs.map (Wd.pos k) = List.range k.size := by
  have e1 : ((List.range k.C).map Wd.pin).map (Wd.pos k) = (List.range k.C).map (4 + ·) := by rw [List.map_map]; rfl
  have e2 : ((List.range k.C).flatMap (fun q => (List.range k.H).map (Wd.entry q))).map (Wd.pos k) = (List.range (k.C * k.H)).map (4 + k.C + ·) := by
    rw [← range_mul, List.map_flatMap]
    congr 1; funext q; rw [List.map_map]; rfl
  have e3 : ((List.range k.C).flatMap (fun q => [Wd.view q, Wd.start q])).map (Wd.pos k) = (List.range (k.C * 2)).map (4 + k.C + k.C * k.H + ·) := by
    rw [← range_mul, List.map_flatMap]
    congr 1
  have e4 : ((List.range k.S).flatMap (slotL k.room)).map (Wd.pos k) = (List.range (k.S * (2 + k.room))).map (k.base + ·) := by
    rw [← range_mul, List.map_flatMap]
    congr 1; funext q
    unfold slotL
    rw [Nat.add_comm 2 k.room, List.range_succ_eq_map, List.range_succ_eq_map]
    simp only [List.map_cons, List.map_map, Wd.pos, Nat.add_zero]
    rw [Nat.add_comm 2 k.room]
    congr 2
    apply List.map_congr_left
    intro i _
    simp only [Function.comp, Wd.pos]
    rw [Nat.add_comm 2 k.room]; omega
  unfold Cfg.locs
  rw [List.map_append, List.map_append, List.map_append, List.map_append, e1, e2, e3, e4]
  unfold Cfg.size Cfg.base
  rw [List.range_add, List.range_add (n := 4 + k.C + k.C * k.H), List.range_add (n := 4 + k.C), List.range_add (n := 4)]
  rfl

theorem locs_length (k : Cfg) : k.locs.length = k.size := by
  have := congrArg List.length (map_pos k)
  simpa using this

theorem locs_at {k : Cfg} {i : Nat} {l : Wd} (h : k.locs[i]? = some l) : l.pos k = i := by
  have h1 : (k.locs.map (Wd.pos k))[i]? = some (l.pos k) := by rw [List.getElem?_map, h]; rfl
  rw [map_pos] at h1
  obtain ⟨h2, h3⟩ := List.getElem?_eq_some_iff.mp h1
  rw [← h3, List.getElem_range]

theorem at_locs {k : Cfg} {l : Wd} (h : l.ok k) : k.locs[l.pos k]? = some l := by
  obtain ⟨i, hi, he⟩ := List.mem_iff_getElem.mp (mem_locs.mpr h)
  have : k.locs[i]? = some l := by rw [List.getElem?_eq_getElem hi, he]
  rw [locs_at this]; exact this

theorem pos_lt {k : Cfg} {l : Wd} (h : l.ok k) : l.pos k < k.size := by
  rw [← locs_length]
  exact lt_of_get (at_locs h)

theorem pos_inj {k : Cfg} {l l' : Wd} (h : l.ok k) (h' : l'.ok k) (e : l.pos k = l'.pos k) : l = l' := by
  have h1 := at_locs h
  have h2 := at_locs h'
  rw [e, h2] at h1; cases h1; rfl

/-! ### As the references' lists -/
theorem locs_elems (k : Cfg) : k.locs.map Wd.cells = elemsW k.S k.room k.C k.H := by
  unfold Cfg.locs elemsW aheadE
  rw [List.map_append, List.map_append, List.map_append, List.map_append, List.map_map, List.map_flatMap, List.map_flatMap, List.map_flatMap]
  congr 1
  · congr 1
    · congr 1
      congr 1; funext q; rw [List.map_map]; rfl
  · congr 1; funext q
    unfold slotL slotE
    rw [List.map_cons, List.map_cons, List.map_map]; rfl

def Wd.tag : Wd → Nat
  | .clock => 0 | .epoch => 1 | .grays => 2 | .top => 3 | .pin _ => 4 | .entry _ _ => 5 | .view _ => 6 | .start _ => 7 | .header _ => 8 | .link _ => 9 | .body _ _ => 10
def tagName : Nat → ByteArray
  | 0 => ⟨⟨[99, 108, 111, 99, 107]⟩⟩
  | 1 => ⟨⟨[101, 112, 111, 99, 104]⟩⟩
  | 2 => ⟨⟨[103, 114, 97, 121, 115]⟩⟩
  | 3 => ⟨⟨[116, 111, 112]⟩⟩
  | 4 => ⟨⟨[112, 105, 110]⟩⟩
  | 5 => ⟨⟨[101, 110, 116, 114, 121]⟩⟩
  | 6 => ⟨⟨[118, 105, 101, 119]⟩⟩
  | 7 => ⟨⟨[115, 116, 97, 114, 116]⟩⟩
  | 8 => ⟨⟨[104, 101, 97, 100, 101, 114]⟩⟩
  | 9 => ⟨⟨[108, 105, 110, 107]⟩⟩
  | _ => ⟨⟨[98, 111, 100, 121]⟩⟩
theorem name_tag (l : Wd) : l.name = tagName l.tag := by cases l <;> rfl
theorem tag_lt (l : Wd) : l.tag < 11 := by cases l <;> simp [Wd.tag]
theorem tags_all : (List.range 11).all (fun a => (List.range 11).all fun b => ((tagName a).toList == (tagName b).toList) == decide (a = b)) = true := by kernel_rfl
theorem name_eq (l l' : Wd) : (l.name.toList == l'.name.toList) = decide (l.tag = l'.tag) := by
  have h := tags_all
  simp only [List.all_eq_true, List.mem_range, beq_iff_eq] at h
  rw [name_tag l, name_tag l']
  exact h _ (tag_lt l) _ (tag_lt l')
theorem eqW (l l' : Wd) : eqV wordEq (.agg l.cells) (.agg l'.cells) = some (decide (l = l')) := by
  unfold Wd.cells
  simp only [eqV, eqOffs, List.getElem?_cons_zero, List.getElem?_cons_succ, eqCell, decide_true, name_eq]
  by_cases ht : l.tag = l'.tag
  · simp only [decide_eq_true ht]
    by_cases hw : l.who = l'.who
    · have : (l.who : Int) = l'.who := by omega
      simp only [decide_eq_true this]
      by_cases hi : l.i = l'.i
      · have : (l.i : Int) = l'.i := by omega
        simp only [decide_eq_true this]
        have : l = l' := by
          cases l <;> cases l' <;> simp_all [Wd.tag, Wd.who, Wd.i]
        simp [this]
      · have h2 : ¬ (l.i : Int) = l'.i := by omega
        simp only [decide_eq_false h2]
        have : l ≠ l' := by rintro rfl; exact hi rfl
        simp [this]
    · have h2 : ¬ (l.who : Int) = l'.who := by omega
      simp only [decide_eq_false h2]
      have : l ≠ l' := by rintro rfl; exact hw rfl
      simp [this]
  · simp only [decide_eq_false ht]
    have : l ≠ l' := by rintro rfl; exact ht rfl
    simp [this]

theorem Cfg.R_iff {k : Cfg} : k.R = true ↔ (1 ≤ k.s ∧ k.s ≤ 64) ∧ (0 ≤ k.a ∧ k.a ≤ 8) ∧ (1 ≤ k.c ∧ k.c ≤ 8) ∧ (1 ≤ k.hd ∧ k.hd ≤ 16) ∧ (1 ≤ k.g ∧ k.g ≤ 1048576) ∧ (0 ≤ k.st ∧ k.st ≤ 64) := cfgR_iff

theorem Cfg.bounds {k : Cfg} (h : k.R = true) : (1 ≤ k.S ∧ k.S ≤ 64) ∧ (3 ≤ k.room ∧ k.room ≤ 8) ∧ (1 ≤ k.C ∧ k.C ≤ 8) ∧ (1 ≤ k.H ∧ k.H ≤ 16) ∧ k.base ≤ 200 ∧ k.size ≤ 1000 := by
  have := Cfg.R_iff.mp h
  have h1 : 3 ≤ k.room ∧ k.room ≤ 8 := by unfold Cfg.room; split <;> omega
  have h2 : k.C * k.H ≤ 8 * 16 := Nat.mul_le_mul (by unfold Cfg.C; omega) (by unfold Cfg.H; omega)
  have h3 : k.S * (2 + k.room) ≤ 64 * 10 := Nat.mul_le_mul (by unfold Cfg.S; omega) (by omega)
  unfold Cfg.size Cfg.base
  unfold Cfg.S Cfg.C Cfg.H at *
  omega

theorem words_flat (k : Cfg) : wordsW k.S k.room k.C k.H = (k.locs.map Wd.cells).flatten := by rw [locs_elems, elemsW_flatten]

/-- A word's place, as it is told. -/
theorem at_wd {k : Cfg} (hr : k.R = true) {l : Wd} (hl : l.ok k) (h : H) : C 108 [k.v, .agg l.cells] h = some (.int .i64 (l.pos k : Nat), h) := by
  have hlt := pos_lt hl
  have hb := Cfg.bounds hr
  have hn : ((k.locs.take (l.pos k)).map Wd.cells).length = l.pos k := by
    rw [List.length_map, List.length_take, locs_length]; omega
  have hsplit : k.locs = k.locs.take (l.pos k) ++ l :: k.locs.drop (l.pos k + 1) := by
    have h1 := at_locs hl
    obtain ⟨h2, h3⟩ := List.getElem?_eq_some_iff.mp h1
    conv => lhs; rw [← List.take_append_drop (l.pos k) k.locs, List.drop_eq_getElem_cons h2, h3]
  have := at_spec (s := k.s) (a := k.a) (c := k.c) (hd := k.hd) (g := k.g) (st := k.st) hr (nm := l.name) (who := l.who) (k := l.i) (pre := (k.locs.take (l.pos k)).map Wd.cells) (post := ((k.locs.drop (l.pos k + 1)).map Wd.cells).flatten) (by
      show wordsW k.S k.room k.C k.H = _
      rw [words_flat]
      conv => lhs; rw [hsplit, List.map_append, List.flatten_append, List.map_cons, List.flatten_cons]
      rfl) (by
      intro e he
      obtain ⟨l', h1, rfl⟩ := List.mem_map.mp he
      refine ⟨rfl, ?_⟩
      have h2 := eqW l' l
      have hne : l' ≠ l := by
        rintro rfl
        obtain ⟨i, h3, h4⟩ := List.mem_iff_getElem.mp h1
        rw [List.getElem_take] at h4
        have h5 : k.locs[i]? = some l' := by rw [List.getElem?_eq_getElem (by rw [List.length_take] at h3; omega), h4]
        have := locs_at h5
        rw [List.length_take] at h3
        omega
      rw [decide_eq_false hne] at h2
      exact h2) (by rw [hn]; omega) h
  rw [hn] at this
  exact this
end Wm
end

section
/- Tops: a tag and a slot. -/
namespace Wm
attribute [local congr] bind_congr1
attribute [local irreducible] wr

theorem topParts_spec {w : Int} (hw : U64 w) (h : H) : C 447 [.int .u64 w] h = some (.tup [.int .u64 (w / 65536), .int .i64 (w % 65536 - 1)], h) := by
  refine call_closed (af := F.tag_TopParts) (by kernel_rfl) rfl (by rfl) (by rfl) h ?_
  rw [S.tag_TopParts_eq]
  have h1 := fun h => get_spec hw 16 48 (by decide) (by decide) (by decide) h
  have h2 := fun h => get_spec hw 0 16 (by decide) (by decide) (by decide) h
  have e1 : getT w 16 48 = w / 65536 := by
    obtain ⟨a, b⟩ := hw
    unfold getT
    show w / 2 ^ 16 % 2 ^ 48 = _
    rw [Int.emod_eq_of_lt (by omega) (by omega)]; rfl
  have e2 : getT w 0 16 = w % 65536 := by
    unfold getT
    show w / 2 ^ 0 % 2 ^ 16 = _
    rw [Int.pow_zero, Int.ediv_one]; rfl
  rw [e1] at h1
  rw [e2] at h2
  have w1 : wr .i64 ((wr .i64 (w % 65536)) - 1) = w % 65536 - 1 := by rw [wr64 (n := w % 65536) (by omega) (by omega), wr64 (by omega) (by omega)]
  have h1' : ∀ h, C 396 [.int .u64 w, .int .i64 16, .int .i64 48] h = some (.int .u64 (w / 65536), h) := h1
  have h2' : ∀ h, C 396 [.int .u64 w, .int .i64 0, .int .i64 16] h = some (.int .u64 (w % 65536), h) := h2
  simp only [S.tag_TopParts, Option.bind_some, asIAny, W_call, h1', h2', w1]
  exact Ev.some rfl
theorem tagSlots_spec {s : Int} (h0 : -1 ≤ s) (h1 : s < 64) (h : H) : C 462 [.int .i64 s] h = some (.bool true, h) := by
  refine call_closed (af := F.tag_slots) (by kernel_rfl) rfl (by rfl) (by rfl) h ?_
  rw [S.tag_slots_eq]
  have d0 : decide (-1 ≤ s) = true := decide_eq_true h0
  have d1 : decide (s < 64) = true := decide_eq_true h1
  simp only [S.tag_slots, Int.reduceNeg, d0, d1]
  exact Ev.some rfl
theorem tagged_spec {tag s : Int} (ht : 0 ≤ tag ∧ tag < 281474976710656) (h0 : -1 ≤ s) (h1 : s < 64) (h : H) : C 414 [.int .u64 tag, .int .i64 s, .int .i64 16] h = some (.tup [.int .u64 (65536 * tag + (s + 1)), .bool true], h) := by
  refine call_closed (af := F.tag_tagged) (by kernel_rfl) rfl (by rfl) (by rfl) h ?_
  rw [S.tag_tagged_eq]
  have hs := fun h => tagSlots_spec h0 h1 h
  have w1 : wr .u64 (wr .i64 (s + 1)) = s + 1 := by rw [wr64 (n := s + 1) (by omega) (by omega), wru64 (by omega) (by omega)]
  have w2 : wr .i64 (64 - 16) = 48 := wr64 (by decide) (by decide)
  simp only [S.tag_tagged, Option.bind_some, asB_bool, Bool.not_true, W_call, hs, w1, w2]
  generalize hg : H.empty.new _ = g
  have okg : g.ok := by rw [← hg]; exact H.ok_empty.new _
  have hc : g.get H.empty.next = some (.cells (cellsP [(16, s + 1), (48, tag)]) .rw) := by rw [← hg]; exact get_new_self _ _
  have hp := wordPack_spec (l := [(16, s + 1), (48, tag)]) ⟨(show 64 ≤ 64 from Nat.le_refl _), by
    intro p hp
    simp only [List.mem_cons, List.not_mem_nil, or_false] at hp
    rcases hp with rfl | rfl
    · exact ⟨(show 1 ≤ 16 by decide), (show 16 ≤ 63 by decide), by show 0 ≤ s + 1; omega, by show s + 1 < _; omega⟩
    · exact ⟨(show 1 ≤ 48 by decide), (show 48 ≤ 63 by decide), by show 0 ≤ tag; omega, by show tag < _; omega⟩⟩ okg hc
  have hf : fitP [(16, s + 1), (48, tag)] = true := by
    unfold fitP
    simp only [List.all_cons, List.all_nil, Bool.and_true, Bool.and_eq_true, decide_eq_true_eq]
    exact ⟨by show s + 1 < 2 ^ 16; omega, by show tag < 2 ^ 48; omega⟩
  have hsum : sumP [(16, s + 1), (48, tag)] = 65536 * tag + (s + 1) := by
    have e : sumP [(16, s + 1), (48, tag)] = sumP ([(16, s + 1)] ++ [(48, tag)]) := rfl
    rw [e, sumP_append]
    have e2 : sumP [(16, s + 1)] = s + 1 := by simp [sumP]
    have e3 : bitsP [(16, s + 1)] = 16 := rfl
    rw [e2, e3]
    show s + 1 + tag * 2 ^ 16 = _
    omega
  rw [hf, if_pos rfl, hsum] at hp
  refine Ev.bind hp ?_
  rintro ⟨_, g'⟩ ⟨rfl, _⟩
  simp only [Option.bind_some, List.getElem?_cons_zero, List.getElem?_cons_succ]
  exact Ev.some rfl
theorem top_spec {tag s : Int} (ht : 0 ≤ tag ∧ tag < 281474976710656) (h0 : -1 ≤ s) (h1 : s < 64) (h : H) : C 350 [.int .u64 tag, .int .i64 s] h = some (.tup [.int .u64 (65536 * tag + (s + 1)), .bool true], h) := by
  refine call_closed (af := F.tag_Top) (by kernel_rfl) rfl (by rfl) (by rfl) h ?_
  rw [S.tag_Top_eq]
  have hs := fun h => tagged_spec ht h0 h1 h
  simp only [S.tag_Top, Option.bind_some, List.getElem?_cons_zero, List.getElem?_cons_succ, W_call, hs]
  exact Ev.some rfl
/-- A top's next one. -/
def movedW (w s : Int) : Int := 65536 * ((w / 65536 + 1) % 281474976710656) + (s + 1)
theorem movedW_U64 {w s : Int} (h0 : -1 ≤ s) (h1 : s < 64) : U64 (movedW w s) := by unfold movedW; exact ⟨by omega, by omega⟩
theorem moved_spec {w s : Int} (hw : U64 w) (h0 : -1 ≤ s) (h1 : s < 64) (h : H) : C 461 [.int .u64 w, .int .i64 s] h = some (.int .u64 (movedW w s), h) := by
  refine call_closed (af := F.tag_Moved) (by kernel_rfl) rfl (by rfl) (by rfl) h ?_
  rw [S.tag_Moved_eq]
  obtain ⟨a, b⟩ := hw
  have hs := fun h => tagSlots_spec h0 h1 h
  have ht := fun h => topParts_spec ⟨a, b⟩ h
  have w1 : wr .u64 (w / 65536 + 1) = w / 65536 + 1 := wru64 (by omega) (by omega)
  have w2 : and64 (w / 65536 + 1) 281474976710655 = (w / 65536 + 1) % 281474976710656 := and64_mask (x := w / 65536 + 1) ⟨by omega, by omega⟩ (n := 48) (by decide)
  have hT := fun h => top_spec (tag := (w / 65536 + 1) % 281474976710656) (s := s) ⟨by omega, by omega⟩ h0 h1 h
  simp only [S.tag_Moved, Option.bind_some, List.getElem?_cons_zero, List.getElem?_cons_succ, Int.reduceNeg, asI_int, asB_bool, Bool.not_true, W_call, hs, ht, w1, w2, hT]
  exact Ev.some rfl
/-- The slot that a top names. -/
def firstT (k : Cfg) (w : Int) : Int := if k.s ≤ w % 65536 - 1 then -1 else w % 65536 - 1
theorem first_spec (k : Cfg) {w : Int} (hw : U64 w) (h : H) : C 391 [k.v, .int .u64 w] h = some (.int .i64 (firstT k w), h) := by
  refine call_closed (af := F.stack_first) (by kernel_rfl) rfl (by rfl) (by rfl) h ?_
  have hv : k.v = .agg [.int .i64 k.s, .int .i64 k.a, .int .i64 k.c, .int .i64 k.hd, .int .i64 k.g, .int .i64 k.st] := rfl
  rw [hv, S.stack_first_eq]
  have ht := fun h => topParts_spec hw h
  unfold firstT
  by_cases hk : k.s ≤ w % 65536 - 1
  · have d : decide (k.s ≤ w % 65536 - 1) = true := decide_eq_true hk
    rw [if_pos hk]
    simp only [S.stack_first, Option.bind_some, ld1_get', get_new', ldB_cells, List.getElem?_cons_zero, List.getElem?_cons_succ, Int.reduceNeg, V.one, asI_int, if_true, W_call, ht, d]
    exact Ev.some rfl
  · have d : decide (k.s ≤ w % 65536 - 1) = false := decide_eq_false hk
    rw [if_neg hk]
    simp only [S.stack_first, Option.bind_some, ld1_get', get_new', ldB_cells, List.getElem?_cons_zero, List.getElem?_cons_succ, Int.reduceNeg, V.one, asI_int, if_true, W_call, ht, d]
    exact Ev.some rfl
end Wm
end

section
/- What the references' functions of the first layers come to. -/
namespace Wm
attribute [local congr] bind_congr1

theorem refBlack_spec {e : Int} (he : U64 e) (h : H) : C 110 [.int .u64 e] h = some (.int .i64 (black e), h) := by
  refine call_closed (af := F.withyref03_Black) (by kernel_rfl) rfl (by rfl) (by rfl) h ?_
  rw [S.withyref03_Black_eq]
  obtain ⟨h0, h1⟩ := he
  unfold black
  simp only [S.withyref03_Black, td h0]
  rw [wru64 (by omega) (by omega), tm (by omega)]
  by_cases h2 : e / 4 % 2 = 0
  · simp only [h2, decide_true]; exact Ev.some (show V.int _ _ = V.int _ _ by congr 1; omega)
  · simp only [h2, decide_false]; exact Ev.some (show V.int _ _ = V.int _ _ by congr 1; omega)

theorem refPack_spec {x : Hdr} (hx : x.right = true) (h : H) : C 111 [.agg x.cs] h = some (.int .u64 x.word, h) := by
  refine call_closed (af := F.withyref04_Pack) (by kernel_rfl) rfl (by rfl) (by rfl) h ?_
  rw [right_iff] at hx
  obtain ⟨k, m, g, a, n, s⟩ := x
  simp only at hx
  unfold Hdr.cs
  rw [S.withyref04_Pack_eq]
  simp only [S.withyref04_Pack, Option.bind_some, ld1_get', get_new', ldB_cells, List.getElem?_cons_zero, List.getElem?_cons_succ, V.one, asB_bool, asIAny, if_true]
  rw [wru64 (n := k) (by omega) (by omega), wru64 (n := m) (by omega) (by omega), wru64 (n := a) (by omega) (by omega), wru64 (n := n) (by omega) (by omega), wru64 (n := s) (by omega) (by omega), wru64 (n := 8 * m) (by omega) (by omega), wru64 (n := 32 * a) (by omega) (by omega), wru64 (n := 65536 * n) (by omega) (by omega), wru64 (n := 281474976710656 * s) (by omega) (by omega), wru64 (n := k + 8 * m) (by omega) (by omega), wru64 (n := k + 8 * m + 32 * a) (by omega) (by omega), wru64 (n := k + 8 * m + 32 * a + 65536 * n) (by omega) (by omega), wru64 (n := k + 8 * m + 32 * a + 65536 * n + 281474976710656 * s) (by omega) (by omega)]
  cases g with
  | true =>
    simp only
    rw [wru64 (by omega) (by omega)]
    exact Ev.some (show V.int _ _ = V.int _ _ by unfold Hdr.word; simp only [if_true]; congr 1; omega)
  | false =>
    exact Ev.some (show V.int _ _ = V.int _ _ by unfold Hdr.word; simp only [Bool.false_eq_true, if_false]; congr 1; omega)

theorem refRight_spec (x : Hdr) (h : H) : C 202 [.agg x.cs] h = some (.bool x.right, h) := by
  refine call_closed (af := F.withyref04_Right) (by kernel_rfl) rfl (by rfl) (by rfl) h ?_
  have e := right_iff x
  generalize x.right = r at e
  obtain ⟨k, m, g, a, n, s⟩ := x
  simp only at e
  unfold Hdr.cs
  rw [S.withyref04_Right_eq]
  simp only [S.withyref04_Right, Option.bind_some, ld1_get', get_new', ldB_cells, List.getElem?_cons_zero, List.getElem?_cons_succ, V.one, asI_int, if_true]
  have key : ∀ b : Bool, (b = true ↔ r = true) → (V.bool b, (h : H)).1 = V.bool r := fun b hb => by
    cases b <;> cases r <;> simp_all
  by_cases c1 : 0 ≤ k
  · by_cases c2 : k ≤ 4
    · by_cases c3 : m = 0
      · by_cases c4 : 0 ≤ a
        · by_cases c5 : a ≤ 15
          · by_cases c6 : 0 ≤ n
            · by_cases c7 : n ≤ 4294967295
              · by_cases c8 : 0 ≤ s
                · simp only [c1, c2, c3, c4, c5, c6, c7, c8, decide_true]; exact Ev.some (key _ (by rw [e, decide_eq_true_eq]; omega))
                · simp only [c1, c2, c3, c4, c5, c6, c7, c8, decide_true, decide_false]; exact Ev.some (key _ (by rw [e]; simp; omega))
              · simp only [c1, c2, c3, c4, c5, c6, c7, decide_true, decide_false]; exact Ev.some (key _ (by rw [e]; simp; omega))
            · simp only [c1, c2, c3, c4, c5, c6, decide_true, decide_false]; exact Ev.some (key _ (by rw [e]; simp; omega))
          · simp only [c1, c2, c3, c4, c5, decide_true, decide_false]; exact Ev.some (key _ (by rw [e]; simp; omega))
        · simp only [c1, c2, c3, c4, decide_true, decide_false]; exact Ev.some (key _ (by rw [e]; simp; omega))
      · by_cases c3' : m = 1
        · by_cases c4 : 0 ≤ a
          · by_cases c5 : a ≤ 15
            · by_cases c6 : 0 ≤ n
              · by_cases c7 : n ≤ 4294967295
                · by_cases c8 : 0 ≤ s
                  · simp only [c1, c2, c3', c4, c5, c6, c7, c8, decide_true, decide_false, Int.reduceEq]; exact Ev.some (key _ (by rw [e, decide_eq_true_eq]; omega))
                  · simp only [c1, c2, c3', c4, c5, c6, c7, c8, decide_true, decide_false, Int.reduceEq]; exact Ev.some (key _ (by rw [e]; simp; omega))
                · simp only [c1, c2, c3', c4, c5, c6, c7, decide_true, decide_false, Int.reduceEq]; exact Ev.some (key _ (by rw [e]; simp; omega))
              · simp only [c1, c2, c3', c4, c5, c6, decide_true, decide_false, Int.reduceEq]; exact Ev.some (key _ (by rw [e]; simp; omega))
            · simp only [c1, c2, c3', c4, c5, decide_true, decide_false, Int.reduceEq]; exact Ev.some (key _ (by rw [e]; simp; omega))
          · simp only [c1, c2, c3', c4, decide_true, decide_false, Int.reduceEq]; exact Ev.some (key _ (by rw [e]; simp; omega))
        · simp only [c1, c2, c3, c3', decide_true, decide_false]; exact Ev.some (key _ (by rw [e]; simp; omega))
    · simp only [c1, c2, decide_true, decide_false]; exact Ev.some (key _ (by rw [e]; simp; omega))
  · simp only [c1, decide_false]; exact Ev.some (key _ (by rw [e]; simp; omega))

theorem refLives_spec {w : Int} (hw : U64 w) (h : H) : C 112 [.int .u64 w] h = some (.bool (lives w), h) := by
  refine call_closed (af := F.withyref04_Lives) (by kernel_rfl) rfl (by rfl) (by rfl) h ?_
  rw [S.withyref04_Lives_eq]
  unfold lives
  cases ho : okT w with
  | false =>
    simp only [S.withyref04_Lives, Option.bind_some, Option.map_some, ld1_get', st_get', get_new', stB_cells, List.getElem?_cons_zero, List.getElem?_cons_succ, Nat.zero_add, Nat.reduceAdd, Nat.reduceLeDiff, V.one, V.cells, List.length_cons, List.length_nil, Nat.beq_refl, List.all_cons, List.all_nil, Bool.false_and, Bool.not_true, Bool.false_or, Bool.or_self, Bool.and_self, decide_true, decide_false, if_true, splice, List.take_zero, List.drop_succ_cons, List.drop_zero, List.cons_append, List.nil_append, reduceCtorEq, W_call, refUnp_spec hw, ho, Hdr.cs]
    exact Ev.some rfl
  | true =>
    by_cases k1 : (unp w).kind = 1
    · simp only [S.withyref04_Lives, Option.bind_some, Option.map_some, ld1_get', st_get', get_put', get_new', ldB_cells, stB_cells, List.getElem?_cons_zero, List.getElem?_cons_succ, Nat.zero_add, Nat.reduceAdd, Nat.reduceLeDiff, Int.reduceEq, V.one, V.cells, asI_int, List.length_cons, List.length_nil, Nat.beq_refl, List.all_cons, List.all_nil, Bool.not_true, Bool.or_false, Bool.false_or, Bool.or_self, Bool.and_self, decide_true, decide_false, if_true, splice, List.take_zero, List.drop_succ_cons, List.drop_zero, List.cons_append, List.nil_append, reduceCtorEq, W_call, refUnp_spec hw, ho, Hdr.cs, k1]
      exact Ev.some rfl
    · simp only [S.withyref04_Lives, Option.bind_some, Option.map_some, ld1_get', st_get', get_put', get_new', ldB_cells, stB_cells, List.getElem?_cons_zero, List.getElem?_cons_succ, Nat.zero_add, Nat.reduceAdd, Nat.reduceLeDiff, V.one, V.cells, asI_int, List.length_cons, List.length_nil, Nat.beq_refl, List.all_cons, List.all_nil, Bool.true_and, Bool.not_true, Bool.false_or, Bool.or_self, Bool.and_self, decide_true, decide_false, if_true, splice, List.take_zero, List.drop_succ_cons, List.drop_zero, List.cons_append, List.nil_append, reduceCtorEq, W_call, refUnp_spec hw, ho, Hdr.cs, k1]
      exact Ev.some rfl

def markedW (w e : Int) : Bool := lives w && decide ((unp w).mark = black e)
theorem refMarked_spec {w e : Int} (hw : U64 w) (he : U64 e) (h : H) : C 113 [.int .u64 w, .int .u64 e] h = some (.bool (markedW w e), h) := by
  refine call_closed (af := F.withyref04_Marked) (by kernel_rfl) rfl (by rfl) (by rfl) h ?_
  rw [S.withyref04_Marked_eq]
  unfold markedW
  cases hl : lives w with
  | false =>
    simp only [S.withyref04_Marked, Option.bind_some, Option.map_some, ld1_get', st_get', get_new', stB_cells, List.getElem?_cons_zero, List.getElem?_cons_succ, Nat.zero_add, Nat.reduceAdd, Nat.reduceLeDiff, V.one, V.cells, List.length_cons, List.length_nil, Nat.beq_refl, List.all_cons, List.all_nil, Bool.false_and, Bool.not_true, Bool.false_or, Bool.or_self, Bool.and_self, decide_true, decide_false, if_true, splice, List.take_zero, List.drop_succ_cons, List.drop_zero, List.cons_append, List.nil_append, reduceCtorEq, W_call, refUnp_spec hw, Hdr.cs, refLives_spec hw, hl]
    exact Ev.some rfl
  | true =>
    simp only [S.withyref04_Marked, Option.bind_some, Option.map_some, ld1_get', st_get', get_put', get_new', ldB_cells, stB_cells, List.getElem?_cons_zero, List.getElem?_cons_succ, Nat.zero_add, Nat.reduceAdd, Nat.reduceLeDiff, V.one, V.cells, V.beq, ckB_some, asI_int, List.length_cons, List.length_nil, Nat.beq_refl, List.all_cons, List.all_nil, Bool.true_and, Bool.not_true, Bool.false_or, Bool.or_self, Bool.and_self, decide_true, decide_false, if_true, splice, List.take_zero, List.drop_succ_cons, List.drop_zero, List.cons_append, List.nil_append, reduceCtorEq, W_call, refUnp_spec hw, Hdr.cs, refLives_spec hw, hl, refBlack_spec he]
    exact Ev.some rfl

/-! ### A config made right -/
def fitT (n lo hi : Int) : Int := lo + n % 18446744073709551616 % (hi - lo + 1)
def Cfg.fit (k : Cfg) : Cfg := ⟨fitT k.s 1 12, fitT k.a 0 4, fitT k.c 1 4, fitT k.hd 1 4, fitT k.g 1 40, fitT k.st 0 6⟩

theorem fit_spec (n : Int) {lo hi : Int} (h0 : 0 ≤ lo) (h1 : lo ≤ hi) (h2 : hi ≤ 1000) (h : H) : C 270 [.int .i64 n, .int .i64 lo, .int .i64 hi] h = some (.int .i64 (fitT n lo hi), h) := by
  refine call_closed (af := F.withyref06_fit) (by kernel_rfl) rfl (by rfl) (by rfl) h ?_
  rw [S.withyref06_fit_eq]
  have e1 : wr .u64 n = n % 18446744073709551616 := rfl
  have hb := Int.emod_nonneg (n % 18446744073709551616) (show hi - lo + 1 ≠ 0 by omega)
  have hl := Int.emod_lt_of_pos (n % 18446744073709551616) (show 0 < hi - lo + 1 by omega)
  have hne : ¬ (hi - lo + 1 = 0) := by omega
  simp only [S.withyref06_fit]
  rw [wr64 (n := hi - lo) (by omega) (by omega), wr64 (n := hi - lo + 1) (by omega) (by omega), wru64 (n := hi - lo + 1) (by omega) (by omega)]
  simp only [arith, decide_eq_false hne, Option.bind_some, e1]
  rw [tm (by omega), wr64 (n := _ % (hi - lo + 1)) (by omega) (by omega), wr64 (by omega) (by omega)]
  exact Ev.some rfl

theorem Cfg.fit_R (k : Cfg) : k.fit.R = true := by
  rw [Cfg.R_iff]
  unfold Cfg.fit fitT
  simp only
  omega
theorem Fit_spec (k : Cfg) (h : H) : C 92 [k.v] h = some (k.fit.v, h) := by
  refine call_closed (af := F.withyref06_Fit) (by kernel_rfl) rfl (by rfl) (by rfl) h ?_
  obtain ⟨s, a, c, hd, g, st⟩ := k
  unfold Cfg.v cfgV
  rw [S.withyref06_Fit_eq]
  have n1 : ∀ x : Nat, x ≠ x + 1 := fun x => by omega
  have n2 : ∀ x : Nat, x + 1 ≠ x := fun x => by omega
  simp only [S.withyref06_Fit, Option.bind_some, Option.map_some, ld1_get', ldN_get', st_get', get_put', get_new', ldB_cells, ldNB_cells, stB_cells, H.next_new, List.getElem?_cons_zero, List.getElem?_cons_succ, Nat.zero_add, Nat.reduceAdd, Nat.reduceLeDiff, V.one, V.cells, V.beq, ckB_some, List.length_cons, List.length_nil, Nat.beq_refl, List.all_cons, List.all_nil, Bool.and_true, Bool.true_and, Bool.not_true, Bool.or_self, Bool.and_self, decide_true, decide_false, if_true, if_false, splice, List.take_succ_cons, List.take_zero, List.drop_succ_cons, List.drop_zero, List.cons_append, List.nil_append, reduceCtorEq, fill, opd, boxc, finV, resAllV, resOfV, result, W_call, n1, n2, fit_spec s (lo := 1) (hi := 12) (by decide) (by decide) (by decide), fit_spec a (lo := 0) (hi := 4) (by decide) (by decide) (by decide), fit_spec c (lo := 1) (hi := 4) (by decide) (by decide) (by decide), fit_spec hd (lo := 1) (hi := 4) (by decide) (by decide) (by decide), fit_spec g (lo := 1) (hi := 40) (by decide) (by decide) (by decide), fit_spec st (lo := 0) (hi := 6) (by decide) (by decide) (by decide)]
  exact Ev.some rfl
end Wm
end

section
/- All words of a config, and those of a memory in which nothing was done: withyref06.Words, Memory. -/
namespace Wm
attribute [local congr] bind_congr1
attribute [local irreducible] wr

theorem Words_spec {k : Cfg} (hr : k.R = true) {h : H} (ok : h.ok) : ∃ (g : H) (b : Nat) (c : Cap) (kk : Bk), C 87 [k.v] h = some (.sl b 0 k.size c, g) ∧ Fr [] h g ∧ h.next ≤ b ∧ g.get b = some (.cells (k.locs.map Wd.cells).flatten kk) := by
  obtain ⟨x, L, hW, hA⟩ := words_spec (s := k.s) (a := k.a) (c := k.c) (hd := k.hd) (g := k.g) (st := k.st) hr ok
  have hn : sizeW k.S k.room k.C k.H = k.size := by unfold sizeW Cfg.size Cfg.base; omega
  change Acc h L x 3 (sizeW k.S k.room k.C k.H) (wordsW k.S k.room k.C k.H) at hA
  rw [hn, words_flat] at hA
  have hfr : ∀ l, Fr [] h (h.ext l) := fun l => ⟨by rw [H.ext_next]; omega, ok.ext l, fun b hb _ => H.ext_old hb⟩
  obtain ⟨_, _, j, ⟨rfl, hj⟩ | ⟨rfl, hj⟩⟩ := hA
  · exact ⟨_, _, _, _, hW, hfr _, by omega, by rw [H.ext_get' ok, List.getElem?_cons_succ, hj]; rfl⟩
  · exact ⟨_, _, _, _, hW, hfr _, by omega, by rw [H.ext_get' ok, List.getElem?_cons_succ, hj]; rfl⟩

theorem locs3 (k : Cfg) : ∀ x ∈ k.locs.map Wd.cells, x.length = 3 := fun x hx => by
  obtain ⟨l, _, rfl⟩ := List.mem_map.mp hx; rfl
theorem locs_cells {k : Cfg} {i : Nat} {l : Wd} (hl : k.locs[i]? = some l) (r : Nat) (hr : r < 3) : ((k.locs.map Wd.cells).flatten)[i * 3 + r]? = l.cells[r]? := by
  have h1 := flat_part (locs3 k) i l.cells (by rw [List.getElem?_map, hl]; rfl)
  have h2 := congrArg (fun x => x[r]?) h1
  simp only [List.getElem?_take, List.getElem?_drop, if_pos hr] at h2
  exact h2

/-- The words of a memory in which nothing was done. -/
def mem0 (k : Cfg) : Wd → Int
  | .clock => 1
  | .top => 1
  | .link q => if (q : Int) + 1 < k.s then q + 2 else 0
  | _ => 0
def mem00 : Wd → Int
  | .clock => 1
  | .top => 1
  | _ => 0

/-- The words, as a list, of what each word is. -/
def Cfg.row (k : Cfg) (f : Wd → Int) : List Int := k.locs.map f
theorem row_length (k : Cfg) (f : Wd → Int) : (k.row f).length = k.size := by unfold Cfg.row; rw [List.length_map, locs_length]
theorem row_at {k : Cfg} {f : Wd → Int} {l : Wd} (hl : l.ok k) : (k.row f)[l.pos k]? = some (f l) := by unfold Cfg.row; rw [List.getElem?_map, at_locs hl]; rfl
theorem row_getD {k : Cfg} {f : Wd → Int} {l : Wd} (hl : l.ok k) : (k.row f).getD (l.pos k) 0 = f l := by rw [List.getD_eq_getElem?_getD, row_at hl]; rfl
/-- A word is another one. -/
def wset (f : Wd → Int) (l : Wd) (v : Int) : Wd → Int := fun m => if m = l then v else f m
theorem wset_same (f : Wd → Int) (l : Wd) (v : Int) : wset f l v l = v := if_pos rfl
theorem wset_ne {f : Wd → Int} {l m : Wd} {v : Int} (h : m ≠ l) : wset f l v m = f m := if_neg h
theorem row_set {k : Cfg} {f : Wd → Int} {l : Wd} {v : Int} (hl : l.ok k) : (k.row f).set (l.pos k) v = k.row (wset f l v) := by
  apply List.ext_getElem?
  intro i
  unfold Cfg.row
  rw [List.getElem?_set, List.getElem?_map, List.getElem?_map]
  by_cases hi : l.pos k = i
  · subst hi
    rw [if_pos rfl, if_pos (by rw [List.length_map, locs_length]; exact pos_lt hl), at_locs hl]
    simp only [Option.map_some, wset_same]
  · rw [if_neg hi]
    cases hx : k.locs[i]? with
    | none => rfl
    | some m =>
      simp only [Option.map_some]
      rw [wset_ne]
      rintro rfl
      exact hi (locs_at hx)
theorem row_congr {k : Cfg} {f g : Wd → Int} (h : ∀ l, l.ok k → f l = g l) : k.row f = k.row g := List.map_congr_left fun l hl => h l (mem_locs.mp hl)

theorem row_st2 {g : H} {b : Nat} {ws : List Int} {kk : Bk} (hk : kk ≠ .ro) (hg : g.get b = some (.cells (ws.map (.int .u64)) kk)) {i : Nat} (hi : i < ws.length) (v : Int) : g.st 1 (.ptr b i) (.int .u64 v) = some (g.put b (some (.cells ((ws.set i v).map (.int .u64)) kk))) := by
  rw [st1_get hg hk rfl (by rw [List.length_map]; exact hi), List.map_set]

theorem sl_idx {b n i e : Nat} {c : Cap} (hi : i < n) : indexAV e (.sl b 0 n c) (.int .i64 (i : Int)) = some (.ptr b (i * e)) := by
  simp only [indexAV, indexOf, asIAny, show decide ((0 : Int) ≤ (i : Int)) = true from decide_eq_true (by omega), show decide ((i : Int) < (n : Int)) = true from decide_eq_true (by omega), Bool.and_self, Nat.zero_add, Int.toNat_natCast]
theorem sl_idx1 {b n i : Nat} {c : Cap} (hi : i < n) : indexAV 1 (.sl b 0 n c) (.int .i64 (i : Int)) = some (.ptr b i) := by rw [sl_idx hi, Nat.mul_one]

def memF (k : Cfg) (i : Nat) (l : Wd) : Int := if l.pos k < i then mem0 k l else mem00 l

theorem memF_set {k : Cfg} {l : Wd} (hlo : l.ok k) : k.row (memF k (l.pos k + 1)) = (k.row (memF k (l.pos k))).set (l.pos k) (mem0 k l) := by
  rw [row_set hlo]
  apply row_congr
  intro m hm
  simp only [memF, wset]
  by_cases he : m = l
  · subst he; rw [if_pos (Nat.lt_succ_self _), if_pos rfl]
  · rw [if_neg he]
    have hne : m.pos k ≠ l.pos k := fun q => he (pos_inj hm hlo q)
    clear he hm hlo
    by_cases hq : m.pos k < l.pos k
    · rw [if_pos (Nat.lt_succ_of_lt hq), if_pos hq]
    · rw [if_neg (by omega), if_neg hq]
theorem memF_same {k : Cfg} {l : Wd} (hlo : l.ok k) (hl : mem0 k l = mem00 l) : k.row (memF k (l.pos k + 1)) = k.row (memF k (l.pos k)) := by
  apply row_congr
  intro m hm
  simp only [memF]
  by_cases he : m = l
  · subst he; rw [if_pos (Nat.lt_succ_self _), if_neg (Nat.lt_irrefl _), hl]
  · have hne : m.pos k ≠ l.pos k := fun q => he (pos_inj hm hlo q)
    clear he hm hlo
    by_cases hq : m.pos k < l.pos k
    · rw [if_pos (Nat.lt_succ_of_lt hq), if_pos hq]
    · rw [if_neg (by omega), if_neg hq]
theorem who_le {k : Cfg} (hr : k.R = true) {l : Wd} (hl : l.ok k) : l.who ≤ 64 := by
  have hb := Cfg.bounds hr
  cases l <;> simp only [Wd.ok, Wd.who] at hl ⊢ <;> omega
theorem natlt {i n : Nat} (h : i < n) : decide ((i : Int) < (n : Int)) = true := decide_eq_true (Int.ofNat_lt.mpr h)
theorem link_name (l : Wd) : (l.name.toList == (⟨⟨[108, 105, 110, 107]⟩⟩ : ByteArray).toList) = decide (l.tag = 9) := by
  have h := name_eq l (.link 0)
  have e : (Wd.link 0).name = (⟨⟨[108, 105, 110, 107]⟩⟩ : ByteArray) := rfl
  rw [e] at h
  exact h

theorem Memory_spec {k : Cfg} (hr : k.R = true) {h : H} (ok : h.ok) : ∃ (g : H) (b : Nat), C 86 [k.v] h = some (.sl b 0 k.size (.ex k.size), g) ∧ Fr [] h g ∧ h.next ≤ b ∧ b < g.next ∧ g.get b = some (.cells ((k.row (mem0 k)).map (.int .u64)) .rw) := by
  have hb := Cfg.bounds hr
  have hsz : 4 ≤ k.size := by unfold Cfg.size Cfg.base; omega
  have hev : Ev (C 86 [k.v] h) fun r => ∃ b, r.1 = .sl b 0 k.size (.ex k.size) ∧ Fr [] h r.2 ∧ h.next ≤ b ∧ b < r.2.next ∧ r.2.get b = some (.cells ((k.row (mem0 k)).map (.int .u64)) .rw) := by
    refine call_ev (af := F.withyref06_Memory) (by kernel_rfl) rfl ?_
    obtain ⟨g0, bw, cw, kw, e0, f0, n0, w0⟩ := Words_spec hr (ok.new (.cells k.cs .rw))
    have hcs : (Blk.cells k.cs .rw) = .cells [.int .i64 k.s, .int .i64 k.a, .int .i64 k.c, .int .i64 k.hd, .int .i64 k.g, .int .i64 k.st] .rw := rfl
    have hv : k.v = .agg [.int .i64 k.s, .int .i64 k.a, .int .i64 k.c, .int .i64 k.hd, .int .i64 k.g, .int .i64 k.st] := rfl
    rw [hv, S.withyref06_Memory_eq]
    rw [hv, hcs] at e0
    have hcfg : g0.get h.next = some (.cells [.int .i64 k.s, .int .i64 k.a, .int .i64 k.c, .int .i64 k.hd, .int .i64 k.g, .int .i64 k.st] .rw) := f0.get (ok.new _) (get_new_self _ _) (by simp)
    rw [H.next_new] at n0
    have hmk : g0.mkSl 1 8 [V.int .u64 0] (k.size : Int) (k.size : Int) = some (.sl g0.next 0 k.size (.ex k.size), g0.new (.cells (repl [V.int .u64 0] k.size) .rw)) := by
      rw [mkSl_ok (e := 1) (b := 8) (z := [V.int .u64 0]) (l := (k.size : Int)) (c := (k.size : Int)) (by omega) (by omega) (by omega) (by omega) rfl (by omega)]
      simp only [Int.toNat_natCast]
    simp only [S.withyref06_Memory, lenSl_sl, Option.bind_some, ldN_get', get_new', ldNB_cells, Nat.zero_add, Nat.reduceAdd, Nat.reduceLeDiff, List.length_cons, List.length_nil, decide_true, if_true, List.take_succ_cons, List.take_zero, List.drop_zero, W_call, e0, hmk]
    have hrep : (repl [V.int .u64 0] k.size) = (List.replicate k.size (0 : Int)).map (.int .u64) := repl_map _
    rw [hrep]
    generalize hg1 : g0.new (.cells ((List.replicate k.size (0 : Int)).map (V.int .u64)) .rw) = g1
    have hg1g : g1.get g0.next = some (.cells ((List.replicate k.size (0 : Int)).map (V.int .u64)) .rw) := by rw [← hg1]; exact get_new_self _ _
    have hfr1 : Fr [] h g1 := by rw [← hg1]; exact (((Fr.refl ok).new _).trans' f0).new _
    have hw1 : g1.get bw = some (.cells (k.locs.map Wd.cells).flatten kw) := by rw [← hg1, get_new_ne (f0.ok.ne0 w0)]; exact w0
    have hcfg1 : g1.get h.next = some (.cells [.int .i64 k.s, .int .i64 k.a, .int .i64 k.c, .int .i64 k.hd, .int .i64 k.g, .int .i64 k.st] .rw) := by rw [← hg1, get_new_ne (f0.ok.ne0 hcfg)]; exact hcfg
    have hbwne : bw ≠ g0.next := f0.ok.ne0 w0
    have hcne : h.next ≠ g0.next := f0.ok.ne0 hcfg
    have hle : h.next < g0.next := by have := f0.le; rw [H.next_new] at this; omega
    generalize hz : g0.next = z at hg1g hbwne hcne hle ⊢
    have hzn : z < g1.next := by rw [← hg1, H.next_new]; omega
    clear hg1 hmk e0 f0
    have i0 := sl_idx1 (b := z) (n := k.size) (i := 0) (c := .ex k.size) (by omega)
    have i3 := sl_idx1 (b := z) (n := k.size) (i := 3) (c := .ex k.size) (by omega)
    rw [show indexAV 1 (.sl z 0 k.size (.ex k.size)) (.int .i64 0) = some (.ptr z 0) from i0]
    simp only [Option.bind_some]
    rw [row_st2 (by decide) hg1g (by rw [List.length_replicate]; omega)]
    simp only [Option.bind_some]
    rw [show indexAV 1 (.sl z 0 k.size (.ex k.size)) (.int .i64 3) = some (.ptr z 3) from i3]
    simp only [Option.bind_some]
    rw [row_st2 (by decide) (get_put_self _ _ _) (by rw [List.length_set, List.length_replicate]; omega), put_put']
    simp only [Option.bind_some]
    have hinit : ((List.replicate k.size (0 : Int)).set 0 1).set 3 1 = k.row mem00 := by
      have e : List.replicate k.size (0 : Int) = k.row (fun _ => 0) := by
        unfold Cfg.row; rw [← locs_length]; rw [List.map_const']
      rw [e]
      have h1 := row_set (k := k) (f := fun _ => 0) (l := .clock) (v := 1) trivial
      have h2 := row_set (k := k) (f := wset (fun _ => 0) .clock 1) (l := .top) (v := 1) trivial
      change (k.row _).set 0 1 = _ at h1
      change (k.row _).set 3 1 = _ at h2
      rw [h1, h2]
      apply row_congr
      intro l _
      cases l <;> simp [wset, mem00]
    rw [hinit]
    -- what stands behind so many rounds
    have hF0 : memF k 0 = mem00 := by funext l; simp [memF]
    refine loop_ev (α := Nat) (fun i => S.withyref06_Memory_c1_E (.ptr h.next 0) (.sl bw 0 k.size cw) (.sl z 0 k.size (.ex k.size)) (.int .i64 i))
      (fun i g => i ≤ k.size ∧ g = g1.put z (some (.cells ((k.row (memF k i)).map (.int .u64)) .rw))) (fun i _ => k.size - i)
      (fun r => r = (.exit 0, S.withyref06_Memory_c1_O (.sl z 0 k.size (.ex k.size)), g1.put z (some (.cells ((k.row (memF k k.size)).map (.int .u64)) .rw)))) 0 rfl ⟨by omega, by rw [hF0]⟩ ?_ ?_
    · rintro i g ⟨hi, rfl⟩
      rw [S.withyref06_Memory_c1_eq]
      by_cases hic : i < k.size
      · obtain ⟨l, hl⟩ : ∃ l, k.locs[i]? = some l := ⟨_, List.getElem?_eq_getElem (by rw [locs_length]; exact hic)⟩
        have hlo := mem_locs.mp (List.mem_of_getElem? hl)
        have hlp := locs_at hl
        have ix := sl_idx (b := bw) (n := k.size) (i := i) (e := 3) (c := cw) hic
        have ix2 := sl_idx1 (b := z) (n := k.size) (i := i) (c := .ex k.size) hic
        have c0 := locs_cells hl 0 (by omega)
        have c1 := locs_cells hl 1 (by omega)
        simp only [Nat.add_zero] at c0
        have w1 : wr .i64 ((i : Int) + 1) = ((i + 1 : Nat) : Int) := by rw [wr64 (by omega) (by omega)]; rfl
        have hwho : (l.who : Int) ≤ 64 := by
          have := who_le hr hlo
          omega
        have w2 : wr .i64 ((l.who : Int) + 1) = (l.who : Int) + 1 := wr64 (by omega) (by omega)
        have w3 : wr .u64 (wr .i64 ((l.who : Int) + 2)) = (l.who : Int) + 2 := ar_link (Int.natCast_nonneg _) hwho
        have hmu : k.size - (i + 1) < k.size - i := Nat.sub_lt_sub_left hic (Nat.lt_succ_self i)
        have hFs : ∀ v, mem0 k l = v → k.row (memF k (i + 1)) = (k.row (memF k i)).set i v := by
          rintro v rfl
          rw [← hlp]; exact memF_set hlo
        have hFsame : mem0 k l = mem00 l → k.row (memF k (i + 1)) = k.row (memF k i) := fun he => by
          rw [← hlp]; exact memF_same hlo he
        have hnm' := link_name l
        rw [show l.cells[0]? = some (.str l.name) from rfl] at c0
        rw [show l.cells[1]? = some (.int .i64 l.who) from rfl] at c1
        generalize l.name = nm at c0 hnm'
        generalize hB : (nm.toList == (⟨⟨[108, 105, 110, 107]⟩⟩ : ByteArray).toList) = B at hnm'
        generalize (k.locs.map Wd.cells).flatten = W3 at hw1 c0 c1
        generalize hwh : (l.who : Int) = who at c1 w1 w2 w3 hwho
        have hlt : decide ((i : Int) < (k.size : Int)) = true := natlt hic
        simp only [S.withyref06_Memory_c1_S, lenSl_sl, ptrAt_ptr, Option.bind_some, ld1_get', get_put', ldB_cells, List.getElem?_cons_zero, Nat.add_zero, V.one, asI_int, if_false, eqV, hlt, ix, hbwne, hcne, hw1, hcfg1, c0, c1, hB, w1, w2]
        subst hnm'
        by_cases ht : l.tag = 9
        · obtain ⟨q, rfl⟩ : ∃ q, l = .link q := by cases l <;> simp [Wd.tag] at ht; exact ⟨_, rfl⟩
          simp only [ht, decide_true]
          by_cases hc : who + 1 < k.s
          · simp only [hc, decide_true, ix2, Option.bind_some]
            rw [w3, row_st2 (by decide) (get_put_self _ _ _) (by rw [row_length]; exact hic), put_put', ← hFs _ (by simp only [mem0]; rw [← hwh] at hc ⊢; exact if_pos hc)]
            exact Ev.some (.inl ⟨i + 1, rfl, rfl, ⟨hic, rfl⟩, hmu⟩)
          · simp only [hc, decide_false]
            rw [← hFsame (by simp only [mem0, mem00]; rw [← hwh] at hc; exact if_neg hc)]
            exact Ev.some (.inl ⟨i + 1, rfl, rfl, ⟨hic, rfl⟩, hmu⟩)
        · simp only [ht, decide_false]
          rw [← hFsame (by cases l <;> first | rfl | (exfalso; exact ht rfl))]
          exact Ev.some (.inl ⟨i + 1, rfl, rfl, ⟨hic, rfl⟩, hmu⟩)
      · have : i = k.size := Nat.le_antisymm hi (Nat.le_of_not_lt hic)
        subst this
        simp only [S.withyref06_Memory_c1_S, lenSl, Option.bind_some, Int.lt_irrefl, decide_false]
        exact Ev.some (.inr ⟨by simp, rfl⟩)
    · rintro r rfl
      simp only
      rw [S.withyref06_Memory_c1_e0_eq]
      refine Ev.some ⟨z, rfl, hfr1.put (.inr (Nat.le_of_lt hle)) hzn _, Nat.le_of_lt hle, hzn, ?_⟩
      rw [get_put_self]
      congr 3
      apply row_congr
      intro l hl
      simp only [memF]
      rw [if_pos (pos_lt hl)]
  obtain ⟨⟨v, g⟩, e, b, rfl, f, n, n', w⟩ := hev
  exact ⟨g, b, e, f, n, n', w⟩
end Wm
end

section
/- The machine that makes a slot gray: shade.NewShade, Step. -/
namespace Wm
attribute [local congr] bind_congr1
attribute [local irreducible] wr

theorem headerP_at {k : Cfg} (hr : k.R = true) {q : Nat} (hq : q < k.S) : withinT k.s k.a k.c k.hd k.g k.st (q : Int) 0 = ((Wd.header q).pos k : Nat) := by
  have hb := Cfg.R_iff.mp hr
  have hq' : (q : Int) ≤ k.s - 1 := by unfold Cfg.S at hq; omega
  have hroom : (k.room : Int) = max k.a 3 := by unfold Cfg.room; split <;> omega
  have hc : (k.C : Int) = k.c := by unfold Cfg.C; omega
  have hh : (k.H : Int) = k.hd := by unfold Cfg.H; omega
  unfold withinT
  rw [if_pos ⟨hr, ⟨Int.natCast_nonneg _, hq'⟩, Int.le_refl _, by unfold roomT; omega⟩]
  unfold slotsT roomT Wd.pos Cfg.base
  rw [← hroom, ← hc, ← hh, Int.mul_add, Int.mul_add, Int.mul_one]
  have e2 : ((2 : Nat) : Int) = 2 := rfl
  simp only [Int.natCast_add, Int.natCast_mul, e2]
  omega

theorem header_at {k : Cfg} (hr : k.R = true) {q : Nat} (hq : q < k.S) (h : H) : C 261 [k.v, .int .i64 (q : Int)] h = some (.int .i64 ((Wd.header q).pos k : Nat), h) := by
  rw [← headerP_at hr hq]; exact header_spec _ _ _ _ _ _ _ h

end Wm
end

section
/- Rows of numbers, and memories of them: slices.Clone, mem.Of, mem.Words. -/
namespace Wm
attribute [local congr] bind_congr1
attribute [local irreducible] wr

theorem app_new {h : H} {e b bb o c : Nat} {x : V} {new : List V} {n : Nat} (hx : lenSl x = some n) (hn : h.slc e x = some new) (ho : h.slc e (.sl bb o 0 (.ex c)) = some []) (h1 : new.all V.one = true) (h2 : (n + n / 2 + 1000) * b ≤ 281474976710656) (he : 0 < e) (hb : 0 < b) (hc : c < n) :
    h.append e b (.sl bb o 0 (.ex c)) x = some (.sl h.next 0 n (.op e), h.new (.cells new (.gr e))) := by
  have := append_ex' (len := 0) (bb := bb) (o := o) (c := c) hx hn ho h1 (by simpa using h2) he hb (by omega)
  rw [this]; simp

theorem slc_zero {h : H} {e b o : Nat} {c : Cap} {cs : List V} {k : Bk} (hg : h.get b = some (.cells cs k)) (ho : o ≤ cs.length) : h.slc e (.sl b o 0 c) = some [] := by
  rw [slc_get hg (by simpa using ho)]; simp

theorem RowIs.slc {g : H} {x : V} {ws : List Int} (h : RowIs g.get x ws) (hne : ws ≠ []) : lenSl x = some ws.length ∧ g.slc 1 x = some (ws.map (.int .u64)) := by
  obtain ⟨_, ⟨_, rfl⟩ | ⟨b, c, k, rfl, hb⟩⟩ := h
  · exact absurd rfl hne
  · refine ⟨rfl, ?_⟩
    rw [slc_get hb (by rw [List.length_map]; omega), List.drop_zero, List.take_of_length_le (by rw [List.length_map]; omega)]
theorem ones_u64 (ws : List Int) : (ws.map (V.int .u64)).all V.one = true := by
  rw [List.all_map, List.all_eq_true]; intro _ _; rfl
theorem RowIs.fr {g g' : H} {L : List Nat} {x : V} {ws : List Int} (h : RowIs g.get x ws) (ok : g.ok) (f : Fr L g g') (hL : ∀ b c, x = .sl b 0 ws.length c → b ∉ L) : RowIs g'.get x ws := by
  obtain ⟨q, h1 | ⟨b, c, k, rfl, hb⟩⟩ := h
  · exact ⟨q, .inl h1⟩
  · exact ⟨q, .inr ⟨b, c, k, rfl, f.get ok hb (hL b c rfl)⟩⟩

theorem clone_spec {h : H} (ok : h.ok) {x : V} {ws : List Int} (hx : RowIs h.get x ws) (hne : ws ≠ []) (hl : ws.length ≤ 65536) :
    Ev (C 271 [x] h) fun r => ∃ q, r.1 = .sl q 0 ws.length (.op 1) ∧ Fr [] h r.2 ∧ h.next ≤ q ∧ r.2.get q = some (.cells (ws.map (.int .u64)) (.gr 1)) := by
  refine call_ev (af := F.slices_Clone___uint64_uint64_) (by kernel_rfl) rfl ?_
  rw [S.slices_Clone___uint64_uint64__eq]
  have hns : eqSl x .nilsl = some false := by
    obtain ⟨_, ⟨_, rfl⟩ | ⟨b, c, k, rfl, hb⟩⟩ := hx
    · exact absurd rfl hne
    · rfl
  have ok1 := ok.new (.cells [] .rw)
  obtain ⟨e1, e2⟩ := (RowIs.fr hx ok ((Fr.refl (L := []) ok).new (.cells [] .rw)) (by simp)).slc hne
  have hpos : 0 < ws.length := List.length_pos_iff.mpr hne
  have ha := app_new (e := 1) (b := 8) (bb := h.next) (o := 0) (c := 0) e1 e2 (slc_zero (get_new_self h _) (by simp)) (ones_u64 ws) (by omega) (by omega) (by omega) hpos
  simp only [S.slices_Clone___uint64_uint64_, eqV, hns, Option.bind_some, ha]
  exact Ev.some ⟨_, rfl, ((Fr.refl ok).new _).new _, by rw [H.next_new]; omega, get_new_self _ _⟩

theorem memOf_spec {h : H} (ok : h.ok) {x : V} {ws : List Int} (hx : RowIs h.get x ws) (hne : ws ≠ []) (hl : ws.length ≤ 65536) (hu : ∀ w ∈ ws, U64 w) :
    Ev (C 198 [x] h) fun r => ∃ p q, r.1 = .ptr p 0 ∧ Fr [] h r.2 ∧ h.next ≤ p ∧ h.next ≤ q ∧ MemAt r.2 p q ⟨ws, 0, ⟨0, 0, 0, 0⟩⟩ := by
  refine call_ev (af := F.mem_Of) (by kernel_rfl) rfl ?_
  rw [S.mem_Of_eq]
  obtain ⟨⟨v, g⟩, e, q, rfl, f, hq, hg⟩ := clone_spec ok hx hne hl
  have hl' : ¬ (65536 < ((ws.length : Nat) : Int)) := by omega
  simp only [S.mem_Of, hx.len, Option.bind_some, hl', decide_false, W_call, e, Option.bind_some, Nat.zero_add, Nat.reduceAdd, Nat.reduceLeDiff, V.cells, List.length_cons, List.length_nil, Nat.beq_refl, Bool.and_true, decide_true, decide_false, splice, List.take_zero, List.drop_succ_cons, List.drop_zero, List.cons_append, List.nil_append, fill, opd, boxc, W_call]
  have hqn : q ≠ g.next := f.ok.ne0 hg
  exact Ev.some ⟨g.next, q, rfl, f.new _, f.le, hq, ⟨hqn.symm, ⟨.op 1, get_new_self _ _⟩, ⟨.gr 1, by simp, by rw [get_new_ne hqn]; exact hg⟩, hu, hl⟩⟩

theorem MemAt.words {h : H} {b bw : Nat} {m : Mem} (M : MemAt h b bw m) (ok : h.ok) (hne : m.ws ≠ []) :
    Ev (C 94 [.ptr b 0] h) fun r => ∃ q, r.1 = .sl q 0 m.ws.length (.op 1) ∧ Fr [] h r.2 ∧ h.next ≤ q ∧ r.2.get q = some (.cells (m.ws.map (.int .u64)) (.gr 1)) := by
  obtain ⟨ne, ⟨c, ho⟩, ⟨k, hk, hr⟩, hu, hs⟩ := M
  refine call_ev (af := F.mem_Mem_Words) (by kernel_rfl) rfl ?_
  rw [S.mem_Mem_Words_eq]
  have hx : RowIs h.get (.sl bw 0 m.ws.length c) m.ws := ⟨by omega, .inr ⟨bw, c, k, rfl, hr⟩⟩
  obtain ⟨⟨v, g⟩, e, q, rfl, f, hq, hg⟩ := clone_spec ok hx hne hs
  simp only [S.mem_Mem_Words, nilc_ptr, eqPtr_ptr, ptrAt_ptr, Option.bind_some, ld1_get', ldB_cells, List.getElem?_cons_zero, Nat.add_zero, V.one, eqV, W_call, ho, e]
  exact Ev.some ⟨q, rfl, f, hq, hg⟩

/-- How many headers are gray. -/
def graysN (k : Cfg) (f : Wd → Int) : Nat := ((List.range k.S).filter fun q => grayW (f (.header q))).length
end Wm
end

section
/- Shades over words by what they are. -/
namespace Wm
attribute [local congr] bind_congr1
attribute [local irreducible] wr

section
variable {k : Cfg} {f : Wd → Int} {n : Int} {t : Touch} {l : Wd}
theorem Mem.there_row (hl : l.ok k) : (⟨k.row f, n, t⟩ : Mem).there (l.pos k : Nat) = true := by
  unfold Mem.there
  simp only [row_length, natlt (pos_lt hl), Bool.and_true]
  exact decide_eq_true (Int.natCast_nonneg _)
theorem Mem.w_row (hl : l.ok k) : (⟨k.row f, n, t⟩ : Mem).w (l.pos k : Nat) = f l := by
  unfold Mem.w; rw [Int.toNat_natCast, row_getD hl]
theorem Mem.touch_row (hl : l.ok k) (kd v : Int) : (⟨k.row f, n, t⟩ : Mem).touch kd (l.pos k : Nat) v = ⟨k.row (wset f l v), wr .i64 (n + 1), ⟨kd, (l.pos k : Nat), f l, v⟩⟩ := by
  unfold Mem.touch; rw [Mem.w_row hl, Int.toNat_natCast, row_set hl]
theorem wset_self : wset f l (f l) = f := by funext m; unfold wset; split; subst_vars; rfl; rfl
theorem Mem.val_row (hl : l.ok k) : (⟨k.row f, n, t⟩ : Mem).val (l.pos k : Nat) = f l := by
  unfold Mem.val; rw [Mem.there_row hl, if_pos rfl, Mem.w_row hl]
theorem Mem.load_row (hl : l.ok k) : (⟨k.row f, n, t⟩ : Mem).load (l.pos k : Nat) = ⟨k.row f, wr .i64 (n + 1), ⟨1, (l.pos k : Nat), f l, f l⟩⟩ := by
  unfold Mem.load; rw [Mem.there_row hl, if_pos rfl, Mem.w_row hl, Mem.touch_row hl, wset_self]
theorem Mem.store_row (hl : l.ok k) (v : Int) : (⟨k.row f, n, t⟩ : Mem).store (l.pos k : Nat) v = ⟨k.row (wset f l v), wr .i64 (n + 1), ⟨2, (l.pos k : Nat), f l, v⟩⟩ := by
  unfold Mem.store; rw [Mem.there_row hl, if_pos rfl, Mem.touch_row hl]
theorem Mem.swaps_row (hl : l.ok k) (old : Int) : (⟨k.row f, n, t⟩ : Mem).swaps (l.pos k : Nat) old = decide (f l = old) := by
  unfold Mem.swaps; rw [Mem.there_row hl, Mem.w_row hl, Bool.true_and]
theorem Mem.swap_row (hl : l.ok k) (old now : Int) : (⟨k.row f, n, t⟩ : Mem).swap (l.pos k : Nat) old now = ⟨k.row (if f l = old then wset f l now else f), wr .i64 (n + 1), ⟨3, (l.pos k : Nat), f l, if f l = old then now else f l⟩⟩ := by
  unfold Mem.swap; rw [Mem.there_row hl, if_pos rfl, Mem.w_row hl, Mem.touch_row hl]
  split
  · rfl
  · rw [wset_self]
end

/-- A memory whose words are these. -/
def MemF (h : H) (p pw : Nat) (k : Cfg) (f : Wd → Int) (n : Int) : Prop := ∃ t, MemAt h p pw ⟨k.row f, n, t⟩
theorem MemF.fr {h h' : H} {L : List Nat} {p pw : Nat} {k : Cfg} {f : Wd → Int} {n : Int} (M : MemF h p pw k f n) (ok : h.ok) (F : Fr L h h') (h1 : p ∉ L) (h2 : pw ∉ L) : MemF h' p pw k f n :=
  let ⟨t, m⟩ := M; ⟨t, m.fr ok F h1 h2⟩
theorem MemF.u64 {h : H} {p pw : Nat} {k : Cfg} {f : Wd → Int} {n : Int} (M : MemF h p pw k f n) {l : Wd} (hl : l.ok k) : U64 (f l) := by
  obtain ⟨t, m⟩ := M
  exact m.u64 _ (List.mem_of_getElem? (row_at hl))
theorem MemF.pos {h : H} {p pw : Nat} {k : Cfg} {f : Wd → Int} {n : Int} (M : MemF h p pw k f n) : k.row f ≠ [] := by
  intro q; have := row_length k f; rw [q] at this; unfold Cfg.size Cfg.base at this; simp only [List.length_nil] at this; omega
theorem MemF.lt {h : H} {p pw : Nat} {k : Cfg} {f : Wd → Int} {n : Int} (M : MemF h p pw k f n) (ok : h.ok) : p < h.next ∧ pw < h.next ∧ p ≠ pw := by
  obtain ⟨t, ne, ⟨c, ho⟩, ⟨kk, _, hr⟩, _, _⟩ := M
  exact ⟨ok.lt ho, ok.lt hr, ne⟩

theorem MemF.touches {h : H} {p pw : Nat} {k : Cfg} {f : Wd → Int} {n : Int} (M : MemF h p pw k f n) : C 107 [.ptr p 0] h = some (.int .i64 n, h) := by
  obtain ⟨t, m⟩ := M; exact m.touches
theorem MemF.words {h : H} {p pw : Nat} {k : Cfg} {f : Wd → Int} {n : Int} (M : MemF h p pw k f n) (ok : h.ok) :
    Ev (C 94 [.ptr p 0] h) fun r => ∃ q, r.1 = .sl q 0 k.size (.op 1) ∧ Fr [] h r.2 ∧ h.next ≤ q ∧ r.2.get q = some (.cells ((k.row f).map (.int .u64)) (.gr 1)) := by
  have hne := M.pos
  obtain ⟨t, m⟩ := M
  have := m.words ok hne
  simp only [row_length] at this
  exact this

end Wm
end

section
/- The memory and the book of when things took effect: what stands in them, and their functions. -/
namespace Wm
attribute [local congr] bind_congr1
attribute [local irreducible] wr

/-! ### The book -/
structure BookT where
  now : Int
  born : Int → Option Int
  turned : Int → Option Int
end Wm
end

section
/- Machines of a config that isn't right, and of none (Made). -/
namespace Wm

/-- A call that makes something of a config, or nothing. -/
def Made (o : Option (V × H)) (h : H) (b : Bool) : Prop := ∃ l v, o = some (v, h.ext l) ∧ match b with
  | true => ∃ p q, v = .ptr p q
  | false => v = .nilp

end Wm
end

section
/- A client's table that holds nothing. -/
namespace Wm

end Wm
end

section
/- Where words stand, as the program's plan tells; which slot a word names. -/
namespace Wm
attribute [local congr] bind_congr1
attribute [local irreducible] wr

theorem Cfg.ints {k : Cfg} (hr : k.R = true) : k.s = (k.S : Int) ∧ k.c = (k.C : Int) ∧ k.hd = (k.H : Int) ∧ max k.a 3 = (k.room : Int) := by
  have := Cfg.R_iff.mp hr
  refine ⟨by unfold Cfg.S; omega, by unfold Cfg.C; omega, by unfold Cfg.H; omega, ?_⟩
  unfold Cfg.room; split <;> omega

theorem withinP {k : Cfg} (hr : k.R = true) {q i : Nat} (hq : q < k.S) (hi : i < 2 + k.room) : withinT k.s k.a k.c k.hd k.g k.st (q : Int) (i : Int) = ((k.base + q * (2 + k.room) + i : Nat) : Int) := by
  obtain ⟨h1, h2, h3, h4⟩ := Cfg.ints hr
  unfold withinT
  rw [if_pos ⟨hr, ⟨Int.natCast_nonneg _, by omega⟩, Int.natCast_nonneg _, by unfold roomT; omega⟩]
  unfold slotsT roomT Cfg.base
  rw [h4, h2, h3, Int.mul_add, Int.mul_add, Int.mul_one]
  have e2 : ((2 : Nat) : Int) = 2 := rfl
  simp only [Int.natCast_add, Int.natCast_mul, e2]
  omega

theorem link_at {k : Cfg} (hr : k.R = true) {q : Nat} (hq : q < k.S) (h : H) : C 293 [k.v, .int .i64 (q : Int)] h = some (.int .i64 ((Wd.link q).pos k : Nat), h) := by
  refine call_closed (af := F.plan_Link) (by kernel_rfl) rfl (by rfl) (by rfl) h ?_
  have hv : k.v = .agg [.int .i64 k.s, .int .i64 k.a, .int .i64 k.c, .int .i64 k.hd, .int .i64 k.g, .int .i64 k.st] := rfl
  have e1 := withinP hr hq (show 1 < 2 + k.room by omega)
  have hw := fun h => within_spec k.s k.a k.c k.hd k.g k.st (q : Int) ((1 : Nat) : Int) h
  rw [e1] at hw
  rw [hv, S.plan_Link_eq]
  simp only [S.plan_Link, Option.bind_some, ldN_get', get_new', ldNB_cells, Nat.zero_add, Nat.reduceAdd, Nat.reduceLeDiff, List.length_cons, List.length_nil, decide_true, if_true, List.take_succ_cons, List.take_zero, List.drop_zero, W_call]
  rw [show (V.agg [.int .i64 k.s, .int .i64 k.a, .int .i64 k.c, .int .i64 k.hd, .int .i64 k.g, .int .i64 k.st]) = cfgV k.s k.a k.c k.hd k.g k.st from rfl, show (V.int .i64 1) = .int .i64 ((1 : Nat) : Int) from rfl, hw]
  exact Ev.some rfl

end Wm
end

section
/- Fields' machines over words by what they are: stamps, turns. -/
namespace Wm
attribute [local congr] bind_congr1
attribute [local irreducible] wr

/-- Where the memory and the book stand. -/
structure Adr where
  p : Nat
  pw : Nat
  bk : Nat
  m1 : Nat
  m2 : Nat
section
variable {h : H} {A : Adr} {k : Cfg} {f : Wd → Int} {n : Int} {B : BookT}
end

end Wm
end

section
/- Fields' machines: turns of the clock, the newest record of a field. -/
namespace Wm
attribute [local congr] bind_congr1
attribute [local irreducible] wr

/-- A slot's number; -1: none. -/
def sl (o : Option Nat) : Int := match o with
  | none => -1
  | some q => q
end Wm
end

section
/- Fields' machines: reads. -/
namespace Wm
attribute [local congr] bind_congr1
attribute [local irreducible] wr

end Wm
end

section
/- Fields' machines: a record is laid on a field. -/
namespace Wm
attribute [local congr] bind_congr1
attribute [local irreducible] wr

end Wm
end

section
/- Fields' machines: a field as it was in a view. -/
namespace Wm
attribute [local congr] bind_congr1
attribute [local irreducible] wr

end Wm
end

section
/- A machine alone: it goes on until it is over. Lays, reads and turns alone. -/
namespace Wm
attribute [local congr] bind_congr1
attribute [local irreducible] wr

/-- Steps until it is over, within so many. -/
def Go {X : Type} (st : X → X) (fin : X → Prop) : Nat → X → (X → Prop) → Prop
  | 0, _, _ => False
  | m + 1, x, Q => (fin (st x) ∧ Q (st x)) ∨ (¬ fin (st x) ∧ Go st fin m (st x) Q)
section
variable {X : Type} {st : X → X} {fin : X → Prop}
theorem Go.done {m : Nat} {x : X} {Q : X → Prop} (y : X) (h : st x = y) (hf : fin y) (hq : Q y) : Go st fin (m + 1) x Q := .inl ⟨h ▸ hf, h ▸ hq⟩
theorem Go.next {m : Nat} {x : X} {Q : X → Prop} (y : X) (h : st x = y) (hf : ¬ fin y) (hq : Go st fin m y Q) : Go st fin (m + 1) x Q := .inr ⟨h ▸ hf, h ▸ hq⟩
theorem Go.more {Q : X → Prop} : ∀ {m : Nat} {x : X} (j : Nat), Go st fin m x Q → Go st fin (m + j) x Q
  | 0, _, _, h => h.elim
  | m + 1, x, j, h => by
    rw [Nat.succ_add]
    rcases h with h | ⟨h1, h2⟩
    · exact .inl h
    · exact .inr ⟨h1, h2.more j⟩
end

end Wm
end

section
/- Sweeps: the machine, and whether a machine's work ends. -/
namespace Wm
attribute [local congr] bind_congr1
attribute [local irreducible] wr

structure Swp where
  gone : Nat
  slot : Nat
  was : Int
  loaded : Bool
def Swp.step (k : Cfg) (e : Int) (s : Swp) (f : Wd → Int) : Swp × (Wd → Int) :=
  if s.slot = k.S then (s, f)
  else if s.loaded then
    (if f (.header s.slot) = s.was then (⟨s.gone + 1, s.slot + 1, s.was, false⟩, wset f (.header s.slot) (retired s.was e))
    else (⟨s.gone, s.slot, s.was, false⟩, f))
  else (if white (f (.header s.slot)) e then ⟨s.gone, s.slot, f (.header s.slot), true⟩ else ⟨s.gone, s.slot + 1, f (.header s.slot), false⟩, f)
def Swp.works (k : Cfg) (s : Swp) : Bool := !decide (s.slot = k.S)
structure SwpAt (h : H) (b : Nat) (k : Cfg) (e : Int) (s : Swp) : Prop where
  own : h.get b = some (.cells [.int .i64 s.gone, .int .i64 k.s, .int .i64 k.a, .int .i64 k.c, .int .i64 k.hd, .int .i64 k.g, .int .i64 k.st, .int .u64 e, .int .i64 s.slot, .int .u64 s.was, .bool s.loaded] .rw)
  gone : s.gone ≤ s.slot
  slot : s.slot ≤ k.S
  lt : s.loaded = true → s.slot < k.S
  was : U64 s.was
theorem SwpAt.fr {h h' : H} {L : List Nat} {b : Nat} {k : Cfg} {e : Int} {s : Swp} (Z : SwpAt h b k e s) (ok : h.ok) (F : Fr L h h') (hb : b ∉ L) : SwpAt h' b k e s := ⟨F.get ok Z.own hb, Z.gone, Z.slot, Z.lt, Z.was⟩

theorem newSweep_spec {k : Cfg} (hr : k.R = true) (e : Int) {h : H} (ok : h.ok) :
    Ev (C 188 [k.v, .int .u64 e] h) fun r => ∃ b, r.1 = .ptr b 0 ∧ Fr [] h r.2 ∧ h.next ≤ b ∧ SwpAt r.2 b k e ⟨0, 0, 0, false⟩ := by
  refine call_ev (af := F.sweep_NewSweep) (by kernel_rfl) rfl ?_
  have hH : ∀ h, C 263 [.agg [.int .i64 k.s, .int .i64 k.a, .int .i64 k.c, .int .i64 k.hd, .int .i64 k.g, .int .i64 k.st]] h = some (.bool true, h) := fun h => by
    have := planRight_spec k.s k.a k.c k.hd k.g k.st h
    rw [show cfgR k.s k.a k.c k.hd k.g k.st = true from hr] at this; exact this
  have hv : k.v = .agg [.int .i64 k.s, .int .i64 k.a, .int .i64 k.c, .int .i64 k.hd, .int .i64 k.g, .int .i64 k.st] := rfl
  rw [hv, S.sweep_NewSweep_eq]
  simp only [S.sweep_NewSweep, Option.bind_some, ldN_get', get_new', ldNB_cells, H.next_new, Nat.zero_add, Nat.reduceAdd, Nat.reduceLeDiff, V.cells, asB_bool, List.length_cons, List.length_nil, Nat.beq_refl, Bool.and_true, Bool.true_and, Bool.not_true, decide_true, if_true, splice, List.take_succ_cons, List.take_zero, List.drop_succ_cons, List.drop_zero, List.cons_append, List.nil_append, fill, opd, boxc, W_call, hH]
  exact Ev.some ⟨_, rfl, ((Fr.refl ok).new _).new _, Nat.le_succ _, get_new_self _ _, Nat.le_refl 0, Nat.zero_le _, by simp, by decide, by decide⟩

theorem sw_i {i : Nat} (h : i ≤ 1000) : wr .i64 ((i : Int) + 1) = ((i + 1 : Nat) : Int) := by rw [wr64 (by omega) (by omega)]; rfl
theorem sw_eq (i S : Nat) : decide ((i : Int) = (S : Int)) = decide (i = S) := by congr 1; apply propext; omega

theorem MemF.load' {h : H} {p pw : Nat} {k : Cfg} {f : Wd → Int} {n : Int} (M : MemF h p pw k f n) (ok : h.ok) {l : Wd} (hl : l.ok k) :
    Ev (C 266 [.ptr p 0, .int .i64 (l.pos k : Nat)] h) fun r => r.1 = .int .u64 (f l) ∧ Fr [p, pw] h r.2 ∧ MemF r.2 p pw k f (wr .i64 (n + 1)) := by
  obtain ⟨t, m⟩ := M
  obtain ⟨h', e, F, M⟩ := m.load ok (l.pos k : Nat)
  rw [Mem.val_row hl] at e
  rw [Mem.load_row hl] at M
  exact ⟨_, e, rfl, F, _, M⟩
theorem MemF.store' {h : H} {p pw : Nat} {k : Cfg} {f : Wd → Int} {n : Int} (M : MemF h p pw k f n) (ok : h.ok) {l : Wd} (hl : l.ok k) {v : Int} (hv : U64 v) :
    Ev (C 203 [.ptr p 0, .int .i64 (l.pos k : Nat), .int .u64 v] h) fun r => r.1 = .bool true ∧ Fr [p, pw] h r.2 ∧ MemF r.2 p pw k (wset f l v) (wr .i64 (n + 1)) := by
  obtain ⟨t, m⟩ := M
  obtain ⟨h', e, F, M⟩ := m.store ok (l.pos k : Nat) hv
  rw [Mem.there_row hl] at e
  rw [Mem.store_row hl] at M
  exact ⟨_, e, rfl, F, _, M⟩
theorem MemF.swap' {h : H} {p pw : Nat} {k : Cfg} {f : Wd → Int} {n : Int} (M : MemF h p pw k f n) (ok : h.ok) {l : Wd} (hl : l.ok k) (old : Int) {v : Int} (hv : U64 v) :
    Ev (C 269 [.ptr p 0, .int .i64 (l.pos k : Nat), .int .u64 old, .int .u64 v] h) fun r => r.1 = .bool (decide (f l = old)) ∧ Fr [p, pw] h r.2 ∧ MemF r.2 p pw k (if f l = old then wset f l v else f) (wr .i64 (n + 1)) := by
  obtain ⟨t, m⟩ := M
  obtain ⟨h', e, F, M⟩ := m.swap ok (l.pos k : Nat) old hv
  rw [Mem.swaps_row hl] at e
  rw [Mem.swap_row hl] at M
  exact ⟨_, e, rfl, F, _, M⟩

theorem retired_U64 {w e : Int} (hw : U64 w) : U64 (retired w e) := by
  unfold retired
  split
  · exact word_U64 retiredH_right
  · exact hw

theorem SwpAt.step {h : H} (ok : h.ok) {k : Cfg} (hr : k.R = true) {e : Int} (he : U64 e) {p pw : Nat} {f : Wd → Int} {n : Int} {b : Nat} {s : Swp} (Z : SwpAt h b k e s) (M : MemF h p pw k f n) (h1 : b ≠ p) (h2 : b ≠ pw) :
    Ev (C 190 [.ptr b 0, .ptr p 0] h) fun r => r.1 = .bool (decide ((s.step k e f).1.slot = k.S)) ∧ Fr [b, p, pw] h r.2 ∧ SwpAt r.2 b k e (s.step k e f).1 ∧ MemF r.2 p pw k (s.step k e f).2 (if s.works k then wr .i64 (n + 1) else n) := by
  refine call_ev (af := F.sweep_Sweep_Step) (by kernel_rfl) rfl ?_
  rw [S.sweep_Sweep_Step_eq]
  have hbd := Cfg.bounds hr
  have hks : k.s = (k.S : Int) := by have := Cfg.R_iff.mp hr; unfold Cfg.S; omega
  obtain ⟨So, Sg, Ss, Sl, Sw⟩ := Z
  have hbl := ok.lt So
  obtain ⟨gone, slot, was, loaded⟩ := s
  simp only at So Sg Ss Sl Sw
  have d1 : decide ((slot : Int) = k.s) = decide (slot = k.S) := by rw [hks]; exact sw_eq slot k.S
  unfold Swp.step Swp.works
  simp only
  have hmp : ∀ {g g' : H}, Fr [p, pw] g g' → Fr [b, p, pw] g g' := fun F => F.mono (by simp)
  by_cases c0 : slot = k.S
  · rw [decide_eq_true c0] at d1
    have hw0 : (!decide (slot = k.S)) = false := by rw [decide_eq_true c0]; rfl
    rw [if_pos c0, hw0]
    have d9 : decide (slot = k.S) = true := decide_eq_true c0
    simp only [S.sweep_Sweep_Step, nilc_ptr, eqPtr_ptr, ptrAt_ptr, Option.bind_some, ld1_get', ldN_get', st_get', ldB_cells, ldNB_cells, List.getElem?_cons_zero, List.getElem?_cons_succ, Nat.zero_add, Nat.add_zero, Nat.reduceAdd, Nat.reduceLeDiff, V.one, V.cells, asI_int, List.length_cons, List.length_nil, Nat.beq_refl, decide_true, if_false, List.take_succ_cons, List.take_zero, List.drop_succ_cons, List.drop_zero, reduceCtorEq, eqV, W_call, So, d1]
    exact Ev.some ⟨by rw [d9], .refl ok, ⟨So, Sg, Ss, Sl, Sw⟩, M⟩
  rw [decide_eq_false c0] at d1
  rw [if_neg c0]
  have hlt : slot < k.S := Nat.lt_of_le_of_ne Ss c0
  have hok : (Wd.header slot).ok k := hlt
  have hH := header_at hr hlt
  have hv : k.v = .agg [.int .i64 k.s, .int .i64 k.a, .int .i64 k.c, .int .i64 k.hd, .int .i64 k.g, .int .i64 k.st] := rfl
  rw [hv] at hH
  have hw : (!decide (slot = k.S)) = true := by rw [decide_eq_false c0]; rfl
  have hs1000 : slot ≤ 1000 := Nat.le_trans Ss (Nat.le_trans hbd.1.2 (by decide))
  have ws := sw_i hs1000
  have wg := sw_i (Nat.le_trans Sg hs1000)
  have d2 : decide (((slot + 1 : Nat) : Int) = k.s) = decide (slot + 1 = k.S) := by rw [hks]; exact sw_eq _ _
  generalize hS1 : ((slot + 1 : Nat) : Int) = s1 at ws d2
  generalize hG1 : ((gone + 1 : Nat) : Int) = g1 at wg
  cases loaded with
  | true =>
    have hRt := fun h => retired_spec Sw he h
    have F1 : Fr [b] h (h.put b (some (.cells [.int .i64 gone, .int .i64 k.s, .int .i64 k.a, .int .i64 k.c, .int .i64 k.hd, .int .i64 k.g, .int .i64 k.st, .int .u64 e, .int .i64 slot, .int .u64 was, .bool false] .rw))) := (Fr.refl ok).put (.inl (by simp)) hbl _
    simp only [S.sweep_Sweep_Step, nilc_ptr, eqPtr_ptr, ptrAt_ptr, Option.bind_some, Option.map_some, ld1_get', ldN_get', st_get', get_put', ldB_cells, ldNB_cells, stB_cells, List.getElem?_cons_zero, List.getElem?_cons_succ, Nat.zero_add, Nat.add_zero, Nat.reduceAdd, Nat.reduceLeDiff, V.one, V.cells, asI_int, asB_bool, List.length_cons, List.length_nil, Nat.beq_refl, List.all_cons, List.all_nil, Bool.not_true, Bool.or_self, Bool.and_self, decide_true, decide_false, if_true, splice, List.take_succ_cons, List.take_zero, List.drop_succ_cons, List.drop_zero, List.cons_append, List.nil_append, reduceCtorEq, eqV, W_call, So, d1, hH, hRt]
    refine Ev.bind ((M.fr ok F1 (by simp [Ne.symm h1]) (by simp [Ne.symm h2])).swap' F1.ok hok was (retired_U64 Sw)) ?_
    rintro ⟨v, g⟩ ⟨rfl, F2, M2⟩
    dsimp only at F2 M2 ⊢
    have G2 := F2.get F1.ok (get_put_self _ _ _) (by simp [h1, h2])
    have hb2 := F2.lt (F1.lt hbl)
    by_cases hsw : f (.header slot) = was
    · rw [if_pos hsw] at M2 ⊢
      have d3 : decide (f (.header slot) = was) = true := decide_eq_true hsw
      have F3 : ∀ x, Fr [b] g (g.put b x) := fun x => (Fr.refl F2.ok).put (.inl (by simp)) hb2 _
      simp only [Option.bind_some, Option.map_some, get_put', put_put', ldB_cells, stB_cells, List.getElem?_cons_zero, List.getElem?_cons_succ, Nat.zero_add, Nat.reduceAdd, Nat.reduceLeDiff, V.one, asI_int, asB_bool, List.length_cons, List.length_nil, List.all_cons, List.all_nil, Bool.not_true, Bool.or_self, Bool.and_self, decide_true, decide_false, if_true, splice, List.take_succ_cons, List.take_zero, List.drop_succ_cons, List.drop_zero, List.cons_append, List.nil_append, reduceCtorEq, d3, G2, wg, ws, d2, hw]
      refine Ev.some ⟨rfl, ((F1.mono (by simp)).trans' (hmp F2)).trans' ((F3 _).mono (by simp)), ⟨?_, Nat.succ_le_succ Sg, hlt, by simp, Sw⟩, M2.fr F2.ok (F3 _) (by simp [Ne.symm h1]) (by simp [Ne.symm h2])⟩
      subst hS1 hG1
      exact get_put_self _ _ _
    · rw [if_neg hsw] at M2 ⊢
      have d3 : decide (f (.header slot) = was) = false := decide_eq_false hsw
      have d4 : decide (slot = k.S) = false := decide_eq_false c0
      simp only [Option.bind_some, Option.map_some, get_put', put_put', ldB_cells, stB_cells, List.getElem?_cons_zero, List.getElem?_cons_succ, Nat.zero_add, Nat.reduceAdd, Nat.reduceLeDiff, V.one, asI_int, asB_bool, List.length_cons, List.length_nil, List.all_cons, List.all_nil, Bool.not_true, Bool.not_false, Bool.or_self, Bool.and_self, decide_true, decide_false, if_true, splice, List.take_succ_cons, List.take_zero, List.drop_succ_cons, List.drop_zero, List.cons_append, List.nil_append, reduceCtorEq, d3, d1, d4, G2]
      exact Ev.some ⟨rfl, (F1.mono (by simp)).trans' (hmp F2), ⟨G2, Sg, Ss, by simp, Sw⟩, M2⟩
  | false =>
    simp only [S.sweep_Sweep_Step, nilc_ptr, eqPtr_ptr, ptrAt_ptr, Option.bind_some, ld1_get', ldN_get', st_get', ldB_cells, ldNB_cells, List.getElem?_cons_zero, List.getElem?_cons_succ, Nat.zero_add, Nat.add_zero, Nat.reduceAdd, Nat.reduceLeDiff, V.one, V.cells, asI_int, asB_bool, List.length_cons, List.length_nil, Nat.beq_refl, decide_true, if_false, List.take_succ_cons, List.take_zero, List.drop_succ_cons, List.drop_zero, reduceCtorEq, eqV, W_call, So, d1, hH]
    refine Ev.bind (M.load' ok hok) ?_
    rintro ⟨v, g⟩ ⟨rfl, F2, M2⟩
    dsimp only at F2 M2 ⊢
    have G2 := F2.get ok So (by simp [h1, h2])
    have hb2 := F2.lt hbl
    have hU := M.u64 hok
    have hRt := fun h => retired_spec hU he h
    have F3 : ∀ x, Fr [b] g (g.put b x) := fun x => (Fr.refl F2.ok).put (.inl (by simp)) hb2 _
    cases hwh : white (f (.header slot)) e with
    | true =>
      rw [hwh] at hRt
      have d4 : decide (slot = k.S) = false := decide_eq_false c0
      simp only [Option.bind_some, Option.map_some, get_put', put_put', ldB_cells, stB_cells, List.getElem?_cons_zero, List.getElem?_cons_succ, Nat.zero_add, Nat.reduceAdd, Nat.reduceLeDiff, V.one, asI_int, asB_bool, List.length_cons, List.length_nil, Nat.beq_refl, List.all_cons, List.all_nil, Bool.not_true, Bool.not_false, Bool.false_or, Bool.or_self, Bool.and_self, decide_true, decide_false, if_true, splice, List.take_succ_cons, List.take_zero, List.drop_succ_cons, List.drop_zero, List.cons_append, List.nil_append, reduceCtorEq, G2, hRt, d1, d4]
      exact Ev.some ⟨rfl, (hmp F2).trans' ((F3 _).mono (by simp)), ⟨get_put_self _ _ _, Sg, Ss, fun _ => hlt, hU⟩, M2.fr F2.ok (F3 _) (by simp [Ne.symm h1]) (by simp [Ne.symm h2])⟩
    | false =>
      rw [hwh] at hRt
      simp only [Option.bind_some, Option.map_some, get_put', put_put', ldB_cells, stB_cells, List.getElem?_cons_zero, List.getElem?_cons_succ, Nat.zero_add, Nat.reduceAdd, Nat.reduceLeDiff, V.one, asI_int, asB_bool, List.length_cons, List.length_nil, Nat.beq_refl, List.all_cons, List.all_nil, Bool.not_true, Bool.not_false, Bool.false_or, Bool.or_self, Bool.and_self, decide_true, decide_false, if_true, if_false, splice, List.take_succ_cons, List.take_zero, List.drop_succ_cons, List.drop_zero, List.cons_append, List.nil_append, reduceCtorEq, G2, hRt, ws, d2, hw, Bool.false_eq_true]
      refine Ev.some ⟨rfl, (hmp F2).trans' ((F3 _).mono (by simp)), ⟨?_, Nat.le_succ_of_le Sg, hlt, by simp, hU⟩, M2.fr F2.ok (F3 _) (by simp [Ne.symm h1]) (by simp [Ne.symm h2])⟩
      subst hS1
      exact get_put_self _ _ _

/-! ### A machine's work ends -/
theorem W_meth (t m : Nat) : W.meth t m = meth t m := rfl
theorem en_i {i m : Nat} {most : Int} (h : i < m) (hm : (m : Int) ≤ most) (h2 : m < 1000000) : decide ((i : Int) < most) = true ∧ wr .i64 ((i : Int) + 1) = ((i + 1 : Nat) : Int) := ⟨decide_eq_true (by omega), by rw [wr64 (by omega) (by omega)]; rfl⟩
theorem Go.pos {X : Type} {st : X → X} {fin : X → Prop} {m : Nat} {x : X} {Q : X → Prop} (G : Go st fin m x Q) : 0 < m := by
  cases m with
  | zero => exact G.elim
  | succ m => exact Nat.succ_pos m
theorem ends14 {X : Type} {st : X → X} {fin : X → Prop} [∀ x, Decidable (fin x)] {ty fn : Nat} (hm : meth ty 0 = some fn) {v : V} {p : Nat} {I : H → X → Prop} {tc : X → Int}
    (hstep : ∀ g x, I g x → ¬ fin x → Ev (C fn [v, .ptr p 0] g) fun r => r.1 = .bool (decide (fin (st x))) ∧ I r.2 (st x))
    (htouch : ∀ g x, I g x → C 107 [.ptr p 0] g = some (.int .i64 (tc x), g))
    (htc : ∀ g x, I g x → ¬ fin x → ¬ wr .i64 (tc x + 1) < tc (st x))
    {m : Nat} {most : Int} (hmost : (m : Int) ≤ most) (hm2 : m < 1000000) {x0 : X} {Q : X → Prop} (G : Go st fin m x0 Q) {g0 : H} (I0 : I g0 x0) (h0 : ¬ fin x0) :
    Ev (C 199 [.ifc ty v, .ptr p 0, .int .i64 most] g0) fun r => r.1 = .bool true ∧ ∃ y, Q y ∧ fin y ∧ I r.2 y := by
  refine call_ev (af := F.withylaw14_ends) (by kernel_rfl) rfl ?_
  rw [S.withylaw14_ends_eq]
  simp only [S.withylaw14_ends]
  refine loop_ev (α := Nat × X) (fun y => S.withylaw14_ends_c1_E (.ifc ty v) (.ptr p 0) (.int .i64 most) (.int .i64 (y.1 : Nat)))
    (fun y g => Go st fin (m - y.1) y.2 Q ∧ I g y.2 ∧ ¬ fin y.2) (fun y _ => m - y.1)
    (fun r => r.1 = .ret ∧ r.2.1 = S.withylaw14_ends_c1_O (.bool true) ∧ ∃ y, Q y ∧ fin y ∧ I r.2.2 y)
    (0, x0) rfl ⟨G, I0, h0⟩ ?_ ?_
  rotate_left
  · rintro ⟨_, _, g⟩ ⟨rfl, rfl, h⟩
    show Ev (S.withylaw14_ends_K2 W .ret _ g) _
    rw [S.withylaw14_ends_c1_r_eq]
    exact Ev.some ⟨rfl, h⟩
  rintro ⟨i, x⟩ g ⟨G, Ix, hf⟩
  dsimp only at G Ix hf ⊢
  rw [S.withylaw14_ends_c1_eq]
  have him : i < m := by have := G.pos; omega
  obtain ⟨d, wi⟩ := en_i him hmost hm2
  obtain ⟨j, hj⟩ : ∃ j, m - i = j + 1 := ⟨m - i - 1, by clear wi; omega⟩
  rw [hj] at G
  have ht := htouch g x Ix
  have hstp := hstep g x Ix hf
  have hlt : decide (wr .i64 (tc x + 1) < tc (st x)) = false := decide_eq_false (htc g x Ix hf)
  generalize tc x = t0 at ht hlt
  simp only [S.withylaw14_ends_c1_S, Option.bind_some, asI_int, W_call, d, ht, W_meth, hm]
  refine Ev.bind hstp ?_
  rintro ⟨_, g'⟩ ⟨rfl, Ix'⟩
  have ht' := htouch g' (st x) Ix'
  generalize tc (st x) = t1 at ht' hlt
  rcases G with ⟨h1, hq⟩ | ⟨h1, G1⟩
  · have d2 : decide (fin (st x)) = true := decide_eq_true h1
    simp only [Option.bind_some, asI_int, asB_bool, ht', hlt, d2]
    exact Ev.some (.inr ⟨by simp, rfl, rfl, st x, hq, h1, Ix'⟩)
  · have d2 : decide (fin (st x)) = false := decide_eq_false h1
    simp only [Option.bind_some, asI_int, asB_bool, ht', hlt, d2, wi]
    refine Ev.some (.inl ⟨(i + 1, st x), rfl, rfl, ⟨?_, Ix', h1⟩, ?_⟩)
    · show Go st fin (m - (i + 1)) (st x) Q
      rw [show m - (i + 1) = j by clear wi; omega]; exact G1
    · show m - (i + 1) < m - i
      clear wi; omega
end Wm
end

section
/- A slot is laid on the free list; a slot comes back. -/
namespace Wm
attribute [local congr] bind_congr1
attribute [local irreducible] wr

structure Psh where
  at' : Int
  top : Int
def Psh.step (k : Cfg) (q : Nat) (s : Psh) (f : Wd → Int) : Psh × (Wd → Int) :=
  if s.at' = 0 then (⟨1, f .top⟩, f)
  else if s.at' = 1 then (⟨2, s.top⟩, wset f (.link q) (firstT k s.top + 1))
  else if s.at' = 2 then (if f .top = s.top then (⟨3, s.top⟩, wset f .top (movedW s.top q)) else (⟨0, s.top⟩, f))
  else (s, f)
def Psh.works (s : Psh) : Bool := decide (s.at' = 0) || decide (s.at' = 1) || decide (s.at' = 2)
structure PshAt (h : H) (b : Nat) (k : Cfg) (q : Nat) (s : Psh) : Prop where
  own : h.get b = some (.cells [.int .i64 k.s, .int .i64 k.a, .int .i64 k.c, .int .i64 k.hd, .int .i64 k.g, .int .i64 k.st, .int .i64 q, .int .i64 s.at', .int .u64 s.top] .rw)
  top : U64 s.top
theorem PshAt.fr {h h' : H} {L : List Nat} {b : Nat} {k : Cfg} {q : Nat} {s : Psh} (Z : PshAt h b k q s) (ok : h.ok) (F : Fr L h h') (hb : b ∉ L) : PshAt h' b k q s := ⟨F.get ok Z.own hb, Z.top⟩

theorem newPush_spec {k : Cfg} (hr : k.R = true) {q : Nat} (hq : q < k.S) {h : H} (ok : h.ok) :
    Ev (C 410 [k.v, .int .i64 (q : Int)] h) fun r => ∃ b, r.1 = .ptr b 0 ∧ Fr [] h r.2 ∧ h.next ≤ b ∧ PshAt r.2 b k q ⟨0, 0⟩ := by
  refine call_ev (af := F.stack_NewPush) (by kernel_rfl) rfl ?_
  have hH : ∀ h, C 263 [.agg [.int .i64 k.s, .int .i64 k.a, .int .i64 k.c, .int .i64 k.hd, .int .i64 k.g, .int .i64 k.st]] h = some (.bool true, h) := fun h => by
    have := planRight_spec k.s k.a k.c k.hd k.g k.st h
    rw [show cfgR k.s k.a k.c k.hd k.g k.st = true from hr] at this; exact this
  have hks : k.s = (k.S : Int) := by have := Cfg.R_iff.mp hr; unfold Cfg.S; omega
  have hv : k.v = .agg [.int .i64 k.s, .int .i64 k.a, .int .i64 k.c, .int .i64 k.hd, .int .i64 k.g, .int .i64 k.st] := rfl
  have d0 : decide ((q : Int) < 0) = false := decide_eq_false (by omega)
  have d1 : decide (k.s ≤ (q : Int)) = false := decide_eq_false (by omega)
  rw [hv, S.stack_NewPush_eq]
  simp only [S.stack_NewPush, Option.bind_some, ld1_get', ldN_get', get_new', ldB_cells, ldNB_cells, H.next_new, List.getElem?_cons_zero, Nat.zero_add, Nat.reduceAdd, Nat.reduceLeDiff, V.one, V.cells, asI_int, asB_bool, List.length_cons, List.length_nil, Nat.beq_refl, Bool.and_true, Bool.true_and, Bool.not_true, decide_true, if_true, splice, List.take_succ_cons, List.take_zero, List.drop_succ_cons, List.drop_zero, List.cons_append, List.nil_append, fill, opd, boxc, W_call, hH, d0, d1]
  exact Ev.some ⟨_, rfl, ((Fr.refl ok).new _).new _, Nat.le_succ _, get_new_self _ _, by decide, by decide⟩

theorem firstT_bd {k : Cfg} (hr : k.R = true) {w : Int} (hw : U64 w) : -1 ≤ firstT k w ∧ firstT k w < 64 := by
  have := Cfg.R_iff.mp hr
  unfold firstT; split <;> omega
theorem ps_w {n : Int} (h0 : -1 ≤ n) (h1 : n < 64) : wr .u64 (wr .i64 (n + 1)) = n + 1 ∧ U64 (n + 1) := by
  refine ⟨?_, by omega, by omega⟩
  rw [wr64 (n := n + 1) (by omega) (by omega), wru64 (by omega) (by omega)]

theorem PshAt.step {h : H} (ok : h.ok) {k : Cfg} (hr : k.R = true) {q : Nat} (hq : q < k.S) {p pw : Nat} {f : Wd → Int} {n : Int} {b : Nat} {s : Psh} (Z : PshAt h b k q s) (M : MemF h p pw k f n) (h1 : b ≠ p) (h2 : b ≠ pw) :
    Ev (C 411 [.ptr b 0, .ptr p 0] h) fun r => r.1 = .bool (decide ((s.step k q f).1.at' = 3)) ∧ Fr [b, p, pw] h r.2 ∧ PshAt r.2 b k q (s.step k q f).1 ∧ MemF r.2 p pw k (s.step k q f).2 (if s.works then wr .i64 (n + 1) else n) := by
  refine call_ev (af := F.stack_Push_Step) (by kernel_rfl) rfl ?_
  rw [S.stack_Push_Step_eq]
  obtain ⟨So, St⟩ := Z
  have hbl := ok.lt So
  have hbd := Cfg.bounds hr
  obtain ⟨at', top⟩ := s
  simp only at So St
  unfold Psh.step Psh.works
  simp only
  have hmp : ∀ {g g' : H}, Fr [p, pw] g g' → Fr [b, p, pw] g g' := fun F => F.mono (by simp)
  have htop : (Wd.top).ok k := trivial
  have hv : k.v = .agg [.int .i64 k.s, .int .i64 k.a, .int .i64 k.c, .int .i64 k.hd, .int .i64 k.g, .int .i64 k.st] := rfl
  by_cases c0 : at' = 0
  · subst c0
    simp only [S.stack_Push_Step, nilc_ptr, eqPtr_ptr, ptrAt_ptr, Option.bind_some, Option.map_some, ld1_get', ldN_get', st_get', get_put', ldB_cells, ldNB_cells, stB_cells, List.getElem?_cons_zero, List.getElem?_cons_succ, Nat.zero_add, Nat.add_zero, Nat.reduceAdd, Nat.reduceLeDiff, Int.reduceEq, V.one, V.cells, asI_int, List.length_cons, List.length_nil, Nat.beq_refl, List.all_cons, List.all_nil, Bool.not_true, Bool.or_false, Bool.or_self, Bool.and_self, decide_true, decide_false, if_true, if_false, splice, List.take_succ_cons, List.take_zero, List.drop_succ_cons, List.drop_zero, List.cons_append, List.nil_append, reduceCtorEq, eqV, W_call, So]
    have hld := M.load' ok htop
    rw [show ((Wd.top.pos k : Nat) : Int) = 3 from rfl] at hld
    refine Ev.bind hld ?_
    rintro ⟨v, g⟩ ⟨rfl, F2, M2⟩
    dsimp only at F2 M2 ⊢
    have G2 := F2.get ok So (by simp [h1, h2])
    have hb2 := F2.lt hbl
    have F3 : ∀ x, Fr [b] g (g.put b x) := fun x => (Fr.refl F2.ok).put (.inl (by simp)) hb2 _
    simp only [Option.bind_some, Option.map_some, get_put', put_put', ldB_cells, stB_cells, List.getElem?_cons_zero, List.getElem?_cons_succ, Nat.zero_add, Nat.reduceAdd, Nat.reduceLeDiff, Int.reduceEq, V.one, asI_int, List.length_cons, List.length_nil, Nat.beq_refl, List.all_cons, List.all_nil, Bool.not_true, Bool.or_self, Bool.and_self, decide_true, decide_false, if_true, splice, List.take_succ_cons, List.take_zero, List.drop_succ_cons, List.drop_zero, List.cons_append, List.nil_append, reduceCtorEq, G2]
    exact Ev.some ⟨rfl, (hmp F2).trans' ((F3 _).mono (by simp)), ⟨get_put_self _ _ _, M.u64 htop⟩, M2.fr F2.ok (F3 _) (by simp [Ne.symm h1]) (by simp [Ne.symm h2])⟩
  · by_cases c1 : at' = 1
    · subst c1
      have hlok : (Wd.link q).ok k := hq
      have hL := fun h => link_at hr hq h
      have hF := fun h => first_spec k St h
      rw [hv] at hL hF
      obtain ⟨fb0, fb1⟩ := firstT_bd hr St
      obtain ⟨wf, uf⟩ := ps_w fb0 fb1
      generalize firstT k top = ft at hF wf uf
      simp only [S.stack_Push_Step, nilc_ptr, eqPtr_ptr, ptrAt_ptr, Option.bind_some, Option.map_some, ld1_get', ldN_get', st_get', get_put', ldB_cells, ldNB_cells, stB_cells, List.getElem?_cons_zero, List.getElem?_cons_succ, Nat.zero_add, Nat.add_zero, Nat.reduceAdd, Nat.reduceLeDiff, Int.reduceEq, V.one, V.cells, V.beq, V.beqs, ckB_some, asI_int, List.length_cons, List.length_nil, Nat.beq_refl, List.all_cons, List.all_nil, Bool.not_true, Bool.or_false, Bool.false_or, Bool.or_self, Bool.and_self, decide_true, decide_false, if_true, if_false, splice, List.take_succ_cons, List.take_zero, List.drop_succ_cons, List.drop_zero, List.cons_append, List.nil_append, reduceCtorEq, eqV, W_call, So, hL, hF, wf]
      refine Ev.bind (M.store' ok hlok uf) ?_
      rintro ⟨v, g⟩ ⟨rfl, F2, M2⟩
      dsimp only at F2 M2 ⊢
      have G2 := F2.get ok So (by simp [h1, h2])
      have hb2 := F2.lt hbl
      have F3 : ∀ x, Fr [b] g (g.put b x) := fun x => (Fr.refl F2.ok).put (.inl (by simp)) hb2 _
      simp only [Option.bind_some, Option.map_some, get_put', ldB_cells, stB_cells, List.getElem?_cons_zero, List.getElem?_cons_succ, Nat.zero_add, Nat.reduceAdd, Nat.reduceLeDiff, Int.reduceEq, V.one, asI_int, List.length_cons, List.length_nil, List.all_cons, List.all_nil, Bool.not_true, Bool.or_self, Bool.and_self, decide_true, decide_false, if_true, splice, List.take_succ_cons, List.take_zero, List.drop_succ_cons, List.drop_zero, List.cons_append, List.nil_append, reduceCtorEq, G2]
      exact Ev.some ⟨rfl, (hmp F2).trans' ((F3 _).mono (by simp)), ⟨get_put_self _ _ _, St⟩, M2.fr F2.ok (F3 _) (by simp [Ne.symm h1]) (by simp [Ne.symm h2])⟩
    · by_cases c2 : at' = 2
      · subst c2
        have hq64 : (q : Int) < 64 := by omega
        have hq0 : -1 ≤ (q : Int) := by omega
        have hMv := fun h => moved_spec St hq0 hq64 h
        have hMu := movedW_U64 (w := top) hq0 hq64
        have F1 : Fr [b] h (h.put b (some (.cells [.int .i64 k.s, .int .i64 k.a, .int .i64 k.c, .int .i64 k.hd, .int .i64 k.g, .int .i64 k.st, .int .i64 q, .int .i64 0, .int .u64 top] .rw))) := (Fr.refl ok).put (.inl (by simp)) hbl _
        have hsw := (M.fr ok F1 (by simp [Ne.symm h1]) (by simp [Ne.symm h2])).swap' F1.ok htop top hMu
        rw [show ((Wd.top.pos k : Nat) : Int) = 3 from rfl] at hsw
        simp only [S.stack_Push_Step, nilc_ptr, eqPtr_ptr, ptrAt_ptr, Option.bind_some, Option.map_some, ld1_get', ldN_get', st_get', get_put', ldB_cells, ldNB_cells, stB_cells, List.getElem?_cons_zero, List.getElem?_cons_succ, Nat.zero_add, Nat.add_zero, Nat.reduceAdd, Nat.reduceLeDiff, Int.reduceEq, V.one, V.cells, V.beq, ckB_some, asI_int, List.length_cons, List.length_nil, Nat.beq_refl, List.all_cons, List.all_nil, Bool.not_true, Bool.false_or, Bool.or_self, Bool.and_self, decide_true, decide_false, if_true, if_false, splice, List.take_succ_cons, List.take_zero, List.drop_succ_cons, List.drop_zero, List.cons_append, List.nil_append, reduceCtorEq, eqV, W_call, So, hMv]
        refine Ev.bind hsw ?_
        rintro ⟨v, g⟩ ⟨rfl, F2, M2⟩
        dsimp only at F2 M2 ⊢
        have G2 := F2.get F1.ok (get_put_self _ _ _) (by simp [h1, h2])
        have hb2 := F2.lt (F1.lt hbl)
        have F3 : ∀ x, Fr [b] g (g.put b x) := fun x => (Fr.refl F2.ok).put (.inl (by simp)) hb2 _
        by_cases hz : f .top = top
        · have d : decide (f .top = top) = true := decide_eq_true hz
          rw [if_pos hz] at M2
          simp only [Option.bind_some, Option.map_some, get_put', ldB_cells, stB_cells, List.getElem?_cons_zero, List.getElem?_cons_succ, Nat.zero_add, Nat.reduceAdd, Nat.reduceLeDiff, Int.reduceEq, V.one, asI_int, asB_bool, List.length_cons, List.length_nil, List.all_cons, List.all_nil, Bool.not_true, Bool.or_self, Bool.and_self, decide_true, decide_false, if_true, splice, List.take_succ_cons, List.take_zero, List.drop_succ_cons, List.drop_zero, List.cons_append, List.nil_append, reduceCtorEq, hz, G2]
          exact Ev.some ⟨rfl, ((F1.mono (by simp)).trans' (hmp F2)).trans' ((F3 _).mono (by simp)), ⟨get_put_self _ _ _, St⟩, M2.fr F2.ok (F3 _) (by simp [Ne.symm h1]) (by simp [Ne.symm h2])⟩
        · have d : decide (f .top = top) = false := decide_eq_false hz
          rw [if_neg hz] at M2
          simp only [Option.bind_some, Option.map_some, get_put', ldB_cells, stB_cells, List.getElem?_cons_zero, List.getElem?_cons_succ, Nat.zero_add, Nat.reduceAdd, Nat.reduceLeDiff, Int.reduceEq, V.one, asI_int, asB_bool, List.length_cons, List.length_nil, List.all_cons, List.all_nil, Bool.not_true, Bool.or_self, Bool.and_self, decide_true, decide_false, if_true, if_false, splice, List.take_succ_cons, List.take_zero, List.drop_succ_cons, List.drop_zero, List.cons_append, List.nil_append, reduceCtorEq, hz, G2]
          exact Ev.some ⟨rfl, (F1.mono (by simp)).trans' (hmp F2), ⟨G2, St⟩, M2⟩
      · have d0 : decide (at' = 0) = false := decide_eq_false c0
        have d1 : decide (at' = 1) = false := decide_eq_false c1
        have d2 : decide (at' = 2) = false := decide_eq_false c2
        rw [if_neg c0, if_neg c1, if_neg c2]
        simp only [S.stack_Push_Step, nilc_ptr, eqPtr_ptr, ptrAt_ptr, Option.bind_some, Option.map_some, ld1_get', ldN_get', st_get', get_put', ldB_cells, ldNB_cells, stB_cells, List.getElem?_cons_zero, List.getElem?_cons_succ, Nat.zero_add, Nat.add_zero, Nat.reduceAdd, Nat.reduceLeDiff, V.one, V.cells, asI_int, List.length_cons, List.length_nil, Nat.beq_refl, List.all_cons, List.all_nil, Bool.not_true, Bool.or_self, Bool.and_self, decide_true, decide_false, if_true, if_false, splice, List.take_succ_cons, List.take_zero, List.drop_succ_cons, List.drop_zero, List.cons_append, List.nil_append, reduceCtorEq, eqV, W_call, So, d0, d1, d2]
        exact Ev.some ⟨rfl, .refl ok, ⟨So, St⟩, by simpa [d0, d1, d2] using M⟩

/-! ### A slot comes back -/
structure Fre where
  back : Bool
  gone : Bool
  now : Int
  push : Option Psh
  next : Int
def Fre.step (k : Cfg) (q : Nat) (s : Fre) (f : Wd → Int) : Fre × (Wd → Int) :=
  if s.next = 1 then ({ s with now := freed (f (.header q)) k.g, next := if limbo (f (.header q)) then 3 else 5 }, f)
  else if s.next = 3 then
    ((if (unp s.now).kind = 4 then { s with push := some ⟨0, 0⟩, gone := true, next := 5 } else { s with push := some ⟨0, 0⟩, next := 4 }), wset f (.header q) s.now)
  else if s.next = 4 then
    (match s.push with
    | some t => ((if (t.step k q f).1.at' = 3 then { s with push := some (t.step k q f).1, back := true, next := 5 } else { s with push := some (t.step k q f).1 }), (t.step k q f).2)
    | none => (s, f))
  else (s, f)
def Fre.works (s : Fre) : Bool := decide (s.next = 1) || decide (s.next = 3) || (decide (s.next = 4) && (match s.push with | some t => t.works | none => false))
/-- Its push. -/
def FrePush (h : H) (k : Cfg) (q : Nat) (s : Fre) (pv : V) (L : List Nat) : Prop := (s.push = none ∧ pv = .nilp ∧ L = []) ∨ ∃ pb t, s.push = some t ∧ pv = .ptr pb 0 ∧ L = [pb] ∧ PshAt h pb k q t
structure FreAt (h : H) (b : Nat) (k : Cfg) (q : Nat) (s : Fre) (L : List Nat) : Prop where
  own : ∃ pv L0, h.get b = some (.cells [.bool s.back, .bool s.gone, .int .i64 k.s, .int .i64 k.a, .int .i64 k.c, .int .i64 k.hd, .int .i64 k.g, .int .i64 k.st, .int .i64 q, .int .u64 s.now, pv, .int .i64 s.next] .rw) ∧ FrePush h k q s pv L0 ∧ b ∉ L0 ∧ L = b :: L0
  now : U64 s.now
  four : s.next = 4 → s.push ≠ none
theorem FrePush.fr {h h' : H} {M : List Nat} {k : Cfg} {q : Nat} {s : Fre} {pv : V} {L : List Nat} (Z : FrePush h k q s pv L) (ok : h.ok) (F : Fr M h h') (hd : ∀ c ∈ L, c ∉ M) : FrePush h' k q s pv L := by
  rcases Z with h0 | ⟨pb, t, h1, h2, rfl, h4⟩
  · exact .inl h0
  · exact .inr ⟨pb, t, h1, h2, rfl, h4.fr ok F (hd pb (by simp))⟩
theorem FrePush.lt {h : H} {k : Cfg} {q : Nat} {s : Fre} {pv : V} {L : List Nat} (Z : FrePush h k q s pv L) (ok : h.ok) : ∀ c ∈ L, c < h.next := by
  rcases Z with ⟨_, _, rfl⟩ | ⟨pb, t, h1, h2, rfl, h4⟩
  · simp
  · simp [ok.lt h4.own]
theorem FreAt.fr {h h' : H} {L M : List Nat} {b : Nat} {k : Cfg} {q : Nat} {s : Fre} (Z : FreAt h b k q s L) (ok : h.ok) (F : Fr M h h') (hd : ∀ c ∈ L, c ∉ M) : FreAt h' b k q s L := by
  obtain ⟨⟨pv, L0, o, P, hb, rfl⟩, h1, h2⟩ := Z
  exact ⟨⟨pv, L0, F.get ok o (hd b (by simp)), P.fr ok F (fun c hc => hd c (by simp [hc])), hb, rfl⟩, h1, h2⟩
theorem FreAt.mem {h : H} {L : List Nat} {b : Nat} {k : Cfg} {q : Nat} {s : Fre} (Z : FreAt h b k q s L) (ok : h.ok) : b ∈ L ∧ ∀ c ∈ L, c < h.next := by
  obtain ⟨⟨pv, L0, o, P, hb, rfl⟩, h1, h2⟩ := Z
  refine ⟨by simp, fun c hc => ?_⟩
  rcases List.mem_cons.mp hc with rfl | hc
  · exact ok.lt o
  · exact P.lt ok c hc

theorem newFree_spec {k : Cfg} (hr : k.R = true) {q : Nat} (hq : q < k.S) {h : H} (ok : h.ok) :
    Ev (C 341 [k.v, .int .i64 (q : Int)] h) fun r => ∃ b L, r.1 = .ptr b 0 ∧ Fr [] h r.2 ∧ (∀ c ∈ L, h.next ≤ c) ∧ FreAt r.2 b k q ⟨false, false, 0, none, 1⟩ L := by
  refine call_ev (af := F.arena_NewFree) (by kernel_rfl) rfl ?_
  have hH := fun h => header_at hr hq h
  have hv : k.v = .agg [.int .i64 k.s, .int .i64 k.a, .int .i64 k.c, .int .i64 k.hd, .int .i64 k.g, .int .i64 k.st] := rfl
  rw [hv] at hH
  have d0 : decide ((((Wd.header q).pos k : Nat) : Int) < 0) = false := decide_eq_false (Int.not_lt.mpr (Int.natCast_nonneg _))
  rw [hv, S.arena_NewFree_eq]
  simp only [S.arena_NewFree, Option.bind_some, ldN_get', get_new', ldNB_cells, H.next_new, Nat.zero_add, Nat.reduceAdd, Nat.reduceLeDiff, V.cells, asI_int, List.length_cons, List.length_nil, Nat.beq_refl, Bool.and_true, Bool.true_and, decide_true, if_true, splice, List.take_succ_cons, List.take_zero, List.drop_succ_cons, List.drop_zero, List.cons_append, List.nil_append, fill, opd, boxc, W_call, hH, d0]
  exact Ev.some ⟨h.next + 1, [h.next + 1], rfl, ((Fr.refl ok).new _).new _, by simp, ⟨.nilp, [], get_new_self _ _, .inl ⟨rfl, rfl, rfl⟩, by simp, rfl⟩, ⟨by show (0 : Int) ≤ 0; decide, by show (0 : Int) < _; decide⟩, by simp⟩

theorem freed_U64 {w gens : Int} (hw : U64 w) : U64 (freed w gens) := by
  unfold freed
  by_cases hl : limbo w
  · rw [if_pos hl]
    obtain ⟨h1, h2, h3, h4, h5⟩ := (right_iff _).mp (unp_right w)
    split
    · exact word_U64 ((right_iff _).mpr ⟨by simp, h2, h3, h4, h5⟩)
    · rename_i hg
      exact word_U64 ((right_iff _).mpr ⟨by simp, by simp, by simp, by simp only; omega, by simp⟩)
  · rw [if_neg hl]; exact hw

theorem FreAt.step {h : H} (ok : h.ok) {k : Cfg} (hr : k.R = true) {q : Nat} (hq : q < k.S) {p pw : Nat} {f : Wd → Int} {n : Int} {b : Nat} {s : Fre} {L : List Nat} (Z : FreAt h b k q s L) (M : MemF h p pw k f n) (hL : ∀ c ∈ L, c ≠ p ∧ c ≠ pw) :
    Ev (C 342 [.ptr b 0, .ptr p 0] h) fun r => r.1 = .bool (decide ((s.step k q f).1.next = 5)) ∧ ∃ L', Fr (L ++ [p, pw]) h r.2 ∧ FreAt r.2 b k q (s.step k q f).1 L' ∧ (∀ c ∈ L', c ∈ L ∨ h.next ≤ c) ∧ MemF r.2 p pw k (s.step k q f).2 (if s.works then wr .i64 (n + 1) else n) := by
  refine call_ev (af := F.arena_Free_Step) (by kernel_rfl) rfl ?_
  rw [S.arena_Free_Step_eq]
  obtain ⟨hbL, hlt⟩ := Z.mem ok
  obtain ⟨h1, h2⟩ := hL b hbL
  have hbl := hlt b hbL
  obtain ⟨⟨pv, L0, So, P, hb0, rfl⟩, Sn, S4⟩ := Z
  have hbd := Cfg.bounds hr
  obtain ⟨back, gone, now, push, next⟩ := s
  simp only at So Sn S4
  unfold Fre.step Fre.works
  simp only
  have hmp : ∀ {g g' : H}, Fr [p, pw] g g' → Fr (b :: L0 ++ [p, pw]) g g' := fun F => F.mono (by simp)
  have hmb : ∀ {g g' : H}, Fr [b] g g' → Fr (b :: L0 ++ [p, pw]) g g' := fun F => F.mono (by simp)
  have hhok : (Wd.header q).ok k := hq
  have hH := fun h => header_at hr hq h
  have hv : k.v = .agg [.int .i64 k.s, .int .i64 k.a, .int .i64 k.c, .int .i64 k.hd, .int .i64 k.g, .int .i64 k.st] := rfl
  rw [hv] at hH
  have pv1 : V.one pv = true ∧ pv.cells = [pv] := by
    rcases P with ⟨_, rfl, _⟩ | ⟨pb, t, _, rfl, _⟩ <;> exact ⟨rfl, rfl⟩
  have hL0 : ∀ c ∈ L0, c ∉ [b] := fun c hc h => hb0 (by simp only [List.mem_singleton] at h; rw [← h]; exact hc)
  have hLp : ∀ c ∈ L0, c ∉ [p, pw] := fun c hc h => by
    have := hL c (by simp [hc])
    simp only [List.mem_cons, List.not_mem_nil, or_false] at h
    rcases h with rfl | rfl
    · exact this.1 rfl
    · exact this.2 rfl
  by_cases c1 : next = 1
  · subst c1
    have hU := M.u64 hhok
    have hFr := fun h => freed_spec (gens := k.g) hU h
    have hUf := freed_U64 (gens := k.g) hU
    simp only [S.arena_Free_Step, nilc_ptr, eqPtr_ptr, ptrAt_ptr, Option.bind_some, ld1_get', ldN_get', st_get', get_new', ldB_cells, ldNB_cells, stB_cells, List.getElem?_cons_zero, List.getElem?_cons_succ, Nat.zero_add, Nat.add_zero, Nat.reduceAdd, Nat.reduceLeDiff, Int.reduceEq, V.one, V.cells, V.beq, ckB_some, asI_int, List.length_cons, List.length_nil, Nat.beq_refl, Bool.false_and, Bool.or_false, Bool.false_or, Bool.and_self, decide_true, decide_false, if_true, if_false, splice, List.take_succ_cons, List.take_zero, List.drop_succ_cons, List.drop_zero, List.cons_append, List.nil_append, reduceCtorEq, eqV, W_call, So, hH]
    refine Ev.bind (M.load' ok hhok) ?_
    rintro ⟨v, g⟩ ⟨rfl, F2, M2⟩
    dsimp only at F2 M2 ⊢
    have G2 := F2.get ok So (by simp [h1, h2])
    have hb2 := F2.lt hbl
    have F3 : ∀ x, Fr [b] g (g.put b x) := fun x => (Fr.refl F2.ok).put (.inl (by simp)) hb2 _
    have P2 := P.fr ok F2 hLp
    cases hl : limbo (f (.header q)) with
    | true =>
      rw [hl] at hFr
      simp only [Option.bind_some, Option.map_some, get_put', put_put', ldB_cells, stB_cells, List.getElem?_cons_zero, List.getElem?_cons_succ, Nat.zero_add, Nat.reduceAdd, Nat.reduceLeDiff, Int.reduceEq, V.one, V.beq, ckB_some, asI_int, asB_bool, List.length_cons, List.length_nil, Nat.beq_refl, List.all_cons, List.all_nil, Bool.not_true, Bool.false_or, Bool.or_self, Bool.and_self, decide_true, decide_false, if_true, splice, List.take_succ_cons, List.take_zero, List.drop_succ_cons, List.drop_zero, List.cons_append, List.nil_append, reduceCtorEq, G2, hFr]
      exact Ev.some ⟨rfl, b :: L0, (hmp F2).trans' (hmb (F3 _)), ⟨⟨pv, L0, get_put_self _ _ _, P2.fr F2.ok (F3 _) hL0, hb0, rfl⟩, hUf, by simp⟩, fun c hc => .inl hc, M2.fr F2.ok (F3 _) (by simp [Ne.symm h1]) (by simp [Ne.symm h2])⟩
    | false =>
      rw [hl] at hFr
      simp only [Option.bind_some, Option.map_some, get_put', put_put', ldB_cells, stB_cells, List.getElem?_cons_zero, List.getElem?_cons_succ, Nat.zero_add, Nat.reduceAdd, Nat.reduceLeDiff, V.one, V.beq, ckB_some, asI_int, asB_bool, List.length_cons, List.length_nil, Nat.beq_refl, List.all_cons, List.all_nil, Bool.not_true, Bool.not_false, Bool.false_or, Bool.or_self, Bool.and_self, decide_true, decide_false, if_true, if_false, splice, List.take_succ_cons, List.take_zero, List.drop_succ_cons, List.drop_zero, List.cons_append, List.nil_append, reduceCtorEq, G2, hFr, Bool.false_eq_true]
      exact Ev.some ⟨rfl, b :: L0, (hmp F2).trans' (hmb (F3 _)), ⟨⟨pv, L0, get_put_self _ _ _, P2.fr F2.ok (F3 _) hL0, hb0, rfl⟩, hUf, by simp⟩, fun c hc => .inl hc, M2.fr F2.ok (F3 _) (by simp [Ne.symm h1]) (by simp [Ne.symm h2])⟩
  · have d1 : decide (next = 1) = false := decide_eq_false c1
    rw [if_neg c1]
    by_cases c3 : next = 3
    · subst c3
      have hUn := fun h => unpack_spec Sn h
      have hkk : (unp now).cs = [.int .i64 (unp now).kind, .int .i64 (unp now).mark, .bool (unp now).gray, .int .i64 (unp now).arity, .int .i64 (unp now).gen, .int .i64 (unp now).stamp] := rfl
      rw [hkk] at hUn
      simp only [S.arena_Free_Step, nilc_ptr, eqPtr_ptr, ptrAt_ptr, Option.bind_some, ld1_get', ldN_get', st_get', get_new', ldB_cells, ldNB_cells, stB_cells, List.getElem?_cons_zero, List.getElem?_cons_succ, Nat.zero_add, Nat.add_zero, Nat.reduceAdd, Nat.reduceLeDiff, Int.reduceEq, V.one, V.cells, V.beq, ckB_some, asI_int, List.length_cons, List.length_nil, Nat.beq_refl, Bool.false_and, Bool.or_false, Bool.false_or, Bool.and_self, decide_true, decide_false, if_true, if_false, splice, List.take_succ_cons, List.take_zero, List.drop_succ_cons, List.drop_zero, List.cons_append, List.nil_append, reduceCtorEq, eqV, W_call, So, hH]
      refine Ev.bind (M.store' ok hhok Sn) ?_
      rintro ⟨v, g⟩ ⟨rfl, F2, M2⟩
      dsimp only at F2 M2 ⊢
      have G2 := F2.get ok So (by simp [h1, h2])
      have hb2 := F2.lt hbl
      have hNP := newPush_spec hr hq F2.ok
      rw [hv] at hNP
      simp only [Option.bind_some, ldB_cells, ldNB_cells, List.getElem?_cons_zero, List.getElem?_cons_succ, Nat.zero_add, Nat.reduceAdd, Nat.reduceLeDiff, V.one, List.length_cons, List.length_nil, decide_true, List.take_succ_cons, List.take_zero, List.drop_succ_cons, List.drop_zero, G2]
      refine Ev.bind hNP ?_
      rintro ⟨v, g3⟩ ⟨pb, rfl, F3, hpb, T3⟩
      dsimp only at F3 T3 ⊢
      have ok3 := F3.ok
      have G3 := F3.get F2.ok G2 (by simp)
      have hb3 := F3.lt hb2
      have npb : pb ≠ b := Nat.ne_of_gt (Nat.lt_of_lt_of_le hb2 hpb)
      have npb' : b ≠ pb := npb.symm
      have hle : h.next ≤ pb := Nat.le_trans F2.le hpb
      have nbn : b ≠ g3.next := Nat.ne_of_lt hb3
      have npn : pb ≠ g3.next := Nat.ne_of_lt (ok3.lt T3.own)
      have ne1 : p ≠ b ∧ pw ≠ b := ⟨Ne.symm h1, Ne.symm h2⟩
      have M3 := M2.fr F2.ok F3 (by simp) (by simp)
      have F03 : Fr (b :: L0 ++ [p, pw]) h g3 := (hmp F2).trans F3 (by simp)
      have hn3 : ∀ x, (g3.put b x).next = g3.next := fun x => rfl
      by_cases hk4 : (unp now).kind = 4
      · have d4 : decide ((unp now).kind = 4) = true := decide_eq_true hk4
        simp only [Option.bind_some, Option.map_some, get_put', get_new', put_put', ldB_cells, stB_cells, H.next_put, List.getElem?_cons_zero, List.getElem?_cons_succ, Nat.zero_add, Nat.reduceAdd, Nat.reduceLeDiff, Int.reduceEq, V.one, asI_int, List.length_cons, List.length_nil, Nat.beq_refl, List.all_cons, List.all_nil, Bool.not_true, Bool.or_self, Bool.and_self, decide_true, decide_false, if_true, if_false, splice, List.take_succ_cons, List.take_zero, List.drop_succ_cons, List.drop_zero, List.cons_append, List.nil_append, reduceCtorEq, G3, hUn, hk4, nbn]
        generalize hX : ((((g3.put b _).new _).put g3.next _).put b _) = gX
        have FX : Fr [b] g3 gX := by
          rw [← hX]
          exact (((Fr.refl ok3).put (.inl (by simp)) hb3 _).new _ |>.put (.inr (Nat.le_refl _)) (by show g3.next < g3.next + 1; omega) _).put (.inl (by simp)) (by show b < g3.next + 1; omega) _
        have oX : gX.get b = some (.cells [.bool back, .bool true, .int .i64 k.s, .int .i64 k.a, .int .i64 k.c, .int .i64 k.hd, .int .i64 k.g, .int .i64 k.st, .int .i64 q, .int .u64 now, .ptr pb 0, .int .i64 5] .rw) := by rw [← hX]; exact get_put_self _ _ _
        exact Ev.some ⟨rfl, [b, pb], F03.trans' (hmb FX), ⟨⟨.ptr pb 0, [pb], oX, .inr ⟨pb, _, rfl, rfl, rfl, T3.fr ok3 FX (by simp [npb])⟩, by simp [npb'], rfl⟩, Sn, by simp⟩, fun c hc => by
          simp only [List.mem_cons, List.not_mem_nil, or_false] at hc
          rcases hc with rfl | rfl
          · exact .inl (by simp)
          · exact .inr hle, M3.fr ok3 FX (by simp [ne1.1]) (by simp [ne1.2])⟩
      · have d4 : decide ((unp now).kind = 4) = false := decide_eq_false hk4
        simp only [Option.bind_some, Option.map_some, get_put', get_new', put_put', ldB_cells, stB_cells, H.next_put, List.getElem?_cons_zero, List.getElem?_cons_succ, Nat.zero_add, Nat.reduceAdd, Nat.reduceLeDiff, Int.reduceEq, V.one, asI_int, List.length_cons, List.length_nil, Nat.beq_refl, List.all_cons, List.all_nil, Bool.not_true, Bool.or_self, Bool.and_self, decide_true, decide_false, if_true, if_false, splice, List.take_succ_cons, List.take_zero, List.drop_succ_cons, List.drop_zero, List.cons_append, List.nil_append, reduceCtorEq, G3, hUn, hk4, nbn]
        generalize hX : (((g3.put b _).new _).put g3.next _) = gX
        have FX : Fr [b] g3 gX := by
          rw [← hX]
          exact (((Fr.refl ok3).put (.inl (by simp)) hb3 _).new _ |>.put (.inr (Nat.le_refl _)) (by show g3.next < g3.next + 1; omega) _)
        have oX : gX.get b = some (.cells [.bool back, .bool gone, .int .i64 k.s, .int .i64 k.a, .int .i64 k.c, .int .i64 k.hd, .int .i64 k.g, .int .i64 k.st, .int .i64 q, .int .u64 now, .ptr pb 0, .int .i64 4] .rw) := by
          rw [← hX]; simp only [get_put', get_new', H.next_put, if_true, if_false, nbn]
        exact Ev.some ⟨rfl, [b, pb], F03.trans' (hmb FX), ⟨⟨.ptr pb 0, [pb], oX, .inr ⟨pb, _, rfl, rfl, rfl, T3.fr ok3 FX (by simp [npb])⟩, by simp [npb'], rfl⟩, Sn, by simp⟩, fun c hc => by
          simp only [List.mem_cons, List.not_mem_nil, or_false] at hc
          rcases hc with rfl | rfl
          · exact .inl (by simp)
          · exact .inr hle, M3.fr ok3 FX (by simp [ne1.1]) (by simp [ne1.2])⟩
    · have d3 : decide (next = 3) = false := decide_eq_false c3
      rw [if_neg c3]
      by_cases c4 : next = 4
      · subst c4
        rcases P with ⟨hn, _⟩ | ⟨pb, t, hps, rfl, rfl, T⟩
        · exact absurd hn (S4 rfl)
        have hps : push = some t := hps
        subst hps
        have npb : pb ≠ b := fun h => hb0 (by simp [h])
        obtain ⟨np1, np2⟩ := hL pb (by simp)
        simp only [S.arena_Free_Step, nilc_ptr, eqPtr_ptr, ptrAt_ptr, Option.bind_some, ld1_get', ldN_get', st_get', get_new', ldB_cells, ldNB_cells, stB_cells, List.getElem?_cons_zero, List.getElem?_cons_succ, Nat.zero_add, Nat.add_zero, Nat.reduceAdd, Nat.reduceLeDiff, Int.reduceEq, V.one, V.cells, asI_int, List.length_cons, List.length_nil, Nat.beq_refl, Bool.true_and, Bool.false_or, Bool.or_self, decide_true, decide_false, if_true, splice, List.take_succ_cons, List.take_zero, List.drop_succ_cons, List.drop_zero, List.cons_append, List.nil_append, reduceCtorEq, eqV, W_call, So]
        refine Ev.bind (T.step ok hr hq M np1 np2) ?_
        rintro ⟨v, g⟩ ⟨rfl, F2, T2, M2⟩
        dsimp only at F2 T2 M2 ⊢
        have G2 := F2.get ok So (by simp [npb.symm, h1, h2])
        have hb2 := F2.lt hbl
        have F3 : ∀ x, Fr [b] g (g.put b x) := fun x => (Fr.refl F2.ok).put (.inl (by simp)) hb2 _
        have F2' : Fr (b :: [pb] ++ [p, pw]) h g := F2.mono (by simp)
        by_cases hd : (t.step k q f).1.at' = 3
        · have dd : decide ((t.step k q f).1.at' = 3) = true := decide_eq_true hd
          rw [if_pos hd]
          simp only [Option.bind_some, Option.map_some, get_put', put_put', ldB_cells, stB_cells, List.getElem?_cons_zero, List.getElem?_cons_succ, Nat.zero_add, Nat.reduceAdd, Nat.reduceLeDiff, Int.reduceEq, V.one, asI_int, asB_bool, List.length_cons, List.length_nil, List.all_cons, List.all_nil, Bool.not_true, Bool.or_self, Bool.and_self, decide_true, decide_false, if_true, splice, List.take_succ_cons, List.take_zero, List.drop_succ_cons, List.drop_zero, List.cons_append, List.nil_append, reduceCtorEq, dd, G2]
          exact Ev.some ⟨rfl, [b, pb], F2'.trans' (hmb (F3 _)), ⟨⟨.ptr pb 0, [pb], get_put_self _ _ _, .inr ⟨pb, _, rfl, rfl, rfl, T2.fr F2.ok (F3 _) (by simp [npb])⟩, by simp [npb.symm], rfl⟩, Sn, by simp⟩, fun c hc => .inl hc, M2.fr F2.ok (F3 _) (by simp [Ne.symm h1]) (by simp [Ne.symm h2])⟩
        · have dd : decide ((t.step k q f).1.at' = 3) = false := decide_eq_false hd
          rw [if_neg hd]
          simp only [Option.bind_some, Option.map_some, get_put', put_put', ldB_cells, stB_cells, List.getElem?_cons_zero, List.getElem?_cons_succ, Nat.zero_add, Nat.reduceAdd, Nat.reduceLeDiff, Int.reduceEq, V.one, asI_int, asB_bool, List.length_cons, List.length_nil, List.all_cons, List.all_nil, Bool.not_true, Bool.or_self, Bool.and_self, decide_true, decide_false, if_true, splice, List.take_succ_cons, List.take_zero, List.drop_succ_cons, List.drop_zero, List.cons_append, List.nil_append, reduceCtorEq, dd, G2]
          exact Ev.some ⟨rfl, [b, pb], F2', ⟨⟨.ptr pb 0, [pb], G2, .inr ⟨pb, _, rfl, rfl, rfl, T2⟩, by simp [npb.symm], rfl⟩, Sn, by simp⟩, fun c hc => .inl hc, M2⟩
      · have d4 : decide (next = 4) = false := decide_eq_false c4
        rw [if_neg c4]
        simp only [S.arena_Free_Step, nilc_ptr, eqPtr_ptr, ptrAt_ptr, Option.bind_some, ld1_get', ldN_get', st_get', get_new', ldB_cells, ldNB_cells, stB_cells, List.getElem?_cons_zero, List.getElem?_cons_succ, Nat.zero_add, Nat.add_zero, Nat.reduceAdd, Nat.reduceLeDiff, V.one, V.cells, asI_int, List.length_cons, List.length_nil, Nat.beq_refl, Bool.false_and, Bool.false_or, Bool.or_self, decide_true, decide_false, if_true, if_false, splice, List.take_succ_cons, List.take_zero, List.drop_succ_cons, List.drop_zero, List.cons_append, List.nil_append, reduceCtorEq, eqV, W_call, So, d1, d3, d4]
        exact Ev.some ⟨rfl, b :: L0, .refl ok, ⟨⟨pv, L0, So, P, hb0, rfl⟩, Sn, S4⟩, fun c hc => .inl hc, by simpa [d1, d3, d4] using M⟩
end Wm
end

section
/- Reclaims. -/
namespace Wm
attribute [local congr] bind_congr1
attribute [local irreducible] wr

structure Rcl where
  back : Nat
  gone : Nat
  slot : Nat
  free : Option Fre
def Rcl.step (k : Cfg) (s : Rcl) (f : Wd → Int) : Rcl × (Wd → Int) :=
  if s.slot = k.S then (s, f)
  else match s.free with
  | none => (if limbo (f (.header s.slot)) then ⟨s.back, s.gone, s.slot, some ⟨false, false, 0, none, 1⟩⟩ else ⟨s.back, s.gone, s.slot + 1, none⟩, f)
  | some t => (if (t.step k s.slot f).1.next = 5 then ⟨s.back + (if (t.step k s.slot f).1.back then 1 else 0), s.gone + (if (t.step k s.slot f).1.gone then 1 else 0), s.slot + 1, none⟩ else ⟨s.back, s.gone, s.slot, some (t.step k s.slot f).1⟩, (t.step k s.slot f).2)
def Rcl.works (k : Cfg) (s : Rcl) : Bool := !decide (s.slot = k.S) && (match s.free with | none => true | some t => t.works)
def RclFree (h : H) (k : Cfg) (s : Rcl) (fv : V) (L : List Nat) : Prop := (s.free = none ∧ fv = .nilp ∧ L = []) ∨ ∃ fb t, s.free = some t ∧ fv = .ptr fb 0 ∧ s.slot < k.S ∧ FreAt h fb k s.slot t L
structure RclAt (h : H) (b : Nat) (k : Cfg) (s : Rcl) (L : List Nat) : Prop where
  own : ∃ fv L0, h.get b = some (.cells [.int .i64 s.back, .int .i64 s.gone, .int .i64 k.s, .int .i64 k.a, .int .i64 k.c, .int .i64 k.hd, .int .i64 k.g, .int .i64 k.st, .int .i64 s.slot, fv] .rw) ∧ RclFree h k s fv L0 ∧ b ∉ L0 ∧ L = b :: L0
  back : s.back ≤ s.slot
  gone : s.gone ≤ s.slot
  slot : s.slot ≤ k.S
theorem RclFree.fr {h h' : H} {M : List Nat} {k : Cfg} {s : Rcl} {fv : V} {L : List Nat} (Z : RclFree h k s fv L) (ok : h.ok) (F : Fr M h h') (hd : ∀ c ∈ L, c ∉ M) : RclFree h' k s fv L := by
  rcases Z with h0 | ⟨fb, t, h1, h2, h3, h4⟩
  · exact .inl h0
  · exact .inr ⟨fb, t, h1, h2, h3, h4.fr ok F hd⟩
theorem RclFree.lt {h : H} {k : Cfg} {s : Rcl} {fv : V} {L : List Nat} (Z : RclFree h k s fv L) (ok : h.ok) : ∀ c ∈ L, c < h.next := by
  rcases Z with ⟨_, _, rfl⟩ | ⟨fb, t, h1, h2, h3, h4⟩
  · simp
  · exact (h4.mem ok).2
theorem RclAt.fr {h h' : H} {L M : List Nat} {b : Nat} {k : Cfg} {s : Rcl} (Z : RclAt h b k s L) (ok : h.ok) (F : Fr M h h') (hd : ∀ c ∈ L, c ∉ M) : RclAt h' b k s L := by
  obtain ⟨⟨fv, L0, o, P, hb, rfl⟩, h1, h2, h3⟩ := Z
  exact ⟨⟨fv, L0, F.get ok o (hd b (by simp)), P.fr ok F (fun c hc => hd c (by simp [hc])), hb, rfl⟩, h1, h2, h3⟩
theorem RclAt.mem {h : H} {L : List Nat} {b : Nat} {k : Cfg} {s : Rcl} (Z : RclAt h b k s L) (ok : h.ok) : b ∈ L ∧ ∀ c ∈ L, c < h.next := by
  obtain ⟨⟨fv, L0, o, P, hb, rfl⟩, h1, h2, h3⟩ := Z
  refine ⟨by simp, fun c hc => ?_⟩
  rcases List.mem_cons.mp hc with rfl | hc
  · exact ok.lt o
  · exact P.lt ok c hc

theorem newReclaim_spec {k : Cfg} (hr : k.R = true) {h : H} (ok : h.ok) :
    Ev (C 189 [k.v] h) fun r => ∃ b L, r.1 = .ptr b 0 ∧ Fr [] h r.2 ∧ (∀ c ∈ L, h.next ≤ c) ∧ RclAt r.2 b k ⟨0, 0, 0, none⟩ L := by
  refine call_ev (af := F.sweep_NewReclaim) (by kernel_rfl) rfl ?_
  have hH : ∀ h, C 263 [.agg [.int .i64 k.s, .int .i64 k.a, .int .i64 k.c, .int .i64 k.hd, .int .i64 k.g, .int .i64 k.st]] h = some (.bool true, h) := fun h => by
    have := planRight_spec k.s k.a k.c k.hd k.g k.st h
    rw [show cfgR k.s k.a k.c k.hd k.g k.st = true from hr] at this; exact this
  have hv : k.v = .agg [.int .i64 k.s, .int .i64 k.a, .int .i64 k.c, .int .i64 k.hd, .int .i64 k.g, .int .i64 k.st] := rfl
  rw [hv, S.sweep_NewReclaim_eq]
  simp only [S.sweep_NewReclaim, Option.bind_some, ldN_get', get_new', ldNB_cells, H.next_new, Nat.zero_add, Nat.reduceAdd, Nat.reduceLeDiff, V.cells, asB_bool, List.length_cons, List.length_nil, Nat.beq_refl, Bool.and_true, Bool.not_true, decide_true, if_true, splice, List.take_succ_cons, List.take_zero, List.drop_succ_cons, List.drop_zero, List.cons_append, List.nil_append, fill, opd, boxc, W_call, hH]
  exact Ev.some ⟨h.next + 1, [h.next + 1], rfl, ((Fr.refl ok).new _).new _, by simp, ⟨.nilp, [], get_new_self _ _, .inl ⟨rfl, rfl, rfl⟩, by simp, rfl⟩, Nat.le_refl 0, Nat.le_refl 0, Nat.zero_le _⟩

theorem RclAt.step {h : H} (ok : h.ok) {k : Cfg} (hr : k.R = true) {p pw : Nat} {f : Wd → Int} {n : Int} {b : Nat} {s : Rcl} {L : List Nat} (Z : RclAt h b k s L) (M : MemF h p pw k f n) (hL : ∀ c ∈ L, c ≠ p ∧ c ≠ pw) :
    Ev (C 191 [.ptr b 0, .ptr p 0] h) fun r => r.1 = .bool (decide ((s.step k f).1.slot = k.S)) ∧ ∃ L', Fr (L ++ [p, pw]) h r.2 ∧ RclAt r.2 b k (s.step k f).1 L' ∧ (∀ c ∈ L', c ∈ L ∨ h.next ≤ c) ∧ MemF r.2 p pw k (s.step k f).2 (if s.works k then wr .i64 (n + 1) else n) := by
  refine call_ev (af := F.sweep_Reclaim_Step) (by kernel_rfl) rfl ?_
  rw [S.sweep_Reclaim_Step_eq]
  obtain ⟨hbL, hlt⟩ := Z.mem ok
  obtain ⟨h1, h2⟩ := hL b hbL
  have hbl := hlt b hbL
  obtain ⟨⟨fv, L0, So, P, hb0, rfl⟩, Sb, Sg, Ss⟩ := Z
  have hbd := Cfg.bounds hr
  have hks : k.s = (k.S : Int) := by have := Cfg.R_iff.mp hr; unfold Cfg.S; omega
  obtain ⟨back, gone, slot, free⟩ := s
  simp only at So Sb Sg Ss
  unfold Rcl.step Rcl.works
  simp only
  have hmp : ∀ {g g' : H}, Fr [p, pw] g g' → Fr (b :: L0 ++ [p, pw]) g g' := fun F => F.mono (by simp)
  have hmb : ∀ {g g' : H}, Fr [b] g g' → Fr (b :: L0 ++ [p, pw]) g g' := fun F => F.mono (by simp)
  have d0 : decide ((slot : Int) = k.s) = decide (slot = k.S) := by rw [hks]; exact sw_eq slot k.S
  by_cases c0 : slot = k.S
  · have dS : decide (slot = k.S) = true := decide_eq_true c0
    rw [dS] at d0
    rw [if_pos c0]
    simp only [S.sweep_Reclaim_Step, nilc_ptr, eqPtr_ptr, ptrAt_ptr, Option.bind_some, ld1_get', ldN_get', st_get', get_new', ldB_cells, ldNB_cells, stB_cells, List.getElem?_cons_zero, List.getElem?_cons_succ, Nat.zero_add, Nat.add_zero, Nat.reduceAdd, Nat.reduceLeDiff, V.one, V.cells, asI_int, List.length_cons, List.length_nil, Nat.beq_refl, Bool.false_or, decide_true, decide_false, if_true, splice, List.take_succ_cons, List.take_zero, List.drop_succ_cons, List.drop_zero, List.cons_append, List.nil_append, reduceCtorEq, eqV, W_call, So, d0]
    exact Ev.some ⟨by rw [dS], b :: L0, .refl ok, ⟨⟨fv, L0, So, P, hb0, rfl⟩, Sb, Sg, Ss⟩, fun c hc => .inl hc, by simpa [dS] using M⟩
  have dS : decide (slot = k.S) = false := decide_eq_false c0
  rw [dS] at d0
  rw [if_neg c0]
  have hlt' : slot < k.S := Nat.lt_of_le_of_ne Ss c0
  have hhok : (Wd.header slot).ok k := hlt'
  have hH := fun h => header_at hr hlt' h
  have hv : k.v = .agg [.int .i64 k.s, .int .i64 k.a, .int .i64 k.c, .int .i64 k.hd, .int .i64 k.g, .int .i64 k.st] := rfl
  rw [hv] at hH
  have hs1000 : slot ≤ 1000 := Nat.le_trans Ss (Nat.le_trans hbd.1.2 (by decide))
  have ws := sw_i hs1000
  have wb := sw_i (Nat.le_trans Sb hs1000)
  have wg := sw_i (Nat.le_trans Sg hs1000)
  have d2 : decide (((slot + 1 : Nat) : Int) = k.s) = decide (slot + 1 = k.S) := by rw [hks]; exact sw_eq _ _
  generalize hS1 : ((slot + 1 : Nat) : Int) = s1 at ws d2
  generalize hG1 : ((gone + 1 : Nat) : Int) = g1 at wg
  generalize hB1 : ((back + 1 : Nat) : Int) = b1 at wb
  cases free with
  | none =>
    rcases P with ⟨_, rfl, rfl⟩ | ⟨fb, t, hx, _⟩
    rotate_left
    · cases hx
    simp only [S.sweep_Reclaim_Step, nilc_ptr, eqPtr_ptr, eqPtr_nil, ptrAt_ptr, Option.bind_some, ld1_get', ldN_get', st_get', get_new', ldB_cells, ldNB_cells, stB_cells, List.getElem?_cons_zero, List.getElem?_cons_succ, Nat.zero_add, Nat.add_zero, Nat.reduceAdd, Nat.reduceLeDiff, V.one, V.cells, asI_int, List.length_cons, List.length_nil, Nat.beq_refl, Bool.and_true, Bool.false_or, decide_true, decide_false, if_true, splice, List.take_succ_cons, List.take_zero, List.drop_succ_cons, List.drop_zero, List.cons_append, List.nil_append, reduceCtorEq, eqV, W_call, So, d0, hH]
    refine Ev.bind (M.load' ok hhok) ?_
    rintro ⟨v, g⟩ ⟨rfl, F2, M2⟩
    dsimp only at F2 M2 ⊢
    have G2 := F2.get ok So (by simp [h1, h2])
    have hb2 := F2.lt hbl
    have ok2 := F2.ok
    have hU := M.u64 hhok
    have hUn := fun h => unpack_spec hU h
    have hkk : (unp (f (.header slot))).cs = [.int .i64 (unp (f (.header slot))).kind, .int .i64 (unp (f (.header slot))).mark, .bool (unp (f (.header slot))).gray, .int .i64 (unp (f (.header slot))).arity, .int .i64 (unp (f (.header slot))).gen, .int .i64 (unp (f (.header slot))).stamp] := rfl
    rw [hkk] at hUn
    have nbn : b ≠ g.next := Nat.ne_of_lt hb2
    have hlim : limbo (f (.header slot)) = (okT (f (.header slot)) && decide ((unp (f (.header slot))).kind = 3)) := rfl
    have FA : ∀ b1 b2, Fr [] g ((g.new b1).put g.next b2) := fun b1 b2 => ((Fr.refl ok2).new _).put (.inr (Nat.le_refl _)) (Nat.lt_succ_self _) _
    have GA : ∀ b1 b2, ((g.new b1).put g.next b2).get b = g.get b := fun b1 b2 => by rw [get_put_ne nbn, get_new_ne nbn]
    cases hl : limbo (f (.header slot)) with
    | true =>
      rw [hl] at hlim
      have ho : okT (f (.header slot)) = true := by cases h : okT (f (.header slot)) with | true => rfl | false => rw [h] at hlim; simp at hlim
      have hk : decide ((unp (f (.header slot))).kind = 3) = true := by rw [ho] at hlim; simpa using hlim.symm
      rw [ho] at hUn
      have hNF := newFree_spec hr hlt' ((FA (.cells [.int .i64 0, .int .i64 0, .bool false, .int .i64 0, .int .i64 0, .int .i64 0] .rw) (some (.cells [.int .i64 (unp (f (.header slot))).kind, .int .i64 (unp (f (.header slot))).mark, .bool (unp (f (.header slot))).gray, .int .i64 (unp (f (.header slot))).arity, .int .i64 (unp (f (.header slot))).gen, .int .i64 (unp (f (.header slot))).stamp] .rw))).ok)
      rw [hv] at hNF
      simp only [Option.bind_some, Option.map_some, get_put', get_new', ldB_cells, ldNB_cells, stB_cells, List.getElem?_cons_zero, List.getElem?_cons_succ, Nat.zero_add, Nat.reduceAdd, Nat.reduceLeDiff, V.one, asI_int, List.length_cons, List.length_nil, Nat.beq_refl, List.all_cons, List.all_nil, Bool.not_true, Bool.or_self, Bool.and_self, decide_true, decide_false, if_true, if_false, splice, List.take_succ_cons, List.take_zero, List.drop_succ_cons, List.drop_zero, List.cons_append, List.nil_append, reduceCtorEq, hUn, G2, nbn, hk]
      refine Ev.bind hNF ?_
      rintro ⟨v, g3⟩ ⟨fb, LF, rfl, F3, hLF, Z3⟩
      dsimp only at F3 Z3 ⊢
      have F23 : Fr [] g g3 := (FA _ _).trans' F3
      have G3 := F23.get ok2 G2 (by simp)
      have hb3 := F23.lt hb2
      have ok3 := F23.ok
      have hLg : ∀ c ∈ LF, g.next ≤ c := fun c hc => Nat.le_trans (Nat.le_succ _) (hLF c hc)
      have hbLF : b ∉ LF := fun hc => absurd hb2 (Nat.not_lt_of_le (hLg b hc))
      have F4 : ∀ x, Fr [b] g3 (g3.put b x) := fun x => (Fr.refl ok3).put (.inl (by simp)) hb3 _
      have M3 := M2.fr ok2 F23 (by simp) (by simp)
      simp only [Option.bind_some, Option.map_some, get_put', ldB_cells, stB_cells, List.getElem?_cons_zero, List.getElem?_cons_succ, Nat.zero_add, Nat.reduceAdd, Nat.reduceLeDiff, V.one, asI_int, List.length_cons, List.length_nil, Nat.beq_refl, List.all_cons, List.all_nil, Bool.not_true, Bool.not_false, Bool.or_self, Bool.and_self, decide_true, decide_false, if_true, splice, List.take_succ_cons, List.take_zero, List.drop_succ_cons, List.drop_zero, List.cons_append, List.nil_append, reduceCtorEq, G3, d0, dS]
      exact Ev.some ⟨rfl, b :: LF, ((hmp F2).trans F23 (by simp)).trans' (hmb (F4 _)), ⟨⟨.ptr fb 0, LF, get_put_self _ _ _, .inr ⟨fb, _, rfl, rfl, hlt', Z3.fr ok3 (F4 _) (fun c hc h => hbLF (by simp only [List.mem_singleton] at h; rw [← h]; exact hc))⟩, hbLF, rfl⟩, Sb, Sg, Ss⟩, fun c hc => by
        rcases List.mem_cons.mp hc with rfl | hc
        · exact .inl (by simp)
        · exact .inr (Nat.le_trans F2.le (hLg c hc)), M3.fr ok3 (F4 _) (by simp [Ne.symm h1]) (by simp [Ne.symm h2])⟩
    | false =>
      rw [hl] at hlim
      have F4 : ∀ b1 b2 x, Fr [b] g (((g.new b1).put g.next b2).put b x) := fun b1 b2 x => ((FA b1 b2).mono (by simp)).put (.inl (by simp)) (Nat.lt_succ_of_lt hb2) _
      have fin : ∀ b1 b2, RclAt (((g.new b1).put g.next b2).put b (some (.cells [.int .i64 back, .int .i64 gone, .int .i64 k.s, .int .i64 k.a, .int .i64 k.c, .int .i64 k.hd, .int .i64 k.g, .int .i64 k.st, .int .i64 s1, .nilp] .rw))) b k ⟨back, gone, slot + 1, none⟩ [b] := fun b1 b2 => by
        subst hS1
        exact ⟨⟨.nilp, [], get_put_self _ _ _, .inl ⟨rfl, rfl, rfl⟩, by simp, rfl⟩, Nat.le_succ_of_le Sb, Nat.le_succ_of_le Sg, hlt'⟩
      cases ho : okT (f (.header slot)) with
      | true =>
        rw [ho] at hUn hlim
        have hk : decide ((unp (f (.header slot))).kind = 3) = false := by simpa using hlim.symm
        simp only [Option.bind_some, Option.map_some, get_put', get_new', ldB_cells, ldNB_cells, stB_cells, List.getElem?_cons_zero, List.getElem?_cons_succ, Nat.zero_add, Nat.reduceAdd, Nat.reduceLeDiff, V.one, asI_int, List.length_cons, List.length_nil, Nat.beq_refl, List.all_cons, List.all_nil, Bool.not_true, Bool.not_false, Bool.or_self, Bool.and_self, decide_true, decide_false, if_true, if_false, splice, List.take_succ_cons, List.take_zero, List.drop_succ_cons, List.drop_zero, List.cons_append, List.nil_append, reduceCtorEq, hUn, G2, nbn, hk, ws, d2, dS, Bool.false_eq_true]
        exact Ev.some ⟨rfl, [b], (hmp F2).trans' (hmb (F4 _ _ _)), fin _ _, fun c hc => .inl (by simpa using hc), M2.fr ok2 (F4 _ _ _) (by simp [Ne.symm h1]) (by simp [Ne.symm h2])⟩
      | false =>
        rw [ho] at hUn
        simp only [Option.bind_some, Option.map_some, get_put', get_new', ldB_cells, stB_cells, List.getElem?_cons_zero, List.getElem?_cons_succ, Nat.zero_add, Nat.reduceAdd, Nat.reduceLeDiff, V.one, asI_int, List.length_cons, List.length_nil, Nat.beq_refl, List.all_cons, List.all_nil, Bool.not_true, Bool.not_false, Bool.or_self, Bool.and_self, decide_true, decide_false, if_true, if_false, splice, List.take_succ_cons, List.take_zero, List.drop_succ_cons, List.drop_zero, List.cons_append, List.nil_append, reduceCtorEq, hUn, G2, nbn, ws, d2, dS, Bool.false_eq_true]
        exact Ev.some ⟨rfl, [b], (hmp F2).trans' (hmb (F4 _ _ _)), fin _ _, fun c hc => .inl (by simpa using hc), M2.fr ok2 (F4 _ _ _) (by simp [Ne.symm h1]) (by simp [Ne.symm h2])⟩
  | some t =>
    rcases P with ⟨hx, _⟩ | ⟨fb, t', hx, rfl, _, Z⟩
    · cases hx
    have hx : t = t' := Option.some.inj hx
    subst hx
    have hLf : ∀ c ∈ L0, c ≠ p ∧ c ≠ pw := fun c hc => hL c (by simp [hc])
    simp only [S.sweep_Reclaim_Step, nilc_ptr, eqPtr_ptr, ptrAt_ptr, Option.bind_some, ld1_get', ldN_get', st_get', get_new', ldB_cells, ldNB_cells, stB_cells, List.getElem?_cons_zero, List.getElem?_cons_succ, Nat.zero_add, Nat.add_zero, Nat.reduceAdd, Nat.reduceLeDiff, V.one, V.cells, asI_int, List.length_cons, List.length_nil, Nat.beq_refl, Bool.false_or, decide_true, decide_false, if_true, splice, List.take_succ_cons, List.take_zero, List.drop_succ_cons, List.drop_zero, List.cons_append, List.nil_append, reduceCtorEq, eqV, W_call, So, d0]
    refine Ev.bind (Z.step ok hr hlt' M hLf) ?_
    rintro ⟨v, g⟩ ⟨rfl, L', F2, Z2, hL', M2⟩
    dsimp only at F2 Z2 M2 ⊢
    have ok2 := F2.ok
    have G2 := F2.get ok So (by simp only [List.mem_append, List.mem_cons, List.not_mem_nil, or_false, not_or]; exact ⟨hb0, h1, h2⟩)
    have hb2 := F2.lt hbl
    have hbL' : b ∉ L' := fun hc => (hL' b hc).elim hb0 (fun h => absurd hbl (Nat.not_lt_of_le h))
    have F2' : Fr (b :: L0 ++ [p, pw]) h g := F2.mono (fun c hc => .inl (by simp only [List.mem_append, List.cons_append, List.mem_cons] at hc ⊢; exact .inr hc))
    have F4 : ∀ x, Fr [b] g (g.put b x) := fun x => (Fr.refl ok2).put (.inl (by simp)) hb2 _
    by_cases hd : (t.step k slot f).1.next = 5
    · have dd : decide ((t.step k slot f).1.next = 5) = true := decide_eq_true hd
      simp only [if_pos hd]
      obtain ⟨⟨pv, L2, o2, _, hb2', rfl⟩, _, _⟩ := Z2
      have nfb : fb ≠ b := fun h => hbL' (by simp [h])
      have fin : ∀ (x y : Int) (bk gn : Nat), x = bk → y = gn → bk ≤ slot + 1 → gn ≤ slot + 1 → RclAt (g.put b (some (.cells [.int .i64 x, .int .i64 y, .int .i64 k.s, .int .i64 k.a, .int .i64 k.c, .int .i64 k.hd, .int .i64 k.g, .int .i64 k.st, .int .i64 s1, .nilp] .rw))) b k ⟨bk, gn, slot + 1, none⟩ [b] := fun x y bk gn hx hy h3 h4 => by
        subst hS1 hx hy
        exact ⟨⟨.nilp, [], get_put_self _ _ _, .inl ⟨rfl, rfl, rfl⟩, by simp, rfl⟩, h3, h4, hlt'⟩
      have rest : ∀ x, Fr (b :: L0 ++ [p, pw]) h (g.put b x) ∧ MemF (g.put b x) p pw k (t.step k slot f).2 (if t.works then wr .i64 (n + 1) else n) := fun x => ⟨F2'.trans' (hmb (F4 x)), M2.fr ok2 (F4 x) (by simp [Ne.symm h1]) (by simp [Ne.symm h2])⟩
      cases hbk : (t.step k slot f).1.back <;> cases hgn : (t.step k slot f).1.gone <;> rw [hbk, hgn] at o2 <;> simp only [nilc_ptr, ptrAt_ptr, Option.bind_some, Option.map_some, ld1_get', get_put', put_put', ldB_cells, stB_cells, List.getElem?_cons_zero, List.getElem?_cons_succ, Nat.zero_add, Nat.add_zero, Nat.reduceAdd, Nat.reduceLeDiff, V.one, asI_int, asB_bool, List.length_cons, List.length_nil, List.all_cons, List.all_nil, Bool.true_and, Bool.not_true, Bool.not_false, Bool.or_self, Bool.and_self, decide_true, decide_false, if_true, if_false, splice, List.take_succ_cons, List.take_zero, List.drop_succ_cons, List.drop_zero, List.cons_append, List.nil_append, reduceCtorEq, dd, G2, o2, nfb, ws, wb, wg, d2, dS, Bool.false_eq_true]
      · exact Ev.some ⟨rfl, [b], (rest _).1, fin _ _ back gone rfl rfl (Nat.le_succ_of_le Sb) (Nat.le_succ_of_le Sg), fun c hc => .inl (by simp at hc; simp [hc]), (rest _).2⟩
      · exact Ev.some ⟨rfl, [b], (rest _).1, fin _ _ back (gone + 1) rfl hG1.symm (Nat.le_succ_of_le Sb) (Nat.succ_le_succ Sg), fun c hc => .inl (by simp at hc; simp [hc]), (rest _).2⟩
      · exact Ev.some ⟨rfl, [b], (rest _).1, fin _ _ (back + 1) gone hB1.symm rfl (Nat.succ_le_succ Sb) (Nat.le_succ_of_le Sg), fun c hc => .inl (by simp at hc; simp [hc]), (rest _).2⟩
      · exact Ev.some ⟨rfl, [b], (rest _).1, fin _ _ (back + 1) (gone + 1) hB1.symm hG1.symm (Nat.succ_le_succ Sb) (Nat.succ_le_succ Sg), fun c hc => .inl (by simp at hc; simp [hc]), (rest _).2⟩
    · have dd : decide ((t.step k slot f).1.next = 5) = false := decide_eq_false hd
      simp only [if_neg hd]
      simp only [nilc_ptr, ptrAt_ptr, Option.bind_some, Option.map_some, ld1_get', get_put', put_put', ldB_cells, stB_cells, List.getElem?_cons_zero, List.getElem?_cons_succ, Nat.zero_add, Nat.add_zero, Nat.reduceAdd, Nat.reduceLeDiff, V.one, asI_int, asB_bool, List.length_cons, List.length_nil, List.all_cons, List.all_nil, Bool.true_and, Bool.not_true, Bool.not_false, Bool.or_self, Bool.and_self, decide_true, decide_false, if_true, splice, List.take_succ_cons, List.take_zero, List.drop_succ_cons, List.drop_zero, List.cons_append, List.nil_append, reduceCtorEq, dd, G2, d0, dS]
      exact Ev.some ⟨rfl, b :: L', F2', ⟨⟨.ptr fb 0, L', G2, .inr ⟨fb, _, rfl, rfl, hlt', Z2⟩, hbL', rfl⟩, Sb, Sg, Ss⟩, fun c hc => by
        rcases List.mem_cons.mp hc with rfl | hc
        · exact .inl (by simp)
        · exact (hL' c hc).imp (fun h => by simp [h]) id, M2⟩
end Wm
end

section
/- Slices that grow: what is appended, one element at a time. -/
namespace Wm
attribute [local congr] bind_congr1
attribute [local irreducible] wr

/-- The block of a slice. -/
def V.blk : V → List Nat
  | .sl b _ _ _ => [b]
  | _ => []

/-- A slice that grew: elements of 'e' cells. -/
def Grown (g : Nat → Option Blk) (x : V) (e : Nat) (l : List V) : Prop :=
  (x = .nilsl ∧ l = []) ∨ ∃ b n, x = .sl b 0 n (.op e) ∧ l.length = n * e ∧ g b = some (.cells l (.gr e))

theorem Grown.nil (g : Nat → Option Blk) (e : Nat) : Grown g .nilsl e [] := .inl ⟨rfl, rfl⟩
theorem Grown.len {g : Nat → Option Blk} {x : V} {e : Nat} {l : List V} (G : Grown g x e l) (he : 0 < e) : ∃ n, lenSl x = some n ∧ l.length = n * e := by
  obtain ⟨rfl, rfl⟩ | ⟨b, n, rfl, hl, _⟩ := G
  · exact ⟨0, rfl, by simp⟩
  · exact ⟨n, rfl, hl⟩
theorem Grown.len1 {g : Nat → Option Blk} {x : V} {l : List V} (G : Grown g x 1 l) : lenSl x = some l.length := by
  obtain ⟨n, h1, h2⟩ := G.len (by omega)
  rw [h1, h2, Nat.mul_one]
theorem Grown.fr {g g' : H} {L : List Nat} {x : V} {e : Nat} {l : List V} (G : Grown g.get x e l) (ok : g.ok) (F : Fr L g g') (h : ∀ b ∈ x.blk, b ∉ L) : Grown g'.get x e l := by
  obtain h1 | ⟨b, n, rfl, hl, hb⟩ := G
  · exact .inl h1
  · exact .inr ⟨b, n, rfl, hl, F.get ok hb (h b (by simp [V.blk]))⟩
theorem Grown.push {g : H} (ok : g.ok) {x : V} {e : Nat} {l new : List V} {nb : Nat} {k : Bk} {bytes : Nat} (G : Grown g.get x e l) (hn : g.get nb = some (.cells new k)) (hlen : new.length = e) (h1 : new.all V.one = true) (he : 0 < e) (hb : 0 < bytes ∧ bytes ≤ 1000) (hs : l.length ≤ 1000000) :
    ∃ x' g', g.append e bytes x (.sl nb 0 1 (.ex 1)) = some (x', g') ∧ Fr x.blk g g' ∧ Grown g'.get x' e (l ++ new) ∧ (∀ b ∈ x'.blk, g.next ≤ b) ∧ x'.blk ≠ [] := by
  have hslc : g.slc e (.sl nb 0 1 (.ex 1)) = some new := by
    rw [slc_get hn (by omega), List.drop_zero, List.take_of_length_le (by omega)]
  obtain ⟨rfl, rfl⟩ | ⟨b, n, rfl, hl, hbk⟩ := G
  · refine ⟨_, _, append_nil (n := 1) rfl hslc (by omega) h1 (by omega) he hb.1, (Fr.refl ok).new _, .inr ⟨_, _, rfl, by simp; omega, ?_⟩, by simp [V.blk], by simp [V.blk]⟩
    rw [List.nil_append]; exact get_new_self _ _
  · have hnn : n ≤ 1000000 := by
      have : n * 1 ≤ n * e := Nat.mul_le_mul_left _ he
      omega
    have hold : g.slc e (.sl b 0 n (.op e)) = some l := by rw [slc_get hbk (by omega), List.drop_zero, List.take_of_length_le (by omega)]
    have hsz : (n + 1 + (n + 1) / 2 + 1000) * bytes ≤ 281474976710656 := by
      have : (n + 1 + (n + 1) / 2 + 1000) * bytes ≤ 2000000 * 1000 := Nat.mul_le_mul (by omega) hb.2
      omega
    refine ⟨_, _, append_op (n := 1) rfl hslc hold hbk h1 hsz he hb.1, ?_, .inr ⟨_, _, rfl, by rw [List.length_append, hl, hlen, Nat.add_mul, Nat.one_mul], get_new_self _ _⟩, by simp [V.blk], by simp [V.blk]⟩
    exact ((Fr.refl ok).put (.inl (by simp [V.blk])) (ok.lt hbk) _).new _

/-- A row of numbers of a kind that is only read, or nil. -/
def RowN (kd : Go.IntKind) (g : Nat → Option Blk) (x : V) (ws : List Int) : Prop := (x = .nilsl ∧ ws = []) ∨ ∃ b c k, x = .sl b 0 ws.length c ∧ g b = some (.cells (ws.map (.int kd)) k)
theorem RowN.len {kd : Go.IntKind} {g : Nat → Option Blk} {x : V} {ws : List Int} (h : RowN kd g x ws) : lenSl x = some ws.length := by
  obtain ⟨rfl, rfl⟩ | ⟨b, c, k, rfl, _⟩ := h <;> rfl
theorem RowN.at {kd : Go.IntKind} {g : H} {x : V} {ws : List Int} (h : RowN kd g.get x ws) {i : Nat} {w : Int} (hw : ws[i]? = some w) : ∃ b, indexAV 1 x (.int .i64 (i : Int)) = some (.ptr b i) ∧ g.ld1 (.ptr b i) = some (.int kd w) := by
  have hi := lt_of_get hw
  obtain ⟨rfl, rfl⟩ | ⟨b, c, k, rfl, hb⟩ := h
  · simp at hw
  · refine ⟨b, sl_idx1 hi, ?_⟩
    rw [ld1_get', hb, ldB_cells, List.getElem?_map, hw]; rfl
theorem RowN.fr {kd : Go.IntKind} {g g' : H} {L : List Nat} {x : V} {ws : List Int} (h : RowN kd g.get x ws) (ok : g.ok) (F : Fr L g g') (hL : ∀ b ∈ x.blk, b ∉ L) : RowN kd g'.get x ws := by
  obtain h1 | ⟨b, c, k, rfl, hb⟩ := h
  · exact .inl h1
  · exact .inr ⟨b, c, k, rfl, F.get ok hb (hL b (by simp [V.blk]))⟩
end Wm
end

