/- What the functions come to, and the law: of my machine. -/
import Derived.Test.YtjcppjbepndjcaaWmEv
import Derived.Test.YtjcppjbepndjcaaWmProgFieldStamps
import Derived.Test.YtjcppjbepndjcaaWmTxtFieldStampsA
import Derived.Test.YtjcppjbepndjcaaWmHeap
import Derived.Test.YtjcppjbepndjcaaWmPOp0
import Derived.Test.YtjcppjbepndjcaaWmOpen
import Derived.Test.YtjcppjbepndjcaaWmFast
set_option linter.all false
section
/- What was there is as it was. -/
namespace Wm
end Wm
end

section
/- What the functions of plan come to. -/
namespace Wm

theorem between_spec (x lo hi : Int) (h : H) : C 376 [.int .i64 x, .int .i64 lo, .int .i64 hi] h = some (.bool (decide (lo ≤ x) && decide (x ≤ hi)), h) := by
  refine call_closed (af := F.plan_between) (by kernel_rfl) rfl (by rfl) (by rfl) h ?_
  rw [S.plan_between_eq]
  unfold S.plan_between
  by_cases h1 : lo ≤ x <;> simp [h1, Ev.iff_some]

/-- A config, as a value. -/
def cfgV (s a c hd g st : Int) : V := .agg [.int .i64 s, .int .i64 a, .int .i64 c, .int .i64 hd, .int .i64 g, .int .i64 st]
/-- Is it right? -/
def cfgR (s a c hd g st : Int) : Bool := (decide (1 ≤ s) && decide (s ≤ 64)) && (decide (0 ≤ a) && decide (a ≤ 8)) && (decide (1 ≤ c) && decide (c ≤ 8)) && (decide (1 ≤ hd) && decide (hd ≤ 16)) && (decide (1 ≤ g) && decide (g ≤ 1048576)) && (decide (0 ≤ st) && decide (st ≤ 64))

theorem ld1_new {h : H} {cs : List V} {k : Bk} (o : Nat) : (h.new (.cells cs k)).ld1 (.ptr h.next o) = match cs[o]? with
    | some v => match V.one v with
      | true => some v
      | false => none
    | none => none := by
  simp only [H.ld1, get_new_self]; rfl

theorem planRight_spec (s a c hd g st : Int) (h : H) : C 263 [cfgV s a c hd g st] h = some (.bool (cfgR s a c hd g st), h) := by
  refine call_closed (af := F.plan_Right) (by kernel_rfl) rfl (by rfl) (by rfl) h ?_
  unfold cfgV
  rw [S.plan_Right_eq]
  simp only [S.plan_Right, ld1_new, V.one, List.getElem?_cons_zero, List.getElem?_cons_succ, Option.bind_some, W_call, between_spec]
  unfold cfgR
  generalize (decide (1 ≤ s) && decide (s ≤ 64)) = b1
  generalize (decide (0 ≤ a) && decide (a ≤ 8)) = b2
  generalize (decide (1 ≤ c) && decide (c ≤ 8)) = b3
  generalize (decide (1 ≤ hd) && decide (hd ≤ 16)) = b4
  generalize (decide (1 ≤ g) && decide (g ≤ 1048576)) = b5
  cases b1 <;> cases b2 <;> cases b3 <;> cases b4 <;> cases b5 <;> simp [Ev.iff_some]

theorem ref06Right_spec (s a c hd g st : Int) (h : H) : C 85 [cfgV s a c hd g st] h = some (.bool (cfgR s a c hd g st), h) := by
  refine call_closed (af := F.withyref06_Right) (by kernel_rfl) rfl (by rfl) (by rfl) h ?_
  unfold cfgV
  rw [S.withyref06_Right_eq]
  simp only [S.withyref06_Right, ld1_new, V.one, List.getElem?_cons_zero, List.getElem?_cons_succ, Option.bind_some, asI, decide_true]
  unfold cfgR
  by_cases h1 : 1 ≤ s <;> simp only [h1, decide_true, decide_false, Bool.false_and, Bool.true_and, Ev.iff_some]
  by_cases h2 : s ≤ 64 <;> simp only [h2, decide_true, decide_false, Bool.false_and, Bool.true_and, Ev.iff_some]
  by_cases h3 : 0 ≤ a <;> simp only [h3, decide_true, decide_false, Bool.false_and, Bool.true_and, Ev.iff_some]
  by_cases h4 : a ≤ 8 <;> simp only [h4, decide_true, decide_false, Bool.false_and, Bool.true_and, Ev.iff_some]
  by_cases h5 : 1 ≤ c <;> simp only [h5, decide_true, decide_false, Bool.false_and, Bool.true_and, Ev.iff_some]
  by_cases h6 : c ≤ 8 <;> simp only [h6, decide_true, decide_false, Bool.false_and, Bool.true_and, Ev.iff_some]
  by_cases h7 : 1 ≤ hd <;> simp only [h7, decide_true, decide_false, Bool.false_and, Bool.true_and, Ev.iff_some]
  by_cases h8 : hd ≤ 16 <;> simp only [h8, decide_true, decide_false, Bool.false_and, Bool.true_and, Ev.iff_some]
  by_cases h9 : 1 ≤ g <;> simp only [h9, decide_true, decide_false, Bool.false_and, Bool.true_and, Ev.iff_some]
  by_cases h10 : g ≤ 1048576 <;> simp only [h10, decide_true, decide_false, Bool.false_and, Bool.true_and, Ev.iff_some]
  by_cases h11 : 0 ≤ st <;> simp only [h11, decide_true, decide_false, Bool.false_and, Bool.true_and, Ev.iff_some]

end Wm
end

section
/- A config that is right. -/
namespace Wm
theorem cfgR_iff {s a c hd g st : Int} : cfgR s a c hd g st = true ↔ (1 ≤ s ∧ s ≤ 64) ∧ (0 ≤ a ∧ a ≤ 8) ∧ (1 ≤ c ∧ c ≤ 8) ∧ (1 ≤ hd ∧ hd ≤ 16) ∧ (1 ≤ g ∧ g ≤ 1048576) ∧ (0 ≤ st ∧ st ≤ 64) := by
  simp only [cfgR, Bool.and_eq_true, decide_eq_true_eq, and_assoc]

end Wm
end

section
/- Where everything stands in the memory: what the functions of plan come to. -/
namespace Wm

theorem mul_bd {x y X Y : Int} (h0 : 0 ≤ x) (h1 : x ≤ X) (h2 : 0 ≤ y) (h3 : y ≤ Y) : 0 ≤ x * y ∧ x * y ≤ X * Y :=
  ⟨Int.mul_nonneg h0 h2, Int.mul_le_mul h1 h3 h2 (Int.le_trans h0 h1)⟩

def roomT (a : Int) : Int := 2 + max a 3
def slotsT (c hd : Int) : Int := 4 + c * (1 + hd + 2)

theorem room_spec (s a c hd g st : Int) (h0 : 0 ≤ a) (h1 : a ≤ 8) (h : H) : C 378 [cfgV s a c hd g st] h = some (.int .i64 (roomT a), h) := by
  refine call_closed (af := F.plan_room) (by kernel_rfl) rfl (by rfl) (by rfl) h ?_
  have ok := H.ok_empty
  unfold cfgV
  rw [S.plan_room_eq]
  simp only [S.plan_room, H.new_ext, H.ext_ldk_0, ok, ldB_cells, V.one, List.getElem?_cons_zero, List.getElem?_cons_succ, Option.bind_some, Option.join_some, asI_int]
  rw [wr64 (by omega) (by omega)]
  exact Ev.some rfl

theorem slots_spec (s a c hd g st : Int) (h0 : 0 ≤ c) (h1 : c ≤ 8) (h2 : 0 ≤ hd) (h3 : hd ≤ 16) (h : H) : C 377 [cfgV s a c hd g st] h = some (.int .i64 (slotsT c hd), h) := by
  refine call_closed (af := F.plan_slots) (by kernel_rfl) rfl (by rfl) (by rfl) h ?_
  have ok := H.ok_empty
  unfold cfgV
  rw [S.plan_slots_eq]
  simp only [S.plan_slots, H.new_ext, H.ext_ldk_0, ok, ldB_cells, V.one, List.getElem?_cons_zero, List.getElem?_cons_succ, Option.bind_some, Option.join_some, asI_int]
  rw [wr64 (n := 1 + hd) (by omega) (by omega), wr64 (n := 1 + hd + 2) (by omega) (by omega)]
  obtain ⟨q1, q2⟩ := mul_bd h0 h1 (show 0 ≤ 1 + hd + 2 by omega) (show 1 + hd + 2 ≤ 19 by omega)
  rw [wr64 (n := c * (1 + hd + 2)) (by omega) (by omega), wr64 (by omega) (by omega)]
  exact Ev.some rfl

def withinT (s a c hd g st slot i : Int) : Int :=
  if cfgR s a c hd g st = true ∧ (0 ≤ slot ∧ slot ≤ s - 1) ∧ (0 ≤ i ∧ i ≤ roomT a - 1) then slotsT c hd + slot * roomT a + i else -1

theorem within_spec (s a c hd g st slot i : Int) (h : H) : C 375 [cfgV s a c hd g st, .int .i64 slot, .int .i64 i] h = some (.int .i64 (withinT s a c hd g st slot i), h) := by
  refine call_closed (af := F.plan_within) (by kernel_rfl) rfl (by rfl) (by rfl) h ?_
  have ok := H.ok_empty
  have hR := planRight_spec s a c hd g st
  cases hr : cfgR s a c hd g st with
  | false =>
    rw [hr] at hR
    unfold cfgV at hR ⊢
    rw [S.plan_within_eq]
    simp only [S.plan_within, H.new_ext, H.ext_ldNk_0, H.ext_ldk_0, ok, ldB_cells, ldNB_cells, V.one, List.length_cons, List.length_nil, Nat.zero_add, Nat.reduceAdd, Nat.reduceLeDiff, decide_true, List.getElem?_cons_zero, List.drop_zero, List.take_succ_cons, List.take_zero, Bool.not_false, Option.bind_some, Option.join_some, asI_int, asB_bool, W_call, hR]
    exact Ev.some (by simp [withinT, hr])
  | true =>
    obtain ⟨⟨s1, s2⟩, ⟨a1, a2⟩, ⟨c1, c2⟩, ⟨d1, d2⟩, _⟩ := cfgR_iff.mp hr
    rw [hr] at hR
    have h1 := room_spec s a c hd g st (by omega) (by omega)
    have h2 := slots_spec s a c hd g st (by omega) (by omega) (by omega) (by omega)
    unfold cfgV at hR h1 h2 ⊢
    rw [S.plan_within_eq]
    simp only [S.plan_within, H.new_ext, H.ext_ldNk_0, H.ext_ldk_0, ok, ldB_cells, ldNB_cells, V.one, List.length_cons, List.length_nil, Nat.zero_add, Nat.reduceAdd, Nat.reduceLeDiff, decide_true, List.getElem?_cons_zero, List.drop_zero, List.take_succ_cons, List.take_zero, Bool.not_true, Option.bind_some, Option.join_some, ckB_some, V.beq, V.beqs, Bool.and_self, asI_int, asB_bool, W_call, hR, h1, h2, between_spec]
    have hroom : 5 ≤ roomT a ∧ roomT a ≤ 10 := by unfold roomT; omega
    rw [wr64 (n := s - 1) (by omega) (by omega), wr64 (n := roomT a - 1) (by omega) (by omega)]
    by_cases p1 : 0 ≤ slot ∧ slot ≤ s - 1
    · simp only [decide_eq_true p1.1, decide_eq_true p1.2, Bool.not_true, Bool.and_self]
      by_cases p2 : 0 ≤ i ∧ i ≤ roomT a - 1
      · simp only [decide_eq_true p2.1, decide_eq_true p2.2, Bool.not_true, Bool.and_self]
        obtain ⟨q1, q2⟩ := mul_bd p1.1 (show slot ≤ 63 by omega) (show 0 ≤ roomT a by omega) hroom.2
        obtain ⟨q3, q4⟩ := mul_bd (show 0 ≤ c by omega) c2 (show 0 ≤ 1 + hd + 2 by omega) (show 1 + hd + 2 ≤ 19 by omega)
        have q5 : slotsT c hd = 4 + c * (1 + hd + 2) := rfl
        rw [wr64 (n := slot * roomT a) (by omega) (by omega), wr64 (n := slotsT c hd + slot * roomT a) (by omega) (by omega), wr64 (by omega) (by omega)]
        refine Ev.some ?_
        unfold withinT
        rw [if_pos ⟨hr, p1, p2⟩]
      · have : (decide (0 ≤ i) && decide (i ≤ roomT a - 1)) = false := by
          rw [Bool.eq_false_iff]; intro q
          simp only [Bool.and_eq_true, decide_eq_true_eq] at q
          exact p2 q
        simp only [this, Bool.not_false]
        refine Ev.some ?_
        unfold withinT
        rw [if_neg (fun q => p2 q.2.2)]
    · have : (decide (0 ≤ slot) && decide (slot ≤ s - 1)) = false := by
        rw [Bool.eq_false_iff]; intro q
        simp only [Bool.and_eq_true, decide_eq_true_eq] at q
        exact p1 q
      simp only [this, Bool.not_false]
      refine Ev.some ?_
      unfold withinT
      rw [if_neg (fun q => p1 q.2.1)]

theorem header_spec (s a c hd g st slot : Int) (h : H) : C 261 [cfgV s a c hd g st, .int .i64 slot] h = some (.int .i64 (withinT s a c hd g st slot 0), h) := by
  refine call_closed (af := F.plan_Header) (by kernel_rfl) rfl (by rfl) (by rfl) h ?_
  have ok := H.ok_empty
  have hW := within_spec s a c hd g st slot 0
  unfold cfgV at hW ⊢
  rw [S.plan_Header_eq]
  simp only [S.plan_Header, H.new_ext, H.ext_ldNk_0, ok, ldNB_cells, List.length_cons, List.length_nil, Nat.zero_add, Nat.reduceAdd, Nat.reduceLeDiff, decide_true, List.getElem?_cons_zero, List.drop_zero, List.take_succ_cons, List.take_zero, Option.bind_some, Option.join_some, W_call, hW]
  exact Ev.some rfl

end Wm
end

section
/- Slices that grow, and loops. -/
namespace Wm
theorem mkSl_ok {h : H} {e b : Nat} {z : List V} {l c : Int} (h1 : 0 ≤ l) (h2 : l ≤ c) (h3 : c * b ≤ 140737488355328) (h4 : c ≤ 9223372036854775807) (h5 : z.length = e) (h6 : 0 < e) :
    h.mkSl e b z l c = some (.sl h.next 0 l.toNat (.ex c.toNat), h.new (.cells (repl z c.toNat) .rw)) := by
  subst h5
  simp [H.mkSl, h1, h2, h3, h4, h6]

theorem append_op {h : H} {e b bb o len n : Nat} {x : V} {new old cs : List V} (hx : lenSl x = some n) (hn : h.slc e x = some new) (ho : h.slc e (.sl bb o len (.op e)) = some old) (hg : h.get bb = some (.cells cs (.gr e))) (h1 : new.all V.one = true) (h2 : (len + n + (len + n) / 2 + 1000) * b ≤ 281474976710656) (he : 0 < e) (hb : 0 < b) :
    h.append e b (.sl bb o len (.op e)) x = some (.sl h.next 0 (len + n) (.op e), (h.put bb none).new (.cells (old ++ new) (.gr e))) := by
  have h3 : lenSl (.sl bb o len (.op e)) = some len := rfl
  simp only [H.append, hx, hn, h3, ho, h1, h2, he, hb, decide_true, Bool.and_self, hg, Nat.beq_refl]

theorem append_nil {h : H} {e b n : Nat} {x : V} {new : List V} (hx : lenSl x = some n) (hn : h.slc e x = some new) (h0 : n ≠ 0) (h1 : new.all V.one = true) (h2 : (n + n / 2 + 1000) * b ≤ 281474976710656) (he : 0 < e) (hb : 0 < b) :
    h.append e b .nilsl x = some (.sl h.next 0 n (.op e), h.new (.cells new (.gr e))) := by
  have h3 : lenSl .nilsl = some 0 := rfl
  have h4 : h.slc e .nilsl = some [] := rfl
  have h5 : Nat.beq n 0 = false := by cases n with
    | zero => exact absurd rfl h0
    | succ n => rfl
  simp only [H.append, hx, hn, h3, h4, h1, h2, he, hb, decide_true, Bool.and_self, Nat.zero_add, h5, List.nil_append]

theorem slc_get {h : H} {e bb o len : Nat} {cap : Cap} {cs : List V} {k : Bk} (hg : h.get bb = some (.cells cs k)) (hl : o + len * e ≤ cs.length) : h.slc e (.sl bb o len cap) = some ((cs.drop o).take (len * e)) := by
  simp only [H.slc, ldc_get hg hl]

theorem st1_get {h : H} {b o : Nat} {cs : List V} {k : Bk} {v : V} (hb : h.get b = some (.cells cs k)) (hk : k ≠ .ro) (hv : v.one = true) (hl : o < cs.length) : h.st 1 (.ptr b o) v = some (h.put b (some (.cells (cs.set o v) k))) := by
  have hc : v.cells = [v] := by cases v <;> first | rfl | simp [V.one] at hv
  have hs : splice cs o [v] = cs.set o v := by
    simp only [splice, List.length_singleton]
    rw [List.set_eq_take_append_cons_drop, if_pos hl]
    simp
  have h6 := stc_get hb hk (vs := [v]) (by simp [hv]) (show o + [v].length ≤ cs.length by simp; omega)
  rw [hs] at h6
  simp only [H.st, hc, List.length_singleton, Nat.beq, h6]

theorem loop_ev {α : Type} {call : Nat → List V → H → Option (V × H)} {meth : Nat → Nat → Option Nat} {b : List V → H → Option (AX × List V × H)} {R : Type} {k : AX × List V × H → Option R} {Q : R → Prop} {e : List V} {h : H} (enc : α → List V) (I : α → H → Prop) (μ : α → H → Nat) (P : AX × List V × H → Prop) (a : α) (he : e = enc a) (h0 : I a h)
    (step : ∀ a h, I a h → Ev (b (enc a) h) fun r => (∃ a', r.1 = .normal ∧ r.2.1 = enc a' ∧ I a' r.2.2 ∧ μ a' r.2.2 < μ a h) ∨ (r.1 ≠ .normal ∧ P r)) (out : ∀ r, P r → Ev (k r) Q) : Ev (((envW meth call).loop b e h).bind k) Q := by
  subst he
  exact Ev.bind (loopW_ev enc I μ step a h h0) out

end Wm
end

section
/- A slice that one element is appended to, among blocks that came. -/
namespace Wm

theorem indexAV_in {b o n e : Nat} {c : Cap} {i : Int} {k : Go.IntKind} (h0 : 0 ≤ i) (h1 : i < n) : indexAV e (.sl b o n c) (.int k i) = some (.ptr b (o + i.toNat * e)) := by
  simp only [indexAV, indexOf, asIAny, h0, h1, decide_true, Bool.and_self]

section
variable {h : H} {P : List (Option Blk)} {e b : Nat} {new : List V}

end
end Wm
end

section
/- A header's word: what the functions of word, head and withyref04 come to. -/
namespace Wm

def U64 (w : Int) : Prop := 0 ≤ w ∧ w < 18446744073709551616

/-- So many bits, from one on. -/
def getT (w : Int) (at' n : Nat) : Int := w / (2 ^ at' : Int) % (2 ^ n : Int)

/-- Is it a header's word? -/
def okT (w : Int) : Bool := decide (getT w 0 3 ≤ 4) && decide (getT w 9 7 = 0)

theorem tm {a b : Int} (h : 0 ≤ a) : Int.tmod a b = a % b := Int.tmod_eq_emod_of_nonneg h
end Wm
end

section
/- Frames: what of a heap stays; known blocks are read and written. -/
namespace Wm

theorem bind_congr1 {α β : Type} {x y : Option α} {f : α → Option β} (h : x = y) : x.bind f = y.bind f := by rw [h]

/-- Blocks of 'h' outside of 'L' are as they were; more may have come. -/
structure Fr (L : List Nat) (h h' : H) : Prop where
  le : h.next ≤ h'.next
  ok : h'.ok
  same : ∀ b, b < h.next → b ∉ L → h'.get b = h.get b

theorem Fr.refl {L : List Nat} {h : H} (ok : h.ok) : Fr L h h := ⟨Nat.le_refl _, ok, fun _ _ _ => rfl⟩
theorem Fr.new {L : List Nat} {h h' : H} (f : Fr L h h') (x : Blk) : Fr L h (h'.new x) :=
  ⟨by have := f.le; simp only [H.next_new]; omega, f.ok.new x, fun b hb hL => by rw [get_new_ne (by have := f.le; omega)]; exact f.same b hb hL⟩
theorem Fr.put {L : List Nat} {h h' : H} (f : Fr L h h') {b : Nat} (hb : b ∈ L ∨ h.next ≤ b) (hl : b < h'.next) (x : Option Blk) : Fr L h (h'.put b x) :=
  ⟨f.le, f.ok.put hl x, fun c hc hL => by
    rw [get_put_ne (by rintro rfl; rcases hb with q | q; exact hL q; omega)]; exact f.same c hc hL⟩
theorem Fr.trans {L L' : List Nat} {h h1 h2 : H} (f : Fr L h h1) (g : Fr L' h1 h2) (hL : ∀ b ∈ L', b ∈ L ∨ h.next ≤ b) : Fr L h h2 :=
  ⟨Nat.le_trans f.le g.le, g.ok, fun b hb hn => by
    rw [g.same b (by have := f.le; omega) (fun q => by rcases hL b q with q | q; exact hn q; omega)]; exact f.same b hb hn⟩
theorem Fr.trans' {L : List Nat} {h h1 h2 : H} (f : Fr L h h1) (g : Fr L h1 h2) : Fr L h h2 := f.trans g fun _ q => .inl q
theorem Fr.mono {L L' : List Nat} {h h1 : H} (f : Fr L h h1) (hL : ∀ b ∈ L, b ∈ L' ∨ h.next ≤ b) : Fr L' h h1 :=
  ⟨f.le, f.ok, fun b hb hn => f.same b hb fun q => by rcases hL b q with q | q; exact hn q; omega⟩
theorem Fr.get {L : List Nat} {h h' : H} (f : Fr L h h') (ok : h.ok) {b : Nat} {x : Blk} (hb : h.get b = some x) (hL : b ∉ L) : h'.get b = some x := by
  rw [f.same b (ok.lt hb) hL]; exact hb
theorem Fr.lt {L : List Nat} {h h' : H} (f : Fr L h h') {b : Nat} (hb : b < h.next) : b < h'.next := Nat.lt_of_lt_of_le hb f.le

/-! ### Reads and writes of blocks that are known -/
section
variable {h : H} {n b o : Nat}
theorem ld1_get' : h.ld1 (.ptr b o) = ldB (h.get b) o := H.ld1_eq
theorem ldN_get' : h.ldN (n + 1) (.ptr b o) = ldNB (h.get b) o (n + 1) := H.ldN_eq (Nat.succ_ne_zero n)
theorem st_get' {x : V} : h.st n (.ptr b o) x = match Nat.beq x.cells.length n with
    | true => (stB (h.get b) o x.cells).map fun y => h.put b (some y)
    | false => none := by
  simp only [H.st]
  split
  · rename_i hb; simp only [hb, H.stc_eq]
  · rename_i hb; simp only [hb]
theorem get_put' {x : Option Blk} {c : Nat} : (h.put b x).get c = if c = b then x else h.get c := H.get_put _ _ _ _
theorem get_new' {x : Blk} {c : Nat} : (h.new x).get c = if c = h.next then some x else h.get c := H.get_new _ _ _
theorem put_put' {x y : Option Blk} : (h.put b x).put b y = h.put b y := by
  simp only [H.put, T.put, T.put'_put' _ _ _ _ _ _ (Nat.lt_succ_self _) (Nat.lt_succ_self _)]
end
theorem lenSl_sl (b o n : Nat) (c : Cap) : lenSl (.sl b o n c) = some n := rfl
theorem nilc_ptr (b o : Nat) : nilc (.ptr b o) = some (.ptr b o) := rfl
theorem eqPtr_ptr (b o : Nat) : eqPtr (.ptr b o) .nilp = some false := rfl
theorem H.ok.ne0 {h : H} (ok : h.ok) {b : Nat} {x : Blk} (hb : h.get b = some x) : b ≠ h.next := by have := ok.lt hb; omega

/-! ### Configs -/
structure Cfg where
  s : Int
  a : Int
  c : Int
  hd : Int
  g : Int
  st : Int
def Cfg.cs (k : Cfg) : List V := [.int .i64 k.s, .int .i64 k.a, .int .i64 k.c, .int .i64 k.hd, .int .i64 k.g, .int .i64 k.st]
def Cfg.v (k : Cfg) : V := cfgV k.s k.a k.c k.hd k.g k.st
def Cfg.R (k : Cfg) : Bool := cfgR k.s k.a k.c k.hd k.g k.st

/-! ### Words of a memory -/
structure Touch where
  kind : Int
  at' : Int
  was : Int
  now : Int
structure Mem where
  ws : List Int
  n : Int
  last : Touch

def Mem.there (m : Mem) (k : Int) : Bool := decide (0 ≤ k) && decide (k < m.ws.length)
def Mem.w (m : Mem) (k : Int) : Int := m.ws.getD k.toNat 0
def Mem.touch (m : Mem) (kind k now : Int) : Mem := ⟨m.ws.set k.toNat now, wr .i64 (m.n + 1), ⟨kind, k, m.w k, now⟩⟩
def Mem.load (m : Mem) (k : Int) : Mem := if m.there k then m.touch 1 k (m.w k) else m
def Mem.val (m : Mem) (k : Int) : Int := if m.there k then m.w k else 0
def Mem.swap (m : Mem) (k old now : Int) : Mem := if m.there k then m.touch 3 k (if m.w k = old then now else m.w k) else m
def Mem.swaps (m : Mem) (k old : Int) : Bool := m.there k && decide (m.w k = old)
/-- A memory stands in these two blocks. -/
structure MemAt (h : H) (b bw : Nat) (m : Mem) : Prop where
  ne : b ≠ bw
  own : ∃ c, h.get b = some (.cells [.sl bw 0 m.ws.length c, .int .i64 m.n, .int .i64 m.last.kind, .int .i64 m.last.at', .int .u64 m.last.was, .int .u64 m.last.now] .rw)
  row : ∃ k, k ≠ Bk.ro ∧ h.get bw = some (.cells (m.ws.map (.int .u64)) k)
  u64 : ∀ w ∈ m.ws, U64 w
  small : m.ws.length ≤ 65536

theorem MemAt.fr {h h' : H} {L : List Nat} {b bw : Nat} {m : Mem} (M : MemAt h b bw m) (ok : h.ok) (f : Fr L h h') (h1 : b ∉ L) (h2 : bw ∉ L) : MemAt h' b bw m := by
  obtain ⟨ne, ⟨c, ho⟩, ⟨k, hk, hr⟩, hu, hs⟩ := M
  exact ⟨ne, ⟨c, f.get ok ho h1⟩, ⟨k, hk, f.get ok hr h2⟩, hu, hs⟩
theorem MemAt.w64 {h : H} {b bw : Nat} {m : Mem} (M : MemAt h b bw m) (k : Int) : U64 (m.w k) := by
  unfold Mem.w
  rw [List.getD_eq_getElem?_getD]
  cases hk : m.ws[k.toNat]? with
  | none => exact ⟨by decide, by decide⟩
  | some w => exact M.u64 w (List.mem_of_getElem? hk)
end Wm
end

section
/- A slice that grows among blocks that came: what it holds. -/
namespace Wm

/-- The slice holds these cells; its block is one of those behind the first. -/
def Acc (h : H) (L : List (Option Blk)) (x : V) (e n : Nat) (l : List V) : Prop :=
  l.length = n * e ∧ l.all V.one = true ∧ ∃ j, (x = .sl (h.next + (j + 1)) 0 n (.op e) ∧ L[j]? = some (some (.cells l (.gr e)))) ∨ (x = .sl (h.next + (j + 1)) 0 n (.ex n) ∧ L[j]? = some (some (.cells l .rw)))

theorem lt_of_get {α : Type} {l : List α} {j : Nat} {x : α} (h : l[j]? = some x) : j < l.length := by
  rcases Nat.lt_or_ge j l.length with q | q
  · exact q
  · rw [List.getElem?_eq_none q] at h; cases h

theorem append_ex' {h : H} {e b bb o len n c : Nat} {x : V} {new old : List V} (hx : lenSl x = some n) (hn : h.slc e x = some new) (ho : h.slc e (.sl bb o len (.ex c)) = some old) (h1 : new.all V.one = true) (h2 : (len + n + (len + n) / 2 + 1000) * b ≤ 281474976710656) (he : 0 < e) (hb : 0 < b) (hc : ¬ len + n ≤ c) :
    h.append e b (.sl bb o len (.ex c)) x = some (.sl h.next 0 (len + n) (.op e), h.new (.cells (old ++ new) (.gr e))) := by
  have h3 : lenSl (.sl bb o len (.ex c)) = some len := rfl
  simp only [H.append, hx, hn, h3, ho, h1, h2, he, hb, decide_true, Bool.and_self, hc, decide_false]

theorem Acc.grow {h : H} {F : Option Blk} {L : List (Option Blk)} {x : V} {e n m b : Nat} {l new : List V} (hA : Acc h L x e n l) (hn : new.length = m * e) (h1 : new.all V.one = true) (hm : 0 < m) (he : 0 < e) (hb : 0 < b) (hs : (n + m + (n + m) / 2 + 1000) * b ≤ 281474976710656) :
    ∃ x' L', (h.ext (F :: (L ++ [some (.cells new .rw)]))).append e b x (.sl (h.next + (L.length + 1)) 0 m (.ex m)) = some (x', h.ext (F :: L')) ∧ Acc h L' x' e (n + m) (l ++ new) := by
  obtain ⟨hl, ho, j, hj⟩ := hA
  have hlen : (l ++ new).length = (n + m) * e := by rw [List.length_append, hl, hn, Nat.add_mul]
  have hone : (l ++ new).all V.one = true := by rw [List.all_append, ho, h1]; rfl
  have e1 : (F :: (L ++ [some (Blk.cells new .rw)])).length = L.length + 2 := by rw [List.length_cons, List.length_append]; rfl
  have hnew : (h.ext (F :: (L ++ [some (.cells new .rw)]))).slc e (.sl (h.next + (L.length + 1)) 0 m (.ex m)) = some new := by
    rw [slc_get (cs := new) (k := .rw) ?_ (by omega)]
    · rw [List.drop_zero, List.take_of_length_le (by omega)]
    · rw [H.ext_get (by rw [e1]; omega), List.getElem?_cons_succ, List.getElem?_append_right (Nat.le_refl _), Nat.sub_self]; rfl
  rcases hj with ⟨rfl, hjL⟩ | ⟨rfl, hjL⟩
  · have hlt := lt_of_get hjL
    have hbk : (h.ext (F :: (L ++ [some (.cells new .rw)]))).get (h.next + (j + 1)) = some (.cells l (.gr e)) := by
      rw [H.ext_get (by rw [e1]; omega), List.getElem?_cons_succ, List.getElem?_append_left hlt, hjL]; rfl
    have hold : (h.ext (F :: (L ++ [some (.cells new .rw)]))).slc e (.sl (h.next + (j + 1)) 0 n (.op e)) = some l := by
      rw [slc_get hbk (by omega), List.drop_zero, List.take_of_length_le (by omega)]
    refine ⟨.sl (h.next + (L.length + 2)) 0 (n + m) (.op e), (L ++ [some (Blk.cells new .rw)]).set j none ++ [some (Blk.cells (l ++ new) (.gr e))], ?_, hlen, hone, L.length + 1, Or.inl ⟨rfl, ?_⟩⟩
    · rw [append_op (n := m) rfl hnew hold hbk h1 hs he hb, H.ext_put (by rw [e1]; omega), H.new_ext, H.ext_ext, H.ext_next, e1]
      rfl
    · rw [List.getElem?_append_right (by rw [List.length_set, List.length_append]; exact Nat.le_refl _), List.length_set, List.length_append]
      simp only [List.length_singleton, Nat.sub_self, List.getElem?_cons_zero]
  · have hlt := lt_of_get hjL
    have hbk : (h.ext (F :: (L ++ [some (.cells new .rw)]))).get (h.next + (j + 1)) = some (.cells l .rw) := by
      rw [H.ext_get (by rw [e1]; omega), List.getElem?_cons_succ, List.getElem?_append_left hlt, hjL]; rfl
    have hold : (h.ext (F :: (L ++ [some (.cells new .rw)]))).slc e (.sl (h.next + (j + 1)) 0 n (.ex n)) = some l := by
      rw [slc_get hbk (by omega), List.drop_zero, List.take_of_length_le (by omega)]
    refine ⟨.sl (h.next + (L.length + 2)) 0 (n + m) (.op e), L ++ [some (Blk.cells new .rw)] ++ [some (Blk.cells (l ++ new) (.gr e))], ?_, hlen, hone, L.length + 1, Or.inl ⟨rfl, ?_⟩⟩
    · rw [append_ex' (n := m) rfl hnew hold h1 hs he hb (by omega), H.new_ext, H.ext_ext, H.ext_next, e1]
      rfl
    · rw [List.getElem?_append_right (by rw [List.length_append]; exact Nat.le_refl _), List.length_append]
      simp only [List.length_singleton, Nat.sub_self, List.getElem?_cons_zero]
end Wm
end

section
/- All words of a config, in their order: withyref06.Words. -/
namespace Wm

/-- A loop that counts, and appends so many elements each time. -/
theorem acc_loop {h : H} {F : Option Blk} {e N m id : Nat} {B : List V → H → Option (AX × List V × H)} (enc : V → Nat → List V) (O : V → List V) (new : Nat → List V)
    (hstep : ∀ i x L n l, i < N → n + m ≤ 100000 → Acc h L x e n l → ∃ x' L', B (enc x i) (h.ext (F :: L)) = some (.normal, enc x' (i + 1), h.ext (F :: L')) ∧ Acc h L' x' e (n + m) (l ++ new i))
    (hout : ∀ x L, B (enc x N) (h.ext (F :: L)) = some (.exit id, O x, h.ext (F :: L))) :
    ∀ (k i : Nat) (x : V) (L : List (Option Blk)) (n : Nat) (l : List V), i + k = N → n + k * m ≤ 100000 → Acc h L x e n l → ∃ x' L', loopW B (enc x i) (h.ext (F :: L)) = some (.exit id, O x', h.ext (F :: L')) ∧ Acc h L' x' e (n + k * m) (l ++ (List.range' i k).flatMap new)
  | 0, i, x, L, n, l, hi, _, hA => by
    have : i = N := by omega
    subst this
    exact ⟨x, L, loopW_out (hout x L) (by simp), by simpa using hA⟩
  | k + 1, i, x, L, n, l, hi, hn, hA => by
    rw [Nat.add_mul] at hn
    obtain ⟨x1, L1, h1, hA1⟩ := hstep i x L n l (by omega) (by omega) hA
    obtain ⟨x2, L2, h2, hA2⟩ := acc_loop enc O new hstep hout k (i + 1) x1 L1 (n + m) (l ++ new i) (by omega) (by omega) hA1
    refine ⟨x2, L2, loopW_next h1 h2, ?_⟩
    rw [show n + (k + 1) * m = n + m + k * m by rw [Nat.add_mul]; omega, List.range'_succ, List.flatMap_cons, ← List.append_assoc]
    exact hA2

/-- A word's description. -/
def pinW (k : Nat) : List V := [.str ⟨⟨[112, 105, 110]⟩⟩, .int .i64 k, .int .i64 0]
def entryW (k i : Nat) : List V := [.str ⟨⟨[101, 110, 116, 114, 121]⟩⟩, .int .i64 k, .int .i64 i]
def viewW (k : Nat) : List V := [.str ⟨⟨[118, 105, 101, 119]⟩⟩, .int .i64 k, .int .i64 0, .str ⟨⟨[115, 116, 97, 114, 116]⟩⟩, .int .i64 k, .int .i64 0]
def headW (k : Nat) : List V := [.str ⟨⟨[104, 101, 97, 100, 101, 114]⟩⟩, .int .i64 k, .int .i64 0, .str ⟨⟨[108, 105, 110, 107]⟩⟩, .int .i64 k, .int .i64 0]
def bodyW (k i : Nat) : List V := [.str ⟨⟨[98, 111, 100, 121]⟩⟩, .int .i64 k, .int .i64 i]
def oneW : List V := [.str ⟨⟨[99, 108, 111, 99, 107]⟩⟩, .int .i64 0, .int .i64 0, .str ⟨⟨[101, 112, 111, 99, 104]⟩⟩, .int .i64 0, .int .i64 0, .str ⟨⟨[103, 114, 97, 121, 115]⟩⟩, .int .i64 0, .int .i64 0, .str ⟨⟨[116, 111, 112]⟩⟩, .int .i64 0, .int .i64 0]
def slotW (room k : Nat) : List V := headW k ++ (List.range room).flatMap (bodyW k)
def wordsW (S room c hd : Nat) : List V :=
  oneW ++ (List.range c).flatMap pinW ++ (List.range c).flatMap (fun k => (List.range hd).flatMap (entryW k)) ++ (List.range c).flatMap viewW ++ (List.range S).flatMap (slotW room)
def sizeW (S room c hd : Nat) : Nat := 4 + c * 1 + c * hd + c * 2 + S * (2 + room)

theorem refRoom_spec (s a c hd g st : Int) (h : H) : C 149 [cfgV s a c hd g st] h = some (.int .i64 (if a < 3 then 3 else a), h) := by
  refine call_closed (af := F.withyref06_Room) (by kernel_rfl) rfl (by rfl) (by rfl) h ?_
  have ok := H.ok_empty
  unfold cfgV
  rw [S.withyref06_Room_eq]
  simp only [S.withyref06_Room, H.new_ext, H.ext_ldk_0, ok, ldB_cells, V.one, List.getElem?_cons_zero, List.getElem?_cons_succ, Option.bind_some, Option.join_some, asI_int]
  by_cases h0 : a < 3
  · simp only [h0, if_true, decide_true]; exact Ev.some rfl
  · simp only [h0, if_false, decide_false]; exact Ev.some rfl

section
variable {h : H} (ok : h.ok) (s a g st : Int) (c hd : Nat) (hc : c ≤ 8) (hhd : hd ≤ 16)
include ok hc hhd

omit hc hhd in
theorem ldF {L : List (Option Blk)} {cs : List V} {k : Nat} {v : V} (hv : cs[k]? = some v) (h1 : v.one = true) : (h.ext (some (.cells cs .rw) :: L)).ld1 (.ptr h.next k) = some v := by
  rw [H.ext_ldk_0 ok]
  simp only [List.getElem?_cons_zero, Option.join_some, ldB_cells, hv, h1]


theorem pins_loop : ∀ (k i : Nat) (x : V) (L : List (Option Blk)) (n : Nat) (l : List V), i + k = c → n + k * 1 ≤ 100000 → Acc h L x 3 n l → ∃ x' L', loopW (S.withyref06_Words_c1_B W) (S.withyref06_Words_c1_E (.ptr h.next 0) x (.int .i64 (i : Nat))) (h.ext ((some (.cells [.int .i64 s, .int .i64 a, .int .i64 c, .int .i64 hd, .int .i64 g, .int .i64 st] .rw)) :: L)) = some (.exit 0, S.withyref06_Words_c1_O (.ptr h.next 0) x', h.ext ((some (.cells [.int .i64 s, .int .i64 a, .int .i64 c, .int .i64 hd, .int .i64 g, .int .i64 st] .rw)) :: L')) ∧ Acc h L' x' 3 (n + k * 1) (l ++ (List.range' i k).flatMap pinW) := by
  refine acc_loop (fun x i => S.withyref06_Words_c1_E (.ptr h.next 0) x (.int .i64 (i : Nat))) (fun x => S.withyref06_Words_c1_O (.ptr h.next 0) x) pinW (fun i x L n l hi hn hA => ?_) (fun x L => ?_)
  · rw [S.withyref06_Words_c1_eq]
    have hf := ldF ok (L := L) (cs := [.int .i64 s, .int .i64 a, .int .i64 c, .int .i64 hd, .int .i64 g, .int .i64 st]) (k := 2) rfl rfl
    obtain ⟨x', L', h1, hA'⟩ := hA.grow (F := (some (.cells [.int .i64 s, .int .i64 a, .int .i64 c, .int .i64 hd, .int .i64 g, .int .i64 st] .rw))) (b := 32) (m := 1) (new := pinW i) rfl rfl (by omega) (by omega) (by omega) (by omega)
    have hw : wr .i64 ((i : Int) + 1) = ((i + 1 : Nat) : Int) := by rw [wr64 (by omega) (by omega)]; rfl
    refine ⟨x', L', ?_, hA'⟩
    simp only [S.withyref06_Words_c1_S, ptrAt_ptr, Nat.zero_add, hf, Option.bind_some, asI_int, show (i : Int) < ((c : Nat) : Int) by omega, decide_true, H.new_ext, H.ext_ext, H.ext_next, List.cons_append, List.length_cons]
    simp only [pinW] at h1
    rw [h1]
    simp only [Option.bind_some, hw]
  · rw [S.withyref06_Words_c1_eq]
    have hf := ldF ok (L := L) (cs := [.int .i64 s, .int .i64 a, .int .i64 c, .int .i64 hd, .int .i64 g, .int .i64 st]) (k := 2) rfl rfl
    simp only [S.withyref06_Words_c1_S, ptrAt_ptr, Nat.zero_add, hf, Option.bind_some, asI_int, Int.lt_irrefl, decide_false]

theorem entries_loop (q : Nat) : ∀ (k i : Nat) (x : V) (L : List (Option Blk)) (n : Nat) (l : List V), i + k = hd → n + k * 1 ≤ 100000 → Acc h L x 3 n l → ∃ x' L', loopW (S.withyref06_Words_c5_B W) (S.withyref06_Words_c5_E (.ptr h.next 0) x (.int .i64 (q : Nat)) (.int .i64 (i : Nat))) (h.ext ((some (.cells [.int .i64 s, .int .i64 a, .int .i64 c, .int .i64 hd, .int .i64 g, .int .i64 st] .rw)) :: L)) = some (.exit 4, S.withyref06_Words_c5_O (.ptr h.next 0) x' (.int .i64 (q : Nat)), h.ext ((some (.cells [.int .i64 s, .int .i64 a, .int .i64 c, .int .i64 hd, .int .i64 g, .int .i64 st] .rw)) :: L')) ∧ Acc h L' x' 3 (n + k * 1) (l ++ (List.range' i k).flatMap (entryW q)) := by
  refine acc_loop (fun x i => S.withyref06_Words_c5_E (.ptr h.next 0) x (.int .i64 (q : Nat)) (.int .i64 (i : Nat))) (fun x => S.withyref06_Words_c5_O (.ptr h.next 0) x (.int .i64 (q : Nat))) (entryW q) (fun i x L n l hi hn hA => ?_) (fun x L => ?_)
  · rw [S.withyref06_Words_c5_eq]
    have hf := ldF ok (L := L) (cs := [.int .i64 s, .int .i64 a, .int .i64 c, .int .i64 hd, .int .i64 g, .int .i64 st]) (k := 3) rfl rfl
    obtain ⟨x', L', h1, hA'⟩ := hA.grow (F := (some (.cells [.int .i64 s, .int .i64 a, .int .i64 c, .int .i64 hd, .int .i64 g, .int .i64 st] .rw))) (b := 32) (m := 1) (new := entryW q i) rfl rfl (by omega) (by omega) (by omega) (by omega)
    have hw : wr .i64 ((i : Int) + 1) = ((i + 1 : Nat) : Int) := by rw [wr64 (by omega) (by omega)]; rfl
    refine ⟨x', L', ?_, hA'⟩
    simp only [S.withyref06_Words_c5_S, ptrAt_ptr, Nat.zero_add, hf, Option.bind_some, asI_int, show (i : Int) < ((hd : Nat) : Int) by omega, decide_true, H.new_ext, H.ext_ext, H.ext_next, List.cons_append, List.length_cons]
    simp only [entryW] at h1
    rw [h1]
    simp only [Option.bind_some, hw]
  · rw [S.withyref06_Words_c5_eq]
    have hf := ldF ok (L := L) (cs := [.int .i64 s, .int .i64 a, .int .i64 c, .int .i64 hd, .int .i64 g, .int .i64 st]) (k := 3) rfl rfl
    simp only [S.withyref06_Words_c5_S, ptrAt_ptr, Nat.zero_add, hf, Option.bind_some, asI_int, Int.lt_irrefl, decide_false]

theorem views_loop : ∀ (k i : Nat) (x : V) (L : List (Option Blk)) (n : Nat) (l : List V), i + k = c → n + k * 2 ≤ 100000 → Acc h L x 3 n l → ∃ x' L', loopW (S.withyref06_Words_c7_B W) (S.withyref06_Words_c7_E (.ptr h.next 0) x (.int .i64 (i : Nat))) (h.ext ((some (.cells [.int .i64 s, .int .i64 a, .int .i64 c, .int .i64 hd, .int .i64 g, .int .i64 st] .rw)) :: L)) = some (.exit 6, S.withyref06_Words_c7_O (.ptr h.next 0) x', h.ext ((some (.cells [.int .i64 s, .int .i64 a, .int .i64 c, .int .i64 hd, .int .i64 g, .int .i64 st] .rw)) :: L')) ∧ Acc h L' x' 3 (n + k * 2) (l ++ (List.range' i k).flatMap viewW) := by
  refine acc_loop (fun x i => S.withyref06_Words_c7_E (.ptr h.next 0) x (.int .i64 (i : Nat))) (fun x => S.withyref06_Words_c7_O (.ptr h.next 0) x) viewW (fun i x L n l hi hn hA => ?_) (fun x L => ?_)
  · rw [S.withyref06_Words_c7_eq]
    have hf := ldF ok (L := L) (cs := [.int .i64 s, .int .i64 a, .int .i64 c, .int .i64 hd, .int .i64 g, .int .i64 st]) (k := 2) rfl rfl
    obtain ⟨x', L', h1, hA'⟩ := hA.grow (F := (some (.cells [.int .i64 s, .int .i64 a, .int .i64 c, .int .i64 hd, .int .i64 g, .int .i64 st] .rw))) (b := 32) (m := 2) (new := viewW i) rfl rfl (by omega) (by omega) (by omega) (by omega)
    have hw : wr .i64 ((i : Int) + 1) = ((i + 1 : Nat) : Int) := by rw [wr64 (by omega) (by omega)]; rfl
    refine ⟨x', L', ?_, hA'⟩
    simp only [S.withyref06_Words_c7_S, ptrAt_ptr, Nat.zero_add, hf, Option.bind_some, asI_int, show (i : Int) < ((c : Nat) : Int) by omega, decide_true, H.new_ext, H.ext_ext, H.ext_next, List.cons_append, List.length_cons]
    simp only [viewW] at h1
    rw [h1]
    simp only [Option.bind_some, hw]
  · rw [S.withyref06_Words_c7_eq]
    have hf := ldF ok (L := L) (cs := [.int .i64 s, .int .i64 a, .int .i64 c, .int .i64 hd, .int .i64 g, .int .i64 st]) (k := 2) rfl rfl
    simp only [S.withyref06_Words_c7_S, ptrAt_ptr, Nat.zero_add, hf, Option.bind_some, asI_int, Int.lt_irrefl, decide_false]

theorem allEntries_loop : ∀ (k i : Nat) (x : V) (L : List (Option Blk)) (n : Nat) (l : List V), i + k = c → n + k * hd ≤ 100000 → Acc h L x 3 n l → ∃ x' L', loopW (S.withyref06_Words_c3_B W) (S.withyref06_Words_c3_E (.ptr h.next 0) x (.int .i64 (i : Nat))) (h.ext ((some (.cells [.int .i64 s, .int .i64 a, .int .i64 c, .int .i64 hd, .int .i64 g, .int .i64 st] .rw)) :: L)) = some (.exit 2, S.withyref06_Words_c3_O (.ptr h.next 0) x', h.ext ((some (.cells [.int .i64 s, .int .i64 a, .int .i64 c, .int .i64 hd, .int .i64 g, .int .i64 st] .rw)) :: L')) ∧ Acc h L' x' 3 (n + k * hd) (l ++ (List.range' i k).flatMap fun k => (List.range' 0 hd).flatMap (entryW k)) := by
  refine acc_loop (fun x i => S.withyref06_Words_c3_E (.ptr h.next 0) x (.int .i64 (i : Nat))) (fun x => S.withyref06_Words_c3_O (.ptr h.next 0) x) (fun k => (List.range' 0 hd).flatMap (entryW k)) (fun i x L n l hi hn hA => ?_) (fun x L => ?_)
  · rw [S.withyref06_Words_c3_eq]
    have hf := ldF ok (L := L) (cs := [.int .i64 s, .int .i64 a, .int .i64 c, .int .i64 hd, .int .i64 g, .int .i64 st]) (k := 2) rfl rfl
    obtain ⟨x', L', h1, hA'⟩ := entries_loop ok s a g st c hd hc hhd i hd 0 x L n l (by omega) (by omega) hA
    have hw : wr .i64 ((i : Int) + 1) = ((i + 1 : Nat) : Int) := by rw [wr64 (by omega) (by omega)]; rfl
    rw [Nat.mul_one] at hA'
    refine ⟨x', L', ?_, hA'⟩
    have h1' : W.loop (S.withyref06_Words_c5_B W) (S.withyref06_Words_c5_E (.ptr h.next 0) x (.int .i64 (i : Nat)) (.int .i64 0)) (h.ext ((some (.cells [.int .i64 s, .int .i64 a, .int .i64 c, .int .i64 hd, .int .i64 g, .int .i64 st] .rw)) :: L)) = _ := h1
    simp only [S.withyref06_Words_c3_S, ptrAt_ptr, Nat.zero_add, hf, Option.bind_some, asI_int, show (i : Int) < ((c : Nat) : Int) by omega, decide_true]
    rw [h1']
    simp only [Option.bind_some]
    rw [S.withyref06_Words_c5_e4_eq]
    simp only [S.withyref06_Words_c5_e4, hw]
  · rw [S.withyref06_Words_c3_eq]
    have hf := ldF ok (L := L) (cs := [.int .i64 s, .int .i64 a, .int .i64 c, .int .i64 hd, .int .i64 g, .int .i64 st]) (k := 2) rfl rfl
    simp only [S.withyref06_Words_c3_S, ptrAt_ptr, Nat.zero_add, hf, Option.bind_some, asI_int, Int.lt_irrefl, decide_false]

theorem bodies_loop (q room : Nat) (hr : (if a < 3 then 3 else a) = (room : Int)) (hr2 : room ≤ 10) : ∀ (k i : Nat) (x : V) (L : List (Option Blk)) (n : Nat) (l : List V), i + k = room → n + k * 1 ≤ 100000 → Acc h L x 3 n l → ∃ x' L', loopW (S.withyref06_Words_c11_B W) (S.withyref06_Words_c11_E (.ptr h.next 0) x (.int .i64 (q : Nat)) (.int .i64 (i : Nat))) (h.ext ((some (.cells [.int .i64 s, .int .i64 a, .int .i64 c, .int .i64 hd, .int .i64 g, .int .i64 st] .rw)) :: L)) = some (.exit 10, S.withyref06_Words_c11_O (.ptr h.next 0) x' (.int .i64 (q : Nat)), h.ext ((some (.cells [.int .i64 s, .int .i64 a, .int .i64 c, .int .i64 hd, .int .i64 g, .int .i64 st] .rw)) :: L')) ∧ Acc h L' x' 3 (n + k * 1) (l ++ (List.range' i k).flatMap (bodyW q)) := by
  have hd6 : ∀ L, (h.ext ((some (.cells [.int .i64 s, .int .i64 a, .int .i64 c, .int .i64 hd, .int .i64 g, .int .i64 st] .rw)) :: L)).ldN 6 (.ptr h.next 0) = some (.agg [.int .i64 s, .int .i64 a, .int .i64 c, .int .i64 hd, .int .i64 g, .int .i64 st]) := fun L => by
    rw [H.ext_ldNk_0 ok]; rfl
  have hR := refRoom_spec s a c hd g st
  rw [hr] at hR
  unfold cfgV at hR
  refine acc_loop (fun x i => S.withyref06_Words_c11_E (.ptr h.next 0) x (.int .i64 (q : Nat)) (.int .i64 (i : Nat))) (fun x => S.withyref06_Words_c11_O (.ptr h.next 0) x (.int .i64 (q : Nat))) (bodyW q) (fun i x L n l hi hn hA => ?_) (fun x L => ?_)
  · rw [S.withyref06_Words_c11_eq]
    obtain ⟨x', L', h1, hA'⟩ := hA.grow (F := (some (.cells [.int .i64 s, .int .i64 a, .int .i64 c, .int .i64 hd, .int .i64 g, .int .i64 st] .rw))) (b := 32) (m := 1) (new := bodyW q i) rfl rfl (by omega) (by omega) (by omega) (by omega)
    have hw : wr .i64 ((i : Int) + 1) = ((i + 1 : Nat) : Int) := by rw [wr64 (by omega) (by omega)]; rfl
    refine ⟨x', L', ?_, hA'⟩
    simp only [S.withyref06_Words_c11_S, hd6, W_call, hR, Option.bind_some, asI_int, show (i : Int) < ((room : Nat) : Int) by omega, decide_true, H.new_ext, H.ext_ext, H.ext_next, List.cons_append, List.length_cons]
    simp only [bodyW] at h1
    rw [h1]
    simp only [Option.bind_some, hw]
  · rw [S.withyref06_Words_c11_eq]
    simp only [S.withyref06_Words_c11_S, hd6, W_call, hR, Option.bind_some, asI_int, Int.lt_irrefl, decide_false]

theorem slots_loop (S' room : Nat) (hS : s = (S' : Int)) (hS2 : S' ≤ 64) (hr : (if a < 3 then 3 else a) = (room : Int)) (hr2 : room ≤ 10) : ∀ (k i : Nat) (x : V) (L : List (Option Blk)) (n : Nat) (l : List V), i + k = S' → n + k * (2 + room) ≤ 100000 → Acc h L x 3 n l → ∃ x' L', loopW (S.withyref06_Words_c9_B W) (S.withyref06_Words_c9_E (.ptr h.next 0) x (.int .i64 (i : Nat))) (h.ext ((some (.cells [.int .i64 s, .int .i64 a, .int .i64 c, .int .i64 hd, .int .i64 g, .int .i64 st] .rw)) :: L)) = some (.exit 8, S.withyref06_Words_c9_O x', h.ext ((some (.cells [.int .i64 s, .int .i64 a, .int .i64 c, .int .i64 hd, .int .i64 g, .int .i64 st] .rw)) :: L')) ∧ Acc h L' x' 3 (n + k * (2 + room)) (l ++ (List.range' i k).flatMap fun k => headW k ++ (List.range' 0 room).flatMap (bodyW k)) := by
  refine acc_loop (fun x i => S.withyref06_Words_c9_E (.ptr h.next 0) x (.int .i64 (i : Nat))) (fun x => S.withyref06_Words_c9_O x) (fun k => headW k ++ (List.range' 0 room).flatMap (bodyW k)) (fun i x L n l hi hn hA => ?_) (fun x L => ?_)
  · rw [S.withyref06_Words_c9_eq]
    have hf := ldF ok (L := L) (cs := [.int .i64 s, .int .i64 a, .int .i64 c, .int .i64 hd, .int .i64 g, .int .i64 st]) (k := 0) rfl rfl
    obtain ⟨x1, L1, h1, hA1⟩ := hA.grow (F := (some (.cells [.int .i64 s, .int .i64 a, .int .i64 c, .int .i64 hd, .int .i64 g, .int .i64 st] .rw))) (b := 32) (m := 2) (new := headW i) rfl rfl (by omega) (by omega) (by omega) (by omega)
    obtain ⟨x', L', h2, hA'⟩ := bodies_loop ok s a g st c hd hc hhd i room hr hr2 room 0 x1 L1 (n + 2) (l ++ headW i) (by omega) (by omega) hA1
    have hw : wr .i64 ((i : Int) + 1) = ((i + 1 : Nat) : Int) := by rw [wr64 (by omega) (by omega)]; rfl
    rw [Nat.mul_one, List.append_assoc, Nat.add_assoc] at hA'
    refine ⟨x', L', ?_, hA'⟩
    have h2' : W.loop (S.withyref06_Words_c11_B W) (S.withyref06_Words_c11_E (.ptr h.next 0) x1 (.int .i64 (i : Nat)) (.int .i64 0)) (h.ext ((some (.cells [.int .i64 s, .int .i64 a, .int .i64 c, .int .i64 hd, .int .i64 g, .int .i64 st] .rw)) :: L1)) = _ := h2
    simp only [S.withyref06_Words_c9_S, ptrAt_ptr, Nat.zero_add, hf, Option.bind_some, asI_int, show (i : Int) < s by omega, decide_true, H.new_ext, H.ext_ext, H.ext_next, List.cons_append, List.length_cons]
    simp only [headW] at h1
    rw [h1]
    simp only [Option.bind_some]
    rw [h2']
    simp only [Option.bind_some]
    rw [S.withyref06_Words_c11_e10_eq]
    simp only [S.withyref06_Words_c11_e10, hw]
  · rw [S.withyref06_Words_c9_eq]
    have hf := ldF ok (L := L) (cs := [.int .i64 s, .int .i64 a, .int .i64 c, .int .i64 hd, .int .i64 g, .int .i64 st]) (k := 0) rfl rfl
    simp only [S.withyref06_Words_c9_S, ptrAt_ptr, Nat.zero_add, hf, Option.bind_some, asI_int, show ¬ ((S' : Nat) : Int) < s by omega, decide_false]
end

theorem range'_zero (n : Nat) : List.range' 0 n = List.range n := (List.range_eq_range').symm

theorem words_spec {s a c hd g st : Int} (hr : cfgR s a c hd g st = true) {h : H} (ok : h.ok) : ∃ x L, C 87 [cfgV s a c hd g st] h = some (x, h.ext (some (.cells [.int .i64 s, .int .i64 a, .int .i64 c, .int .i64 hd, .int .i64 g, .int .i64 st] .rw) :: L)) ∧
    Acc h L x 3 (sizeW s.toNat (if a < 3 then 3 else a).toNat c.toNat hd.toNat) (wordsW s.toNat (if a < 3 then 3 else a).toNat c.toNat hd.toNat) := by
  obtain ⟨⟨s1, s2⟩, ⟨a1, a2⟩, ⟨c1, c2⟩, ⟨d1, d2⟩, _⟩ := cfgR_iff.mp hr
  obtain ⟨c', rfl⟩ : ∃ n : Nat, c = n := ⟨c.toNat, by omega⟩
  obtain ⟨hd', rfl⟩ : ∃ n : Nat, hd = n := ⟨hd.toNat, by omega⟩
  obtain ⟨s', rfl⟩ : ∃ n : Nat, s = n := ⟨s.toNat, by omega⟩
  obtain ⟨room, hroom⟩ : ∃ n : Nat, (if a < 3 then 3 else a) = (n : Int) := ⟨(if a < 3 then 3 else a).toNat, by split <;> omega⟩
  have hroom2 : room ≤ 10 := by split at hroom <;> omega
  have hS2 : s' ≤ 64 := by omega
  rw [hroom]
  simp only [Int.toNat_natCast]
  -- loop by loop
  have hA0 : Acc h [some (.cells oneW .rw)] (.sl (h.next + 1) 0 4 (.ex 4)) 3 4 oneW := ⟨rfl, rfl, 0, Or.inr ⟨rfl, rfl⟩⟩
  obtain ⟨x1, L1, e1, A1⟩ := pins_loop ok s' a g st c' hd' (by omega) (by omega) c' 0 _ _ 4 _ (by omega) (by omega) hA0
  have b1 : c' * hd' ≤ 8 * 16 := Nat.mul_le_mul (by omega) (by omega)
  obtain ⟨x2, L2, e2, A2⟩ := allEntries_loop ok s' a g st c' hd' (by omega) (by omega) c' 0 _ _ _ _ (by omega) (by omega) A1
  obtain ⟨x3, L3, e3, A3⟩ := views_loop ok s' a g st c' hd' (by omega) (by omega) c' 0 _ _ _ _ (by omega) (by omega) A2
  have b2 : s' * (2 + room) ≤ 64 * 12 := Nat.mul_le_mul hS2 (by omega)
  obtain ⟨x4, L4, e4, A4⟩ := slots_loop ok s' a g st c' hd' (by omega) (by omega) s' room rfl hS2 hroom hroom2 s' 0 _ _ _ _ (by omega) (by omega) A3
  simp only [range'_zero] at A4
  refine ⟨x4, L4, ?_, A4⟩
  refine call_open (af := F.withyref06_Words) (by kernel_rfl) rfl ?_
  unfold cfgV
  rw [S.withyref06_Words_eq]
  simp only [S.withyref06_Words, H.new_ext, H.ext_ext, H.ext_next, List.length_singleton, List.cons_append, List.nil_append]
  have e1' : W.loop (S.withyref06_Words_c1_B W) (S.withyref06_Words_c1_E (.ptr h.next 0) (.sl (h.next + 1) 0 4 (.ex 4)) (.int .i64 0)) _ = _ := e1
  unfold oneW at e1'
  rw [e1']
  simp only [Option.bind_some]
  rw [S.withyref06_Words_c1_e0_eq]
  simp only [S.withyref06_Words_c1_e0]
  have e2' : W.loop (S.withyref06_Words_c3_B W) (S.withyref06_Words_c3_E (.ptr h.next 0) x1 (.int .i64 0)) _ = _ := e2
  rw [e2']
  simp only [Option.bind_some]
  rw [S.withyref06_Words_c3_e2_eq]
  simp only [S.withyref06_Words_c3_e2]
  have e3' : W.loop (S.withyref06_Words_c7_B W) (S.withyref06_Words_c7_E (.ptr h.next 0) x2 (.int .i64 0)) _ = _ := e3
  rw [e3']
  simp only [Option.bind_some]
  rw [S.withyref06_Words_c7_e6_eq]
  simp only [S.withyref06_Words_c7_e6]
  have e4' : W.loop (S.withyref06_Words_c9_B W) (S.withyref06_Words_c9_E (.ptr h.next 0) x3 (.int .i64 0)) _ = _ := e4
  rw [e4']
  simp only [Option.bind_some]
  rw [S.withyref06_Words_c9_e8_eq]
  rfl
end Wm
end

section
/- Where a word stands: withyref06.At, and that it is where plan says. -/
namespace Wm

abbrev wordEq : Eq' := .agg [(0, .str), (1, .int), (2, .int)]

theorem wordEq_self (nm : ByteArray) (who k : Int) : eqV wordEq (.agg [.str nm, .int .i64 who, .int .i64 k]) (.agg [.str nm, .int .i64 who, .int .i64 k]) = some true := by
  simp [eqV, eqOffs, eqCell]

theorem Acc.part {h : H} {F : Option Blk} {L : List (Option Blk)} {x : V} {n : Nat} {l : List V} (ok : h.ok) (hA : Acc h L x 3 n l) {i : Nat} (hi : i < n) : ∃ p, indexAV 3 x (.int .i64 (i : Int)) = some p ∧ (h.ext (F :: L)).ldN 3 p = some (.agg ((l.drop (i * 3)).take 3)) := by
  obtain ⟨hl, _, j, hj⟩ := hA
  have hle : i * 3 + 3 ≤ l.length := by omega
  have key : ∀ k, L[j]? = some (some (.cells l k)) → (h.ext (F :: L)).ldN 3 (.ptr (h.next + (j + 1)) (i * 3)) = some (.agg ((l.drop (i * 3)).take 3)) := fun k hk => by
    rw [H.ext_ldNk ok]
    simp only [List.getElem?_cons_succ, hk, Option.join_some, ldNB_cells, decide_eq_true hle]
  rcases hj with ⟨rfl, hjL⟩ | ⟨rfl, hjL⟩
  · refine ⟨.ptr (h.next + (j + 1)) (i * 3), ?_, key _ hjL⟩
    rw [indexAV_in (by omega) (by omega)]; simp
  · refine ⟨.ptr (h.next + (j + 1)) (i * 3), ?_, key _ hjL⟩
    rw [indexAV_in (by omega) (by omega)]; simp

theorem Acc.len {h : H} {L : List (Option Blk)} {x : V} {e n : Nat} {l : List V} (hA : Acc h L x e n l) : lenSl x = some n := by
  obtain ⟨_, _, j, ⟨rfl, _⟩ | ⟨rfl, _⟩⟩ := hA <;> rfl

theorem at_spec {s a c hd g st : Int} (hr : cfgR s a c hd g st = true) {nm : ByteArray} {who k : Int} {pre : List (List V)} {post : List V}
    (hw : wordsW s.toNat (if a < 3 then 3 else a).toNat c.toNat hd.toNat = pre.flatten ++ ([.str nm, .int .i64 who, .int .i64 k] ++ post))
    (hp : ∀ e ∈ pre, e.length = 3 ∧ eqV wordEq (.agg e) (.agg [.str nm, .int .i64 who, .int .i64 k]) = some false) (hpl : pre.length ≤ 100000) (h : H) :
    C 108 [cfgV s a c hd g st, .agg [.str nm, .int .i64 who, .int .i64 k]] h = some (.int .i64 (pre.length : Nat), h) := by
  refine call_closed (af := F.withyref06_At) (by kernel_rfl) rfl (by rfl) (by rfl) h ?_
  have ok := H.ok_empty
  have hR := ref06Right_spec s a c hd g st
  obtain ⟨x, L, hW, hA⟩ := words_spec hr (ok.ext [some (.cells [.int .i64 s, .int .i64 a, .int .i64 c, .int .i64 hd, .int .i64 g, .int .i64 st] .rw), some (.cells [.str nm, .int .i64 who, .int .i64 k] .rw)])
  rw [hr] at hR
  have ok2 := ok.ext [some (Blk.cells [.int .i64 s, .int .i64 a, .int .i64 c, .int .i64 hd, .int .i64 g, .int .i64 st] .rw), some (.cells [.str nm, .int .i64 who, .int .i64 k] .rw)]
  have hT : ∀ l, ((H.empty.ext [some (Blk.cells [.int .i64 s, .int .i64 a, .int .i64 c, .int .i64 hd, .int .i64 g, .int .i64 st] .rw), some (.cells [.str nm, .int .i64 who, .int .i64 k] .rw)]).ext l).ldN 3 (.ptr (H.empty.next + 1) 0) = some (.agg [.str nm, .int .i64 who, .int .i64 k]) := fun l => by
    rw [H.ext_ext, H.ext_ldNk ok]; rfl
  have hlw := hA.1
  rw [hw] at hA hlw
  have hfl : pre.flatten.length = pre.length * 3 := flat_length fun e he => (hp e he).1
  have hlen : pre.length < sizeW s.toNat (if a < 3 then 3 else a).toNat c.toNat hd.toNat := by
    rw [List.length_append, List.length_append, hfl] at hlw
    simp only [List.length_cons, List.length_nil] at hlw
    omega
  generalize sizeW s.toNat (if a < 3 then 3 else a).toNat c.toNat hd.toNat = n at hA hlen
  unfold cfgV at hR hW ⊢
  rw [S.withyref06_At_eq]
  simp only [S.withyref06_At, H.new_ext, H.ext_ext, H.ext_next, H.ext_ldNk_0, ok, ldNB_cells, List.length_cons, List.length_nil, Nat.zero_add, Nat.reduceAdd, Nat.reduceLeDiff, decide_true, List.getElem?_cons_zero, List.cons_append, List.nil_append, List.drop_zero, List.take_succ_cons, List.take_zero, Bool.not_true, Option.bind_some, Option.join_some, asB_bool, W_call, hR]
  simp only [hW, Option.bind_some]
  generalize hH : (H.empty.ext [some (Blk.cells [.int .i64 s, .int .i64 a, .int .i64 c, .int .i64 hd, .int .i64 g, .int .i64 st] .rw), some (.cells [.str nm, .int .i64 who, .int .i64 k] .rw)]) = hh at hA hT ok2 ⊢
  refine loop_ev (fun i : Nat => S.withyref06_At_c1_E (.ptr (H.empty.next + 1) 0) x (.int .i64 (i : Nat))) (fun i g' => i ≤ pre.length ∧ g' = hh.ext (some (.cells [.int .i64 s, .int .i64 a, .int .i64 c, .int .i64 hd, .int .i64 g, .int .i64 st] .rw) :: L)) (fun i _ => pre.length - i)
    (fun r => r = (.ret, S.withyref06_At_c1_O (.int .i64 (pre.length : Nat)), hh.ext (some (.cells [.int .i64 s, .int .i64 a, .int .i64 c, .int .i64 hd, .int .i64 g, .int .i64 st] .rw) :: L))) 0 rfl ⟨Nat.zero_le _, rfl⟩ ?_ ?_
  · rintro i g' ⟨hi, rfl⟩
    rw [S.withyref06_At_c1_eq]
    obtain ⟨p, e1, e2⟩ := hA.part (F := some (.cells [.int .i64 s, .int .i64 a, .int .i64 c, .int .i64 hd, .int .i64 g, .int .i64 st] .rw)) ok2 (show i < n by omega)
    simp only [S.withyref06_At_c1_S, hA.len, Option.bind_some, show (i : Int) < ((n : Nat) : Int) by omega, decide_true, e1, e2, hT]
    by_cases hip : i < pre.length
    · have hpi : pre[i]? = some pre[i] := List.getElem?_eq_getElem hip
      have hel : ((pre.flatten ++ ([V.str nm, V.int .i64 who, V.int .i64 k] ++ post)).drop (i * 3)).take 3 = pre[i] := by
        rw [List.drop_append_of_le_length (by omega), List.take_append_of_le_length (by rw [List.length_drop]; omega)]
        exact flat_part (fun e he => (hp e he).1) i _ hpi
      rw [hel, (hp _ (List.getElem_mem hip)).2]
      have hw1 : wr .i64 ((i : Int) + 1) = ((i + 1 : Nat) : Int) := by rw [wr64 (by omega) (by omega)]; rfl
      simp only [Option.bind_some, hw1]
      exact Ev.some (Or.inl ⟨i + 1, rfl, rfl, ⟨hip, rfl⟩, by omega⟩)
    · have : i = pre.length := by omega
      subst this
      have hel : ((pre.flatten ++ ([V.str nm, V.int .i64 who, V.int .i64 k] ++ post)).drop (pre.length * 3)).take 3 = [V.str nm, V.int .i64 who, V.int .i64 k] := by
        rw [List.drop_left' hfl]; rfl
      rw [hel, wordEq_self]
      simp only [Option.bind_some]
      exact Ev.some (Or.inr ⟨by simp, rfl⟩)
  · rintro r rfl
    simp only
    rw [S.withyref06_At_c1_r_eq]
    exact Ev.some rfl

theorem flatten_flatMap' {α β : Type} (f : α → List (List β)) : ∀ l : List α, (l.flatMap f).flatten = l.flatMap fun x => (f x).flatten
  | [] => rfl
  | x :: l => by rw [List.flatMap_cons, List.flatten_append, flatten_flatMap' f l, List.flatMap_cons]

def oneE : List (List V) := [[.str ⟨⟨[99, 108, 111, 99, 107]⟩⟩, .int .i64 0, .int .i64 0], [.str ⟨⟨[101, 112, 111, 99, 104]⟩⟩, .int .i64 0, .int .i64 0], [.str ⟨⟨[103, 114, 97, 121, 115]⟩⟩, .int .i64 0, .int .i64 0], [.str ⟨⟨[116, 111, 112]⟩⟩, .int .i64 0, .int .i64 0]]
def slotE (room q : Nat) : List (List V) := [[.str ⟨⟨[104, 101, 97, 100, 101, 114]⟩⟩, .int .i64 q, .int .i64 0], [.str ⟨⟨[108, 105, 110, 107]⟩⟩, .int .i64 q, .int .i64 0]] ++ (List.range room).map (bodyW q)
def viewE (q : Nat) : List (List V) := [[.str ⟨⟨[118, 105, 101, 119]⟩⟩, .int .i64 q, .int .i64 0], [.str ⟨⟨[115, 116, 97, 114, 116]⟩⟩, .int .i64 q, .int .i64 0]]
/-- What stands ahead of the slots; ahead of a slot. -/
def aheadE (c hd : Nat) : List (List V) := oneE ++ (List.range c).map pinW ++ (List.range c).flatMap (fun q => (List.range hd).map (entryW q)) ++ (List.range c).flatMap viewE
theorem slotE_flatten (room q : Nat) : (slotE room q).flatten = slotW room q := by
  unfold slotE slotW headW
  rw [List.flatten_append, ← List.flatMap_def]; rfl

theorem aheadE_flatten (c hd : Nat) : (aheadE c hd).flatten = oneW ++ (List.range c).flatMap pinW ++ (List.range c).flatMap (fun q => (List.range hd).flatMap (entryW q)) ++ (List.range c).flatMap viewW := by
  unfold aheadE
  rw [List.flatten_append, List.flatten_append, List.flatten_append, ← List.flatMap_def, flatten_flatMap', flatten_flatMap']
  congr 1

end Wm
end

section
/- A slice of words. -/
namespace Wm

def RowIs (g : Nat → Option Blk) (u : V) (x : List Int) : Prop := x.length ≤ 9223372036854775807 ∧ ((u = .nilsl ∧ x = []) ∨ ∃ b c k, u = .sl b 0 x.length c ∧ g b = some (.cells (x.map (.int .u64)) k))
theorem RowIs.len {g : Nat → Option Blk} {u : V} {x : List Int} (h : RowIs g u x) : lenSl u = some x.length := by
  rcases h with ⟨_, ⟨rfl, rfl⟩ | ⟨b, c, k, rfl, _⟩⟩ <;> rfl
end Wm
end

section
/- How many slots are gray: shade.Grays and withylaw09.grays. -/
namespace Wm

end Wm
end

section
/- The words of a memory in which nothing was done: withyref06.Memory. -/
namespace Wm

def elemsW (S room c hd : Nat) : List (List V) := aheadE c hd ++ (List.range S).flatMap (slotE room)

theorem elemsW_flatten (S room c hd : Nat) : (elemsW S room c hd).flatten = wordsW S room c hd := by
  have h3 : ((List.range S).flatMap (slotE room)).flatten = (List.range S).flatMap (slotW room) := by
    rw [flatten_flatMap']
    exact congrArg (fun f => (List.range S).flatMap f) (funext fun q => slotE_flatten room q)
  unfold elemsW wordsW
  rw [List.flatten_append, aheadE_flatten, h3]

theorem ar_link {who : Int} (h0 : 0 ≤ who) (h1 : who ≤ 64) : wr .u64 (wr .i64 (who + 2)) = who + 2 := by rw [wr64 (by omega) (by omega), wru64 (by omega) (by omega)]
theorem repl_map (n : Nat) : repl [V.int .u64 0] n = (List.replicate n (0 : Int)).map (.int .u64) := by
  induction n with
  | zero => rfl
  | succ n ih => simp only [repl, ih, List.replicate_succ, List.map_cons, List.cons_append, List.nil_append]

end Wm
end

section
/- Words of a memory by what they are: all of a config, in their order, and where each stands. -/
namespace Wm

inductive Wd
  | clock | epoch | grays | top
  | pin (k : Nat)
  | entry (k i : Nat)
  | view (k : Nat)
  | start (k : Nat)
  | header (s : Nat)
  | link (s : Nat)
  | body (s i : Nat)
  deriving DecidableEq

def Cfg.S (k : Cfg) : Nat := k.s.toNat
def Cfg.room (k : Cfg) : Nat := (if k.a < 3 then 3 else k.a).toNat
def Cfg.C (k : Cfg) : Nat := k.c.toNat
def Cfg.H (k : Cfg) : Nat := k.hd.toNat
def Cfg.base (k : Cfg) : Nat := 4 + k.C + k.C * k.H + k.C * 2
def Cfg.size (k : Cfg) : Nat := k.base + k.S * (2 + k.room)

def Wd.ok (k : Cfg) : Wd → Prop
  | .clock | .epoch | .grays | .top => True
  | .pin q | .view q | .start q => q < k.C
  | .entry q i => q < k.C ∧ i < k.H
  | .header s | .link s => s < k.S
  | .body s i => s < k.S ∧ i < k.room
instance (k : Cfg) (l : Wd) : Decidable (l.ok k) := by cases l <;> (unfold Wd.ok; infer_instance)

def Wd.pos (k : Cfg) : Wd → Nat
  | .clock => 0
  | .epoch => 1
  | .grays => 2
  | .top => 3
  | .pin q => 4 + q
  | .entry q i => 4 + k.C + q * k.H + i
  | .view q => 4 + k.C + k.C * k.H + q * 2
  | .start q => 4 + k.C + k.C * k.H + q * 2 + 1
  | .header s => k.base + s * (2 + k.room)
  | .link s => k.base + s * (2 + k.room) + 1
  | .body s i => k.base + s * (2 + k.room) + 2 + i

def Wd.name : Wd → ByteArray
  | .clock => ⟨⟨[99, 108, 111, 99, 107]⟩⟩
  | .epoch => ⟨⟨[101, 112, 111, 99, 104]⟩⟩
  | .grays => ⟨⟨[103, 114, 97, 121, 115]⟩⟩
  | .top => ⟨⟨[116, 111, 112]⟩⟩
  | .pin _ => ⟨⟨[112, 105, 110]⟩⟩
  | .entry _ _ => ⟨⟨[101, 110, 116, 114, 121]⟩⟩
  | .view _ => ⟨⟨[118, 105, 101, 119]⟩⟩
  | .start _ => ⟨⟨[115, 116, 97, 114, 116]⟩⟩
  | .header _ => ⟨⟨[104, 101, 97, 100, 101, 114]⟩⟩
  | .link _ => ⟨⟨[108, 105, 110, 107]⟩⟩
  | .body _ _ => ⟨⟨[98, 111, 100, 121]⟩⟩
def Wd.who : Wd → Nat
  | .pin q | .view q | .start q | .entry q _ | .header q | .link q | .body q _ => q
  | _ => 0
def Wd.i : Wd → Nat
  | .entry _ i | .body _ i => i
  | _ => 0
def Wd.cells (l : Wd) : List V := [.str l.name, .int .i64 l.who, .int .i64 l.i]

def slotL (room q : Nat) : List Wd := .header q :: .link q :: (List.range room).map (.body q)
def Cfg.locs (k : Cfg) : List Wd :=
  [.clock, .epoch, .grays, .top] ++ (List.range k.C).map .pin ++ (List.range k.C).flatMap (fun q => (List.range k.H).map (.entry q)) ++ (List.range k.C).flatMap (fun q => [.view q, .start q]) ++ (List.range k.S).flatMap (slotL k.room)

theorem mem_locs {k : Cfg} {l : Wd} : l ∈ k.locs ↔ l.ok k := by
  unfold Cfg.locs slotL
  simp only [List.mem_append, List.mem_cons, List.not_mem_nil, or_false, List.mem_map, List.mem_range, List.mem_flatMap]
  cases l <;> simp [Wd.ok]

theorem range_mul (b m : Nat) : ∀ n, (List.range n).flatMap (fun q => (List.range m).map fun i => b + q * m + i) = (List.range (n * m)).map (b + ·)
  | 0 => by simp
  | n + 1 => by
    rw [List.range_succ, List.flatMap_append, range_mul b m n, List.flatMap_cons, List.flatMap_nil, List.append_nil, Nat.succ_mul, List.range_add, List.map_append, List.map_map]
    congr 1
    apply List.map_congr_left
    intro i _
    simp only [Function.comp]; omega

theorem map_pos (k : Cfg) : k.locs.map (Wd.pos k) = List.range k.size := by
  have e1 : ((List.range k.C).map Wd.pin).map (Wd.pos k) = (List.range k.C).map (4 + ·) := by rw [List.map_map]; rfl
  have e2 : ((List.range k.C).flatMap (fun q => (List.range k.H).map (Wd.entry q))).map (Wd.pos k) = (List.range (k.C * k.H)).map (4 + k.C + ·) := by
    rw [← range_mul, List.map_flatMap]
    congr 1; funext q; rw [List.map_map]; rfl
  have e3 : ((List.range k.C).flatMap (fun q => [Wd.view q, Wd.start q])).map (Wd.pos k) = (List.range (k.C * 2)).map (4 + k.C + k.C * k.H + ·) := by
    rw [← range_mul, List.map_flatMap]
    congr 1
  have e4 : ((List.range k.S).flatMap (slotL k.room)).map (Wd.pos k) = (List.range (k.S * (2 + k.room))).map (k.base + ·) := by
    rw [← range_mul, List.map_flatMap]
    congr 1; funext q
    unfold slotL
    rw [Nat.add_comm 2 k.room, List.range_succ_eq_map, List.range_succ_eq_map]
    simp only [List.map_cons, List.map_map, Wd.pos, Nat.add_zero]
    rw [Nat.add_comm 2 k.room]
    congr 2
    apply List.map_congr_left
    intro i _
    simp only [Function.comp, Wd.pos]
    rw [Nat.add_comm 2 k.room]; omega
  unfold Cfg.locs
  rw [List.map_append, List.map_append, List.map_append, List.map_append, e1, e2, e3, e4]
  unfold Cfg.size Cfg.base
  rw [List.range_add, List.range_add (n := 4 + k.C + k.C * k.H), List.range_add (n := 4 + k.C), List.range_add (n := 4)]
  rfl

theorem locs_length (k : Cfg) : k.locs.length = k.size := by
  have := congrArg List.length (map_pos k)
  simpa using this

theorem locs_at {k : Cfg} {i : Nat} {l : Wd} (h : k.locs[i]? = some l) : l.pos k = i := by
  have h1 : (k.locs.map (Wd.pos k))[i]? = some (l.pos k) := by rw [List.getElem?_map, h]; rfl
  rw [map_pos] at h1
  obtain ⟨h2, h3⟩ := List.getElem?_eq_some_iff.mp h1
  rw [← h3, List.getElem_range]

theorem at_locs {k : Cfg} {l : Wd} (h : l.ok k) : k.locs[l.pos k]? = some l := by
  obtain ⟨i, hi, he⟩ := List.mem_iff_getElem.mp (mem_locs.mpr h)
  have : k.locs[i]? = some l := by rw [List.getElem?_eq_getElem hi, he]
  rw [locs_at this]; exact this

theorem pos_lt {k : Cfg} {l : Wd} (h : l.ok k) : l.pos k < k.size := by
  rw [← locs_length]
  exact lt_of_get (at_locs h)

theorem pos_inj {k : Cfg} {l l' : Wd} (h : l.ok k) (h' : l'.ok k) (e : l.pos k = l'.pos k) : l = l' := by
  have h1 := at_locs h
  have h2 := at_locs h'
  rw [e, h2] at h1; cases h1; rfl

/-! ### As the references' lists -/
theorem locs_elems (k : Cfg) : k.locs.map Wd.cells = elemsW k.S k.room k.C k.H := by
  unfold Cfg.locs elemsW aheadE
  rw [List.map_append, List.map_append, List.map_append, List.map_append, List.map_map, List.map_flatMap, List.map_flatMap, List.map_flatMap]
  congr 1
  · congr 1
    · congr 1
      congr 1; funext q; rw [List.map_map]; rfl
  · congr 1; funext q
    unfold slotL slotE
    rw [List.map_cons, List.map_cons, List.map_map]; rfl

def Wd.tag : Wd → Nat
  | .clock => 0 | .epoch => 1 | .grays => 2 | .top => 3 | .pin _ => 4 | .entry _ _ => 5 | .view _ => 6 | .start _ => 7 | .header _ => 8 | .link _ => 9 | .body _ _ => 10
def tagName : Nat → ByteArray
  | 0 => ⟨⟨[99, 108, 111, 99, 107]⟩⟩
  | 1 => ⟨⟨[101, 112, 111, 99, 104]⟩⟩
  | 2 => ⟨⟨[103, 114, 97, 121, 115]⟩⟩
  | 3 => ⟨⟨[116, 111, 112]⟩⟩
  | 4 => ⟨⟨[112, 105, 110]⟩⟩
  | 5 => ⟨⟨[101, 110, 116, 114, 121]⟩⟩
  | 6 => ⟨⟨[118, 105, 101, 119]⟩⟩
  | 7 => ⟨⟨[115, 116, 97, 114, 116]⟩⟩
  | 8 => ⟨⟨[104, 101, 97, 100, 101, 114]⟩⟩
  | 9 => ⟨⟨[108, 105, 110, 107]⟩⟩
  | _ => ⟨⟨[98, 111, 100, 121]⟩⟩
theorem name_tag (l : Wd) : l.name = tagName l.tag := by cases l <;> rfl
theorem tag_lt (l : Wd) : l.tag < 11 := by cases l <;> simp [Wd.tag]
theorem tags_all : (List.range 11).all (fun a => (List.range 11).all fun b => ((tagName a).toList == (tagName b).toList) == decide (a = b)) = true := by kernel_rfl
theorem name_eq (l l' : Wd) : (l.name.toList == l'.name.toList) = decide (l.tag = l'.tag) := by
  have h := tags_all
  simp only [List.all_eq_true, List.mem_range, beq_iff_eq] at h
  rw [name_tag l, name_tag l']
  exact h _ (tag_lt l) _ (tag_lt l')
theorem eqW (l l' : Wd) : eqV wordEq (.agg l.cells) (.agg l'.cells) = some (decide (l = l')) := by
  unfold Wd.cells
  simp only [eqV, eqOffs, List.getElem?_cons_zero, List.getElem?_cons_succ, eqCell, decide_true, name_eq]
  by_cases ht : l.tag = l'.tag
  · simp only [decide_eq_true ht]
    by_cases hw : l.who = l'.who
    · have : (l.who : Int) = l'.who := by omega
      simp only [decide_eq_true this]
      by_cases hi : l.i = l'.i
      · have : (l.i : Int) = l'.i := by omega
        simp only [decide_eq_true this]
        have : l = l' := by
          cases l <;> cases l' <;> simp_all [Wd.tag, Wd.who, Wd.i]
        simp [this]
      · have h2 : ¬ (l.i : Int) = l'.i := by omega
        simp only [decide_eq_false h2]
        have : l ≠ l' := by rintro rfl; exact hi rfl
        simp [this]
    · have h2 : ¬ (l.who : Int) = l'.who := by omega
      simp only [decide_eq_false h2]
      have : l ≠ l' := by rintro rfl; exact hw rfl
      simp [this]
  · simp only [decide_eq_false ht]
    have : l ≠ l' := by rintro rfl; exact ht rfl
    simp [this]

theorem Cfg.R_iff {k : Cfg} : k.R = true ↔ (1 ≤ k.s ∧ k.s ≤ 64) ∧ (0 ≤ k.a ∧ k.a ≤ 8) ∧ (1 ≤ k.c ∧ k.c ≤ 8) ∧ (1 ≤ k.hd ∧ k.hd ≤ 16) ∧ (1 ≤ k.g ∧ k.g ≤ 1048576) ∧ (0 ≤ k.st ∧ k.st ≤ 64) := cfgR_iff

theorem Cfg.bounds {k : Cfg} (h : k.R = true) : (1 ≤ k.S ∧ k.S ≤ 64) ∧ (3 ≤ k.room ∧ k.room ≤ 8) ∧ (1 ≤ k.C ∧ k.C ≤ 8) ∧ (1 ≤ k.H ∧ k.H ≤ 16) ∧ k.base ≤ 200 ∧ k.size ≤ 1000 := by
  have := Cfg.R_iff.mp h
  have h1 : 3 ≤ k.room ∧ k.room ≤ 8 := by unfold Cfg.room; split <;> omega
  have h2 : k.C * k.H ≤ 8 * 16 := Nat.mul_le_mul (by unfold Cfg.C; omega) (by unfold Cfg.H; omega)
  have h3 : k.S * (2 + k.room) ≤ 64 * 10 := Nat.mul_le_mul (by unfold Cfg.S; omega) (by omega)
  unfold Cfg.size Cfg.base
  unfold Cfg.S Cfg.C Cfg.H at *
  omega

theorem words_flat (k : Cfg) : wordsW k.S k.room k.C k.H = (k.locs.map Wd.cells).flatten := by rw [locs_elems, elemsW_flatten]

/-- A word's place, as it is told. -/
theorem at_wd {k : Cfg} (hr : k.R = true) {l : Wd} (hl : l.ok k) (h : H) : C 108 [k.v, .agg l.cells] h = some (.int .i64 (l.pos k : Nat), h) := by
  have hlt := pos_lt hl
  have hb := Cfg.bounds hr
  have hn : ((k.locs.take (l.pos k)).map Wd.cells).length = l.pos k := by
    rw [List.length_map, List.length_take, locs_length]; omega
  have hsplit : k.locs = k.locs.take (l.pos k) ++ l :: k.locs.drop (l.pos k + 1) := by
    have h1 := at_locs hl
    obtain ⟨h2, h3⟩ := List.getElem?_eq_some_iff.mp h1
    conv => lhs; rw [← List.take_append_drop (l.pos k) k.locs, List.drop_eq_getElem_cons h2, h3]
  have := at_spec (s := k.s) (a := k.a) (c := k.c) (hd := k.hd) (g := k.g) (st := k.st) hr (nm := l.name) (who := l.who) (k := l.i) (pre := (k.locs.take (l.pos k)).map Wd.cells) (post := ((k.locs.drop (l.pos k + 1)).map Wd.cells).flatten) (by
      show wordsW k.S k.room k.C k.H = _
      rw [words_flat]
      conv => lhs; rw [hsplit, List.map_append, List.flatten_append, List.map_cons, List.flatten_cons]
      rfl) (by
      intro e he
      obtain ⟨l', h1, rfl⟩ := List.mem_map.mp he
      refine ⟨rfl, ?_⟩
      have h2 := eqW l' l
      have hne : l' ≠ l := by
        rintro rfl
        obtain ⟨i, h3, h4⟩ := List.mem_iff_getElem.mp h1
        rw [List.getElem_take] at h4
        have h5 : k.locs[i]? = some l' := by rw [List.getElem?_eq_getElem (by rw [List.length_take] at h3; omega), h4]
        have := locs_at h5
        rw [List.length_take] at h3
        omega
      rw [decide_eq_false hne] at h2
      exact h2) (by rw [hn]; omega) h
  rw [hn] at this
  exact this
end Wm
end

section
/- The program's machines as plain functions: headers, shades. -/
namespace Wm

structure Hdr where
  kind : Int
  mark : Int
  gray : Bool
  arity : Int
  gen : Int
  stamp : Int
def Hdr.cs (x : Hdr) : List V := [.int .i64 x.kind, .int .i64 x.mark, .bool x.gray, .int .i64 x.arity, .int .i64 x.gen, .int .i64 x.stamp]
def Hdr.zero : Hdr := ⟨0, 0, false, 0, 0, 0⟩
/-- A word's header. -/
def unp (w : Int) : Hdr := if okT w then ⟨getT w 0 3, getT w 3 1, decide (getT w 4 1 = 1), getT w 5 4, getT w 16 32, getT w 48 16⟩ else .zero
def Hdr.right (x : Hdr) : Bool := decide (0 ≤ x.kind) && decide (x.kind ≤ 4) && (decide (0 ≤ x.mark) && decide (x.mark ≤ 1)) && (decide (0 ≤ x.arity) && decide (x.arity ≤ 15)) && (decide (0 ≤ x.gen) && decide (x.gen ≤ 4294967295)) && (decide (0 ≤ x.stamp) && decide (x.stamp ≤ 65535))
def Hdr.word (x : Hdr) : Int := x.kind + 8 * x.mark + 16 * (if x.gray then 1 else 0) + 32 * x.arity + 65536 * x.gen + 281474976710656 * x.stamp
def black (e : Int) : Int := (e / 4 + 1) % 2
def lives (w : Int) : Bool := okT w && (decide ((unp w).kind = 1) || decide ((unp w).kind = 2))
/-- May it be shaded? -/
def white (w e : Int) : Bool := lives w && !decide ((unp w).mark = black e)
def shadedH (w e : Int) : Hdr := { unp w with mark := black e, gray := true }
def shaded (w e : Int) : Int := if white w e then (shadedH w e).word else w

/-- A shade. -/
structure Shade where
  grew : Bool
  at' : Int
  e : Int
  next : Int
  was : Int
def Shade.cs (s : Shade) : List V := [.bool s.grew, .int .i64 s.at', .int .u64 s.e, .int .i64 s.next, .int .u64 s.was]
end Wm
end

section
/- What the memory's functions come to. -/
namespace Wm
attribute [local congr] bind_congr1

section
variable {h : H} {b bw : Nat} {m : Mem}

theorem MemAt.size (M : MemAt h b bw m) : C 413 [.ptr b 0] h = some (.int .i64 m.ws.length, h) := by
  obtain ⟨ne, ⟨c, ho⟩, -, -, -⟩ := M
  refine call_open (af := F.mem_Mem_Size) (by kernel_rfl) rfl ?_
  rw [S.mem_Mem_Size_eq]
  simp only [S.mem_Mem_Size, eqV, eqPtr, Option.bind_some, nilc, ptrAt_ptr, ld1_get', ho, ldB_cells, List.getElem?_cons_zero, V.one, lenSl, Nat.add_zero]

theorem MemAt.there (M : MemAt h b bw m) (k : Int) : C 346 [.ptr b 0, .int .i64 k] h = some (.bool (m.there k), h) := by
  refine call_open (af := F.mem_Mem_there) (by kernel_rfl) rfl ?_
  rw [S.mem_Mem_there_eq]
  unfold Mem.there
  cases hk : decide (0 ≤ k) with
  | true => simp only [S.mem_Mem_there, hk, W_call, M.size, Option.bind_some, asI_int, Bool.true_and]
  | false => simp only [S.mem_Mem_there, hk, Bool.false_and]

theorem MemAt.touch (M : MemAt h b bw m) (ok : h.ok) {k now kind : Int} (hk : m.there k = true) (hn : U64 now) :
    ∃ h', C 347 [.ptr b 0, .int .i64 kind, .int .i64 k, .int .u64 now] h = some (.tup [], h') ∧ Fr [b, bw] h h' ∧ MemAt h' b bw (m.touch kind k now) := by
  obtain ⟨ne, ⟨c, ho⟩, ⟨kk, hkk, hr⟩, hu, hs⟩ := M
  unfold Mem.there at hk
  simp only [Bool.and_eq_true, decide_eq_true_eq] at hk
  obtain ⟨k0, k1⟩ := hk
  have hidx : (m.ws.map (V.int .u64))[k.toNat]? = some (.int .u64 (m.w k)) := by
    rw [List.getElem?_map, List.getElem?_eq_getElem (by omega), Option.map_some]
    simp only [Mem.w, List.getD_eq_getElem?_getD]
    rw [List.getElem?_eq_getElem (by omega)]; rfl
  have hro : decide (kk = Bk.ro) = false := decide_eq_false hkk
  have hle : decide (k.toNat + 1 ≤ (m.ws.map (V.int .u64)).length) = true := by rw [decide_eq_true_eq, List.length_map]; omega
  have hix : indexAV 1 (.sl bw 0 m.ws.length c) (.int .i64 k) = some (.ptr bw k.toNat) := by
    simp only [indexAV, indexOf, asIAny, k0, k1, decide_true, Bool.and_self, Nat.mul_one, Nat.zero_add]
  refine ⟨(h.put b (some (.cells [.sl bw 0 m.ws.length c, .int .i64 (wr .i64 (m.n + 1)), .int .i64 kind, .int .i64 k, .int .u64 (m.w k), .int .u64 now] .rw))).put bw (some (.cells ((m.touch kind k now).ws.map (.int .u64)) kk)), call_open (af := F.mem_Mem_touch) (by kernel_rfl) rfl ?_, ?_, ?_⟩
  · rw [S.mem_Mem_touch_eq]
    simp only [S.mem_Mem_touch, nilc_ptr, ptrAt_ptr, Option.bind_some, Option.map_some, ld1_get', st_get', get_put', put_put', ldB_cells, stB_cells, List.getElem?_cons_zero, List.getElem?_cons_succ, Nat.zero_add, Nat.add_zero, Nat.reduceAdd, Nat.reduceLeDiff, V.one, V.cells, asI_int, List.length_cons, List.length_nil, Nat.beq_refl, List.all_cons, List.all_nil, Bool.and_true, Bool.true_and, Bool.not_true, Bool.false_or, Bool.or_self, Bool.and_self, decide_true, decide_false, if_true, if_false, splice, List.take_succ_cons, List.take_zero, List.drop_succ_cons, List.drop_zero, List.cons_append, List.nil_append, reduceCtorEq, fill, opd, boxc, ho, hr, ne.symm, hix, hidx, hro, hle]
    have e : (m.touch kind k now).ws.map (V.int .u64) = (m.ws.map (V.int .u64)).take k.toNat ++ V.int .u64 now :: (m.ws.map (V.int .u64)).drop (k.toNat + 1) := by
      simp only [Mem.touch, List.map_set]
      rw [List.set_eq_take_append_cons_drop, if_pos (by rw [List.length_map]; omega)]
    rw [e, List.append_assoc]; rfl
  · exact ((Fr.refl ok).put (.inl (by simp)) (ok.lt ho) _).put (.inl (by simp)) (ok.lt hr) _
  · refine ⟨ne, ⟨c, ?_⟩, ⟨kk, hkk, ?_⟩, ?_, ?_⟩
    · rw [get_put_ne ne, get_put_self]
      simp only [Mem.touch, List.length_set]
    · rw [get_put_self]
    · intro w hw
      rcases List.mem_or_eq_of_mem_set hw with q | rfl
      · exact hu w q
      · exact hn
    · simp only [Mem.touch, List.length_set]; exact hs

theorem MemAt.idx (M : MemAt h b bw m) {k : Int} (hk : m.there k = true) {c : Cap} : indexAV 1 (.sl bw 0 m.ws.length c) (.int .i64 k) = some (.ptr bw k.toNat) ∧ h.ld1 (.ptr bw k.toNat) = some (.int .u64 (m.w k)) := by
  obtain ⟨ne, -, ⟨kk, hkk, hr⟩, hu, hs⟩ := M
  unfold Mem.there at hk
  simp only [Bool.and_eq_true, decide_eq_true_eq] at hk
  obtain ⟨k0, k1⟩ := hk
  constructor
  · simp only [indexAV, indexOf, asIAny, k0, k1, decide_true, Bool.and_self, Nat.mul_one, Nat.zero_add]
  · rw [ld1_get', hr, ldB_cells, List.getElem?_map, List.getElem?_eq_getElem (by omega), Option.map_some]
    simp only [Mem.w, List.getD_eq_getElem?_getD]
    rw [List.getElem?_eq_getElem (by omega)]; rfl

theorem MemAt.ldw (M : MemAt h b bw m) : ∃ c, h.ld1 (.ptr b 0) = some (.sl bw 0 m.ws.length c) := by
  obtain ⟨ne, ⟨c, ho⟩, -, -, -⟩ := M
  exact ⟨c, by rw [ld1_get', ho]; rfl⟩

theorem Mem.touch_w {kind k now : Int} (hk : m.there k = true) : (m.touch kind k now).w k = now := by
  unfold Mem.there at hk
  simp only [Bool.and_eq_true, decide_eq_true_eq] at hk
  simp only [Mem.touch, Mem.w, List.getD_eq_getElem?_getD]
  rw [List.getElem?_set_self (by omega)]; rfl
theorem Mem.touch_there {kind k now j : Int} : (m.touch kind k now).there j = m.there j := by
  simp only [Mem.touch, Mem.there, List.length_set]

/-- What a function of the memory comes to. -/
def MemDo (o : Option (V × H)) (h : H) (b bw : Nat) (v : V) (m : Mem) : Prop := ∃ h', o = some (v, h') ∧ Fr [b, bw] h h' ∧ MemAt h' b bw m

theorem MemAt.load (M : MemAt h b bw m) (ok : h.ok) (k : Int) : MemDo (C 266 [.ptr b 0, .int .i64 k] h) h b bw (.int .u64 (m.val k)) (m.load k) := by
  unfold Mem.val Mem.load
  cases hk : m.there k with
  | false =>
    refine ⟨h, call_open (af := F.mem_Mem_Load) (by kernel_rfl) rfl ?_, .refl ok, by simpa using M⟩
    rw [S.mem_Mem_Load_eq]
    simp only [S.mem_Mem_Load, nilc_ptr, ptrAt_ptr, Option.bind_some, ld1_get', Nat.add_zero, asB_bool, Bool.not_false, if_false, W_call, M.there, hk, Bool.false_eq_true]
  | true =>
    obtain ⟨h', e, f, M'⟩ := M.touch ok hk (M.w64 k) (kind := 1)
    obtain ⟨c, el⟩ := M.ldw
    obtain ⟨c', el'⟩ := M'.ldw
    obtain ⟨i1, i2⟩ := M.idx hk (c := c)
    obtain ⟨i3, i4⟩ := M'.idx (k := k) (by rw [Mem.touch_there]; exact hk) (c := c')
    rw [Mem.touch_w hk] at i4
    refine ⟨h', call_open (af := F.mem_Mem_Load) (by kernel_rfl) rfl ?_, f, M'⟩
    rw [S.mem_Mem_Load_eq]
    simp only [S.mem_Mem_Load, nilc, ptrAt_ptr, Nat.zero_add, Option.bind_some, asB_bool, Bool.not_true, W_call, M.there, hk, el, i1, i2, e, el', i3, i4, if_true]

theorem MemAt.swap (M : MemAt h b bw m) (ok : h.ok) (k old : Int) {v : Int} (hv : U64 v) : MemDo (C 269 [.ptr b 0, .int .i64 k, .int .u64 old, .int .u64 v] h) h b bw (.bool (m.swaps k old)) (m.swap k old v) := by
  unfold Mem.swap Mem.swaps
  cases hk : m.there k with
  | false =>
    refine ⟨h, call_open (af := F.mem_Mem_Swap) (by kernel_rfl) rfl ?_, .refl ok, by simpa using M⟩
    rw [S.mem_Mem_Swap_eq]
    simp only [S.mem_Mem_Swap, nilc_ptr, ptrAt_ptr, Option.bind_some, ld1_get', Nat.add_zero, asB_bool, Bool.false_and, Bool.not_false, W_call, M.there, hk]
  | true =>
    obtain ⟨c, el⟩ := M.ldw
    obtain ⟨i1, i2⟩ := M.idx hk (c := c)
    by_cases ho : m.w k = old
    · obtain ⟨h', e, f, M'⟩ := M.touch ok hk hv (kind := 3)
      refine ⟨h', call_open (af := F.mem_Mem_Swap) (by kernel_rfl) rfl ?_, f, by simpa [ho] using M'⟩
      rw [S.mem_Mem_Swap_eq]
      simp only [S.mem_Mem_Swap, nilc, ptrAt_ptr, Nat.zero_add, Option.bind_some, asB_bool, asI_int, Bool.not_true, W_call, M.there, hk, el, i1, i2, e, decide_eq_true ho, Bool.and_self]
    · obtain ⟨h', e, f, M'⟩ := M.touch ok hk (M.w64 k) (kind := 3)
      refine ⟨h', call_open (af := F.mem_Mem_Swap) (by kernel_rfl) rfl ?_, f, by simpa [ho] using M'⟩
      rw [S.mem_Mem_Swap_eq]
      simp only [S.mem_Mem_Swap, nilc, ptrAt_ptr, Nat.zero_add, Option.bind_some, asB_bool, asI_int, Bool.not_true, Bool.not_false, W_call, M.there, hk, el, i1, i2, e, decide_eq_false ho, Bool.and_false]

theorem wru64_U64 (n : Int) : U64 (wr .u64 n) := by simp only [wr, U64]; omega

end
end Wm
end

section
/- Words of parts, and headers' words: word.Pack, head.Pack. -/
namespace Wm
attribute [local congr] bind_congr1

end Wm
end

section
/- Headers and their words: what the functions of head come to. -/
namespace Wm
attribute [local congr] bind_congr1

def born (e : Int) : Int := if e % 4 = 0 then 1 - black e else black e
def grayW (w : Int) : Bool := okT w && (unp w).gray
theorem right_iff (x : Hdr) : x.right = true ↔ (0 ≤ x.kind ∧ x.kind ≤ 4) ∧ (0 ≤ x.mark ∧ x.mark ≤ 1) ∧ (0 ≤ x.arity ∧ x.arity ≤ 15) ∧ (0 ≤ x.gen ∧ x.gen ≤ 4294967295) ∧ (0 ≤ x.stamp ∧ x.stamp ≤ 65535) := by
  simp only [Hdr.right, Bool.and_eq_true, decide_eq_true_eq, and_assoc]

theorem word_U64 {x : Hdr} (h : x.right = true) : U64 x.word := by
  rw [right_iff] at h
  unfold Hdr.word U64
  split <;> omega

end Wm
end

section
/- What the references' functions of the first layers come to. -/
namespace Wm
attribute [local congr] bind_congr1

theorem refPack_spec {x : Hdr} (hx : x.right = true) (h : H) : C 111 [.agg x.cs] h = some (.int .u64 x.word, h) := by
  refine call_closed (af := F.withyref04_Pack) (by kernel_rfl) rfl (by rfl) (by rfl) h ?_
  rw [right_iff] at hx
  obtain ⟨k, m, g, a, n, s⟩ := x
  simp only at hx
  unfold Hdr.cs
  rw [S.withyref04_Pack_eq]
  simp only [S.withyref04_Pack, Option.bind_some, ld1_get', get_new', ldB_cells, List.getElem?_cons_zero, List.getElem?_cons_succ, V.one, asB_bool, asIAny, if_true]
  rw [wru64 (n := k) (by omega) (by omega), wru64 (n := m) (by omega) (by omega), wru64 (n := a) (by omega) (by omega), wru64 (n := n) (by omega) (by omega), wru64 (n := s) (by omega) (by omega), wru64 (n := 8 * m) (by omega) (by omega), wru64 (n := 32 * a) (by omega) (by omega), wru64 (n := 65536 * n) (by omega) (by omega), wru64 (n := 281474976710656 * s) (by omega) (by omega), wru64 (n := k + 8 * m) (by omega) (by omega), wru64 (n := k + 8 * m + 32 * a) (by omega) (by omega), wru64 (n := k + 8 * m + 32 * a + 65536 * n) (by omega) (by omega), wru64 (n := k + 8 * m + 32 * a + 65536 * n + 281474976710656 * s) (by omega) (by omega)]
  cases g with
  | true =>
    simp only
    rw [wru64 (by omega) (by omega)]
    exact Ev.some (show V.int _ _ = V.int _ _ by unfold Hdr.word; simp only [if_true]; congr 1; omega)
  | false =>
    exact Ev.some (show V.int _ _ = V.int _ _ by unfold Hdr.word; simp only [Bool.false_eq_true, if_false]; congr 1; omega)

end Wm
end

section
/- All words of a config, and those of a memory in which nothing was done: withyref06.Words, Memory. -/
namespace Wm
attribute [local congr] bind_congr1
attribute [local irreducible] wr

theorem Words_spec {k : Cfg} (hr : k.R = true) {h : H} (ok : h.ok) : ∃ (g : H) (b : Nat) (c : Cap) (kk : Bk), C 87 [k.v] h = some (.sl b 0 k.size c, g) ∧ Fr [] h g ∧ h.next ≤ b ∧ g.get b = some (.cells (k.locs.map Wd.cells).flatten kk) := by
  obtain ⟨x, L, hW, hA⟩ := words_spec (s := k.s) (a := k.a) (c := k.c) (hd := k.hd) (g := k.g) (st := k.st) hr ok
  have hn : sizeW k.S k.room k.C k.H = k.size := by unfold sizeW Cfg.size Cfg.base; omega
  change Acc h L x 3 (sizeW k.S k.room k.C k.H) (wordsW k.S k.room k.C k.H) at hA
  rw [hn, words_flat] at hA
  have hfr : ∀ l, Fr [] h (h.ext l) := fun l => ⟨by rw [H.ext_next]; omega, ok.ext l, fun b hb _ => H.ext_old hb⟩
  obtain ⟨_, _, j, ⟨rfl, hj⟩ | ⟨rfl, hj⟩⟩ := hA
  · exact ⟨_, _, _, _, hW, hfr _, by omega, by rw [H.ext_get' ok, List.getElem?_cons_succ, hj]; rfl⟩
  · exact ⟨_, _, _, _, hW, hfr _, by omega, by rw [H.ext_get' ok, List.getElem?_cons_succ, hj]; rfl⟩

theorem locs3 (k : Cfg) : ∀ x ∈ k.locs.map Wd.cells, x.length = 3 := fun x hx => by
  obtain ⟨l, _, rfl⟩ := List.mem_map.mp hx; rfl
theorem locs_cells {k : Cfg} {i : Nat} {l : Wd} (hl : k.locs[i]? = some l) (r : Nat) (hr : r < 3) : ((k.locs.map Wd.cells).flatten)[i * 3 + r]? = l.cells[r]? := by
  have h1 := flat_part (locs3 k) i l.cells (by rw [List.getElem?_map, hl]; rfl)
  have h2 := congrArg (fun x => x[r]?) h1
  simp only [List.getElem?_take, List.getElem?_drop, if_pos hr] at h2
  exact h2

/-- The words of a memory in which nothing was done. -/
def mem0 (k : Cfg) : Wd → Int
  | .clock => 1
  | .top => 1
  | .link q => if (q : Int) + 1 < k.s then q + 2 else 0
  | _ => 0
def mem00 : Wd → Int
  | .clock => 1
  | .top => 1
  | _ => 0

/-- The words, as a list, of what each word is. -/
def Cfg.row (k : Cfg) (f : Wd → Int) : List Int := k.locs.map f
theorem row_length (k : Cfg) (f : Wd → Int) : (k.row f).length = k.size := by unfold Cfg.row; rw [List.length_map, locs_length]
theorem row_at {k : Cfg} {f : Wd → Int} {l : Wd} (hl : l.ok k) : (k.row f)[l.pos k]? = some (f l) := by unfold Cfg.row; rw [List.getElem?_map, at_locs hl]; rfl
theorem row_getD {k : Cfg} {f : Wd → Int} {l : Wd} (hl : l.ok k) : (k.row f).getD (l.pos k) 0 = f l := by rw [List.getD_eq_getElem?_getD, row_at hl]; rfl
/-- A word is another one. -/
def wset (f : Wd → Int) (l : Wd) (v : Int) : Wd → Int := fun m => if m = l then v else f m
theorem wset_same (f : Wd → Int) (l : Wd) (v : Int) : wset f l v l = v := if_pos rfl
theorem wset_ne {f : Wd → Int} {l m : Wd} {v : Int} (h : m ≠ l) : wset f l v m = f m := if_neg h
theorem row_set {k : Cfg} {f : Wd → Int} {l : Wd} {v : Int} (hl : l.ok k) : (k.row f).set (l.pos k) v = k.row (wset f l v) := by
  apply List.ext_getElem?
  intro i
  unfold Cfg.row
  rw [List.getElem?_set, List.getElem?_map, List.getElem?_map]
  by_cases hi : l.pos k = i
  · subst hi
    rw [if_pos rfl, if_pos (by rw [List.length_map, locs_length]; exact pos_lt hl), at_locs hl]
    simp only [Option.map_some, wset_same]
  · rw [if_neg hi]
    cases hx : k.locs[i]? with
    | none => rfl
    | some m =>
      simp only [Option.map_some]
      rw [wset_ne]
      rintro rfl
      exact hi (locs_at hx)
theorem row_congr {k : Cfg} {f g : Wd → Int} (h : ∀ l, l.ok k → f l = g l) : k.row f = k.row g := List.map_congr_left fun l hl => h l (mem_locs.mp hl)

theorem row_st2 {g : H} {b : Nat} {ws : List Int} {kk : Bk} (hk : kk ≠ .ro) (hg : g.get b = some (.cells (ws.map (.int .u64)) kk)) {i : Nat} (hi : i < ws.length) (v : Int) : g.st 1 (.ptr b i) (.int .u64 v) = some (g.put b (some (.cells ((ws.set i v).map (.int .u64)) kk))) := by
  rw [st1_get hg hk rfl (by rw [List.length_map]; exact hi), List.map_set]

theorem sl_idx {b n i e : Nat} {c : Cap} (hi : i < n) : indexAV e (.sl b 0 n c) (.int .i64 (i : Int)) = some (.ptr b (i * e)) := by
  simp only [indexAV, indexOf, asIAny, show decide ((0 : Int) ≤ (i : Int)) = true from decide_eq_true (by omega), show decide ((i : Int) < (n : Int)) = true from decide_eq_true (by omega), Bool.and_self, Nat.zero_add, Int.toNat_natCast]
theorem sl_idx1 {b n i : Nat} {c : Cap} (hi : i < n) : indexAV 1 (.sl b 0 n c) (.int .i64 (i : Int)) = some (.ptr b i) := by rw [sl_idx hi, Nat.mul_one]

def memF (k : Cfg) (i : Nat) (l : Wd) : Int := if l.pos k < i then mem0 k l else mem00 l

theorem memF_set {k : Cfg} {l : Wd} (hlo : l.ok k) : k.row (memF k (l.pos k + 1)) = (k.row (memF k (l.pos k))).set (l.pos k) (mem0 k l) := by
  rw [row_set hlo]
  apply row_congr
  intro m hm
  simp only [memF, wset]
  by_cases he : m = l
  · subst he; rw [if_pos (Nat.lt_succ_self _), if_pos rfl]
  · rw [if_neg he]
    have hne : m.pos k ≠ l.pos k := fun q => he (pos_inj hm hlo q)
    clear he hm hlo
    by_cases hq : m.pos k < l.pos k
    · rw [if_pos (Nat.lt_succ_of_lt hq), if_pos hq]
    · rw [if_neg (by omega), if_neg hq]
theorem memF_same {k : Cfg} {l : Wd} (hlo : l.ok k) (hl : mem0 k l = mem00 l) : k.row (memF k (l.pos k + 1)) = k.row (memF k (l.pos k)) := by
  apply row_congr
  intro m hm
  simp only [memF]
  by_cases he : m = l
  · subst he; rw [if_pos (Nat.lt_succ_self _), if_neg (Nat.lt_irrefl _), hl]
  · have hne : m.pos k ≠ l.pos k := fun q => he (pos_inj hm hlo q)
    clear he hm hlo
    by_cases hq : m.pos k < l.pos k
    · rw [if_pos (Nat.lt_succ_of_lt hq), if_pos hq]
    · rw [if_neg (by omega), if_neg hq]
theorem who_le {k : Cfg} (hr : k.R = true) {l : Wd} (hl : l.ok k) : l.who ≤ 64 := by
  have hb := Cfg.bounds hr
  cases l <;> simp only [Wd.ok, Wd.who] at hl ⊢ <;> omega
theorem natlt {i n : Nat} (h : i < n) : decide ((i : Int) < (n : Int)) = true := decide_eq_true (Int.ofNat_lt.mpr h)
theorem link_name (l : Wd) : (l.name.toList == (⟨⟨[108, 105, 110, 107]⟩⟩ : ByteArray).toList) = decide (l.tag = 9) := by
  have h := name_eq l (.link 0)
  have e : (Wd.link 0).name = (⟨⟨[108, 105, 110, 107]⟩⟩ : ByteArray) := rfl
  rw [e] at h
  exact h

theorem Memory_spec {k : Cfg} (hr : k.R = true) {h : H} (ok : h.ok) : ∃ (g : H) (b : Nat), C 86 [k.v] h = some (.sl b 0 k.size (.ex k.size), g) ∧ Fr [] h g ∧ h.next ≤ b ∧ b < g.next ∧ g.get b = some (.cells ((k.row (mem0 k)).map (.int .u64)) .rw) := by
  have hb := Cfg.bounds hr
  have hsz : 4 ≤ k.size := by unfold Cfg.size Cfg.base; omega
  have hev : Ev (C 86 [k.v] h) fun r => ∃ b, r.1 = .sl b 0 k.size (.ex k.size) ∧ Fr [] h r.2 ∧ h.next ≤ b ∧ b < r.2.next ∧ r.2.get b = some (.cells ((k.row (mem0 k)).map (.int .u64)) .rw) := by
    refine call_ev (af := F.withyref06_Memory) (by kernel_rfl) rfl ?_
    obtain ⟨g0, bw, cw, kw, e0, f0, n0, w0⟩ := Words_spec hr (ok.new (.cells k.cs .rw))
    have hcs : (Blk.cells k.cs .rw) = .cells [.int .i64 k.s, .int .i64 k.a, .int .i64 k.c, .int .i64 k.hd, .int .i64 k.g, .int .i64 k.st] .rw := rfl
    have hv : k.v = .agg [.int .i64 k.s, .int .i64 k.a, .int .i64 k.c, .int .i64 k.hd, .int .i64 k.g, .int .i64 k.st] := rfl
    rw [hv, S.withyref06_Memory_eq]
    rw [hv, hcs] at e0
    have hcfg : g0.get h.next = some (.cells [.int .i64 k.s, .int .i64 k.a, .int .i64 k.c, .int .i64 k.hd, .int .i64 k.g, .int .i64 k.st] .rw) := f0.get (ok.new _) (get_new_self _ _) (by simp)
    rw [H.next_new] at n0
    have hmk : g0.mkSl 1 8 [V.int .u64 0] (k.size : Int) (k.size : Int) = some (.sl g0.next 0 k.size (.ex k.size), g0.new (.cells (repl [V.int .u64 0] k.size) .rw)) := by
      rw [mkSl_ok (e := 1) (b := 8) (z := [V.int .u64 0]) (l := (k.size : Int)) (c := (k.size : Int)) (by omega) (by omega) (by omega) (by omega) rfl (by omega)]
      simp only [Int.toNat_natCast]
    simp only [S.withyref06_Memory, lenSl_sl, Option.bind_some, ldN_get', get_new', ldNB_cells, Nat.zero_add, Nat.reduceAdd, Nat.reduceLeDiff, List.length_cons, List.length_nil, decide_true, if_true, List.take_succ_cons, List.take_zero, List.drop_zero, W_call, e0, hmk]
    have hrep : (repl [V.int .u64 0] k.size) = (List.replicate k.size (0 : Int)).map (.int .u64) := repl_map _
    rw [hrep]
    generalize hg1 : g0.new (.cells ((List.replicate k.size (0 : Int)).map (V.int .u64)) .rw) = g1
    have hg1g : g1.get g0.next = some (.cells ((List.replicate k.size (0 : Int)).map (V.int .u64)) .rw) := by rw [← hg1]; exact get_new_self _ _
    have hfr1 : Fr [] h g1 := by rw [← hg1]; exact (((Fr.refl ok).new _).trans' f0).new _
    have hw1 : g1.get bw = some (.cells (k.locs.map Wd.cells).flatten kw) := by rw [← hg1, get_new_ne (f0.ok.ne0 w0)]; exact w0
    have hcfg1 : g1.get h.next = some (.cells [.int .i64 k.s, .int .i64 k.a, .int .i64 k.c, .int .i64 k.hd, .int .i64 k.g, .int .i64 k.st] .rw) := by rw [← hg1, get_new_ne (f0.ok.ne0 hcfg)]; exact hcfg
    have hbwne : bw ≠ g0.next := f0.ok.ne0 w0
    have hcne : h.next ≠ g0.next := f0.ok.ne0 hcfg
    have hle : h.next < g0.next := by have := f0.le; rw [H.next_new] at this; omega
    generalize hz : g0.next = z at hg1g hbwne hcne hle ⊢
    have hzn : z < g1.next := by rw [← hg1, H.next_new]; omega
    clear hg1 hmk e0 f0
    have i0 := sl_idx1 (b := z) (n := k.size) (i := 0) (c := .ex k.size) (by omega)
    have i3 := sl_idx1 (b := z) (n := k.size) (i := 3) (c := .ex k.size) (by omega)
    rw [show indexAV 1 (.sl z 0 k.size (.ex k.size)) (.int .i64 0) = some (.ptr z 0) from i0]
    simp only [Option.bind_some]
    rw [row_st2 (by decide) hg1g (by rw [List.length_replicate]; omega)]
    simp only [Option.bind_some]
    rw [show indexAV 1 (.sl z 0 k.size (.ex k.size)) (.int .i64 3) = some (.ptr z 3) from i3]
    simp only [Option.bind_some]
    rw [row_st2 (by decide) (get_put_self _ _ _) (by rw [List.length_set, List.length_replicate]; omega), put_put']
    simp only [Option.bind_some]
    have hinit : ((List.replicate k.size (0 : Int)).set 0 1).set 3 1 = k.row mem00 := by
      have e : List.replicate k.size (0 : Int) = k.row (fun _ => 0) := by
        unfold Cfg.row; rw [← locs_length]; rw [List.map_const']
      rw [e]
      have h1 := row_set (k := k) (f := fun _ => 0) (l := .clock) (v := 1) trivial
      have h2 := row_set (k := k) (f := wset (fun _ => 0) .clock 1) (l := .top) (v := 1) trivial
      change (k.row _).set 0 1 = _ at h1
      change (k.row _).set 3 1 = _ at h2
      rw [h1, h2]
      apply row_congr
      intro l _
      cases l <;> simp [wset, mem00]
    rw [hinit]
    -- what stands behind so many rounds
    have hF0 : memF k 0 = mem00 := by funext l; simp [memF]
    refine loop_ev (α := Nat) (fun i => S.withyref06_Memory_c1_E (.ptr h.next 0) (.sl bw 0 k.size cw) (.sl z 0 k.size (.ex k.size)) (.int .i64 i))
      (fun i g => i ≤ k.size ∧ g = g1.put z (some (.cells ((k.row (memF k i)).map (.int .u64)) .rw))) (fun i _ => k.size - i)
      (fun r => r = (.exit 0, S.withyref06_Memory_c1_O (.sl z 0 k.size (.ex k.size)), g1.put z (some (.cells ((k.row (memF k k.size)).map (.int .u64)) .rw)))) 0 rfl ⟨by omega, by rw [hF0]⟩ ?_ ?_
    · rintro i g ⟨hi, rfl⟩
      rw [S.withyref06_Memory_c1_eq]
      by_cases hic : i < k.size
      · obtain ⟨l, hl⟩ : ∃ l, k.locs[i]? = some l := ⟨_, List.getElem?_eq_getElem (by rw [locs_length]; exact hic)⟩
        have hlo := mem_locs.mp (List.mem_of_getElem? hl)
        have hlp := locs_at hl
        have ix := sl_idx (b := bw) (n := k.size) (i := i) (e := 3) (c := cw) hic
        have ix2 := sl_idx1 (b := z) (n := k.size) (i := i) (c := .ex k.size) hic
        have c0 := locs_cells hl 0 (by omega)
        have c1 := locs_cells hl 1 (by omega)
        simp only [Nat.add_zero] at c0
        have w1 : wr .i64 ((i : Int) + 1) = ((i + 1 : Nat) : Int) := by rw [wr64 (by omega) (by omega)]; rfl
        have hwho : (l.who : Int) ≤ 64 := by
          have := who_le hr hlo
          omega
        have w2 : wr .i64 ((l.who : Int) + 1) = (l.who : Int) + 1 := wr64 (by omega) (by omega)
        have w3 : wr .u64 (wr .i64 ((l.who : Int) + 2)) = (l.who : Int) + 2 := ar_link (Int.natCast_nonneg _) hwho
        have hmu : k.size - (i + 1) < k.size - i := Nat.sub_lt_sub_left hic (Nat.lt_succ_self i)
        have hFs : ∀ v, mem0 k l = v → k.row (memF k (i + 1)) = (k.row (memF k i)).set i v := by
          rintro v rfl
          rw [← hlp]; exact memF_set hlo
        have hFsame : mem0 k l = mem00 l → k.row (memF k (i + 1)) = k.row (memF k i) := fun he => by
          rw [← hlp]; exact memF_same hlo he
        have hnm' := link_name l
        rw [show l.cells[0]? = some (.str l.name) from rfl] at c0
        rw [show l.cells[1]? = some (.int .i64 l.who) from rfl] at c1
        generalize l.name = nm at c0 hnm'
        generalize hB : (nm.toList == (⟨⟨[108, 105, 110, 107]⟩⟩ : ByteArray).toList) = B at hnm'
        generalize (k.locs.map Wd.cells).flatten = W3 at hw1 c0 c1
        generalize hwh : (l.who : Int) = who at c1 w1 w2 w3 hwho
        have hlt : decide ((i : Int) < (k.size : Int)) = true := natlt hic
        simp only [S.withyref06_Memory_c1_S, lenSl_sl, ptrAt_ptr, Option.bind_some, ld1_get', get_put', ldB_cells, List.getElem?_cons_zero, Nat.add_zero, V.one, asI_int, if_false, eqV, hlt, ix, hbwne, hcne, hw1, hcfg1, c0, c1, hB, w1, w2]
        subst hnm'
        by_cases ht : l.tag = 9
        · obtain ⟨q, rfl⟩ : ∃ q, l = .link q := by cases l <;> simp [Wd.tag] at ht; exact ⟨_, rfl⟩
          simp only [ht, decide_true]
          by_cases hc : who + 1 < k.s
          · simp only [hc, decide_true, ix2, Option.bind_some]
            rw [w3, row_st2 (by decide) (get_put_self _ _ _) (by rw [row_length]; exact hic), put_put', ← hFs _ (by simp only [mem0]; rw [← hwh] at hc ⊢; exact if_pos hc)]
            exact Ev.some (.inl ⟨i + 1, rfl, rfl, ⟨hic, rfl⟩, hmu⟩)
          · simp only [hc, decide_false]
            rw [← hFsame (by simp only [mem0, mem00]; rw [← hwh] at hc; exact if_neg hc)]
            exact Ev.some (.inl ⟨i + 1, rfl, rfl, ⟨hic, rfl⟩, hmu⟩)
        · simp only [ht, decide_false]
          rw [← hFsame (by cases l <;> first | rfl | (exfalso; exact ht rfl))]
          exact Ev.some (.inl ⟨i + 1, rfl, rfl, ⟨hic, rfl⟩, hmu⟩)
      · have : i = k.size := Nat.le_antisymm hi (Nat.le_of_not_lt hic)
        subst this
        simp only [S.withyref06_Memory_c1_S, lenSl, Option.bind_some, Int.lt_irrefl, decide_false]
        exact Ev.some (.inr ⟨by simp, rfl⟩)
    · rintro r rfl
      simp only
      rw [S.withyref06_Memory_c1_e0_eq]
      refine Ev.some ⟨z, rfl, hfr1.put (.inr (Nat.le_of_lt hle)) hzn _, Nat.le_of_lt hle, hzn, ?_⟩
      rw [get_put_self]
      congr 3
      apply row_congr
      intro l hl
      simp only [memF]
      rw [if_pos (pos_lt hl)]
  obtain ⟨⟨v, g⟩, e, b, rfl, f, n, n', w⟩ := hev
  exact ⟨g, b, e, f, n, n', w⟩
end Wm
end

section
/- The machine that makes a slot gray: shade.NewShade, Step. -/
namespace Wm
attribute [local congr] bind_congr1
attribute [local irreducible] wr

theorem headerP_at {k : Cfg} (hr : k.R = true) {q : Nat} (hq : q < k.S) : withinT k.s k.a k.c k.hd k.g k.st (q : Int) 0 = ((Wd.header q).pos k : Nat) := by
  have hb := Cfg.R_iff.mp hr
  have hq' : (q : Int) ≤ k.s - 1 := by unfold Cfg.S at hq; omega
  have hroom : (k.room : Int) = max k.a 3 := by unfold Cfg.room; split <;> omega
  have hc : (k.C : Int) = k.c := by unfold Cfg.C; omega
  have hh : (k.H : Int) = k.hd := by unfold Cfg.H; omega
  unfold withinT
  rw [if_pos ⟨hr, ⟨Int.natCast_nonneg _, hq'⟩, Int.le_refl _, by unfold roomT; omega⟩]
  unfold slotsT roomT Wd.pos Cfg.base
  rw [← hroom, ← hc, ← hh, Int.mul_add, Int.mul_add, Int.mul_one]
  have e2 : ((2 : Nat) : Int) = 2 := rfl
  simp only [Int.natCast_add, Int.natCast_mul, e2]
  omega

theorem header_at {k : Cfg} (hr : k.R = true) {q : Nat} (hq : q < k.S) (h : H) : C 261 [k.v, .int .i64 (q : Int)] h = some (.int .i64 ((Wd.header q).pos k : Nat), h) := by
  rw [← headerP_at hr hq]; exact header_spec _ _ _ _ _ _ _ h

end Wm
end

section
/- Rows of numbers, and memories of them: slices.Clone, mem.Of, mem.Words. -/
namespace Wm
attribute [local congr] bind_congr1
attribute [local irreducible] wr

theorem app_new {h : H} {e b bb o c : Nat} {x : V} {new : List V} {n : Nat} (hx : lenSl x = some n) (hn : h.slc e x = some new) (ho : h.slc e (.sl bb o 0 (.ex c)) = some []) (h1 : new.all V.one = true) (h2 : (n + n / 2 + 1000) * b ≤ 281474976710656) (he : 0 < e) (hb : 0 < b) (hc : c < n) :
    h.append e b (.sl bb o 0 (.ex c)) x = some (.sl h.next 0 n (.op e), h.new (.cells new (.gr e))) := by
  have := append_ex' (len := 0) (bb := bb) (o := o) (c := c) hx hn ho h1 (by simpa using h2) he hb (by omega)
  rw [this]; simp

theorem slc_zero {h : H} {e b o : Nat} {c : Cap} {cs : List V} {k : Bk} (hg : h.get b = some (.cells cs k)) (ho : o ≤ cs.length) : h.slc e (.sl b o 0 c) = some [] := by
  rw [slc_get hg (by simpa using ho)]; simp

theorem RowIs.slc {g : H} {x : V} {ws : List Int} (h : RowIs g.get x ws) (hne : ws ≠ []) : lenSl x = some ws.length ∧ g.slc 1 x = some (ws.map (.int .u64)) := by
  obtain ⟨_, ⟨_, rfl⟩ | ⟨b, c, k, rfl, hb⟩⟩ := h
  · exact absurd rfl hne
  · refine ⟨rfl, ?_⟩
    rw [slc_get hb (by rw [List.length_map]; omega), List.drop_zero, List.take_of_length_le (by rw [List.length_map]; omega)]
theorem ones_u64 (ws : List Int) : (ws.map (V.int .u64)).all V.one = true := by
  rw [List.all_map, List.all_eq_true]; intro _ _; rfl
theorem RowIs.fr {g g' : H} {L : List Nat} {x : V} {ws : List Int} (h : RowIs g.get x ws) (ok : g.ok) (f : Fr L g g') (hL : ∀ b c, x = .sl b 0 ws.length c → b ∉ L) : RowIs g'.get x ws := by
  obtain ⟨q, h1 | ⟨b, c, k, rfl, hb⟩⟩ := h
  · exact ⟨q, .inl h1⟩
  · exact ⟨q, .inr ⟨b, c, k, rfl, f.get ok hb (hL b c rfl)⟩⟩

theorem clone_spec {h : H} (ok : h.ok) {x : V} {ws : List Int} (hx : RowIs h.get x ws) (hne : ws ≠ []) (hl : ws.length ≤ 65536) :
    Ev (C 271 [x] h) fun r => ∃ q, r.1 = .sl q 0 ws.length (.op 1) ∧ Fr [] h r.2 ∧ h.next ≤ q ∧ r.2.get q = some (.cells (ws.map (.int .u64)) (.gr 1)) := by
  refine call_ev (af := F.slices_Clone___uint64_uint64_) (by kernel_rfl) rfl ?_
  rw [S.slices_Clone___uint64_uint64__eq]
  have hns : eqSl x .nilsl = some false := by
    obtain ⟨_, ⟨_, rfl⟩ | ⟨b, c, k, rfl, hb⟩⟩ := hx
    · exact absurd rfl hne
    · rfl
  have ok1 := ok.new (.cells [] .rw)
  obtain ⟨e1, e2⟩ := (RowIs.fr hx ok ((Fr.refl (L := []) ok).new (.cells [] .rw)) (by simp)).slc hne
  have hpos : 0 < ws.length := List.length_pos_iff.mpr hne
  have ha := app_new (e := 1) (b := 8) (bb := h.next) (o := 0) (c := 0) e1 e2 (slc_zero (get_new_self h _) (by simp)) (ones_u64 ws) (by omega) (by omega) (by omega) hpos
  simp only [S.slices_Clone___uint64_uint64_, eqV, hns, Option.bind_some, ha]
  exact Ev.some ⟨_, rfl, ((Fr.refl ok).new _).new _, by rw [H.next_new]; omega, get_new_self _ _⟩

theorem memOf_spec {h : H} (ok : h.ok) {x : V} {ws : List Int} (hx : RowIs h.get x ws) (hne : ws ≠ []) (hl : ws.length ≤ 65536) (hu : ∀ w ∈ ws, U64 w) :
    Ev (C 198 [x] h) fun r => ∃ p q, r.1 = .ptr p 0 ∧ Fr [] h r.2 ∧ h.next ≤ p ∧ h.next ≤ q ∧ MemAt r.2 p q ⟨ws, 0, ⟨0, 0, 0, 0⟩⟩ := by
  refine call_ev (af := F.mem_Of) (by kernel_rfl) rfl ?_
  rw [S.mem_Of_eq]
  obtain ⟨⟨v, g⟩, e, q, rfl, f, hq, hg⟩ := clone_spec ok hx hne hl
  have hl' : ¬ (65536 < ((ws.length : Nat) : Int)) := by omega
  simp only [S.mem_Of, hx.len, Option.bind_some, hl', decide_false, W_call, e, Option.bind_some, Nat.zero_add, Nat.reduceAdd, Nat.reduceLeDiff, V.cells, List.length_cons, List.length_nil, Nat.beq_refl, Bool.and_true, decide_true, decide_false, splice, List.take_zero, List.drop_succ_cons, List.drop_zero, List.cons_append, List.nil_append, fill, opd, boxc, W_call]
  have hqn : q ≠ g.next := f.ok.ne0 hg
  exact Ev.some ⟨g.next, q, rfl, f.new _, f.le, hq, ⟨hqn.symm, ⟨.op 1, get_new_self _ _⟩, ⟨.gr 1, by simp, by rw [get_new_ne hqn]; exact hg⟩, hu, hl⟩⟩

theorem MemAt.words {h : H} {b bw : Nat} {m : Mem} (M : MemAt h b bw m) (ok : h.ok) (hne : m.ws ≠ []) :
    Ev (C 94 [.ptr b 0] h) fun r => ∃ q, r.1 = .sl q 0 m.ws.length (.op 1) ∧ Fr [] h r.2 ∧ h.next ≤ q ∧ r.2.get q = some (.cells (m.ws.map (.int .u64)) (.gr 1)) := by
  obtain ⟨ne, ⟨c, ho⟩, ⟨k, hk, hr⟩, hu, hs⟩ := M
  refine call_ev (af := F.mem_Mem_Words) (by kernel_rfl) rfl ?_
  rw [S.mem_Mem_Words_eq]
  have hx : RowIs h.get (.sl bw 0 m.ws.length c) m.ws := ⟨by omega, .inr ⟨bw, c, k, rfl, hr⟩⟩
  obtain ⟨⟨v, g⟩, e, q, rfl, f, hq, hg⟩ := clone_spec ok hx hne hs
  simp only [S.mem_Mem_Words, nilc_ptr, eqPtr_ptr, ptrAt_ptr, Option.bind_some, ld1_get', ldB_cells, List.getElem?_cons_zero, Nat.add_zero, V.one, eqV, W_call, ho, e]
  exact Ev.some ⟨q, rfl, f, hq, hg⟩

/-- How many headers are gray. -/
def graysN (k : Cfg) (f : Wd → Int) : Nat := ((List.range k.S).filter fun q => grayW (f (.header q))).length
end Wm
end

section
/- Shades over words by what they are. -/
namespace Wm
attribute [local congr] bind_congr1
attribute [local irreducible] wr

section
variable {k : Cfg} {f : Wd → Int} {n : Int} {t : Touch} {l : Wd}
theorem Mem.there_row (hl : l.ok k) : (⟨k.row f, n, t⟩ : Mem).there (l.pos k : Nat) = true := by
  unfold Mem.there
  simp only [row_length, natlt (pos_lt hl), Bool.and_true]
  exact decide_eq_true (Int.natCast_nonneg _)
theorem Mem.w_row (hl : l.ok k) : (⟨k.row f, n, t⟩ : Mem).w (l.pos k : Nat) = f l := by
  unfold Mem.w; rw [Int.toNat_natCast, row_getD hl]
theorem Mem.touch_row (hl : l.ok k) (kd v : Int) : (⟨k.row f, n, t⟩ : Mem).touch kd (l.pos k : Nat) v = ⟨k.row (wset f l v), wr .i64 (n + 1), ⟨kd, (l.pos k : Nat), f l, v⟩⟩ := by
  unfold Mem.touch; rw [Mem.w_row hl, Int.toNat_natCast, row_set hl]
theorem wset_self : wset f l (f l) = f := by funext m; unfold wset; split; subst_vars; rfl; rfl
theorem Mem.val_row (hl : l.ok k) : (⟨k.row f, n, t⟩ : Mem).val (l.pos k : Nat) = f l := by
  unfold Mem.val; rw [Mem.there_row hl, if_pos rfl, Mem.w_row hl]
theorem Mem.load_row (hl : l.ok k) : (⟨k.row f, n, t⟩ : Mem).load (l.pos k : Nat) = ⟨k.row f, wr .i64 (n + 1), ⟨1, (l.pos k : Nat), f l, f l⟩⟩ := by
  unfold Mem.load; rw [Mem.there_row hl, if_pos rfl, Mem.w_row hl, Mem.touch_row hl, wset_self]
theorem Mem.swaps_row (hl : l.ok k) (old : Int) : (⟨k.row f, n, t⟩ : Mem).swaps (l.pos k : Nat) old = decide (f l = old) := by
  unfold Mem.swaps; rw [Mem.there_row hl, Mem.w_row hl, Bool.true_and]
theorem Mem.swap_row (hl : l.ok k) (old now : Int) : (⟨k.row f, n, t⟩ : Mem).swap (l.pos k : Nat) old now = ⟨k.row (if f l = old then wset f l now else f), wr .i64 (n + 1), ⟨3, (l.pos k : Nat), f l, if f l = old then now else f l⟩⟩ := by
  unfold Mem.swap; rw [Mem.there_row hl, if_pos rfl, Mem.w_row hl, Mem.touch_row hl]
  split
  · rfl
  · rw [wset_self]
end

/-- A memory whose words are these. -/
def MemF (h : H) (p pw : Nat) (k : Cfg) (f : Wd → Int) (n : Int) : Prop := ∃ t, MemAt h p pw ⟨k.row f, n, t⟩
theorem MemF.fr {h h' : H} {L : List Nat} {p pw : Nat} {k : Cfg} {f : Wd → Int} {n : Int} (M : MemF h p pw k f n) (ok : h.ok) (F : Fr L h h') (h1 : p ∉ L) (h2 : pw ∉ L) : MemF h' p pw k f n :=
  let ⟨t, m⟩ := M; ⟨t, m.fr ok F h1 h2⟩
theorem MemF.u64 {h : H} {p pw : Nat} {k : Cfg} {f : Wd → Int} {n : Int} (M : MemF h p pw k f n) {l : Wd} (hl : l.ok k) : U64 (f l) := by
  obtain ⟨t, m⟩ := M
  exact m.u64 _ (List.mem_of_getElem? (row_at hl))
theorem MemF.pos {h : H} {p pw : Nat} {k : Cfg} {f : Wd → Int} {n : Int} (M : MemF h p pw k f n) : k.row f ≠ [] := by
  intro q; have := row_length k f; rw [q] at this; unfold Cfg.size Cfg.base at this; simp only [List.length_nil] at this; omega
theorem MemF.lt {h : H} {p pw : Nat} {k : Cfg} {f : Wd → Int} {n : Int} (M : MemF h p pw k f n) (ok : h.ok) : p < h.next ∧ pw < h.next ∧ p ≠ pw := by
  obtain ⟨t, ne, ⟨c, ho⟩, ⟨kk, _, hr⟩, _, _⟩ := M
  exact ⟨ok.lt ho, ok.lt hr, ne⟩

theorem MemF.words {h : H} {p pw : Nat} {k : Cfg} {f : Wd → Int} {n : Int} (M : MemF h p pw k f n) (ok : h.ok) :
    Ev (C 94 [.ptr p 0] h) fun r => ∃ q, r.1 = .sl q 0 k.size (.op 1) ∧ Fr [] h r.2 ∧ h.next ≤ q ∧ r.2.get q = some (.cells ((k.row f).map (.int .u64)) (.gr 1)) := by
  have hne := M.pos
  obtain ⟨t, m⟩ := M
  have := m.words ok hne
  simp only [row_length] at this
  exact this

/-- A shade's state. -/
structure Sh where
  grew : Bool
  next : Int
  was : Int
def ShAt (h : H) (b : Nat) (k : Cfg) (q : Nat) (e : Int) (s : Sh) : Prop := h.get b = some (.cells (Shade.cs ⟨s.grew, ((Wd.header q).pos k : Nat), e, s.next, s.was⟩) .rw) ∧ U64 s.was
end Wm
end

section
/- The memory and the book of when things took effect: what stands in them, and their functions. -/
namespace Wm
attribute [local congr] bind_congr1
attribute [local irreducible] wr

/-! ### Maps from numbers to numbers -/
/-- A map's entries, as what they tell. -/
def Tells (kd : Go.IntKind) (es : List (V × V)) (f : Int → Option Int) : Prop := ∀ j, findKey .int (.int kd j) es = some ((f j).map (.int .i64))
def mset (f : Int → Option Int) (k v : Int) : Int → Option Int := fun j => if j = k then some v else f j

theorem findKey_nil (kd : Go.IntKind) : Tells kd [] fun _ => none := fun _ => rfl
theorem setKey_find {kd : Go.IntKind} (k v : Int) : ∀ {es : List (V × V)} {f : Int → Option Int}, Tells kd es f → ∃ es', setKey .int (.int kd k) (.int .i64 v) es = some es' ∧ Tells kd es' (mset f k v)
  | [], f, h => by
    refine ⟨[(.int kd k, .int .i64 v)], rfl, fun j => ?_⟩
    have h1 : f j = none := by
      have := h j
      simp only [findKey, Option.some.injEq] at this
      cases hf : f j with
      | none => rfl
      | some x => rw [hf] at this; cases this
    by_cases hj : j = k
    · subst hj; simp [findKey, eqCell, mset]
    · simp [findKey, eqCell, mset, hj, h1]
  | (a, w) :: es, f, h => by
    -- the head is of the kind
    obtain ⟨b, rfl⟩ : ∃ b, a = .int kd b := by
      have := h k
      simp only [findKey] at this
      cases a <;> simp only [eqCell] at this <;> (try cases this)
      rename_i kd' b
      by_cases hk : kd = kd'
      · subst hk; exact ⟨b, rfl⟩
      · simp [hk] at this
    have hhead : some w = (f b).map (.int .i64) := by
      have := h b
      simp only [findKey, eqCell, decide_true, Option.some.injEq] at this
      exact this
    have htail : ∀ j, j ≠ b → findKey .int (.int kd j) es = some ((f j).map (.int .i64)) := fun j hj => by
      have := h j
      simp only [findKey, eqCell, decide_true, hj, decide_false] at this
      exact this
    by_cases hk : k = b
    · subst hk
      refine ⟨(.int kd k, .int .i64 v) :: es, by simp only [setKey, eqCell, decide_true], fun j => ?_⟩
      by_cases hj : j = k
      · subst hj; simp [findKey, eqCell, mset]
      · simp only [findKey, eqCell, decide_true, hj, decide_false, mset, if_false]; exact htail j hj
    · -- the rest tells all but the head's key; the head's key it need not know
      have key : ∀ (es : List (V × V)) (g : Int → Option Int), (∀ j, j ≠ b → findKey .int (.int kd j) es = some ((g j).map (.int .i64))) → ∃ es', setKey .int (.int kd k) (.int .i64 v) es = some es' ∧ ∀ j, j ≠ b → findKey .int (.int kd j) es' = some ((mset g k v j).map (.int .i64)) := by
        intro es
        induction es with
        | nil =>
          intro g hg
          refine ⟨[(.int kd k, .int .i64 v)], rfl, fun j hj => ?_⟩
          have h1 : g j = none := by
            have := hg j hj
            simp only [findKey, Option.some.injEq] at this
            cases hf : g j with
            | none => rfl
            | some x => rw [hf] at this; cases this
          by_cases hjk : j = k
          · subst hjk; simp [findKey, eqCell, mset]
          · simp [findKey, eqCell, mset, hjk, h1]
        | cons p es ih =>
          obtain ⟨a2, w2⟩ := p
          intro g hg
          obtain ⟨b2, rfl⟩ : ∃ b2, a2 = .int kd b2 := by
            have := hg k hk
            simp only [findKey] at this
            cases a2 <;> simp only [eqCell] at this <;> (try cases this)
            rename_i kd' b2
            by_cases hkk : kd = kd'
            · subst hkk; exact ⟨b2, rfl⟩
            · simp [hkk] at this
          by_cases hk2 : k = b2
          · subst hk2
            refine ⟨(.int kd k, .int .i64 v) :: es, by simp only [setKey, eqCell, decide_true], fun j hj => ?_⟩
            by_cases hjk : j = k
            · subst hjk; simp [findKey, eqCell, mset]
            · have := hg j hj
              simp only [findKey, eqCell, decide_true, hjk, decide_false] at this ⊢
              simp only [mset, hjk, if_false]; exact this
          · let g2 : Int → Option Int := fun j => g j
            have hg' : ∀ j, j ≠ b → j ≠ b2 → findKey .int (.int kd j) es = some ((g j).map (.int .i64)) := fun j hj hj2 => by
              have := hg j hj
              simp only [findKey, eqCell, decide_true, hj2, decide_false] at this
              exact this
            -- the rest, where b2 is known no more: by what it tells itself
            have hdef : ∀ (es : List (V × V)), (∃ o, findKey .int (.int kd k) es = some o) → ∃ es', setKey .int (.int kd k) (.int .i64 v) es = some es' ∧ ∀ j, j ≠ k → findKey .int (.int kd j) es' = findKey .int (.int kd j) es := by
              intro es
              induction es with
              | nil => intro _; exact ⟨[(.int kd k, .int .i64 v)], rfl, fun j hj => by simp [findKey, eqCell, hj]⟩
              | cons p es ih2 =>
                obtain ⟨a3, w3⟩ := p
                rintro ⟨o, ho⟩
                simp only [findKey] at ho
                cases he : eqCell .int (.int kd k) a3 with
                | none => rw [he] at ho; cases ho
                | some t =>
                  cases t with
                  | true =>
                    refine ⟨(.int kd k, .int .i64 v) :: es, by simp only [setKey, he], fun j hj => ?_⟩
                    have ha3 : a3 = .int kd k := by
                      cases a3 <;> simp only [eqCell] at he <;> (try cases he)
                      rename_i kd' b3
                      by_cases hkk : kd = kd'
                      · subst hkk; simp at he; rw [he]
                      · simp [hkk] at he
                    subst ha3
                    simp only [findKey, eqCell, decide_true, hj, decide_false]
                  | false =>
                    rw [he] at ho
                    obtain ⟨es', e1, e2⟩ := ih2 ⟨o, ho⟩
                    refine ⟨(a3, w3) :: es', by simp only [setKey, he, e1], fun j hj => ?_⟩
                    simp only [findKey, e2 j hj]
            obtain ⟨es', e1, e2⟩ := hdef es ⟨_, hg' k hk hk2⟩
            refine ⟨(.int kd b2, w2) :: es', ?_, fun j hj => ?_⟩
            · simp only [setKey, eqCell, decide_true, hk2, decide_false, e1]
            · by_cases hjk : j = k
              · subst hjk
                -- it was laid there
                have hs : ∀ (es es' : List (V × V)), setKey .int (.int kd j) (.int .i64 v) es = some es' → findKey .int (.int kd j) es' = some (some (.int .i64 v)) := by
                  intro es
                  induction es with
                  | nil => intro es' h; simp only [setKey, Option.some.injEq] at h; subst h; simp [findKey, eqCell]
                  | cons p es ih3 =>
                    obtain ⟨a3, w3⟩ := p
                    intro es' h
                    simp only [setKey] at h
                    cases he : eqCell .int (.int kd j) a3 with
                    | none => rw [he] at h; cases h
                    | some t =>
                      rw [he] at h
                      cases t with
                      | true => simp only [Option.some.injEq] at h; subst h; simp [findKey, eqCell]
                      | false =>
                        simp only at h
                        cases hr : setKey .int (.int kd j) (.int .i64 v) es with
                        | none => rw [hr] at h; cases h
                        | some es2 =>
                          rw [hr] at h
                          simp only [Option.some.injEq] at h; subst h
                          simp only [findKey, he]; exact ih3 es2 hr
                have := hs es es' e1
                simp only [findKey, eqCell, decide_true, hk2, decide_false, this, mset, if_true, Option.map_some]
              · have := hg j hj
                simp only [findKey, eqCell, decide_true] at this ⊢
                simp only [mset, hjk, if_false, e2 j hjk]; exact this
      obtain ⟨es', e1, e2⟩ := key es f htail
      refine ⟨(.int kd b, w) :: es', by simp only [setKey, eqCell, decide_true, hk, decide_false, e1], fun j => ?_⟩
      by_cases hj : j = b
      · subst hj
        have hjk : ¬ j = k := fun h => hk h.symm
        simp only [findKey, eqCell, decide_true, mset, hjk, if_false, hhead]
      · simp only [findKey, eqCell, decide_true, hj, decide_false]; exact e2 j hj

/-! ### The book -/
structure BookT where
  now : Int
  born : Int → Option Int
  turned : Int → Option Int
def BookT.at' (f : Int → Option Int) (k : Int) : Int := (f k).getD (-1)

structure BkAt (h : H) (b m1 m2 : Nat) (B : BookT) : Prop where
  own : h.get b = some (.cells [.int .i64 B.now, .map m1, .map m2] .rw)
  born : ∃ es, h.get m1 = some (.map es) ∧ Tells .i64 es B.born
  turned : ∃ es, h.get m2 = some (.map es) ∧ Tells .u64 es B.turned
theorem BkAt.fr {h h' : H} {L : List Nat} {b m1 m2 : Nat} {B : BookT} (K : BkAt h b m1 m2 B) (ok : h.ok) (F : Fr L h h') (h1 : b ∉ L) (h2 : m1 ∉ L) (h3 : m2 ∉ L) : BkAt h' b m1 m2 B := by
  obtain ⟨o, ⟨e1, g1, t1⟩, ⟨e2, g2, t2⟩⟩ := K
  exact ⟨F.get ok o h1, ⟨e1, F.get ok g1 h2, t1⟩, ⟨e2, F.get ok g2 h3, t2⟩⟩

theorem look_map {h : H} {m : Nat} {kd : Go.IntKind} {es : List (V × V)} {f : Int → Option Int} (g : h.get m = some (.map es)) (t : Tells kd es f) (z : V) (k : Int) :
    h.look .int z true (.map m) (.int kd k) = some (match f k with | some v => .tup [.int .i64 v, .bool true] | none => .tup [z, .bool false]) := by
  simp only [H.look, isKey, H.entries, g, t k]
  cases f k <;> rfl

theorem BkAt.bornS {h : H} {b m1 m2 : Nat} {B : BookT} (K : BkAt h b m1 m2 B) (k : Int) : C 152 [.ptr b 0, .int .i64 k] h = some (.int .i64 (BookT.at' B.born k), h) := by
  obtain ⟨o, ⟨e1, g1, t1⟩, _⟩ := K
  refine call_open (af := F.field_Book_Born) (by kernel_rfl) rfl ?_
  rw [S.field_Book_Born_eq]
  have hl := look_map g1 t1 (.int .i64 0) k
  unfold BookT.at'
  cases hb : B.born k with
  | none => rw [hb] at hl; simp only [S.field_Book_Born, nilc_ptr, eqPtr_ptr, ptrAt_ptr, Option.bind_some, ld1_get', ldB_cells, List.getElem?_cons_zero, List.getElem?_cons_succ, Nat.zero_add, Int.reduceNeg, V.one, asB_bool, Bool.not_false, eqV, o, hl]; rfl
  | some v => rw [hb] at hl; simp only [S.field_Book_Born, nilc_ptr, eqPtr_ptr, ptrAt_ptr, Option.bind_some, ld1_get', ldB_cells, List.getElem?_cons_zero, List.getElem?_cons_succ, Nat.zero_add, Int.reduceNeg, V.one, asB_bool, Bool.not_false, eqV, o, hl]; rfl

theorem BkAt.turnedS {h : H} {b m1 m2 : Nat} {B : BookT} (K : BkAt h b m1 m2 B) (k : Int) : C 153 [.ptr b 0, .int .u64 k] h = some (.int .i64 (BookT.at' B.turned k), h) := by
  obtain ⟨o, _, ⟨e1, g1, t1⟩⟩ := K
  refine call_open (af := F.field_Book_Turned) (by kernel_rfl) rfl ?_
  rw [S.field_Book_Turned_eq]
  have hl := look_map g1 t1 (.int .i64 0) k
  unfold BookT.at'
  cases hb : B.turned k with
  | none => rw [hb] at hl; simp only [S.field_Book_Turned, nilc_ptr, eqPtr_ptr, ptrAt_ptr, Option.bind_some, ld1_get', ldB_cells, List.getElem?_cons_zero, List.getElem?_cons_succ, Nat.zero_add, Int.reduceNeg, V.one, asB_bool, Bool.not_false, eqV, o, hl]; rfl
  | some v => rw [hb] at hl; simp only [S.field_Book_Turned, nilc_ptr, eqPtr_ptr, ptrAt_ptr, Option.bind_some, ld1_get', ldB_cells, List.getElem?_cons_zero, List.getElem?_cons_succ, Nat.zero_add, Int.reduceNeg, V.one, asB_bool, Bool.not_false, eqV, o, hl]; rfl
end Wm
end

section
/- Machines of a config that isn't right, and of none (Made). -/
namespace Wm

/-- A call that makes something of a config, or nothing. -/
def Made (o : Option (V × H)) (h : H) (b : Bool) : Prop := ∃ l v, o = some (v, h.ext l) ∧ match b with
  | true => ∃ p q, v = .ptr p q
  | false => v = .nilp

end Wm
end

section
/- A client's table that holds nothing. -/
namespace Wm

end Wm
end

section
/- Where words stand, as the program's plan tells; which slot a word names. -/
namespace Wm
attribute [local congr] bind_congr1
attribute [local irreducible] wr

theorem Cfg.ints {k : Cfg} (hr : k.R = true) : k.s = (k.S : Int) ∧ k.c = (k.C : Int) ∧ k.hd = (k.H : Int) ∧ max k.a 3 = (k.room : Int) := by
  have := Cfg.R_iff.mp hr
  refine ⟨by unfold Cfg.S; omega, by unfold Cfg.C; omega, by unfold Cfg.H; omega, ?_⟩
  unfold Cfg.room; split <;> omega

theorem withinP {k : Cfg} (hr : k.R = true) {q i : Nat} (hq : q < k.S) (hi : i < 2 + k.room) : withinT k.s k.a k.c k.hd k.g k.st (q : Int) (i : Int) = ((k.base + q * (2 + k.room) + i : Nat) : Int) := by
  obtain ⟨h1, h2, h3, h4⟩ := Cfg.ints hr
  unfold withinT
  rw [if_pos ⟨hr, ⟨Int.natCast_nonneg _, by omega⟩, Int.natCast_nonneg _, by unfold roomT; omega⟩]
  unfold slotsT roomT Cfg.base
  rw [h4, h2, h3, Int.mul_add, Int.mul_add, Int.mul_one]
  have e2 : ((2 : Nat) : Int) = 2 := rfl
  simp only [Int.natCast_add, Int.natCast_mul, e2]
  omega

theorem wr_2i {i : Nat} (h : i ≤ 100) : wr .i64 (2 + (i : Int)) = 2 + (i : Int) := wr64 (by omega) (by omega)
theorem body_at {k : Cfg} (hr : k.R = true) {q i : Nat} (hq : q < k.S) (hi : i < k.room) (h : H) : C 305 [k.v, .int .i64 (q : Int), .int .i64 (i : Int)] h = some (.int .i64 ((Wd.body q i).pos k : Nat), h) := by
  refine call_closed (af := F.plan_Body) (by kernel_rfl) rfl (by rfl) (by rfl) h ?_
  have hb := Cfg.bounds hr
  have hv : k.v = .agg [.int .i64 k.s, .int .i64 k.a, .int .i64 k.c, .int .i64 k.hd, .int .i64 k.g, .int .i64 k.st] := rfl
  have e1 := withinP hr hq (show 2 + i < 2 + k.room by omega)
  have e2 : ((2 + i : Nat) : Int) = 2 + (i : Int) := by omega
  have hw := fun h => within_spec k.s k.a k.c k.hd k.g k.st (q : Int) (2 + (i : Int)) h
  rw [← e2, e1, e2] at hw
  have e4 : k.base + q * (2 + k.room) + (2 + i) = (Wd.body q i).pos k := by simp only [Wd.pos]; omega
  rw [e4] at hw
  have c1 : decide ((i : Int) < 0) = false := decide_eq_false (by omega)
  have c2 : decide ((8 : Int) < (i : Int)) = false := decide_eq_false (by omega)
  have e3 := wr_2i (i := i) (by omega)
  rw [hv, S.plan_Body_eq]
  simp only [S.plan_Body, c1, c2, Option.bind_some, ldN_get', get_new', ldNB_cells, Nat.zero_add, Nat.reduceAdd, Nat.reduceLeDiff, List.length_cons, List.length_nil, decide_true, if_true, List.take_succ_cons, List.take_zero, List.drop_zero, W_call]
  rw [e3, show (V.agg [.int .i64 k.s, .int .i64 k.a, .int .i64 k.c, .int .i64 k.hd, .int .i64 k.g, .int .i64 k.st]) = cfgV k.s k.a k.c k.hd k.g k.st from rfl, hw]
  exact Ev.some rfl

end Wm
end

section
/- Fields' machines over words by what they are: stamps, turns. -/
namespace Wm
attribute [local congr] bind_congr1
attribute [local irreducible] wr

/-- Where the memory and the book stand. -/
structure Adr where
  p : Nat
  pw : Nat
  bk : Nat
  m1 : Nat
  m2 : Nat
def Adr.l (A : Adr) : List Nat := [A.p, A.pw, A.bk, A.m1, A.m2]
structure Base (h : H) (A : Adr) (k : Cfg) (f : Wd → Int) (n : Int) (B : BookT) : Prop where
  nd : A.l.Nodup
  mem : MemF h A.p A.pw k f n
  bk : BkAt h A.bk A.m1 A.m2 B

section
variable {h : H} {A : Adr} {k : Cfg} {f : Wd → Int} {n : Int} {B : BookT}
theorem Base.fr {h' : H} {L : List Nat} (S : Base h A k f n B) (ok : h.ok) (F : Fr L h h') (hL : ∀ c ∈ A.l, c ∉ L) : Base h' A k f n B := by
  unfold Adr.l at hL
  simp only [List.mem_cons, List.not_mem_nil, or_false, forall_eq_or_imp, forall_eq] at hL
  obtain ⟨h1, h2, h3, h4, h5⟩ := hL
  exact ⟨S.nd, S.mem.fr ok F h1 h2, S.bk.fr ok F h3 h4 h5⟩
theorem Base.mfr {h' : H} {f' : Wd → Int} {n' : Int} (S : Base h A k f n B) (ok : h.ok) (F : Fr [A.p, A.pw] h h') (M : MemF h' A.p A.pw k f' n') : Base h' A k f' n' B := by
  have nd := S.nd
  unfold Adr.l at nd
  simp only [List.nodup_cons, List.mem_cons, List.not_mem_nil, or_false, not_or] at nd
  obtain ⟨⟨a1, a2, a3, a4⟩, ⟨b1, b2, b3⟩, _⟩ := nd
  exact ⟨S.nd, M, S.bk.fr ok F (by simp [Ne.symm a2, Ne.symm b1]) (by simp [Ne.symm a3, Ne.symm b2]) (by simp [Ne.symm a4, Ne.symm b3])⟩
theorem Base.lt (S : Base h A k f n B) (ok : h.ok) : ∀ c ∈ A.l, c < h.next := by
  obtain ⟨_, M, ⟨o, ⟨e1, g1, _⟩, ⟨e2, g2, _⟩⟩⟩ := S
  obtain ⟨h1, h2, _⟩ := M.lt ok
  unfold Adr.l
  simp only [List.mem_cons, List.not_mem_nil, or_false, forall_eq_or_imp, forall_eq]
  exact ⟨h1, h2, ok.lt o, ok.lt g1, ok.lt g2⟩

theorem Base.load (S : Base h A k f n B) (ok : h.ok) {l : Wd} (hl : l.ok k) :
    Ev (C 266 [.ptr A.p 0, .int .i64 (l.pos k : Nat)] h) fun r => r.1 = .int .u64 (f l) ∧ Fr [A.p, A.pw] h r.2 ∧ Base r.2 A k f (wr .i64 (n + 1)) B := by
  obtain ⟨t, m⟩ := S.mem
  obtain ⟨h', e, F, M⟩ := m.load ok (l.pos k : Nat)
  rw [Mem.val_row hl] at e
  rw [Mem.load_row hl] at M
  exact ⟨_, e, rfl, F, S.mfr ok F ⟨_, M⟩⟩
theorem Base.swap (S : Base h A k f n B) (ok : h.ok) {l : Wd} (hl : l.ok k) (old : Int) {v : Int} (hv : U64 v) :
    Ev (C 269 [.ptr A.p 0, .int .i64 (l.pos k : Nat), .int .u64 old, .int .u64 v] h) fun r => r.1 = .bool (decide (f l = old)) ∧ Fr [A.p, A.pw] h r.2 ∧ Base r.2 A k (if f l = old then wset f l v else f) (wr .i64 (n + 1)) B := by
  obtain ⟨t, m⟩ := S.mem
  obtain ⟨h', e, F, M⟩ := m.swap ok (l.pos k : Nat) old hv
  rw [Mem.swaps_row hl] at e
  rw [Mem.swap_row hl] at M
  exact ⟨_, e, rfl, F, S.mfr ok F ⟨_, M⟩⟩
theorem Base.u64 (S : Base h A k f n B) {l : Wd} (hl : l.ok k) : U64 (f l) := S.mem.u64 hl

/-- A time is noted. -/
theorem Base.noteBorn (S : Base h A k f n B) (ok : h.ok) (q t : Int) :
    ∃ es, h.mapSet .int (.map A.m1) (.int .i64 q) (.int .i64 t) = some (h.put A.m1 (some (.map es))) ∧ Base (h.put A.m1 (some (.map es))) A k f n { B with born := mset B.born q t } := by
  obtain ⟨nd, M, ⟨o, ⟨e1, g1, t1⟩, ⟨e2, g2, t2⟩⟩⟩ := S
  obtain ⟨es', s1, s2⟩ := setKey_find q t t1
  have nd' := nd
  unfold Adr.l at nd'
  simp only [List.nodup_cons, List.mem_cons, List.not_mem_nil, or_false, not_or] at nd'
  obtain ⟨⟨a1, a2, a3, a4⟩, ⟨b1, b2, b3⟩, ⟨c1, c2⟩, d1, _⟩ := nd'
  have F : Fr [A.m1] h (h.put A.m1 (some (.map es'))) := (Fr.refl ok).put (.inl (by simp)) (ok.lt g1) _
  refine ⟨es', by simp only [H.mapSet, isKey, g1, s1], nd, M.fr ok F (by simp [a3]) (by simp [b2]), F.get ok o (by simp [c1]), ⟨es', get_put_self _ _ _, s2⟩, ⟨e2, F.get ok g2 (by simp [Ne.symm d1]), t2⟩⟩
theorem Base.noteTurned (S : Base h A k f n B) (ok : h.ok) (q t : Int) :
    ∃ es, h.mapSet .int (.map A.m2) (.int .u64 q) (.int .i64 t) = some (h.put A.m2 (some (.map es))) ∧ Base (h.put A.m2 (some (.map es))) A k f n { B with turned := mset B.turned q t } := by
  obtain ⟨nd, M, ⟨o, ⟨e1, g1, t1⟩, ⟨e2, g2, t2⟩⟩⟩ := S
  obtain ⟨es', s1, s2⟩ := setKey_find q t t2
  have nd' := nd
  unfold Adr.l at nd'
  simp only [List.nodup_cons, List.mem_cons, List.not_mem_nil, or_false, not_or] at nd'
  obtain ⟨⟨a1, a2, a3, a4⟩, ⟨b1, b2, b3⟩, ⟨c1, c2⟩, d1, _⟩ := nd'
  have F : Fr [A.m2] h (h.put A.m2 (some (.map es'))) := (Fr.refl ok).put (.inl (by simp)) (ok.lt g2) _
  refine ⟨es', by simp only [H.mapSet, isKey, g2, s1], nd, M.fr ok F (by simp [a4]) (by simp [b3]), F.get ok o (by simp [c2]), ⟨e1, F.get ok g1 (by simp [d1]), t1⟩, ⟨es', get_put_self _ _ _, s2⟩⟩
end

/-! ### Stamps -/
structure Stamp where
  rec' : Nat
  next : Int
  now : Int
  at' : Int
def Stamp.step (s : Stamp) (f : Wd → Int) (B : BookT) : Stamp × (Wd → Int) × BookT :=
  if s.next = 0 then ({ s with next := if f (.body s.rec' 1) = 0 then 1 else 3 }, f, B)
  else if s.next = 1 then ({ s with now := f .clock, at' := B.now, next := 2 }, f, B)
  else if s.next = 2 then (if f (.body s.rec' 1) = 0 then ({ s with next := 3 }, wset f (.body s.rec' 1) s.now, { B with born := mset B.born s.rec' s.at' }) else ({ s with next := 3 }, f, B))
  else (s, f, B)
def Stamp.works (s : Stamp) : Bool := decide (s.next = 0) || decide (s.next = 1) || decide (s.next = 2)
def Stamp.cs (k : Cfg) (bk : Nat) (s : Stamp) : List V := k.cs ++ [.ptr bk 0, .int .i64 s.rec', .int .i64 s.next, .int .u64 s.now, .int .i64 s.at']
structure StampAt (h : H) (b : Nat) (k : Cfg) (bk : Nat) (s : Stamp) : Prop where
  own : h.get b = some (.cells (s.cs k bk) .rw)
  rec' : s.rec' < k.S
  now : U64 s.now
theorem StampAt.fr {h h' : H} {L : List Nat} {b : Nat} {k : Cfg} {bk : Nat} {s : Stamp} (S : StampAt h b k bk s) (ok : h.ok) (F : Fr L h h') (hb : b ∉ L) : StampAt h' b k bk s := ⟨F.get ok S.own hb, S.rec', S.now⟩

theorem newStamp_spec {k : Cfg} (hr : k.R = true) {q : Nat} (hq : q < k.S) (bk : Nat) {h : H} (ok : h.ok) :
    Ev (C 151 [k.v, .int .i64 (q : Int), .ptr bk 0] h) fun r => ∃ b, r.1 = .ptr b 0 ∧ Fr [] h r.2 ∧ h.next ≤ b ∧ StampAt r.2 b k bk ⟨q, 0, 0, 0⟩ := by
  refine call_ev (af := F.field_NewStamp) (by kernel_rfl) rfl ?_
  have hH := header_at hr hq
  have hv : k.v = .agg [.int .i64 k.s, .int .i64 k.a, .int .i64 k.c, .int .i64 k.hd, .int .i64 k.g, .int .i64 k.st] := rfl
  rw [hv] at hH ⊢
  rw [S.field_NewStamp_eq]
  have hn : ¬ ((((Wd.header q).pos k : Nat) : Int) < 0) := Int.not_lt.mpr (Int.natCast_nonneg _)
  simp only [S.field_NewStamp, eqPtr_ptr, Option.bind_some, ldN_get', get_new', ldNB_cells, H.next_new, Nat.zero_add, Nat.reduceAdd, Nat.reduceLeDiff, V.cells, asI_int, List.length_cons, List.length_nil, Nat.beq_refl, Bool.and_true, Bool.true_and, decide_true, decide_false, if_true, splice, List.take_succ_cons, List.take_zero, List.drop_succ_cons, List.drop_zero, List.cons_append, List.nil_append, fill, opd, boxc, eqV, W_call, hH, hn]
  exact Ev.some ⟨_, rfl, ((Fr.refl ok).new _).new _, Nat.le_succ _, get_new_self _ _, hq, ⟨Int.le_refl 0, by show (0 : Int) < _; decide⟩⟩

theorem StampAt.step {h : H} (ok : h.ok) {A : Adr} {k : Cfg} (hr : k.R = true) {f : Wd → Int} {n : Int} {B : BookT} {b : Nat} {s : Stamp} (Z : StampAt h b k A.bk s) (E : Base h A k f n B) (hb : b ∉ A.l) :
    Ev (C 150 [.ptr b 0, .ptr A.p 0] h) fun r => r.1 = .bool (decide ((s.step f B).1.next = 3)) ∧ Fr (b :: A.l) h r.2 ∧ StampAt r.2 b k A.bk (s.step f B).1 ∧ Base r.2 A k (s.step f B).2.1 (if s.works then wr .i64 (n + 1) else n) (s.step f B).2.2 := by
  refine call_ev (af := F.field_Stamp_Step) (by kernel_rfl) rfl ?_
  rw [S.field_Stamp_Step_eq]
  obtain ⟨So, Sr, Sn⟩ := Z
  have hbl := ok.lt So
  have hbd := body_at hr Sr (i := 1) (by have := (Cfg.bounds hr).2.1; omega)
  have hbok : (Wd.body s.rec' 1).ok k := ⟨Sr, by have := (Cfg.bounds hr).2.1; omega⟩
  have hv : k.v = .agg [.int .i64 k.s, .int .i64 k.a, .int .i64 k.c, .int .i64 k.hd, .int .i64 k.g, .int .i64 k.st] := rfl
  rw [hv] at hbd
  have hb' := hb
  unfold Adr.l at hb'
  simp only [List.mem_cons, List.not_mem_nil, or_false, not_or] at hb'
  obtain ⟨nb1, nb2, nb3, nb4, nb5⟩ := hb'
  have hmp : ∀ {g g' : H}, Fr [A.p, A.pw] g g' → Fr (b :: A.l) g g' := fun F => F.mono (by unfold Adr.l; simp)
  have hAb : ∀ c ∈ A.l, c ∉ [b] := fun c hc h => hb (by simp only [List.mem_singleton] at h; rw [← h]; exact hc)
  obtain ⟨rec, next, now, at'⟩ := s
  unfold Stamp.step Stamp.works
  unfold Stamp.cs Cfg.cs at So
  simp only [List.cons_append, List.nil_append] at So Sr Sn hbd hbok ⊢
  have one1 : (1 : Int) = ((1 : Nat) : Int) := rfl
  rw [← one1] at hbd
  by_cases c0 : next = 0
  · subst c0
    simp only [S.field_Stamp_Step, nilc_ptr, eqPtr_ptr, ptrAt_ptr, Option.bind_some, Option.map_some, ld1_get', ldN_get', st_get', ldB_cells, ldNB_cells, stB_cells, List.getElem?_cons_zero, List.getElem?_cons_succ, Nat.zero_add, Nat.add_zero, Nat.reduceAdd, Nat.reduceLeDiff, Int.reduceEq, V.one, V.cells, asI_int, List.length_cons, List.length_nil, Nat.beq_refl, List.all_cons, List.all_nil, Bool.not_true, Bool.or_false, Bool.or_self, Bool.and_self, decide_true, decide_false, if_true, if_false, splice, List.take_succ_cons, List.take_zero, List.drop_succ_cons, List.drop_zero, List.cons_append, List.nil_append, reduceCtorEq, eqV, W_call, So, hbd]
    generalize hg1 : h.put b _ = g1
    have F1 : Fr [b] h g1 := by rw [← hg1]; exact (Fr.refl ok).put (.inl (by simp)) hbl _
    have G1 := hg1 ▸ get_put_self h b _
    have E1 := E.fr ok F1 hAb
    refine Ev.bind (E1.load F1.ok hbok) ?_
    rintro ⟨v, g2⟩ ⟨rfl, F2, E2⟩
    dsimp only at F2 E2
    have G2 := F2.get F1.ok G1 (by simp [nb1, nb2])
    have hb2 : b < g2.next := F2.lt (F1.lt hbl)
    by_cases hz : f (.body rec 1) = 0
    · simp only [Option.bind_some, ldB_cells, List.getElem?_cons_zero, List.getElem?_cons_succ, Int.reduceEq, V.one, asI_int, Bool.not_true, decide_true, decide_false, if_true, hz, G2]
      exact Ev.some ⟨rfl, (F1.mono (by simp)).trans' (hmp F2), ⟨by unfold Stamp.cs Cfg.cs; exact G2, Sr, Sn⟩, E2⟩
    · simp only [Option.bind_some, Option.map_some, get_put', ldB_cells, stB_cells, List.getElem?_cons_zero, List.getElem?_cons_succ, Nat.zero_add, Nat.reduceAdd, Nat.reduceLeDiff, V.one, asI_int, List.length_cons, List.length_nil, List.all_cons, List.all_nil, Bool.not_true, Bool.not_false, Bool.or_self, Bool.and_self, decide_true, decide_false, if_true, if_false, splice, List.take_succ_cons, List.take_zero, List.drop_succ_cons, List.drop_zero, List.cons_append, List.nil_append, reduceCtorEq, hz, G2]
      have F3 : Fr [b] g2 (g2.put b (some (.cells [.int .i64 k.s, .int .i64 k.a, .int .i64 k.c, .int .i64 k.hd, .int .i64 k.g, .int .i64 k.st, .ptr A.bk 0, .int .i64 rec, .int .i64 3, .int .u64 now, .int .i64 at'] .rw))) := (Fr.refl F2.ok).put (.inl (by simp)) hb2 _
      exact Ev.some ⟨rfl, ((F1.mono (by simp)).trans' (hmp F2)).trans' (F3.mono (by simp)), ⟨by unfold Stamp.cs Cfg.cs; exact get_put_self _ _ _, Sr, Sn⟩, E2.fr F2.ok F3 hAb⟩
  · by_cases c1 : next = 1
    · subst c1
      have hbk := E.bk.own
      simp only [S.field_Stamp_Step, nilc_ptr, eqPtr_ptr, ptrAt_ptr, Option.bind_some, Option.map_some, ld1_get', ldN_get', st_get', ldB_cells, ldNB_cells, stB_cells, List.getElem?_cons_zero, List.getElem?_cons_succ, Nat.zero_add, Nat.add_zero, Nat.reduceAdd, Nat.reduceLeDiff, Int.reduceEq, V.one, V.cells, asI_int, List.length_cons, List.length_nil, Nat.beq_refl, List.all_cons, List.all_nil, Bool.not_true, Bool.or_false, Bool.false_or, Bool.or_self, Bool.and_self, decide_true, decide_false, if_true, if_false, splice, List.take_succ_cons, List.take_zero, List.drop_succ_cons, List.drop_zero, List.cons_append, List.nil_append, reduceCtorEq, eqV, W_call, So, hbd, hbk]
      refine Ev.bind (E.load ok (l := .clock) trivial) ?_
      rintro ⟨v, g2⟩ ⟨rfl, F2, E2⟩
      dsimp only at F2 E2
      have G2 := F2.get ok So (by simp [nb1, nb2])
      have hbk2 := E2.bk.own
      have hb2 : b < g2.next := F2.lt hbl
      simp only [Option.bind_some, Option.map_some, get_put', put_put', ldB_cells, stB_cells, List.getElem?_cons_zero, List.getElem?_cons_succ, Nat.zero_add, Nat.reduceAdd, Nat.reduceLeDiff, Int.reduceEq, V.one, V.beq, ckB_some, asI_int, List.length_cons, List.length_nil, Nat.beq_refl, List.all_cons, List.all_nil, Bool.not_true, Bool.or_self, Bool.and_self, decide_true, decide_false, if_true, splice, List.take_succ_cons, List.take_zero, List.drop_succ_cons, List.drop_zero, List.cons_append, List.nil_append, reduceCtorEq, hbk2, G2]
      have F3 : ∀ x, Fr [b] g2 (g2.put b x) := fun x => (Fr.refl F2.ok).put (.inl (by simp)) hb2 _
      exact Ev.some ⟨rfl, (hmp F2).trans' ((F3 _).mono (by simp)), ⟨by unfold Stamp.cs Cfg.cs; exact get_put_self _ _ _, Sr, E.u64 (l := .clock) trivial⟩, E2.fr F2.ok (F3 _) hAb⟩
    · by_cases c2 : next = 2
      · subst c2
        simp only [S.field_Stamp_Step, nilc_ptr, eqPtr_ptr, ptrAt_ptr, Option.bind_some, Option.map_some, ld1_get', ldN_get', st_get', ldB_cells, ldNB_cells, stB_cells, List.getElem?_cons_zero, List.getElem?_cons_succ, Nat.zero_add, Nat.add_zero, Nat.reduceAdd, Nat.reduceLeDiff, Int.reduceEq, V.one, V.cells, asI_int, List.length_cons, List.length_nil, Nat.beq_refl, List.all_cons, List.all_nil, Bool.not_true, Bool.false_or, Bool.or_self, Bool.and_self, decide_true, decide_false, if_true, if_false, splice, List.take_succ_cons, List.take_zero, List.drop_succ_cons, List.drop_zero, List.cons_append, List.nil_append, reduceCtorEq, eqV, W_call, So, hbd]
        refine Ev.bind (E.swap ok hbok 0 Sn) ?_
        rintro ⟨v, g2⟩ ⟨rfl, F2, E2⟩
        dsimp only at F2 E2
        have G2 := F2.get ok So (by simp [nb1, nb2])
        have hbk2 := E2.bk.own
        have hb2 : b < g2.next := F2.lt hbl
        by_cases hz : f (.body rec 1) = 0
        · rw [if_pos hz] at E2
          obtain ⟨es, m1, E3⟩ := E2.noteBorn F2.ok rec at'
          have hm1 : A.m1 < g2.next := E2.lt F2.ok A.m1 (by unfold Adr.l; simp)
          have F3 : Fr [A.m1] g2 (g2.put A.m1 (some (.map es))) := (Fr.refl F2.ok).put (.inl (by simp)) hm1 _
          have hg3 := F3.get F2.ok G2 (by simp [nb4])
          have F4 : ∀ x, Fr [b] (g2.put A.m1 (some (.map es))) ((g2.put A.m1 (some (.map es))).put b x) := fun x => (Fr.refl F3.ok).put (.inl (by simp)) hb2 _
          simp only [nilc_ptr, ptrAt_ptr, Option.bind_some, Option.map_some, ld1_get', get_put', ldB_cells, stB_cells, List.getElem?_cons_zero, List.getElem?_cons_succ, Nat.zero_add, Nat.reduceAdd, Nat.reduceLeDiff, V.one, asI_int, asB_bool, List.length_cons, List.length_nil, List.all_cons, List.all_nil, Bool.not_true, Bool.or_self, Bool.and_self, decide_true, decide_false, if_true, if_false, splice, List.take_succ_cons, List.take_zero, List.drop_succ_cons, List.drop_zero, List.cons_append, List.nil_append, reduceCtorEq, hz, G2, hbk2, m1, nb4]
          exact Ev.some ⟨rfl, ((hmp F2).trans' (F3.mono (by unfold Adr.l; simp))).trans' ((F4 _).mono (by simp)), ⟨by unfold Stamp.cs Cfg.cs; exact get_put_self _ _ _, Sr, Sn⟩, E3.fr F3.ok (F4 _) hAb⟩
        · rw [if_neg hz] at E2
          have F3 : ∀ x, Fr [b] g2 (g2.put b x) := fun x => (Fr.refl F2.ok).put (.inl (by simp)) hb2 _
          simp only [nilc_ptr, ptrAt_ptr, Option.bind_some, Option.map_some, ld1_get', get_put', ldB_cells, stB_cells, List.getElem?_cons_zero, List.getElem?_cons_succ, Nat.zero_add, Nat.reduceAdd, Nat.reduceLeDiff, V.one, asI_int, asB_bool, List.length_cons, List.length_nil, List.all_cons, List.all_nil, Bool.not_true, Bool.or_self, Bool.and_self, decide_true, decide_false, if_true, if_false, splice, List.take_succ_cons, List.take_zero, List.drop_succ_cons, List.drop_zero, List.cons_append, List.nil_append, reduceCtorEq, hz, G2]
          exact Ev.some ⟨rfl, (hmp F2).trans' ((F3 _).mono (by simp)), ⟨by unfold Stamp.cs Cfg.cs; exact get_put_self _ _ _, Sr, Sn⟩, E2.fr F2.ok (F3 _) hAb⟩
      · simp only [S.field_Stamp_Step, nilc_ptr, eqPtr_ptr, ptrAt_ptr, Option.bind_some, Option.map_some, ld1_get', ldN_get', st_get', ldB_cells, ldNB_cells, stB_cells, List.getElem?_cons_zero, List.getElem?_cons_succ, Nat.zero_add, Nat.add_zero, Nat.reduceAdd, Nat.reduceLeDiff, V.one, V.cells, asI_int, List.length_cons, List.length_nil, Nat.beq_refl, List.all_cons, List.all_nil, Bool.not_true, Bool.or_self, Bool.and_self, decide_true, decide_false, if_false, splice, List.take_succ_cons, List.take_zero, List.drop_succ_cons, List.drop_zero, List.cons_append, List.nil_append, reduceCtorEq, eqV, W_call, So, hbd, c0, c1, c2, Bool.false_eq_true]
        exact Ev.some ⟨rfl, .refl ok, ⟨by unfold Stamp.cs Cfg.cs; exact So, Sr, Sn⟩, E⟩
end Wm
end

section
/- A run within bounds that is told what some calls come to. -/
namespace Wm

section
variable (orc : Nat → List V → Option V) (prog : Nat → Option AFunc) (meth : Nat → Nat → Option Nat) (rounds : Nat)
noncomputable def runO : Nat → Nat → List V → H → Option (V × H)
  | 0, _, _, _ => none
  | n + 1, f, args, h => match orc f args with
    | some v => some (v, h)
    | none => match prog f with
      | some af => callFF { call := runO n, loop := fun body env h => loopN body rounds env h, scope := fun body l env h => scopeN body rounds l env h, meth } rounds af args h
      | none => none

theorem runO_le (hO : ∀ f args v, orc f args = some v → ∀ h, callW prog meth f args h = some (v, h)) : ∀ (n f : Nat) (args : List V) (h : H), LeO (runO orc prog meth rounds n f args h) (callW prog meth f args h)
  | 0, _, _, _ => fun q hq => by simp [runO] at hq
  | n + 1, f, args, h => fun q hq => by
    simp only [runO] at hq
    cases ho : orc f args with
    | some v => rw [ho] at hq; cases hq; exact hO f args v ho h
    | none =>
      rw [ho] at hq
      cases hf : prog f with
      | none => rw [hf] at hq; cases hq
      | some af =>
        rw [hf] at hq
        simp only at hq
        rw [callFF_eq _ _ rfl rfl] at hq
        exact callW_eq hf (callF_le (M := { call := runO orc prog meth rounds n, loop := fun body env h => loopN body rounds env h, scope := fun body l env h => scopeN body rounds l env h, meth }) (M' := envW meth (callW prog meth)) ⟨fun f args h => runO_le hO n f args h, fun b b' e h hb r hr => loopW_of (loopN_le hb (Nat.le_refl _) e h r hr), fun b b' l e h hb r hr => scopeW_of (scopeN_le hb (Nat.le_refl _) l e h r hr), rfl⟩ af args h q hq)
end

def beqNats : List Nat → List Nat → Bool
  | [], [] => true
  | a :: l, b :: m => Nat.beq a b && beqNats l m
  | _, _ => false
theorem beqNats_eq : ∀ {l m : List Nat}, beqNats l m = true → l = m
  | [], [], _ => rfl
  | a :: l, b :: m, h => by
    simp only [beqNats, Bool.and_eq_true] at h
    rw [Nat.eq_of_beq_eq_true h.1, beqNats_eq h.2]
  | [], _ :: _, h => by cases h
  | _ :: _, [], h => by cases h

def bytesN (b : ByteArray) : List Nat := b.data.toList.map UInt8.toNat
theorem bytesN_eq {a b : ByteArray} (h : bytesN a = bytesN b) : a = b := by
  unfold bytesN at h
  have := List.map_inj_right (f := UInt8.toNat) (fun x y e => UInt8.toNat_inj.mp e) |>.mp h
  exact ByteArray.ext (Array.ext' this)

def Wd.okB (k : Cfg) : Wd → Bool
  | .clock | .epoch | .grays | .top => true
  | .pin q | .view q | .start q => Nat.blt q k.C
  | .entry q i => Nat.blt q k.C && Nat.blt i k.H
  | .header s | .link s => Nat.blt s k.S
  | .body s i => Nat.blt s k.S && Nat.blt i k.room
theorem Wd.okB_ok {k : Cfg} {l : Wd} (h : l.okB k = true) : l.ok k := by
  cases l <;> simp only [Wd.okB, Wd.ok, Bool.and_eq_true, Nat.blt_eq] at h ⊢ <;> exact h

def natOf : Int → Option Nat
  | .ofNat n => some n
  | .negSucc _ => none

def cands (q i : Nat) : List Wd := [.header q, .body q i, .link q, .pin q, .entry q i, .view q, .start q, .clock, .epoch, .grays, .top]
def isWd (k : Cfg) (nm : ByteArray) (q i : Nat) (l : Wd) : Bool := beqNats (bytesN nm) (bytesN l.name) && (Nat.beq l.who q && (Nat.beq l.i i && l.okB k))

def orcAt (k : Cfg) (f : Nat) (args : List V) : Option V :=
  match Nat.beq f 108 with
  | false => none
  | true => match args with
    | [.agg [.int .i64 s, .int .i64 a, .int .i64 c, .int .i64 hd, .int .i64 g, .int .i64 st], .agg [.str nm, .int .i64 q, .int .i64 i]] =>
      match decide (s = k.s) && (decide (a = k.a) && (decide (c = k.c) && (decide (hd = k.hd) && (decide (g = k.g) && decide (st = k.st))))) with
      | false => none
      | true => (natOf q).bind fun q => (natOf i).bind fun i => ((cands q i).find? (isWd k nm q i)).map fun l => .int .i64 (Int.ofNat (l.pos k))
    | _ => none

theorem natOf_some {x : Int} {n : Nat} (h : natOf x = some n) : x = n := by
  cases x with
  | ofNat m => cases h; rfl
  | negSucc m => cases h

theorem orcAt_ok {k : Cfg} (hr : k.R = true) {f : Nat} {args : List V} {v : V} (h : orcAt k f args = some v) (hp : H) : C f args hp = some (v, hp) := by
  unfold orcAt at h
  split at h
  · cases h
  · rename_i hf
    have hf := Nat.eq_of_beq_eq_true hf
    subst hf
    split at h
    · rename_i s a c hd g st nm q i
      split at h
      · cases h
      · rename_i hc
        simp only [Bool.and_eq_true, decide_eq_true_eq] at hc
        obtain ⟨rfl, rfl, rfl, rfl, rfl, rfl⟩ := hc
        rw [Option.bind_eq_some_iff] at h
        obtain ⟨q', hq, h⟩ := h
        rw [Option.bind_eq_some_iff] at h
        obtain ⟨i', hi, h⟩ := h
        rw [Option.map_eq_some_iff] at h
        obtain ⟨l, hl, rfl⟩ := h
        have hw := List.find?_some hl
        unfold isWd at hw
        simp only [Bool.and_eq_true] at hw
        obtain ⟨h1, h2, h3, h4⟩ := hw
        have h1 := bytesN_eq (beqNats_eq h1)
        have h2 := Nat.eq_of_beq_eq_true h2
        have h3 := Nat.eq_of_beq_eq_true h3
        have hq := natOf_some hq
        have hi := natOf_some hi
        subst h1 h2 h3 hq hi
        exact at_wd hr (Wd.okB_ok h4) hp
    · cases h

theorem C_orc {k : Cfg} (hr : k.R = true) {rounds n f : Nat} {args : List V} {h : H} {q : V × H} (hq : runO (orcAt k) prog meth rounds n f args h = some q) : C f args h = some q :=
  runO_le _ prog meth rounds (fun _ _ _ ho h => orcAt_ok hr ho h) n f args h q hq

theorem C_closed_any {f : Nat} {af : AFunc} (hf : prog f = some af) (hc : af.closed = true) {v : V} (e : (C f [] .empty).map (·.1) = some v) (h : H) : C f [] h = some (v, h) := by
  rw [Option.map_eq_some_iff] at e
  obtain ⟨⟨w, h0⟩, e, hw⟩ := e
  dsimp only at hw
  subst hw
  obtain ⟨n, hn⟩ := of_lim e
  cases n with
  | zero => simp [callN] at hn
  | succ n =>
    refine callW_of (n := n + 1) ?_
    simp only [callN, hf] at hn ⊢
    unfold callF at hn ⊢
    simp only [hc] at hn ⊢
    split at hn
    · rename_i hfl
      simp only [Option.bind_eq_some_iff] at hn ⊢
      obtain ⟨p, hp, hn⟩ := hn
      refine ⟨p, hp, ?_⟩
      split at hn
      · cases hn; rfl
      · cases hn
    · cases hn

theorem orc_closed {k : Cfg} (hr : k.R = true) {rounds n f : Nat} {af : AFunc} (hf : prog f = some af) (hc : af.closed = true) {v : V} (hq : (runO (orcAt k) prog meth rounds n f [] .empty).map (·.1) = some v) (h : H) : C f [] h = some (v, h) := by
  refine C_closed_any hf hc ?_ h
  rw [Option.map_eq_some_iff] at hq ⊢
  obtain ⟨q, hq, e⟩ := hq
  exact ⟨q, C_orc hr hq, e⟩
end Wm
end

section
/- The document's example of layer 10, run by the kernel; where a word stands is told. -/
namespace Wm
def cfg10 : Cfg := ⟨40, 3, 1, 1, 9, 0⟩
theorem cfg10_R : cfg10.R = true := by decide
set_option maxRecDepth 100000 in
theorem awake10_run : (runO (orcAt cfg10) prog meth 2000 200 125 [] .empty).map (·.1) = some (.bool true) := by kernel_rfl
theorem awake10 (h : H) : C 125 [] h = some (.bool true, h) := orc_closed cfg10_R (af := F.withylaw10_awake) (by kernel_rfl) rfl awake10_run h
end Wm
end

section
/- The worlds of layer 10's laws: their config, a word's place. -/
namespace Wm
attribute [local congr] bind_congr1
attribute [local irreducible] wr

theorem config10 (h : H) : C 301 [] h = some (cfg10.v, h) := by
  refine call_closed (af := F.withylaw10_config) (by kernel_rfl) rfl (by rfl) (by rfl) h ?_
  rw [S.withylaw10_config_eq]
  have hv : cfg10.v = .agg [.int .i64 40, .int .i64 3, .int .i64 1, .int .i64 1, .int .i64 9, .int .i64 0] := rfl
  rw [hv]
  exact ⟨_, rfl, rfl⟩

theorem at10 {l : Wd} (hl : l.ok cfg10) (h : H) : C 131 [cfg10.v, .str l.name, .int .i64 l.who, .int .i64 l.i] h = some (.int .i64 (l.pos cfg10 : Nat), h) := by
  refine call_closed (af := F.withylaw10_at) (by kernel_rfl) rfl (by rfl) (by rfl) h ?_
  have hv : cfg10.v = .agg [.int .i64 40, .int .i64 3, .int .i64 1, .int .i64 1, .int .i64 9, .int .i64 0] := rfl
  have ha := fun h => at_wd cfg10_R hl h
  unfold Wd.cells at ha
  rw [hv] at ha ⊢
  rw [S.withylaw10_at_eq]
  simp only [S.withylaw10_at, Option.bind_some, ldN_get', get_new', ldNB_cells, Nat.zero_add, Nat.reduceAdd, Nat.reduceLeDiff, List.length_cons, List.length_nil, decide_true, if_true, List.take_succ_cons, List.take_zero, List.drop_zero, W_call, ha]
  exact Ev.some rfl
end Wm
end

section
/- The memory that the laws of layer 9 begin with: withylaw09.filled. -/
namespace Wm
attribute [local congr] bind_congr1
attribute [local irreducible] wr

/-- A row of headers. -/
def RowH (g : Nat → Option Blk) (x : V) (l : List Hdr) : Prop := (x = .nilsl ∧ l = []) ∨ ∃ b c k, x = .sl b 0 l.length c ∧ g b = some (.cells (l.map Hdr.cs).flatten k)
theorem mem0_U64 {k : Cfg} (hr : k.R = true) (w : Wd) : U64 (mem0 k w) := by
  have hb := Cfg.R_iff.mp hr
  cases w <;> simp only [mem0, U64] <;> (try split) <;> omega
theorem row_U64 {k : Cfg} {f : Wd → Int} (h : ∀ l, U64 (f l)) : ∀ w ∈ k.row f, U64 w := fun w hw => by
  obtain ⟨l, _, rfl⟩ := List.mem_map.mp hw; exact h l
theorem row_splice {ws : List Int} {p : Nat} (hp : p < ws.length) {kd : Go.IntKind} {v : Int} : (ws.map (V.int kd)).take p ++ [V.int kd v] ++ (ws.map (V.int kd)).drop (p + 1) = (ws.set p v).map (V.int kd) := by
  rw [List.map_set, List.set_eq_take_append_cons_drop, if_pos (by rw [List.length_map]; exact hp), List.append_assoc]; rfl

end Wm
end

section
/- Fields' machines of any arguments: is there one? And the steps of none. -/
namespace Wm
attribute [local congr] bind_congr1
attribute [local irreducible] wr

/-! ### A new book -/
def BookT.new : BookT := ⟨0, fun _ => none, fun _ => none⟩
theorem newBook_at {h : H} (ok : h.ok) : Ev (C 148 [] h) fun r => ∃ b, r.1 = .ptr b 0 ∧ Fr [] h r.2 ∧ ∃ m1 m2, b ≠ m1 ∧ b ≠ m2 ∧ m1 ≠ m2 ∧ h.next ≤ b ∧ h.next ≤ m1 ∧ h.next ≤ m2 ∧ BkAt r.2 b m1 m2 .new := by
  refine call_ev (af := F.field_NewBook) (by kernel_rfl) rfl ?_
  rw [S.field_NewBook_eq]
  unfold S.field_NewBook
  have e : ((h.new (.map [])).new (.map [])).next = h.next + 2 := rfl
  have e1 : (h.new (.map [])).next = h.next + 1 := rfl
  refine Ev.some ⟨_, rfl, (((Fr.refl ok).new _).new _).new _, h.next, h.next + 1, ?_, ?_, ?_, ?_, ?_, ?_, ⟨?_, ⟨[], ?_, ?_⟩, ⟨[], ?_, ?_⟩⟩⟩
  · rw [e]; omega
  · rw [e]; omega
  · omega
  · rw [e]; omega
  · omega
  · omega
  · exact get_new_self _ _
  · rw [get_new_ne (by rw [e]; omega), get_new_ne (by rw [e1]; omega)]; exact get_new_self _ _
  · exact findKey_nil _
  · rw [get_new_ne (by rw [e]; omega)]; exact get_new_self _ _
  · exact findKey_nil _
end Wm
end

section
/- The world that layer 10's laws begin with. -/
namespace Wm
attribute [local congr] bind_congr1
attribute [local irreducible] wr

def hdN (q : Nat) : Hdr := if 4 < q then ⟨2, 0, false, 0, 0, 0⟩ else ⟨1, 0, false, 3, 0, 0⟩
def beg10 (n : Nat) : Wd → Int
  | .header q => if q < n then (hdN q).word else 0
  | w => mem0 cfg10 w
theorem hdN_right (q : Nat) : (hdN q).right = true := by unfold hdN; split <;> decide
theorem beg10_U64 (n : Nat) (w : Wd) : U64 (beg10 n w) := by
  cases w with
  | header q =>
    simp only [beg10]
    split
    · exact word_U64 (hdN_right q)
    · exact ⟨by decide, by decide⟩
  | clock => exact mem0_U64 cfg10_R .clock
  | epoch => exact mem0_U64 cfg10_R .epoch
  | grays => exact mem0_U64 cfg10_R .grays
  | top => exact mem0_U64 cfg10_R .top
  | pin q => exact mem0_U64 cfg10_R (.pin q)
  | entry q i => exact mem0_U64 cfg10_R (.entry q i)
  | view q => exact mem0_U64 cfg10_R (.view q)
  | start q => exact mem0_U64 cfg10_R (.start q)
  | link q => exact mem0_U64 cfg10_R (.link q)
  | body q i => exact mem0_U64 cfg10_R (.body q i)
theorem beg10_succ {n : Nat} (hn : n < cfg10.S) : cfg10.row (beg10 (n + 1)) = (cfg10.row (beg10 n)).set ((Wd.header n).pos cfg10) (hdN n).word := by
  rw [row_set (show (Wd.header n).ok cfg10 from hn)]
  apply row_congr
  intro w _
  unfold wset
  cases w with
  | header q =>
    simp only [beg10, Wd.header.injEq]
    by_cases h1 : q = n
    · subst h1; rw [if_pos (Nat.lt_succ_self _), if_pos rfl]
    · rw [if_neg h1]
      by_cases h2 : q < n
      · rw [if_pos (Nat.lt_succ_of_lt h2), if_pos h2]
      · rw [if_neg (by omega), if_neg h2]
  | _ => rfl
theorem beg10_zero : beg10 0 = mem0 cfg10 := by
  funext w; cases w <;> simp [beg10, mem0]

theorem begin10_loop {h0 : H} {cb bw : Nat} (ok : h0.ok) (hcb : h0.get cb = some (.cells cfg10.cs .rw)) (hne : cb ≠ bw) (w0 : h0.get bw = some (.cells ((cfg10.row (mem0 cfg10)).map (.int .u64)) .rw)) :
    ∀ (K : AX × List V × H → Option (V × H)) (Q : V × H → Prop), (∀ g, Fr [bw] h0 g → g.get bw = some (.cells ((cfg10.row (beg10 cfg10.S)).map (.int .u64)) .rw) → Ev (K (.exit 0, S.withylaw10_begin_c1_O (.ptr cb 0) (.sl bw 0 cfg10.size (.ex cfg10.size)), g)) Q) →
    Ev ((W.loop (S.withylaw10_begin_c1_B W) (S.withylaw10_begin_c1_E (.ptr cb 0) (.sl bw 0 cfg10.size (.ex cfg10.size)) (.int .i64 0)) h0).bind K) Q := by
  intro K Q hK
  have hcs : cfg10.cs = [.int .i64 40, .int .i64 3, .int .i64 1, .int .i64 1, .int .i64 9, .int .i64 0] := rfl
  have hv : cfg10.v = .agg [.int .i64 40, .int .i64 3, .int .i64 1, .int .i64 1, .int .i64 9, .int .i64 0] := rfl
  rw [hcs] at hcb
  refine loop_ev (α := Nat) (fun i => S.withylaw10_begin_c1_E (.ptr cb 0) (.sl bw 0 cfg10.size (.ex cfg10.size)) (.int .i64 i))
    (fun i g => i ≤ cfg10.S ∧ Fr [bw] h0 g ∧ g.get bw = some (.cells ((cfg10.row (beg10 i)).map (.int .u64)) .rw)) (fun i _ => cfg10.S - i)
    (fun r => r.1 = .exit 0 ∧ r.2.1 = S.withylaw10_begin_c1_O (.ptr cb 0) (.sl bw 0 cfg10.size (.ex cfg10.size)) ∧ Fr [bw] h0 r.2.2 ∧ r.2.2.get bw = some (.cells ((cfg10.row (beg10 cfg10.S)).map (.int .u64)) .rw)) 0 rfl ⟨Nat.zero_le _, .refl ok, by rw [beg10_zero]; exact w0⟩ ?_ ?_
  rotate_left
  · rintro ⟨x, env, g⟩ ⟨rfl, rfl, fg, wg⟩
    exact hK g fg wg
  rintro i g ⟨hi0, fg, wg⟩
  rw [S.withylaw10_begin_c1_eq]
  have hcg := fg.get ok hcb (by simp [hne])
  have hs : cfg10.S = 40 := rfl
  by_cases hic : i < cfg10.S
  · have hd1 : decide ((i : Int) < 40) = true := by rw [hs] at hic; exact decide_eq_true (by omega)
    have w1 : wr .i64 ((i : Int) + 1) = ((i + 1 : Nat) : Int) := by rw [hs] at hic; rw [wr64 (by omega) (by omega)]; rfl
    have hmu : cfg10.S - (i + 1) < cfg10.S - i := Nat.sub_lt_sub_left hic (Nat.lt_succ_self i)
    have hat := at10 (l := .header i) hic
    have hat' : ∀ h, C 131 [.agg [.int .i64 40, .int .i64 3, .int .i64 1, .int .i64 1, .int .i64 9, .int .i64 0], .str ⟨⟨[104, 101, 97, 100, 101, 114]⟩⟩, .int .i64 (i : Int), .int .i64 0] h = some (.int .i64 ((Wd.header i).pos cfg10 : Nat), h) := hat
    have hix : indexAV 1 (.sl bw 0 cfg10.size (.ex cfg10.size)) (.int .i64 ((Wd.header i).pos cfg10 : Nat)) = some (.ptr bw ((Wd.header i).pos cfg10)) := sl_idx1 (pos_lt (show (Wd.header i).ok cfg10 from hic))
    have hbl : bw < g.next := fg.lt (ok.lt w0)
    have hbn : bw ≠ g.next := Nat.ne_of_lt hbl
    have hcn : cb ≠ g.next := Nat.ne_of_lt (fg.lt (ok.lt hcb))
    have hPk := fun h => refPack_spec (hdN_right i) h
    have hpl : (Wd.header i).pos cfg10 < (cfg10.row (beg10 i)).length := by rw [row_length]; exact pos_lt (show (Wd.header i).ok cfg10 from hic)
    have hle : decide ((Wd.header i).pos cfg10 + 1 ≤ ((cfg10.row (beg10 i)).map (V.int .u64)).length) = true := decide_eq_true (by rw [List.length_map]; exact hpl)
    have hne0 : decide (Bk.rw = Bk.ro) = false := rfl
    have fr3 : ∀ b1 b2 b3, Fr [bw] h0 (((g.new b1).put g.next b2).put bw b3) := fun b1 b2 b3 => ((fg.new _).put (.inr fg.le) (Nat.lt_succ_self _) _).put (.inl (by simp)) (Nat.lt_succ_of_lt hbl) _
    have hset := beg10_succ hic
    by_cases h4 : 4 < i
    · have h4' : decide ((4 : Int) < (i : Int)) = true := decide_eq_true (by omega)
      have e4 : hdN i = ⟨2, 0, false, 0, 0, 0⟩ := by unfold hdN; rw [if_pos h4]
      rw [e4] at hPk hset
      simp only [Hdr.cs] at hPk
      simp only [S.withylaw10_begin_c1_S, ptrAt_ptr, Option.bind_some, Option.map_some, ld1_get', ldN_get', st_get', get_put', get_new', put_put', ldB_cells, ldNB_cells, stB_cells, List.getElem?_cons_zero, Nat.zero_add, Nat.add_zero, Nat.reduceAdd, Nat.reduceLeDiff, V.one, V.cells, V.beq, V.beqs, ckB_some, asI_int, List.length_cons, List.length_nil, Nat.beq_refl, List.all_cons, List.all_nil, Bool.not_true, Bool.or_self, Bool.and_self, decide_true, decide_false, if_true, if_false, splice, List.take_succ_cons, List.take_zero, List.drop_succ_cons, List.drop_zero, List.cons_append, List.nil_append, reduceCtorEq, W_call, hcg, hd1, h4', w1, hcn, hbn, hat', hPk, hix, BEq.rfl, wg, hle]
      refine Ev.some (.inl ⟨i + 1, rfl, rfl, ⟨hic, fr3 _ _ _, ?_⟩, hmu⟩)
      rw [get_put_self, row_splice hpl, hset]
    · have h4' : decide ((4 : Int) < (i : Int)) = false := decide_eq_false (by omega)
      have e4 : hdN i = ⟨1, 0, false, 3, 0, 0⟩ := by unfold hdN; rw [if_neg h4]
      rw [e4] at hPk hset
      simp only [Hdr.cs] at hPk
      simp only [S.withylaw10_begin_c1_S, ptrAt_ptr, Option.bind_some, Option.map_some, ld1_get', ldN_get', st_get', get_put', get_new', ldB_cells, ldNB_cells, stB_cells, List.getElem?_cons_zero, Nat.zero_add, Nat.add_zero, Nat.reduceAdd, Nat.reduceLeDiff, V.one, V.cells, V.beq, V.beqs, ckB_some, asI_int, List.length_cons, List.length_nil, Nat.beq_refl, List.all_cons, List.all_nil, Bool.not_true, Bool.or_self, Bool.and_self, decide_true, decide_false, if_true, if_false, splice, List.take_succ_cons, List.take_zero, List.drop_succ_cons, List.drop_zero, List.cons_append, List.nil_append, reduceCtorEq, W_call, hcg, hd1, h4', w1, hcn, hbn, hat', hPk, hix, BEq.rfl, wg, hle]
      refine Ev.some (.inl ⟨i + 1, rfl, rfl, ⟨hic, fr3 _ _ _, ?_⟩, hmu⟩)
      rw [get_put_self, row_splice hpl, hset]
  · have : i = cfg10.S := Nat.le_antisymm hi0 (Nat.le_of_not_lt hic)
    subst this
    have hd1 : decide (((cfg10.S : Nat) : Int) < 40) = false := rfl
    simp only [S.withylaw10_begin_c1_S, ptrAt_ptr, Option.bind_some, Option.map_some, ld1_get', ldN_get', st_get', get_put', get_new', put_put', ldB_cells, ldNB_cells, stB_cells, List.getElem?_cons_zero, Nat.zero_add, Nat.add_zero, Nat.reduceAdd, Nat.reduceLeDiff, V.one, V.cells, asI_int, List.length_cons, List.length_nil, Nat.beq_refl, List.all_cons, List.all_nil, Bool.not_true, Bool.or_self, Bool.and_self, decide_true, decide_false, if_true, splice, List.take_succ_cons, List.take_zero, List.drop_succ_cons, List.drop_zero, List.cons_append, List.nil_append, reduceCtorEq, W_call, hcg, hd1]
    exact Ev.some (.inr ⟨by simp, rfl, rfl, fg, wg⟩)

/-- A world of layer 10's laws, at its begin. -/
structure World10 (h : H) (w : Nat) (A : Adr) (f : Wd → Int) (n : Int) (B : BookT) : Prop where
  own : h.get w = some (.cells [.int .i64 40, .int .i64 3, .int .i64 1, .int .i64 1, .int .i64 9, .int .i64 0, .ptr A.p 0, .ptr A.bk 0, .int .i64 5, .nilsl, .bool false] .rw)
  out : w ∉ A.l
  base : Base h A cfg10 f n B

theorem begin10_spec {h : H} (ok : h.ok) : Ev (C 126 [] h) fun r => ∃ w A, r.1 = .ptr w 0 ∧ Fr [] h r.2 ∧ h.next ≤ w ∧ (∀ c ∈ A.l, h.next ≤ c) ∧ World10 r.2 w A (beg10 cfg10.S) 0 .new := by
  refine call_ev (af := F.withylaw10_begin) (by kernel_rfl) rfl ?_
  have hv : cfg10.v = .agg [.int .i64 40, .int .i64 3, .int .i64 1, .int .i64 1, .int .i64 9, .int .i64 0] := rfl
  have hcs : (Blk.cells cfg10.cs .rw) = .cells [.int .i64 40, .int .i64 3, .int .i64 1, .int .i64 1, .int .i64 9, .int .i64 0] .rw := rfl
  have hc := config10
  obtain ⟨g0, bw, e0, f0, n0, n1, w0⟩ := Memory_spec cfg10_R ((ok.new (.cells [.int .i64 0, .int .i64 0, .int .i64 0, .int .i64 0, .int .i64 0, .int .i64 0] .rw)).put (Nat.lt_succ_self _) (some (.cells cfg10.cs .rw)))
  have hcfg : g0.get h.next = some (.cells [.int .i64 40, .int .i64 3, .int .i64 1, .int .i64 1, .int .i64 9, .int .i64 0] .rw) := f0.get ((ok.new (.cells [.int .i64 0, .int .i64 0, .int .i64 0, .int .i64 0, .int .i64 0, .int .i64 0] .rw)).put (Nat.lt_succ_self _) (some (.cells [.int .i64 40, .int .i64 3, .int .i64 1, .int .i64 1, .int .i64 9, .int .i64 0] .rw))) (get_put_self _ _ _) (by simp)
  have hfr0 : Fr [] h g0 := (((Fr.refl ok).new (.cells [.int .i64 0, .int .i64 0, .int .i64 0, .int .i64 0, .int .i64 0, .int .i64 0] .rw)).put (.inr (Nat.le_refl _)) (Nat.lt_succ_self _) (some (.cells [.int .i64 40, .int .i64 3, .int .i64 1, .int .i64 1, .int .i64 9, .int .i64 0] .rw))).trans' f0
  have n0 : h.next + 1 ≤ bw := n0
  rw [hv] at e0 hc
  rw [hcs] at e0
  rw [S.withylaw10_begin_eq]
  simp only [S.withylaw10_begin, Option.bind_some, Option.map_some, ldN_get', st_get', get_put', get_new', ldNB_cells, stB_cells, Nat.zero_add, Nat.reduceAdd, Nat.reduceLeDiff, V.one, V.cells, List.length_cons, List.length_nil, Nat.beq_refl, List.all_cons, List.all_nil, Bool.not_true, Bool.false_or, Bool.or_self, Bool.and_self, decide_true, decide_false, if_true, splice, List.take_succ_cons, List.take_zero, List.drop_succ_cons, List.drop_zero, List.cons_append, List.nil_append, reduceCtorEq, W_call, hc, e0]
  refine begin10_loop f0.ok hcfg (by omega) w0 _ _ ?_
  intro g fg wg
  rw [S.withylaw10_begin_c1_e0_eq]
  have o1 := fg.get f0.ok hcfg (by simp; omega)
  have hrow : RowIs g.get (.sl bw 0 cfg10.size (.ex cfg10.size)) (cfg10.row (beg10 cfg10.S)) := ⟨by rw [row_length]; decide, .inr ⟨bw, _, _, by rw [row_length], wg⟩⟩
  have hlen := row_length cfg10 (beg10 cfg10.S)
  have hM := memOf_spec (x := .sl bw 0 cfg10.size (.ex cfg10.size)) (ws := cfg10.row (beg10 cfg10.S)) fg.ok hrow (by intro q; rw [q] at hlen; exact absurd hlen (by decide)) (by rw [hlen]; decide) (row_U64 (beg10_U64 _))
  simp only [S.withylaw10_begin_c1_e0, Option.bind_some, ldN_get', ldNB_cells, Nat.zero_add, Nat.reduceAdd, Nat.reduceLeDiff, V.cells, List.length_cons, List.length_nil, Nat.beq_refl, Bool.and_true, Bool.true_and, Bool.and_self, decide_true, splice, List.take_succ_cons, List.take_zero, List.drop_succ_cons, List.drop_zero, List.cons_append, List.nil_append, fill, opd, boxc, W_call, o1]
  refine Ev.bind hM ?_
  rintro ⟨v1, g1⟩ ⟨p, q, rfl, F1, p1, p2, M1⟩
  dsimp only at F1 M1 ⊢
  have o2 := F1.get fg.ok o1 (by simp)
  have ok1 := F1.ok
  simp only [ldNB_cells, Nat.zero_add, Nat.reduceAdd, Nat.reduceLeDiff, V.beq, V.beqs, ckB_some, List.length_cons, List.length_nil, Nat.beq_refl, Bool.and_true, Bool.and_self, decide_true, List.take_succ_cons, List.take_zero, List.drop_succ_cons, List.drop_zero, List.cons_append, List.nil_append, o2]
  refine Ev.bind (newBook_at ok1) ?_
  rintro ⟨v2, g2⟩ ⟨b, rfl, F2, m1, m2, n1, n2, n3, n4, n5, n6, K⟩
  dsimp only at F2 K ⊢
  have o3 := F2.get ok1 o2 (by simp)
  have ok2 := F2.ok
  simp only [Option.bind_some, ldNB_cells, Nat.zero_add, Nat.reduceAdd, Nat.reduceLeDiff, V.beq, V.beqs, ckB_some, List.length_cons, List.length_nil, Nat.beq_refl, Bool.and_self, decide_true, List.take_succ_cons, List.take_zero, List.drop_succ_cons, List.drop_zero, List.cons_append, List.nil_append, o3]
  obtain ⟨_, Mo⟩ := M1.own
  have lp := ok1.lt Mo
  obtain ⟨kk, _, Mr⟩ := M1.row
  have lq := ok1.lt Mr
  have Fg : Fr [] h g := hfr0.trans fg (by intro c hc; simp only [List.mem_singleton] at hc; subst hc; right; omega)
  have F12 : Fr [] h g2 := (Fg.trans F1 (by simp)).trans F2 (by simp)
  have lg : h.next ≤ g.next := Fg.le
  have lg1 : g.next ≤ g1.next := F1.le
  have l2 := F2.le
  have Fn : Fr [] g2 (g2.new (.cells [.int .i64 40, .int .i64 3, .int .i64 1, .int .i64 1, .int .i64 9, .int .i64 0, .ptr p 0, .ptr b 0, .int .i64 5, .nilsl, .bool false] .rw)) := (Fr.refl ok2).new _
  have M2 := (M1.fr ok1 F2 (by simp) (by simp)).fr ok2 Fn (by simp) (by simp)
  have K2 := K.fr ok2 Fn (by simp) (by simp) (by simp)
  have hne := M1.ne
  have hbl : b < g2.next := ok2.lt K.own
  obtain ⟨e1, K1, _⟩ := K.born
  obtain ⟨e2, K3, _⟩ := K.turned
  have hm1 := ok2.lt K1
  have hm2 := ok2.lt K3
  refine Ev.some ⟨g2.next, ⟨p, q, b, m1, m2⟩, rfl, F12.new _, Nat.le_trans lg (Nat.le_trans lg1 l2), ?_, ⟨get_new_self _ _, ?_, ⟨?_, ⟨_, M2⟩, K2⟩⟩⟩
  · unfold Adr.l
    simp only [List.mem_cons, List.not_mem_nil, or_false, forall_eq_or_imp, forall_eq]
    refine ⟨?_, ?_, ?_, ?_, ?_⟩ <;> omega
  · unfold Adr.l
    simp only [List.mem_cons, List.not_mem_nil, or_false, not_or]
    refine ⟨?_, ?_, ?_, ?_, ?_⟩ <;> omega
  · unfold Adr.l
    simp only [List.nodup_cons, List.mem_cons, List.not_mem_nil, or_false, not_or, not_false_eq_true, List.nodup_nil, and_true]
    refine ⟨⟨hne, ?_, ?_, ?_⟩, ⟨?_, ?_, ?_⟩, ⟨n1, n2⟩, n3⟩ <;> omega
end Wm
end

section
/- Fields' machines: turns of the clock, the newest record of a field. -/
namespace Wm
attribute [local congr] bind_congr1
attribute [local irreducible] wr

/-- A slot's number; -1: none. -/
def sl (o : Option Nat) : Int := match o with
  | none => -1
  | some q => q
/-! ### The clock's turn -/
structure Turn where
  view : Int
  point : Int
  next : Int
def Turn.step (s : Turn) (f : Wd → Int) (B : BookT) : Turn × (Wd → Int) × BookT :=
  if s.next = 0 then (⟨f .clock, s.point, 1⟩, f, B)
  else if s.next = 1 then
    (if f .clock = s.view then (⟨s.view, B.now, 2⟩, wset f .clock (wr .u64 (s.view + 1)), { B with turned := mset B.turned s.view B.now })
     else (⟨s.view, BookT.at' B.turned s.view, 2⟩, f, B))
  else (s, f, B)
def Turn.works (s : Turn) : Bool := decide (s.next = 0) || decide (s.next = 1)
structure TurnAt (h : H) (b : Nat) (bk : Nat) (s : Turn) : Prop where
  own : h.get b = some (.cells [.int .u64 s.view, .int .i64 s.point, .ptr bk 0, .int .i64 s.next] .rw)
  view : U64 s.view
theorem TurnAt.fr {h h' : H} {L : List Nat} {b : Nat} {bk : Nat} {s : Turn} (Z : TurnAt h b bk s) (ok : h.ok) (F : Fr L h h') (hb : b ∉ L) : TurnAt h' b bk s := ⟨F.get ok Z.own hb, Z.view⟩

theorem newTurn_spec {k : Cfg} (hr : k.R = true) (bk : Nat) {h : H} (ok : h.ok) :
    Ev (C 144 [k.v, .ptr bk 0] h) fun r => ∃ b, r.1 = .ptr b 0 ∧ Fr [] h r.2 ∧ h.next ≤ b ∧ TurnAt r.2 b bk ⟨0, 0, 0⟩ := by
  refine call_ev (af := F.field_NewTurn) (by kernel_rfl) rfl ?_
  have hH : ∀ h, C 263 [.agg [.int .i64 k.s, .int .i64 k.a, .int .i64 k.c, .int .i64 k.hd, .int .i64 k.g, .int .i64 k.st]] h = some (.bool true, h) := fun h => by
    have := planRight_spec k.s k.a k.c k.hd k.g k.st h
    rw [show cfgR k.s k.a k.c k.hd k.g k.st = true from hr] at this; exact this
  have hv : k.v = .agg [.int .i64 k.s, .int .i64 k.a, .int .i64 k.c, .int .i64 k.hd, .int .i64 k.g, .int .i64 k.st] := rfl
  rw [hv, S.field_NewTurn_eq]
  simp only [S.field_NewTurn, eqPtr_ptr, Option.bind_some, ldN_get', get_new', ldNB_cells, H.next_new, Nat.zero_add, Nat.reduceAdd, Nat.reduceLeDiff, V.cells, asB_bool, List.length_cons, List.length_nil, Nat.beq_refl, Bool.not_true, Bool.and_self, decide_true, if_true, splice, List.take_succ_cons, List.take_zero, List.drop_succ_cons, List.drop_zero, List.cons_append, List.nil_append, fill, opd, boxc, eqV, W_call, hH]
  exact Ev.some ⟨_, rfl, ((Fr.refl ok).new _).new _, Nat.le_succ _, get_new_self _ _, Int.le_refl 0, by show (0 : Int) < _; decide⟩

theorem TurnAt.step {h : H} (ok : h.ok) {A : Adr} {k : Cfg} {f : Wd → Int} {n : Int} {B : BookT} {b : Nat} {s : Turn} (Z : TurnAt h b A.bk s) (E : Base h A k f n B) (hb : b ∉ A.l) :
    Ev (C 145 [.ptr b 0, .ptr A.p 0] h) fun r => r.1 = .bool (decide ((s.step f B).1.next = 2)) ∧ Fr (b :: A.l) h r.2 ∧ TurnAt r.2 b A.bk (s.step f B).1 ∧ Base r.2 A k (s.step f B).2.1 (if s.works then wr .i64 (n + 1) else n) (s.step f B).2.2 := by
  refine call_ev (af := F.field_Turn_Step) (by kernel_rfl) rfl ?_
  rw [S.field_Turn_Step_eq]
  obtain ⟨So, Sn⟩ := Z
  have hbl := ok.lt So
  have hb' := hb
  unfold Adr.l at hb'
  simp only [List.mem_cons, List.not_mem_nil, or_false, not_or] at hb'
  obtain ⟨nb1, nb2, nb3, nb4, nb5⟩ := hb'
  have hmp : ∀ {g g' : H}, Fr [A.p, A.pw] g g' → Fr (b :: A.l) g g' := fun F => F.mono (by unfold Adr.l; simp)
  have hAb : ∀ c ∈ A.l, c ∉ [b] := fun c hc h => hb (by simp only [List.mem_singleton] at h; rw [← h]; exact hc)
  obtain ⟨view, point, next⟩ := s
  unfold Turn.step Turn.works
  simp only at So Sn ⊢
  by_cases c0 : next = 0
  · subst c0
    simp only [S.field_Turn_Step, nilc_ptr, eqPtr_ptr, ptrAt_ptr, Option.bind_some, ld1_get', st_get', ldB_cells, List.getElem?_cons_zero, List.getElem?_cons_succ, Nat.zero_add, Nat.add_zero, Int.reduceEq, V.one, V.cells, asI_int, List.length_cons, List.length_nil, Nat.beq_refl, Bool.or_false, decide_true, decide_false, if_true, if_false, eqV, W_call, So]
    refine Ev.bind (E.load ok (l := .clock) trivial) ?_
    rintro ⟨v, g2⟩ ⟨rfl, F2, E2⟩
    dsimp only at F2 E2
    have G2 := F2.get ok So (by simp [nb1, nb2])
    have hb2 : b < g2.next := F2.lt hbl
    have F3 : ∀ x, Fr [b] g2 (g2.put b x) := fun x => (Fr.refl F2.ok).put (.inl (by simp)) hb2 _
    simp only [Option.bind_some, Option.map_some, get_put', put_put', ldB_cells, stB_cells, List.getElem?_cons_zero, List.getElem?_cons_succ, Nat.zero_add, Nat.reduceAdd, Nat.reduceLeDiff, Int.reduceEq, V.one, asI_int, List.length_cons, List.length_nil, Nat.beq_refl, List.all_cons, List.all_nil, Bool.not_true, Bool.or_self, Bool.and_self, decide_true, decide_false, if_true, splice, List.take_succ_cons, List.take_zero, List.drop_succ_cons, List.drop_zero, List.cons_append, List.nil_append, reduceCtorEq, G2]
    exact Ev.some ⟨rfl, (hmp F2).trans' ((F3 _).mono (by simp)), ⟨get_put_self _ _ _, E.u64 (l := .clock) trivial⟩, E2.fr F2.ok (F3 _) hAb⟩
  · by_cases c1 : next = 1
    · subst c1
      simp only [S.field_Turn_Step, nilc_ptr, eqPtr_ptr, ptrAt_ptr, Option.bind_some, ld1_get', st_get', ldB_cells, List.getElem?_cons_zero, List.getElem?_cons_succ, Nat.zero_add, Nat.add_zero, Int.reduceEq, V.one, V.cells, asI_int, List.length_cons, List.length_nil, Nat.beq_refl, Bool.false_or, decide_true, decide_false, if_true, if_false, eqV, W_call, So]
      refine Ev.bind (E.swap ok (l := .clock) trivial view (wru64_U64 (view + 1))) ?_
      rintro ⟨v, g2⟩ ⟨rfl, F2, E2⟩
      dsimp only at F2 E2
      have G2 := F2.get ok So (by simp [nb1, nb2])
      have hb2 : b < g2.next := F2.lt hbl
      by_cases hz : f .clock = view
      · rw [if_pos hz] at E2
        have hbk2 := E2.bk.own
        obtain ⟨es, m1, E3⟩ := E2.noteTurned F2.ok view B.now
        have hm2 : A.m2 < g2.next := E2.lt F2.ok A.m2 (by unfold Adr.l; simp)
        have F3 : Fr [A.m2] g2 (g2.put A.m2 (some (.map es))) := (Fr.refl F2.ok).put (.inl (by simp)) hm2 _
        have F4 : ∀ x, Fr [b] (g2.put A.m2 (some (.map es))) ((g2.put A.m2 (some (.map es))).put b x) := fun x => (Fr.refl F3.ok).put (.inl (by simp)) hb2 _
        have ht := E3.bk.turnedS view
        have hta : BookT.at' (mset B.turned view B.now) view = B.now := by simp [BookT.at', mset]
        simp only at ht
        rw [hta] at ht
        simp only [nilc_ptr, ptrAt_ptr, Option.bind_some, Option.map_some, ld1_get', get_put', put_put', ldB_cells, stB_cells, List.getElem?_cons_zero, List.getElem?_cons_succ, Nat.zero_add, Nat.add_zero, Nat.reduceAdd, Nat.reduceLeDiff, V.one, asI_int, asB_bool, List.length_cons, List.length_nil, Nat.beq_refl, List.all_cons, List.all_nil, Bool.not_true, Bool.or_self, Bool.and_self, decide_true, decide_false, if_true, if_false, splice, List.take_succ_cons, List.take_zero, List.drop_succ_cons, List.drop_zero, List.cons_append, List.nil_append, reduceCtorEq, hz, G2, hbk2, m1, nb5, ht]
        exact Ev.some ⟨rfl, ((hmp F2).trans' (F3.mono (by unfold Adr.l; simp))).trans' ((F4 _).mono (by simp)), ⟨get_put_self _ _ _, Sn⟩, E3.fr F3.ok (F4 _) hAb⟩
      · rw [if_neg hz] at E2
        have ht := E2.bk.turnedS view
        have F3 : ∀ x, Fr [b] g2 (g2.put b x) := fun x => (Fr.refl F2.ok).put (.inl (by simp)) hb2 _
        simp only [nilc_ptr, ptrAt_ptr, Option.bind_some, Option.map_some, ld1_get', get_put', put_put', ldB_cells, stB_cells, List.getElem?_cons_zero, List.getElem?_cons_succ, Nat.zero_add, Nat.add_zero, Nat.reduceAdd, Nat.reduceLeDiff, V.one, asI_int, asB_bool, List.length_cons, List.length_nil, Nat.beq_refl, List.all_cons, List.all_nil, Bool.not_true, Bool.or_self, Bool.and_self, decide_true, decide_false, if_true, if_false, splice, List.take_succ_cons, List.take_zero, List.drop_succ_cons, List.drop_zero, List.cons_append, List.nil_append, reduceCtorEq, hz, G2, ht]
        exact Ev.some ⟨rfl, (hmp F2).trans' ((F3 _).mono (by simp)), ⟨get_put_self _ _ _, Sn⟩, E2.fr F2.ok (F3 _) hAb⟩
    · simp only [S.field_Turn_Step, nilc_ptr, eqPtr_ptr, ptrAt_ptr, Option.bind_some, ld1_get', st_get', ldB_cells, List.getElem?_cons_zero, List.getElem?_cons_succ, Nat.zero_add, Nat.add_zero, V.one, V.cells, asI_int, List.length_cons, List.length_nil, Nat.beq_refl, Bool.or_self, decide_false, if_false, reduceCtorEq, eqV, W_call, So, c0, c1]
      exact Ev.some ⟨rfl, .refl ok, ⟨So, Sn⟩, E⟩

/-! ### The newest record -/
structure Newest where
  fld : Wd
  rec' : Option Nat
  at' : Int
  stamp : Option Stamp
  next : Int
/-- Blocks of a newest: its own, its stamp's. -/
structure NewestAt (h : H) (b : Nat) (k : Cfg) (bk : Nat) (s : Newest) (r0 : Int) (L : List Nat) : Prop where
  own : ∃ sv, h.get b = some (.cells [.int .i64 k.s, .int .i64 k.a, .int .i64 k.c, .int .i64 k.hd, .int .i64 k.g, .int .i64 k.st, .ptr bk 0, .int .i64 (s.fld.pos k : Nat), .int .i64 r0, .int .i64 s.at', sv, .int .i64 s.next] .rw) ∧
    ((s.stamp = none ∧ sv = .nilp ∧ L = [b]) ∨ ∃ sb t, s.stamp = some t ∧ sv = .ptr sb 0 ∧ StampAt h sb k bk t ∧ sb ≠ b ∧ L = [b, sb])
  fld : s.fld.ok k
  one : s.next = 1 → s.stamp ≠ none
  rec' : ∀ q, s.rec' = some q → q < k.S
  r0 : s.next = 0 ∨ r0 = sl s.rec'

end Wm
end

section
/- Slices that grow: what is appended, one element at a time. -/
namespace Wm
attribute [local congr] bind_congr1
attribute [local irreducible] wr

/-- The block of a slice. -/
def V.blk : V → List Nat
  | .sl b _ _ _ => [b]
  | _ => []

/-- A slice that grew: elements of 'e' cells. -/
def Grown (g : Nat → Option Blk) (x : V) (e : Nat) (l : List V) : Prop :=
  (x = .nilsl ∧ l = []) ∨ ∃ b n, x = .sl b 0 n (.op e) ∧ l.length = n * e ∧ g b = some (.cells l (.gr e))

theorem Grown.nil (g : Nat → Option Blk) (e : Nat) : Grown g .nilsl e [] := .inl ⟨rfl, rfl⟩
theorem Grown.len {g : Nat → Option Blk} {x : V} {e : Nat} {l : List V} (G : Grown g x e l) (he : 0 < e) : ∃ n, lenSl x = some n ∧ l.length = n * e := by
  obtain ⟨rfl, rfl⟩ | ⟨b, n, rfl, hl, _⟩ := G
  · exact ⟨0, rfl, by simp⟩
  · exact ⟨n, rfl, hl⟩
theorem Grown.len1 {g : Nat → Option Blk} {x : V} {l : List V} (G : Grown g x 1 l) : lenSl x = some l.length := by
  obtain ⟨n, h1, h2⟩ := G.len (by omega)
  rw [h1, h2, Nat.mul_one]
theorem Grown.fr {g g' : H} {L : List Nat} {x : V} {e : Nat} {l : List V} (G : Grown g.get x e l) (ok : g.ok) (F : Fr L g g') (h : ∀ b ∈ x.blk, b ∉ L) : Grown g'.get x e l := by
  obtain h1 | ⟨b, n, rfl, hl, hb⟩ := G
  · exact .inl h1
  · exact .inr ⟨b, n, rfl, hl, F.get ok hb (h b (by simp [V.blk]))⟩
theorem Grown.lt {g : H} {x : V} {e : Nat} {l : List V} (G : Grown g.get x e l) (ok : g.ok) : ∀ b ∈ x.blk, b < g.next := by
  obtain ⟨rfl, rfl⟩ | ⟨b, n, rfl, hl, hb⟩ := G
  · simp [V.blk]
  · intro c hc; simp only [V.blk, List.mem_singleton] at hc; subst hc; exact ok.lt hb
/-- An element. -/
theorem Grown.at1 {g : H} {x : V} {l : List V} (G : Grown g.get x 1 l) {i : Nat} {v : V} (hv : l[i]? = some v) (h1 : v.one = true) : ∃ b, indexAV 1 x (.int .i64 (i : Int)) = some (.ptr b i) ∧ g.ld1 (.ptr b i) = some v := by
  have hi := lt_of_get hv
  obtain ⟨rfl, rfl⟩ | ⟨b, n, rfl, hl, hb⟩ := G
  · simp at hv
  · refine ⟨b, sl_idx1 (by omega), ?_⟩
    rw [ld1_get', hb, ldB_cells, hv]; simp only [h1]

theorem Grown.push {g : H} (ok : g.ok) {x : V} {e : Nat} {l new : List V} {nb : Nat} {k : Bk} {bytes : Nat} (G : Grown g.get x e l) (hn : g.get nb = some (.cells new k)) (hlen : new.length = e) (h1 : new.all V.one = true) (he : 0 < e) (hb : 0 < bytes ∧ bytes ≤ 1000) (hs : l.length ≤ 1000000) :
    ∃ x' g', g.append e bytes x (.sl nb 0 1 (.ex 1)) = some (x', g') ∧ Fr x.blk g g' ∧ Grown g'.get x' e (l ++ new) ∧ (∀ b ∈ x'.blk, g.next ≤ b) ∧ x'.blk ≠ [] := by
  have hslc : g.slc e (.sl nb 0 1 (.ex 1)) = some new := by
    rw [slc_get hn (by omega), List.drop_zero, List.take_of_length_le (by omega)]
  obtain ⟨rfl, rfl⟩ | ⟨b, n, rfl, hl, hbk⟩ := G
  · refine ⟨_, _, append_nil (n := 1) rfl hslc (by omega) h1 (by omega) he hb.1, (Fr.refl ok).new _, .inr ⟨_, _, rfl, by simp; omega, ?_⟩, by simp [V.blk], by simp [V.blk]⟩
    rw [List.nil_append]; exact get_new_self _ _
  · have hnn : n ≤ 1000000 := by
      have : n * 1 ≤ n * e := Nat.mul_le_mul_left _ he
      omega
    have hold : g.slc e (.sl b 0 n (.op e)) = some l := by rw [slc_get hbk (by omega), List.drop_zero, List.take_of_length_le (by omega)]
    have hsz : (n + 1 + (n + 1) / 2 + 1000) * bytes ≤ 281474976710656 := by
      have : (n + 1 + (n + 1) / 2 + 1000) * bytes ≤ 2000000 * 1000 := Nat.mul_le_mul (by omega) hb.2
      omega
    refine ⟨_, _, append_op (n := 1) rfl hslc hold hbk h1 hsz he hb.1, ?_, .inr ⟨_, _, rfl, by rw [List.length_append, hl, hlen, Nat.add_mul, Nat.one_mul], get_new_self _ _⟩, by simp [V.blk], by simp [V.blk]⟩
    exact ((Fr.refl ok).put (.inl (by simp [V.blk])) (ok.lt hbk) _).new _

/-- A row of numbers of a kind that is only read, or nil. -/
def RowN (kd : Go.IntKind) (g : Nat → Option Blk) (x : V) (ws : List Int) : Prop := (x = .nilsl ∧ ws = []) ∨ ∃ b c k, x = .sl b 0 ws.length c ∧ g b = some (.cells (ws.map (.int kd)) k)
theorem RowN.len {kd : Go.IntKind} {g : Nat → Option Blk} {x : V} {ws : List Int} (h : RowN kd g x ws) : lenSl x = some ws.length := by
  obtain ⟨rfl, rfl⟩ | ⟨b, c, k, rfl, _⟩ := h <;> rfl
theorem RowN.at {kd : Go.IntKind} {g : H} {x : V} {ws : List Int} (h : RowN kd g.get x ws) {i : Nat} {w : Int} (hw : ws[i]? = some w) : ∃ b, indexAV 1 x (.int .i64 (i : Int)) = some (.ptr b i) ∧ g.ld1 (.ptr b i) = some (.int kd w) := by
  have hi := lt_of_get hw
  obtain ⟨rfl, rfl⟩ | ⟨b, c, k, rfl, hb⟩ := h
  · simp at hw
  · refine ⟨b, sl_idx1 hi, ?_⟩
    rw [ld1_get', hb, ldB_cells, List.getElem?_map, hw]; rfl
theorem RowN.fr {kd : Go.IntKind} {g g' : H} {L : List Nat} {x : V} {ws : List Int} (h : RowN kd g.get x ws) (ok : g.ok) (F : Fr L g g') (hL : ∀ b ∈ x.blk, b ∉ L) : RowN kd g'.get x ws := by
  obtain h1 | ⟨b, c, k, rfl, hb⟩ := h
  · exact .inl h1
  · exact .inr ⟨b, c, k, rfl, F.get ok hb (hL b (by simp [V.blk]))⟩
end Wm
end

section
/- What arguments are, as lists of typed things. -/
namespace Wm

theorem chunks {α : Type} {P : List V → Prop} {enc : α → List V} {Q : α → Prop} {z : Nat} (hP : ∀ c, P c → ∃ y, c = enc y ∧ Q y) :
    ∀ (n : Nat) (cs : List V), cs.length = n * z → (∀ i, i < n → P ((cs.drop (i * z)).take z)) → ∃ ys : List α, cs = (ys.map enc).flatten ∧ ys.length = n ∧ ∀ y ∈ ys, Q y
  | 0, cs, hl, _ => ⟨[], by simpa using hl, rfl, by simp⟩
  | n + 1, cs, hl, h => by
    obtain ⟨y, hy, qy⟩ := hP _ (h 0 (by omega))
    have hl2 : (cs.drop z).length = n * z := by rw [List.length_drop, hl, Nat.add_mul]; omega
    obtain ⟨ys, h1, h2, h3⟩ := chunks hP n (cs.drop z) hl2 (fun i hi => by
      have := h (i + 1) (by omega)
      rw [Nat.add_mul, Nat.one_mul, Nat.add_comm (i * z) z, ← List.drop_drop] at this
      exact this)
    refine ⟨y :: ys, ?_, by simp [h2], fun x hx => ?_⟩
    · rw [List.map_cons, List.flatten_cons, ← h1, ← hy, Nat.zero_mul, List.drop_zero, List.take_append_drop]
    · rcases List.mem_cons.mp hx with rfl | hx
      · exact qy
      · exact h3 x hx

theorem flat_ones {α β : Type} (f : α → β) (l : List α) : (l.map fun m => [f m]).flatten = l.map f := by
  induction l with
  | nil => rfl
  | cons x l ih => simp only [List.map_cons, List.flatten_cons, ih, List.cons_append, List.nil_append]

theorem rowN_of {g : Nat → Option Blk} {kd : Go.IntKind} {by' : Nat} {v : V} (h : CellOk g (.sl by' [.int kd]) v) :
    ∃ ws, RowN kd g v ws ∧ (∀ w ∈ ws, (Go.Lit.int kd w).wf = true) ∧ ws.length * by' ≤ 140737488351232 ∧ ws.length ≤ Go.maxLen := by
  unfold CellOk at h
  rcases h with rfl | ⟨b, n, cs, rfl, ⟨h1, h2⟩, h3, h4, h5⟩
  · exact ⟨[], .inl ⟨rfl, rfl⟩, by simp, by simp, by simp⟩
  · obtain ⟨ws, e1, e2, e3⟩ := chunks (α := Int) (enc := fun m => [V.int kd m]) (Q := fun w => (Go.Lit.int kd w).wf = true) (P := CellsOk g [.int kd]) (fun c hc => by
      obtain ⟨v, vs, rfl, ⟨m, rfl, hm⟩, h⟩ := hc
      unfold CellsOk at h
      subst h
      exact ⟨m, rfl, hm⟩) n cs h4 h5
    have e4 : cs = ws.map (.int kd) := by
      rw [e1]; exact flat_ones _ ws
    subst e2
    exact ⟨ws, .inr ⟨b, _, .ro, rfl, by rw [h3, e4]⟩, e3, h2, h1⟩

end Wm
end

section
/- The document's example of a layer, run by the kernel. -/
namespace Wm
end Wm
end

section
/- The law ShadeAlone, of my machine. -/
namespace Wm
attribute [local congr] bind_congr1
attribute [local irreducible] wr

/-- One header among others that are nothing. -/
def oneH (n q : Nat) (x : Hdr) : List Hdr := (List.replicate n Hdr.zero).set q x
/-- What stands behind the beginning of the laws of one shade. -/
structure OneAt (k : Cfg) (g : H) (c x : Nat) (q : Nat) (y : Hdr) : Prop where
  ok : g.ok
  cfg : g.get c = some (.cells [.int .i64 k.s, .int .i64 k.a, .int .i64 k.c, .int .i64 k.hd, .int .i64 k.g, .int .i64 k.st] .rw)
  row : RowH g.get (.sl x 0 k.S (.ex k.S)) (oneH k.S q y)

end Wm
end

section
/- The law ShadeTwice, of my machine. -/
namespace Wm
attribute [local congr] bind_congr1
attribute [local irreducible] wr

end Wm
end

section
/- Any number of shades in one epoch: what holds behind each step. No program in sight. -/
namespace Wm
attribute [local irreducible] wr

abbrev Shs := List (Nat × Sh)
def holdsOne (p : Nat × Sh) : Bool := decide (p.2.next = 2) || decide (p.2.next = 3)
def grewAt (q : Nat) (p : Nat × Sh) : Bool := decide (p.1 = q) && p.2.grew

def okSh (k : Cfg) (e : Int) (f0 f : Wd → Int) (p : Nat × Sh) : Prop :=
  p.1 < k.S ∧ (p.2.next = 0 ∨ ((p.2.next = 1 ∨ p.2.next = 2) ∧ white p.2.was e = true ∧ p.2.was = f0 (.header p.1)) ∨ ((p.2.next = 3 ∨ p.2.next = 4) ∧ white (f (.header p.1)) e = false))

structure Inv (k : Cfg) (e : Int) (f0 : Wd → Int) (l : Shs) (f : Wd → Int) : Prop where
  hdr : ∀ q, q < k.S → f (.header q) = f0 (.header q) ∨ (white (f0 (.header q)) e = true ∧ f (.header q) = shaded (f0 (.header q)) e)
  sh : ∀ p ∈ l, okSh k e f0 f p
  grays : f .grays = (graysN k f : Int) + (l.countP holdsOne : Nat)
  grew : ∀ q, q < k.S → l.countP (grewAt q) = if f (.header q) = f0 (.header q) then 0 else 1
  few : l.length ≤ 100000
  marked : ∀ q, q < k.S → grayW (f0 (.header q)) = true → white (f0 (.header q)) e = false

end Wm
end

section
/- The law ShadePlays: many shades in the heap, their making and their steps. -/
namespace Wm
attribute [local congr] bind_congr1
attribute [local irreducible] wr

def ptrs (bs : List Nat) : List V := bs.map fun b => V.ptr b 0
/-- Shades that stand in these blocks. -/
structure ShsAt (g : H) (k : Cfg) (e : Int) (bs : List Nat) (l : Shs) : Prop where
  len : bs.length = l.length
  at' : ∀ (i q : Nat) (s : Sh), l[i]? = some (q, s) → ∃ b, bs[i]? = some b ∧ ShAt g b k q e s

section
variable {k : Cfg} (hr : k.R = true) (hS64 : k.S ≤ 12) {e : Int} {g0 : H} (ok0 : g0.ok) {cb : Nat} (hc0 : g0.get cb = some (.cells [.int .i64 k.s, .int .i64 k.a, .int .i64 k.c, .int .i64 k.hd, .int .i64 k.g, .int .i64 k.st] .rw))
  {x3 : V} {ws : List Int} (hx3 : RowN .i64 g0.get x3 ws) (hm : ws.length ≤ 10)
include hr hS64 ok0 hc0 hx3 hm

end
end Wm
end

section
/- Many that stamp one record: what is known, and what stands where. -/
namespace Wm
attribute [local congr] bind_congr1
attribute [local irreducible] wr

def intsK (kd : Go.IntKind) (l : List Int) : List V := l.map (.int kd)
theorem intsK_len (kd : Go.IntKind) (l : List Int) : (intsK kd l).length = l.length := List.length_map _
theorem intsK_at {kd : Go.IntKind} {l : List Int} {i : Nat} {v : Int} (h : l[i]? = some v) : (intsK kd l)[i]? = some (.int kd v) := by unfold intsK; rw [List.getElem?_map, h]; rfl
theorem intsK_snoc (kd : Go.IntKind) (l : List Int) (x : Int) : intsK kd l ++ [.int kd x] = intsK kd (l ++ [x]) := by unfold intsK; rw [List.map_append]; rfl

/-! ### What is known -/
structure FsInv (i : Nat) (c : Int) (ss : List Stamp) (f : Wd → Int) (B : BookT) (cl : List Int) : Prop where
  len : cl.length = i + 1
  c1 : 1 ≤ f .clock
  c2 : f .clock ≤ c
  st : ∀ s ∈ ss, s.rec' = 5 ∧ (s.next = 2 → 1 ≤ s.now ∧ ∃ a : Nat, s.at' = a ∧ cl[a + 1]? = some s.now)
  z : f (.body 5 1) = 0 → B.born 5 = none
  nz : f (.body 5 1) ≠ 0 → ∃ p : Nat, B.born 5 = some (p : Int) ∧ cl[p + 1]? = some (f (.body 5 1))
  b6 : B.born 6 = none
theorem FsInv.tick {i : Nat} {c : Int} {ss : List Stamp} {f : Wd → Int} {B : BookT} {cl : List Int} (I : FsInv i c ss f B cl) (now : Int) : FsInv (i + 1) c ss f { B with now := now } (cl ++ [f .clock]) ∧ (cl ++ [f .clock])[i + 1]? = some (f .clock) := by
  have hl := I.len
  have keep : ∀ (j : Nat) (v : Int), cl[j]? = some v → (cl ++ [f .clock])[j]? = some v := fun j v h => by rw [List.getElem?_append_left (lt_of_get h)]; exact h
  refine ⟨⟨by rw [List.length_append, hl]; rfl, I.c1, I.c2, fun s hs => ?_, I.z, fun h => ?_, I.b6⟩, by rw [← hl]; exact List.getElem?_concat_length⟩
  · obtain ⟨h1, h2⟩ := I.st s hs
    exact ⟨h1, fun h => let ⟨a, b, d, e⟩ := h2 h; ⟨a, b, d, keep _ _ e⟩⟩
  · obtain ⟨p, h1, h2⟩ := I.nz h
    exact ⟨p, h1, keep _ _ h2⟩
theorem mem_set_or {α : Type} {l : List α} {i : Nat} {x y : α} (h : y ∈ l.set i x) : y ∈ l ∨ y = x := by
  rcases List.mem_or_eq_of_mem_set h with h | h
  · exact .inl h
  · exact .inr h
theorem FsInv.stamp {i : Nat} {c : Int} {ss : List Stamp} {f : Wd → Int} {B : BookT} {cl : List Int} (I : FsInv (i + 1) c ss f B cl) (hB : B.now = i) (hc : cl[i + 1]? = some (f .clock)) {j : Nat} {s : Stamp} (hs : ss[j]? = some s) :
    FsInv (i + 1) c (ss.set j (s.step f B).1) (s.step f B).2.1 (s.step f B).2.2 cl := by
  obtain ⟨hr, h2⟩ := I.st s (List.mem_of_getElem? hs)
  obtain ⟨rec', next, now, at'⟩ := s
  simp only at hr h2
  subst hr
  have old : ∀ (s' : Stamp), (s'.rec' = 5 ∧ (s'.next = 2 → 1 ≤ s'.now ∧ ∃ a : Nat, s'.at' = a ∧ cl[a + 1]? = some s'.now)) → ∀ y ∈ ss.set j s', y.rec' = 5 ∧ (y.next = 2 → 1 ≤ y.now ∧ ∃ a : Nat, y.at' = a ∧ cl[a + 1]? = some y.now) := fun s' h y hy => by
    rcases mem_set_or hy with hy | rfl
    · exact I.st y hy
    · exact h
  unfold Stamp.step
  simp only
  by_cases c0 : next = 0
  · rw [if_pos c0]
    refine ⟨I.len, I.c1, I.c2, old _ ⟨rfl, fun h => ?_⟩, I.z, I.nz, I.b6⟩
    exfalso; revert h
    show (if f (.body 5 1) = 0 then (1 : Int) else 3) = 2 → False
    split <;> intro h <;> exact absurd h (by decide)
  · rw [if_neg c0]
    by_cases c1 : next = 1
    · rw [if_pos c1]
      exact ⟨I.len, I.c1, I.c2, old _ ⟨rfl, fun _ => ⟨I.c1, i, hB, hc⟩⟩, I.z, I.nz, I.b6⟩
    · rw [if_neg c1]
      by_cases c2 : next = 2
      · rw [if_pos c2]
        obtain ⟨hn, a, ha, hca⟩ := h2 c2
        by_cases hz : f (.body 5 1) = 0
        · rw [if_pos hz]
          refine ⟨I.len, ?_, ?_, old _ ⟨rfl, fun h => absurd (show (3 : Int) = 2 from h) (by decide)⟩, fun h => ?_, fun _ => ⟨a, ?_, ?_⟩, ?_⟩
          · show 1 ≤ wset f (.body 5 1) now .clock; rw [wset_ne (by simp)]; exact I.c1
          · show wset f (.body 5 1) now .clock ≤ c; rw [wset_ne (by simp)]; exact I.c2
          · exfalso
            have h : wset f (.body 5 1) now (.body 5 1) = 0 := h
            rw [wset_same] at h; omega
          · show mset B.born ((5 : Nat) : Int) at' 5 = _
            simp [mset, ha]
          · show _ = some (wset f (.body 5 1) now (.body 5 1))
            rw [wset_same]; exact hca
          · show mset B.born ((5 : Nat) : Int) at' 6 = _
            simp [mset, I.b6]
        · rw [if_neg hz]
          exact ⟨I.len, I.c1, I.c2, old _ ⟨rfl, fun h => absurd (show (3 : Int) = 2 from h) (by decide)⟩, I.z, I.nz, I.b6⟩
      · rw [if_neg c2]
        exact ⟨I.len, I.c1, I.c2, old _ ⟨rfl, h2⟩, I.z, I.nz, I.b6⟩
theorem FsInv.turn {i : Nat} {c : Int} {ss : List Stamp} {f : Wd → Int} {B : BookT} {cl : List Int} (I : FsInv i c ss f B cl) (hc : c ≤ 1000) (t : Turn) : FsInv i (c + 1) ss (t.step f B).2.1 (t.step f B).2.2 cl := by
  have h1 := I.c1
  have h2 := I.c2
  unfold Turn.step
  by_cases c0 : t.next = 0
  · rw [if_pos c0]; exact ⟨I.len, I.c1, Int.le_trans I.c2 (Int.le_add_one (Int.le_refl _)), I.st, I.z, I.nz, I.b6⟩
  · rw [if_neg c0]
    by_cases c1 : t.next = 1
    · rw [if_pos c1]
      by_cases hv : f .clock = t.view
      · rw [if_pos hv]
        have hw : wr .u64 (t.view + 1) = f .clock + 1 := by rw [← hv]; exact wru64 (by omega) (by omega)
        rw [hw]
        have hb : wset f .clock (f .clock + 1) (.body 5 1) = f (.body 5 1) := wset_ne (by simp)
        refine ⟨I.len, ?_, ?_, I.st, fun h => I.z (hb.symm.trans h), fun h => ?_, I.b6⟩
        · show 1 ≤ wset f .clock (f .clock + 1) .clock; rw [wset_same]; omega
        · show wset f .clock (f .clock + 1) .clock ≤ c + 1; rw [wset_same]; omega
        · obtain ⟨p, a, b⟩ := I.nz (fun q => h (hb.trans q))
          exact ⟨p, a, b.trans (congrArg some hb.symm)⟩
      · rw [if_neg hv]; exact ⟨I.len, I.c1, Int.le_trans I.c2 (Int.le_add_one (Int.le_refl _)), I.st, I.z, I.nz, I.b6⟩
    · rw [if_neg c1]; exact ⟨I.len, I.c1, Int.le_trans I.c2 (Int.le_add_one (Int.le_refl _)), I.st, I.z, I.nz, I.b6⟩
theorem FsInv.mono {i : Nat} {c c' : Int} {ss : List Stamp} {f : Wd → Int} {B : BookT} {cl : List Int} (I : FsInv i c ss f B cl) (h : c ≤ c') : FsInv i c' ss f B cl :=
  ⟨I.len, I.c1, Int.le_trans I.c2 h, I.st, I.z, I.nz, I.b6⟩
theorem FsInv.begin (k : Nat) : FsInv 0 1 (List.replicate k ⟨5, 0, 0, 0⟩) (beg10 cfg10.S) .new [1] :=
  ⟨rfl, by decide, by decide, fun s hs => by rw [List.eq_of_mem_replicate hs]; exact ⟨rfl, fun h => absurd h (by decide)⟩, fun _ => rfl, fun h => absurd rfl h, rfl⟩
/-- A stamped record is left alone. -/
theorem Stamp.stamped {s : Stamp} {f : Wd → Int} {B : BookT} (hr : s.rec' = 5) (hz : f (.body 5 1) ≠ 0) : (s.step f B).2 = (f, B) ∧ (s.step f B).1.rec' = 5 := by
  obtain ⟨rec', next, now, at'⟩ := s
  simp only at hr
  subst hr
  unfold Stamp.step
  simp only
  split
  · exact ⟨rfl, rfl⟩
  · split
    · exact ⟨rfl, rfl⟩
    · split
      · first | exact ⟨rfl, rfl⟩ | (rw [if_neg hz]; exact ⟨rfl, rfl⟩)
      · exact ⟨rfl, rfl⟩

/-! ### What stands where -/
/-- A slice that grows, from what it was made of. -/
def Grows (g : Nat → Option Blk) (x : V) (l : List V) : Prop := Grown g x 1 l ∨ ∃ b, x = .sl b 0 l.length (.ex l.length) ∧ g b = some (.cells l .rw)
theorem Grows.len {g : Nat → Option Blk} {x : V} {l : List V} (G : Grows g x l) : lenSl x = some l.length := by
  rcases G with G | ⟨b, rfl, _⟩
  · exact G.len1
  · rfl
theorem Grows.fr {g g' : H} {L : List Nat} {x : V} {l : List V} (G : Grows g.get x l) (ok : g.ok) (F : Fr L g g') (h : ∀ b ∈ x.blk, b ∉ L) : Grows g'.get x l := by
  rcases G with G | ⟨b, rfl, hb⟩
  · exact .inl (G.fr ok F h)
  · exact .inr ⟨b, rfl, F.get ok hb (h b (by simp [V.blk]))⟩
theorem Grows.lt {g : H} {x : V} {l : List V} (G : Grows g.get x l) (ok : g.ok) : ∀ b ∈ x.blk, b < g.next := by
  rcases G with G | ⟨b, rfl, hb⟩
  · exact G.lt ok
  · intro c hc; simp only [V.blk, List.mem_singleton] at hc; subst hc; exact ok.lt hb
theorem Grows.at1 {g : H} {x : V} {l : List V} (G : Grows g.get x l) {i : Nat} {v : V} (hv : l[i]? = some v) (h1 : v.one = true) : ∃ b, indexAV 1 x (.int .i64 (i : Int)) = some (.ptr b i) ∧ g.ld1 (.ptr b i) = some v := by
  rcases G with G | ⟨b, rfl, hb⟩
  · exact G.at1 hv h1
  · refine ⟨b, sl_idx1 (lt_of_get hv), ?_⟩
    rw [ld1_get', hb, ldB_cells, hv]; simp only [h1]
theorem Grows.push {g : H} (ok : g.ok) {x : V} {l : List V} {v : V} {nb : Nat} {k : Bk} (G : Grows g.get x l) (hn : g.get nb = some (.cells [v] k)) (h1 : v.one = true) (hs : l.length ≤ 1000000) (hl : l.all V.one = true) :
    ∃ x' g', g.append 1 8 x (.sl nb 0 1 (.ex 1)) = some (x', g') ∧ Fr x.blk g g' ∧ Grows g'.get x' (l ++ [v]) ∧ (∀ b ∈ x'.blk, g.next ≤ b) := by
  have hone : [v].all V.one = true := by simp only [List.all_cons, List.all_nil, h1, Bool.and_true]
  rcases G with G | ⟨b, rfl, hb⟩
  · obtain ⟨x', g', e, F, G', n, _⟩ := Grown.push ok (bytes := 8) G hn rfl hone (by decide) ⟨by decide, by decide⟩ hs
    exact ⟨x', g', e, F, .inl G', n⟩
  · have hslc : g.slc 1 (.sl nb 0 1 (.ex 1)) = some [v] := by
      rw [slc_get hn (by simp), List.drop_zero, List.take_of_length_le (by simp)]
    have hold : g.slc 1 (.sl b 0 l.length (.ex l.length)) = some l := by rw [slc_get hb (by omega), List.drop_zero, List.take_of_length_le (by omega)]
    refine ⟨_, _, append_ex' (n := 1) rfl hslc hold hone (by omega) (by decide) (by decide) (by omega), (Fr.refl ok).new _, .inl (.inr ⟨_, _, rfl, by simp, get_new_self _ _⟩), by simp [V.blk]⟩
theorem intsK_one (kd : Go.IntKind) (l : List Int) : (intsK kd l).all V.one = true := by
  unfold intsK; rw [List.all_map, List.all_eq_true]; intro _ _; rfl

structure StsAt (g : H) (bk : Nat) (bs : List Nat) (ss : List Stamp) : Prop where
  len : bs.length = ss.length
  at' : ∀ (i : Nat) (s : Stamp), ss[i]? = some s → ∃ b, bs[i]? = some b ∧ StampAt g b cfg10 bk s
theorem StsAt.fr {g g' : H} {L : List Nat} {bk : Nat} {bs : List Nat} {ss : List Stamp} (Z : StsAt g bk bs ss) (ok : g.ok) (F : Fr L g g') (h : ∀ b ∈ bs, b ∉ L) : StsAt g' bk bs ss :=
  ⟨Z.len, fun i s hi => by
    obtain ⟨b, h1, h2⟩ := Z.at' i s hi
    exact ⟨b, h1, h2.fr ok F (h b (List.mem_of_getElem? h1))⟩⟩
theorem StsAt.lt {g : H} {bk : Nat} {bs : List Nat} {ss : List Stamp} (Z : StsAt g bk bs ss) (ok : g.ok) : ∀ b ∈ bs, b < g.next := by
  intro b hb
  obtain ⟨i, hi, rfl⟩ := List.mem_iff_getElem.mp hb
  obtain ⟨b', h1, h2⟩ := Z.at' i _ (List.getElem?_eq_getElem (Z.len ▸ hi))
  rw [List.getElem?_eq_getElem hi] at h1
  cases h1
  exact ok.lt h2.own
theorem StsAt.snoc {g : H} {bk : Nat} {bs : List Nat} {ss : List Stamp} {b : Nat} {s : Stamp} (Z : StsAt g bk bs ss) (h : StampAt g b cfg10 bk s) : StsAt g bk (bs ++ [b]) (ss ++ [s]) := by
  have hl := Z.len
  refine ⟨by rw [List.length_append, List.length_append, hl]; rfl, fun i s' hi => ?_⟩
  by_cases hlt : i < ss.length
  · rw [List.getElem?_append_left hlt] at hi
    obtain ⟨b', h1, h2⟩ := Z.at' i s' hi
    exact ⟨b', by rw [List.getElem?_append_left (lt_of_get h1)]; exact h1, h2⟩
  · have : i < (ss ++ [s]).length := lt_of_get hi
    rw [List.length_append, List.length_singleton] at this
    have he : i = ss.length := by omega
    subst he
    rw [List.getElem?_concat_length] at hi
    cases hi
    exact ⟨b, by rw [← hl, List.getElem?_concat_length], h⟩
theorem StsAt.step {g : H} (ok : g.ok) {A : Adr} {bs : List Nat} {ss : List Stamp} {f : Wd → Int} {n : Int} {B : BookT} (Z : StsAt g A.bk bs ss) (E : Base g A cfg10 f n B) (nd : bs.Nodup) (hA : ∀ b ∈ bs, b ∉ A.l) {i : Nat} {s : Stamp} (hi : ss[i]? = some s) {b : Nat} (hb : bs[i]? = some b) :
    Ev (C 150 [.ptr b 0, .ptr A.p 0] g) fun r => Fr (b :: A.l) g r.2 ∧ StsAt r.2 A.bk bs (ss.set i (s.step f B).1) ∧ ∃ n', Base r.2 A cfg10 (s.step f B).2.1 n' (s.step f B).2.2 := by
  obtain ⟨b', hb', hs⟩ := Z.at' i s hi
  rw [hb] at hb'; cases hb'
  have hbm := List.mem_of_getElem? hb
  refine (hs.step ok cfg10_R E (hA b hbm)).mono fun r ⟨r1, r2, r3, r4⟩ => ⟨r2, ⟨by rw [List.length_set]; exact Z.len, fun j s' hj => ?_⟩, _, r4⟩
  by_cases hij : i = j
  · subst hij
    rw [List.getElem?_set_self (lt_of_get hi)] at hj
    cases hj
    exact ⟨b, hb, r3⟩
  · rw [List.getElem?_set_ne hij] at hj
    obtain ⟨c, hc, hcs⟩ := Z.at' j s' hj
    have hcm := List.mem_of_getElem? hc
    refine ⟨c, hc, hcs.fr ok r2 ?_⟩
    simp only [List.mem_cons, not_or]
    refine ⟨?_, hA c hcm⟩
    rintro rfl
    exact hij ((List.getElem?_inj (lt_of_get hb) nd).mp (hb.trans hc.symm))

/-- The book's time. -/
theorem Base.setNow {h : H} {A : Adr} {k : Cfg} {f : Wd → Int} {n : Int} {B : BookT} (E : Base h A k f n B) (ok : h.ok) (t : Int) :
    Base (h.put A.bk (some (.cells [.int .i64 t, .map A.m1, .map A.m2] .rw))) A k f n { B with now := t } := by
  obtain ⟨nd, M, K⟩ := E
  have F : Fr [A.bk] h (h.put A.bk (some (.cells [.int .i64 t, .map A.m1, .map A.m2] .rw))) := (Fr.refl ok).put (.inl (by simp)) (ok.lt K.own) _
  have nd' := nd
  unfold Adr.l at nd'
  simp only [List.nodup_cons, List.mem_cons, List.not_mem_nil, or_false, not_or] at nd'
  obtain ⟨⟨a1, a2, a3, a4⟩, ⟨b1, b2, b3⟩, ⟨c1, c2⟩, d1, _⟩ := nd'
  obtain ⟨o, ⟨e1, g1, t1⟩, ⟨e2, g2, t2⟩⟩ := K
  exact ⟨nd, M.fr ok F (by simp [a2]) (by simp [b1]), get_put_self _ _ _, ⟨e1, F.get ok g1 (by simp [Ne.symm c1]), t1⟩, ⟨e2, F.get ok g2 (by simp [Ne.symm c2]), t2⟩⟩

structure FsAt (h g : H) (x7 x10 : V) (w : Nat) (A : Adr) (f : Wd → Int) (n : Int) (B : BookT) (bs : List Nat) (ss : List Stamp) (tb : Nat) (ts : Turn) (cl : List Int) : Prop where
  fr : Fr [] h g
  world : World10 g w A f n B
  sl : Grown g.get x7 1 (ptrs bs)
  st : StsAt g A.bk bs ss
  t : TurnAt g tb A.bk ts
  clk : Grows g.get x10 (intsK .u64 cl)
  nd : bs.Nodup
  dT : tb ≠ w ∧ tb ∉ A.l
  dB : ∀ b ∈ bs, b ≠ w ∧ b ≠ tb ∧ b ∉ A.l
  d7 : ∀ b ∈ x7.blk, b ≠ w ∧ b ≠ tb ∧ b ∉ A.l ∧ b ∉ bs
  d10 : ∀ b ∈ x10.blk, b ≠ w ∧ b ≠ tb ∧ b ∉ A.l ∧ b ∉ bs ∧ b ∉ x7.blk
  nw : h.next ≤ w
  nt : h.next ≤ tb
  nA : ∀ b ∈ A.l, h.next ≤ b
  nB : ∀ b ∈ bs, h.next ≤ b
  n7 : ∀ b ∈ x7.blk, h.next ≤ b
  n10 : ∀ b ∈ x10.blk, h.next ≤ b

section
variable {h g g' : H} {x7 x10 : V} {w : Nat} {A : Adr} {f f' : Wd → Int} {n n' : Int} {B B' : BookT} {bs : List Nat} {ss ss' : List Stamp} {tb : Nat} {ts ts' : Turn} {cl : List Int}
theorem World10.base' (Y : World10 g w A f n B) (ok : g.ok) {L : List Nat} (F : Fr L g g') (hw : w ∉ L) (E : Base g' A cfg10 f' n' B') : World10 g' w A f' n' B' := ⟨F.get ok Y.own hw, Y.out, E⟩
theorem World10.fr' {L : List Nat} (Y : World10 g w A f n B) (ok : g.ok) (F : Fr L g g') (hw : w ∉ L) (hL : ∀ c ∈ A.l, c ∉ L) : World10 g' w A f n B := ⟨F.get ok Y.own hw, Y.out, Y.base.fr ok F hL⟩
/-- Behind what touches the memory, the book, the machines. -/
theorem FsAt.gen (Z : FsAt h g x7 x10 w A f n B bs ss tb ts cl) {L : List Nat} (F : Fr L g g') (hL : ∀ c ∈ L, c ∈ A.l ∨ c = tb ∨ c ∈ bs ∨ g.next ≤ c) (E : Base g' A cfg10 f' n' B') (hs : StsAt g' A.bk bs ss') (ht : TurnAt g' tb A.bk ts') : FsAt h g' x7 x10 w A f' n' B' bs ss' tb ts' cl := by
  have ok := Z.fr.ok
  have hwl := ok.lt Z.world.own
  have l7 := Z.sl.lt ok
  have l10 := Z.clk.lt ok
  refine ⟨Z.fr.trans F (fun c hc => .inr ?_), Z.world.base' ok F ?_ E, Z.sl.fr ok F ?_, hs, ht, Z.clk.fr ok F ?_, Z.nd, Z.dT, Z.dB, Z.d7, Z.d10, Z.nw, Z.nt, Z.nA, Z.nB, Z.n7, Z.n10⟩
  · rcases hL c hc with q | q | q | q
    · exact Z.nA c q
    · rw [q]; exact Z.nt
    · exact Z.nB c q
    · exact Nat.le_trans Z.fr.le q
  · intro hc
    rcases hL w hc with q | q | q | q
    · exact Z.world.out q
    · exact Z.dT.1 q.symm
    · exact (Z.dB w q).1 rfl
    · exact absurd hwl (Nat.not_lt_of_le q)
  · intro c h7 hc
    have d := Z.d7 c h7
    rcases hL c hc with q | q | q | q
    · exact d.2.2.1 q
    · exact d.2.1 q
    · exact d.2.2.2 q
    · exact absurd (l7 c h7) (Nat.not_lt_of_le q)
  · intro c h7 hc
    have d := Z.d10 c h7
    rcases hL c hc with q | q | q | q
    · exact d.2.2.1 q
    · exact d.2.1 q
    · exact d.2.2.2.1 q
    · exact absurd (l10 c h7) (Nat.not_lt_of_le q)
/-- Behind what touches the memory and the book alone. -/
theorem FsAt.to (Z : FsAt h g x7 x10 w A f n B bs ss tb ts cl) {L : List Nat} (F : Fr L g g') (hL : ∀ c ∈ L, c ∈ A.l ∨ g.next ≤ c) (E : Base g' A cfg10 f' n' B') : FsAt h g' x7 x10 w A f' n' B' bs ss tb ts cl := by
  have ok := Z.fr.ok
  refine Z.gen F (fun c hc => (hL c hc).imp id fun q => .inr (.inr q)) E (Z.st.fr ok F ?_) (Z.t.fr ok F ?_)
  · intro b hb hc
    rcases hL b hc with q | q
    · exact (Z.dB b hb).2.2 q
    · exact absurd (Z.st.lt ok b hb) (Nat.not_lt_of_le q)
  · intro hc
    rcases hL tb hc with q | q
    · exact Z.dT.2 q
    · exact absurd (ok.lt Z.t.own) (Nat.not_lt_of_le q)
/-- A stamp's step. -/
theorem FsAt.stamp (Z : FsAt h g x7 x10 w A f n B bs ss tb ts cl) {i : Nat} {s : Stamp} (hi : ss[i]? = some s) {b : Nat} (hb : bs[i]? = some b) :
    Ev (C 150 [.ptr b 0, .ptr A.p 0] g) fun r => ∃ n', FsAt h r.2 x7 x10 w A (s.step f B).2.1 n' (s.step f B).2.2 bs (ss.set i (s.step f B).1) tb ts cl := by
  have ok := Z.fr.ok
  have hbm := List.mem_of_getElem? hb
  refine (Z.st.step ok Z.world.base Z.nd (fun b hb => (Z.dB b hb).2.2) hi hb).mono fun r ⟨F, hs, n', E⟩ => ⟨n', Z.gen F ?_ E hs (Z.t.fr ok F ?_)⟩
  · intro c hc
    rcases List.mem_cons.mp hc with rfl | hc
    · exact .inr (.inr (.inl hbm))
    · exact .inl hc
  · intro hc
    rcases List.mem_cons.mp hc with rfl | hc
    · exact (Z.dB _ hbm).2.1 rfl
    · exact Z.dT.2 hc
/-- A turn's step. -/
theorem FsAt.turn (Z : FsAt h g x7 x10 w A f n B bs ss tb ts cl) :
    Ev (C 145 [.ptr tb 0, .ptr A.p 0] g) fun r => r.1 = .bool (decide ((ts.step f B).1.next = 2)) ∧ ∃ n', FsAt h r.2 x7 x10 w A (ts.step f B).2.1 n' (ts.step f B).2.2 bs ss tb (ts.step f B).1 cl := by
  have ok := Z.fr.ok
  refine (Z.t.step ok Z.world.base Z.dT.2).mono fun r ⟨r1, F, T, E⟩ => ⟨r1, _, Z.gen F ?_ E (Z.st.fr ok F ?_) T⟩
  · intro c hc
    rcases List.mem_cons.mp hc with rfl | hc
    · exact .inr (.inl rfl)
    · exact .inl hc
  · intro b hb hc
    rcases List.mem_cons.mp hc with rfl | hc
    · exact (Z.dB _ hb).2.1 rfl
    · exact (Z.dB b hb).2.2 hc
/-- Another turn. -/
theorem FsAt.newTurn (Z : FsAt h g x7 x10 w A f n B bs ss tb ts cl) :
    Ev (C 144 [cfg10.v, .ptr A.bk 0] g) fun r => ∃ tb' n', r.1 = .ptr tb' 0 ∧ FsAt h r.2 x7 x10 w A f n' B bs ss tb' ⟨0, 0, 0⟩ cl := by
  have ok := Z.fr.ok
  refine (newTurn_spec cfg10_R A.bk ok).mono fun r ⟨b, r1, F, hb, T⟩ => ⟨b, n, r1, ?_⟩
  have hwl := ok.lt Z.world.own
  have hAl := Z.world.base.lt ok
  have ne : ∀ {c : Nat}, c < g.next → c ≠ b := fun hc q => absurd hc (Nat.not_lt_of_le (q ▸ hb))
  have Z' := Z.to F (by simp) (Z.world.base.fr ok F (by simp))
  exact { Z' with
    t := T
    dT := ⟨(ne hwl).symm, fun hm => ne (hAl b hm) rfl⟩
    dB := fun c hc => ⟨(Z.dB c hc).1, ne (Z.st.lt ok c hc), (Z.dB c hc).2.2⟩
    d7 := fun c hc => ⟨(Z.d7 c hc).1, ne (Z.sl.lt ok c hc), (Z.d7 c hc).2.2⟩
    d10 := fun c hc => ⟨(Z.d10 c hc).1, ne (Z.clk.lt ok c hc), (Z.d10 c hc).2.2⟩
    nt := Nat.le_trans Z.fr.le hb }
/-- The clock is noted. -/
theorem FsAt.push (Z : FsAt h g x7 x10 w A f n B bs ss tb ts cl) (y : Int) (hl : cl.length ≤ 1000000) :
    ∃ x' g', (g.new (.cells [.int .u64 y] .rw)).append 1 8 x10 (.sl g.next 0 1 (.ex 1)) = some (x', g') ∧ FsAt h g' x7 x' w A f n B bs ss tb ts (cl ++ [y]) := by
  have ok := Z.fr.ok
  have Fa : Fr [] g (g.new (.cells [.int .u64 y] .rw)) := (Fr.refl ok).new _
  have hla := Fa.le
  obtain ⟨x', g', e, F, G, hn⟩ := Grows.push Fa.ok (Z.clk.fr ok Fa (by simp)) (get_new_self g _) rfl (by rw [intsK_len]; exact hl) (intsK_one _ _)
  have F2 : Fr x10.blk g g' := (Fa.mono (by simp)).trans' F
  have hwl := ok.lt Z.world.own
  have hAl := Z.world.base.lt ok
  have htl := ok.lt Z.t.own
  have new : ∀ b ∈ x'.blk, g.next ≤ b := fun b hb => Nat.le_trans hla (hn b hb)
  have ne : ∀ {c b : Nat}, b ∈ x'.blk → c < g.next → b ≠ c := fun hb hc q => absurd hc (Nat.not_lt_of_le (q ▸ new _ hb))
  refine ⟨x', g', e, ⟨Z.fr.trans F2 fun b hb => .inr (Z.n10 b hb), Z.world.fr' ok F2 (fun hm => (Z.d10 w hm).1 rfl) (fun c hc hm => (Z.d10 c hm).2.2.1 hc), Z.sl.fr ok F2 (fun c hc hm => (Z.d10 c hm).2.2.2.2 hc), Z.st.fr ok F2 (fun c hc hm => (Z.d10 c hm).2.2.2.1 hc), Z.t.fr ok F2 (fun hm => (Z.d10 tb hm).2.1 rfl), ?_, Z.nd, Z.dT, Z.dB, Z.d7, ?_, Z.nw, Z.nt, Z.nA, Z.nB, Z.n7, fun b hb => Nat.le_trans Z.fr.le (new b hb)⟩⟩
  · rw [← intsK_snoc]; exact G
  · intro b hb
    exact ⟨ne hb hwl, ne hb htl, fun hm => ne hb (hAl b hm) rfl, fun hm => ne hb (Z.st.lt ok b hm) rfl, fun hm => ne hb (Z.sl.lt ok b hm) rfl⟩
end
end Wm
end

section
/- The law FieldStamps, of my machine. -/
namespace Wm
attribute [local congr] bind_congr1
attribute [local irreducible] wr

structure MkAt (h g : H) (x7 : V) (w : Nat) (A : Adr) (bs : List Nat) (i : Nat) : Prop where
  fr : Fr [] h g
  world : World10 g w A (beg10 cfg10.S) 0 .new
  sl : Grown g.get x7 1 (ptrs bs)
  st : StsAt g A.bk bs (List.replicate i ⟨5, 0, 0, 0⟩)
  nd : bs.Nodup
  dB : ∀ b ∈ bs, h.next ≤ b ∧ b ≠ w ∧ b ∉ A.l
  d7 : ∀ b ∈ x7.blk, h.next ≤ b ∧ b ≠ w ∧ b ∉ A.l ∧ b ∉ bs

theorem ptrs_snoc (bs : List Nat) (b : Nat) : ptrs bs ++ [.ptr b 0] = ptrs (bs ++ [b]) := by unfold ptrs; rw [List.map_append]; rfl
theorem ptrs_len (bs : List Nat) : (ptrs bs).length = bs.length := List.length_map _
theorem ptrs_at {bs : List Nat} {i b : Nat} (h : bs[i]? = some b) : (ptrs bs)[i]? = some (.ptr b 0) := by unfold ptrs; rw [List.getElem?_map, h]; rfl

theorem fs_i {i k : Nat} (h : i < k) (hk : k ≤ 4) : decide ((i : Int) < (k : Int)) = true ∧ wr .i64 ((i : Int) + 1) = ((i + 1 : Nat) : Int) ∧ i ≤ 1000000 := ⟨decide_eq_true (by omega), by rw [wr64 (by omega) (by omega)]; rfl, by omega⟩
/-- A stamp is made. -/
theorem fs_make {h g : H} {x1 x7 : V} {w : Nat} {A : Adr} {bs : List Nat} {i k : Nat} (Z : MkAt h g x7 w A bs i) (hi : i < k) (hk : k ≤ 4) :
    Ev (S.withylaw10_FieldStamps_c1_S W x1 (.ptr w 0) (k : Nat) x7 (i : Nat) g) fun r => ∃ x7' bs', r.1 = .normal ∧ r.2.1 = S.withylaw10_FieldStamps_c1_E x1 (.ptr w 0) (.int .i64 (k : Nat)) x7' (.int .i64 (i + 1 : Nat)) ∧ MkAt h r.2.2 x7' w A bs' (i + 1) := by
  have hv10 : cfg10.v = .agg [.int .i64 40, .int .i64 3, .int .i64 1, .int .i64 1, .int .i64 9, .int .i64 0] := rfl
  have ok := Z.fr.ok
  obtain ⟨hd, wi, him⟩ := fs_i hi hk
  have hY := Z.world.own
  have hNS := newStamp_spec cfg10_R (q := 5) (by decide) A.bk ok
  rw [hv10, show ((5 : Nat) : Int) = 5 from rfl] at hNS
  simp only [S.withylaw10_FieldStamps_c1_S, nilc_ptr, ptrAt_ptr, Option.bind_some, ld1_get', ldN_get', ldB_cells, ldNB_cells, List.getElem?_cons_zero, List.getElem?_cons_succ, Nat.zero_add, Nat.add_zero, Nat.reduceAdd, Nat.reduceLeDiff, V.one, V.cells, List.length_cons, List.length_nil, Bool.and_true, decide_true, splice, List.take_succ_cons, List.take_zero, List.drop_zero, List.cons_append, List.nil_append, fill, repl, opd, boxc, W_call, hd, hY]
  refine Ev.bind hNS ?_
  rintro ⟨_, g1⟩ ⟨b, rfl, F1, hb, T1⟩
  dsimp only at F1 T1 ⊢
  have ok1 := F1.ok
  have Fa : Fr [] g1 (g1.new (.cells [.ptr b 0] .rw)) := (Fr.refl ok1).new _
  have hlen : (ptrs bs).length ≤ 1000000 := by rw [ptrs_len, Z.st.len, List.length_replicate]; exact him
  obtain ⟨x7', g2, e2, F2, G2, hn2, _⟩ := Grown.push Fa.ok (bytes := 8) ((Z.sl.fr ok F1 (by simp)).fr ok1 Fa (by simp)) (get_new_self g1 _) rfl rfl (by decide) ⟨by decide, by decide⟩ hlen
  have hla := Fa.le
  have F02 : Fr x7.blk g g2 := ((F1.mono (by simp)).trans' (Fa.mono (by simp))).trans' F2
  have F12 : Fr x7.blk g1 g2 := (Fa.mono (by simp)).trans' F2
  have hwl := ok.lt Z.world.own
  have hAl := Z.world.base.lt ok
  have hbl := Z.st.lt ok
  have h7l := Z.sl.lt ok
  have b1l := ok1.lt T1.own
  simp only [Option.bind_some, Nat.zero_add, List.length_cons, List.length_nil, Nat.beq_refl, List.drop_succ_cons, List.drop_zero, List.cons_append, List.nil_append, e2, wi]
  refine Ev.some ⟨x7', bs ++ [b], rfl, rfl, ⟨Z.fr.trans F02 fun c hc => .inr (Z.d7 c hc).1, Z.world.fr' ok F02 (fun hm => (Z.d7 w hm).2.1 rfl) (fun c hc hm => (Z.d7 c hm).2.2.1 hc), by rw [← ptrs_snoc]; exact G2, ?_, ?_, ?_, ?_⟩⟩
  · rw [List.replicate_succ']
    exact (Z.st.fr ok F02 (fun c hc hm => (Z.d7 c hm).2.2.2 hc)).snoc (T1.fr ok1 F12 (fun hm => absurd (h7l b hm) (Nat.not_lt_of_le hb)))
  · rw [List.nodup_append]
    exact ⟨Z.nd, by simp, fun c hc d hd => by rw [List.mem_singleton] at hd; subst hd; exact Nat.ne_of_lt (Nat.lt_of_lt_of_le (hbl c hc) hb)⟩
  · intro c hc
    rcases List.mem_append.mp hc with hc | hc
    · exact Z.dB c hc
    · rw [List.mem_singleton] at hc; subst hc
      exact ⟨Nat.le_trans Z.fr.le hb, fun q => absurd hwl (Nat.not_lt_of_le (q ▸ hb)), fun hm => absurd (hAl _ hm) (Nat.not_lt_of_le hb)⟩
  · intro c hc
    have hge : g1.next ≤ c := Nat.le_trans hla (hn2 c hc)
    have hge0 : g.next ≤ c := Nat.le_trans F1.le hge
    refine ⟨Nat.le_trans Z.fr.le hge0, fun q => absurd hwl (Nat.not_lt_of_le (q ▸ hge0)), fun hm => absurd (hAl _ hm) (Nat.not_lt_of_le hge0), fun hm => ?_⟩
    rcases List.mem_append.mp hm with hm | hm
    · exact absurd (hbl c hm) (Nat.not_lt_of_le hge0)
    · rw [List.mem_singleton] at hm; subst hm
      exact absurd b1l (Nat.not_lt_of_le hge)

/-- The words of the memory. -/
theorem FsAt.words {h g : H} {x7 x10 : V} {w : Nat} {A : Adr} {f : Wd → Int} {n : Int} {B : BookT} {bs : List Nat} {ss : List Stamp} {tb : Nat} {ts : Turn} {cl : List Int} (Z : FsAt h g x7 x10 w A f n B bs ss tb ts cl) :
    Ev (C 94 [.ptr A.p 0] g) fun r => ∃ q, r.1 = .sl q 0 cfg10.size (.op 1) ∧ r.2.get q = some (.cells ((cfg10.row f).map (.int .u64)) (.gr 1)) ∧ FsAt h r.2 x7 x10 w A f n B bs ss tb ts cl :=
  (Z.world.base.mem.words Z.fr.ok).mono fun r ⟨q, h1, h2, h3, h4⟩ => ⟨q, h1, h4, Z.to h2 (by simp) (Z.world.base.fr Z.fr.ok h2 (by simp))⟩
theorem row_ld {g : H} {q : Nat} {k : Cfg} {f : Wd → Int} {kk : Bk} (h : g.get q = some (.cells ((k.row f).map (.int .u64)) kk)) {l : Wd} (hl : l.ok k) :
    indexAV 1 (.sl q 0 k.size (.op 1)) (.int .i64 (l.pos k : Nat)) = some (.ptr q (l.pos k)) ∧ g.ld1 (.ptr q (l.pos k)) = some (.int .u64 (f l)) := by
  refine ⟨sl_idx1 (pos_lt hl), ?_⟩
  rw [ld1_get', h, ldB_cells, List.getElem?_map, row_at hl]; rfl

theorem fs_n {i : Nat} (h : i < 100) : wr .i64 ((i : Int) + 1) = ((i + 1 : Nat) : Int) ∧ i + 1 ≤ 1000000 ∧ (1 + (i : Int)) ≤ 1000 ∧ (1 + (i : Int)) + 1 ≤ 1 + ((i + 1 : Nat) : Int) ∧ (1 + (i : Int)) ≤ 1 + ((i + 1 : Nat) : Int) := ⟨by rw [wr64 (by omega) (by omega)]; rfl, by omega, by omega, by omega, by omega⟩

/-- One pick. -/
theorem fs_pick {h g : H} {x1 x7 x10 : V} {w : Nat} {A : Adr} {f : Wd → Int} {n : Int} {B : BookT} {bs : List Nat} {ss : List Stamp} {tb : Nat} {ts : Turn} {cl : List Int} (Z : FsAt h g x7 x10 w A f n B bs ss tb ts cl)
    (ok : h.ok) {picks : List Int} (hx : RowN .i64 h.get x1 picks) {i k : Nat} (I : FsInv i (1 + i) ss f B cl) (hi : i < picks.length) (h100 : i < 100) (hk : ss.length = k) :
    Ev (S.withylaw10_FieldStamps_c5_n W x1 (.ptr w 0) (k : Nat) x7 (.ptr tb 0) x10 (i : Nat) g) fun r => ∃ x10' f' n' B' ss' tb' ts' cl', r.1 = .normal ∧ r.2.1 = S.withylaw10_FieldStamps_c3_E x1 (.ptr w 0) (.int .i64 (k : Nat)) x7 (.ptr tb' 0) x10' (.int .i64 (i + 1 : Nat)) ∧ ss'.length = k ∧ FsAt h r.2.2 x7 x10' w A f' n' B' bs ss' tb' ts' cl' ∧ FsInv (i + 1) (1 + (i + 1 : Nat)) ss' f' B' cl' := by
  have hv10 : cfg10.v = .agg [.int .i64 40, .int .i64 3, .int .i64 1, .int .i64 1, .int .i64 9, .int .i64 0] := rfl
  have ok0 := Z.fr.ok
  obtain ⟨wi, hi1, hc0, hc1, hc2⟩ := fs_n h100
  have hY := Z.world.own
  have hK := Z.world.base.bk.own
  have hwK : w ≠ A.bk := fun q => Z.world.out (by unfold Adr.l; simp [q])
  have hpK : A.p ≠ A.bk ∧ A.pw ≠ A.bk := by
    have nd := Z.world.base.nd
    unfold Adr.l at nd
    simp only [List.nodup_cons, List.mem_cons, List.not_mem_nil, or_false, not_or] at nd
    exact ⟨nd.1.2.1, nd.2.1.1⟩
  have F1 : Fr [A.bk] g (g.put A.bk (some (.cells [.int .i64 (i : Nat), .map A.m1, .map A.m2] .rw))) := (Fr.refl ok0).put (.inl (by simp)) (ok0.lt hK) _
  have Z1 := Z.to F1 (by unfold Adr.l; simp) (Z.world.base.setNow ok0 (i : Nat))
  have hY1 := Z1.world.own
  simp only [S.withylaw10_FieldStamps_c5_n, nilc_ptr, ptrAt_ptr, Option.bind_some, Option.map_some, ld1_get', st_get', get_put', ldB_cells, stB_cells, List.getElem?_cons_zero, List.getElem?_cons_succ, Nat.zero_add, Nat.add_zero, Nat.reduceAdd, Nat.reduceLeDiff, V.one, V.cells, List.length_cons, List.length_nil, Nat.beq_refl, List.all_cons, List.all_nil, Bool.and_true, Bool.not_true, Bool.or_self, Bool.and_self, decide_true, decide_false, if_false, splice, List.take_zero, List.drop_succ_cons, List.drop_zero, List.cons_append, List.nil_append, reduceCtorEq, fill, repl, opd, boxc, W_call, hY, hK, hwK]
  refine Ev.bind Z1.words ?_
  rintro ⟨_, g2⟩ ⟨q, rfl, hq, Z2⟩
  dsimp only at hq Z2 ⊢
  obtain ⟨hix, hld⟩ := row_ld hq (l := .clock) trivial
  rw [show ((Wd.clock.pos cfg10 : Nat) : Int) = 0 from rfl] at hix
  rw [show (Wd.clock.pos cfg10) = 0 from rfl] at hix hld
  obtain ⟨x10', g3, e3, Z3⟩ := Z2.push (f .clock) (by rw [I.len]; exact hi1)
  obtain ⟨I1, hcl⟩ := I.tick (i : Nat)
  simp only [Option.bind_some, Nat.zero_add, List.length_cons, List.length_nil, Nat.beq_refl, List.drop_succ_cons, List.drop_zero, List.cons_append, List.nil_append, hix, hld, e3]
  rw [S.withylaw10_FieldStamps_c8_eq]
  obtain ⟨p, hp⟩ : ∃ p, picks[i]? = some p := ⟨_, List.getElem?_eq_getElem hi⟩
  obtain ⟨xb, hxi, hxl⟩ := (hx.fr ok Z3.fr (by simp)).at hp
  have hc8 : S.withylaw10_FieldStamps_c8_S W x1 (.ptr w 0) (k : Nat) x7 (.ptr tb 0) x10' (i : Nat) g3 = some (.normal, S.withylaw10_FieldStamps_c8_O x1 (.ptr w 0) (.int .i64 (k : Nat)) x7 (.ptr tb 0) x10' (.int .i64 (i : Nat)) (.bool (decide (0 ≤ p) && decide (p < (k : Nat)))), g3) := by
    by_cases h0 : 0 ≤ p
    · simp only [S.withylaw10_FieldStamps_c8_S, Option.bind_some, asI_int, Bool.true_and, decide_true, hxi, hxl, h0]
    · simp only [S.withylaw10_FieldStamps_c8_S, Option.bind_some, asI_int, Bool.false_and, decide_false, hxi, hxl, h0]
  rw [hc8, Option.bind_some]
  show Ev (S.withylaw10_FieldStamps_K12 W .normal _ g3) _
  rw [S.withylaw10_FieldStamps_c8_n_eq]
  have hY3 := Z3.world.own
  by_cases hpk : 0 ≤ p ∧ p < (k : Nat)
  · have hd : (decide (0 ≤ p) && decide (p < ((k : Nat) : Int))) = true := by rw [decide_eq_true hpk.1, decide_eq_true hpk.2]; rfl
    obtain ⟨j, hj, hjk⟩ : ∃ j : Nat, p = (j : Nat) ∧ j < ss.length := ⟨p.toNat, by clear wi; omega, by clear wi; omega⟩
    subst hj
    obtain ⟨s, hs⟩ : ∃ s, ss[j]? = some s := ⟨_, List.getElem?_eq_getElem hjk⟩
    obtain ⟨b, hb, _⟩ := Z3.st.at' j s hs
    obtain ⟨yb, hyi, hyl⟩ := Z3.sl.at1 (ptrs_at hb) rfl
    simp only [S.withylaw10_FieldStamps_c8_n, nilc_ptr, ptrAt_ptr, Option.bind_some, ld1_get', ldB_cells, List.getElem?_cons_zero, List.getElem?_cons_succ, Nat.zero_add, V.one, W_call, hd, hxi, hxl, hyi, hyl, hY3, wi]
    refine Ev.bind (Z3.stamp hs hb) ?_
    rintro ⟨_, g4⟩ ⟨n4, Z4⟩
    exact Ev.some ⟨x10', _, n4, _, _, tb, ts, _, rfl, rfl, by rw [List.length_set]; exact hk, Z4, (I1.stamp rfl hcl hs).mono hc2⟩
  · have hd : (decide (0 ≤ p) && decide (p < ((k : Nat) : Int))) = false := by
      by_cases h0 : 0 ≤ p
      · rw [decide_eq_true h0, decide_eq_false (fun h => hpk ⟨h0, h⟩)]; rfl
      · rw [decide_eq_false h0]; rfl
    by_cases he : p = (k : Nat)
    · subst he
      have hkk : decide ((k : Int) = (k : Int)) = true := decide_eq_true rfl
      simp only [S.withylaw10_FieldStamps_c8_n, nilc_ptr, ptrAt_ptr, Option.bind_some, ld1_get', ldN_get', ldB_cells, List.getElem?_cons_zero, List.getElem?_cons_succ, Nat.zero_add, Nat.add_zero, Nat.reduceAdd, V.one, asI_int, decide_true, W_call, hd, hxi, hxl, hY3, wi]
      refine Ev.bind Z3.turn ?_
      rintro ⟨_, g4⟩ ⟨rfl, n4, Z4⟩
      have I4 := (I1.turn hc0 ts).mono hc1
      have hY4 := Z4.world.own
      dsimp only at Z4 ⊢
      by_cases ht : (ts.step f { B with now := (i : Nat) }).1.next = 2
      · have hNT := Z4.newTurn
        rw [hv10] at hNT
        simp only [Option.bind_some, ldB_cells, ldNB_cells, List.getElem?_cons_zero, List.getElem?_cons_succ, Nat.zero_add, Nat.reduceAdd, Nat.reduceLeDiff, V.one, asB_bool, List.length_cons, List.length_nil, decide_true, List.take_succ_cons, List.take_zero, List.drop_zero, ht, hY4]
        refine Ev.bind hNT ?_
        rintro ⟨_, g5⟩ ⟨tb', n5, rfl, Z5⟩
        exact Ev.some ⟨x10', _, n5, _, _, tb', _, _, rfl, rfl, hk, Z5, I4⟩
      · simp only [Option.bind_some, asB_bool, decide_false, ht]
        exact Ev.some ⟨x10', _, n4, _, _, tb, _, _, rfl, rfl, hk, Z4, I4⟩
    · simp only [S.withylaw10_FieldStamps_c8_n, Option.bind_some, asI_int, decide_false, hd, hxi, hxl, he, wi]
      exact Ev.some ⟨x10', _, _, _, _, tb, ts, _, rfl, rfl, hk, Z3, I1.mono hc2⟩

theorem fs_i3 {i : Nat} (h : i < 3) : decide ((i : Int) < 3) = true ∧ wr .i64 ((i : Int) + 1) = ((i + 1 : Nat) : Int) := ⟨decide_eq_true (by omega), by rw [wr64 (by omega) (by omega)]; rfl⟩
/-- Behind the picks: they step on. -/
theorem fs_on {h : H} {x7 x10 : V} {w : Nat} {A : Adr} {f : Wd → Int} {B : BookT} {bs : List Nat} {tb : Nat} {ts : Turn} {cl : List Int} (hz : f (.body 5 1) ≠ 0) {k : Nat} (hk4 : k ≤ 4) {x12 x13 : Int}
    {i : Nat} (hi : i < k) {n : Int} {ss : List Stamp} {g : H} (Z : FsAt h g x7 x10 w A f n B bs ss tb ts cl) (hk : ss.length = k) (h5 : ∀ s ∈ ss, s.rec' = 5) :
    Ev (S.withylaw10_FieldStamps_c10_S W (.ptr w 0) (k : Nat) x7 x10 x12 x13 (i : Nat) g) fun r => ∃ n' ss', r.1 = .normal ∧ r.2.1 = S.withylaw10_FieldStamps_c10_E (.ptr w 0) (.int .i64 (k : Nat)) x7 x10 (.int .u64 x12) (.int .i64 x13) (.int .i64 (i + 1 : Nat)) ∧ FsAt h r.2.2 x7 x10 w A f n' B bs ss' tb ts cl ∧ ss'.length = k ∧ ∀ s ∈ ss', s.rec' = 5 := by
  obtain ⟨hd, wi, _⟩ := fs_i hi hk4
  simp only [S.withylaw10_FieldStamps_c10_S, hd]
  refine loop_ev (α := Nat × Int × List Stamp) (fun y => S.withylaw10_FieldStamps_c12_E (.ptr w 0) (.int .i64 (k : Nat)) x7 x10 (.int .u64 x12) (.int .i64 x13) (.int .i64 (i : Nat)) (.int .i64 (y.1 : Nat)))
    (fun y g => y.1 ≤ 3 ∧ FsAt h g x7 x10 w A f y.2.1 B bs y.2.2 tb ts cl ∧ y.2.2.length = k ∧ ∀ s ∈ y.2.2, s.rec' = 5) (fun y _ => 3 - y.1)
    (fun r => ∃ n' ss', r.1 = .exit 7 ∧ r.2.1 = S.withylaw10_FieldStamps_c12_O (.ptr w 0) (.int .i64 (k : Nat)) x7 x10 (.int .u64 x12) (.int .i64 x13) (.int .i64 (i : Nat)) ∧ FsAt h r.2.2 x7 x10 w A f n' B bs ss' tb ts cl ∧ ss'.length = k ∧ ∀ s ∈ ss', s.rec' = 5)
    (0, n, ss) rfl ⟨Nat.zero_le _, Z, hk, h5⟩ ?_ ?_
  rotate_left
  · rintro ⟨_, _, g'⟩ ⟨n', ss', rfl, rfl, Z', hk', h5'⟩
    dsimp only at Z' ⊢
    rw [S.withylaw10_FieldStamps_c12_e7_eq]
    simp only [S.withylaw10_FieldStamps_c12_e7, wi]
    exact Ev.some ⟨n', ss', rfl, rfl, Z', hk', h5'⟩
  rintro ⟨j, n', ss'⟩ g' ⟨hj, Z', hk', h5'⟩
  dsimp only at hj Z' hk' h5' ⊢
  rw [S.withylaw10_FieldStamps_c12_eq]
  by_cases hj3 : j < 3
  · obtain ⟨hdj, wj⟩ := fs_i3 hj3
    obtain ⟨s, hs⟩ : ∃ s, ss'[i]? = some s := ⟨_, List.getElem?_eq_getElem (hk' ▸ hi)⟩
    obtain ⟨b, hb, _⟩ := Z'.st.at' i s hs
    obtain ⟨yb, hyi, hyl⟩ := Z'.sl.at1 (ptrs_at hb) rfl
    have hY := Z'.world.own
    obtain ⟨e1, e2⟩ := Stamp.stamped (B := B) (h5' s (List.mem_of_getElem? hs)) hz
    have hst := Z'.stamp hs hb
    rw [e1] at hst
    simp only [S.withylaw10_FieldStamps_c12_S, nilc_ptr, ptrAt_ptr, Option.bind_some, ld1_get', ldB_cells, List.getElem?_cons_zero, List.getElem?_cons_succ, Nat.zero_add, V.one, W_call, hdj, hyi, hyl, hY, wj]
    refine Ev.bind hst ?_
    rintro ⟨_, g2⟩ ⟨n2, Z2⟩
    refine Ev.some (.inl ⟨(j + 1, n2, _), rfl, rfl, ⟨hj3, Z2, by rw [List.length_set]; exact hk', fun y hy => ?_⟩, Nat.sub_lt_sub_left hj3 (Nat.lt_succ_self j)⟩)
    rcases mem_set_or hy with hy | rfl
    · exact h5' y hy
    · exact e2
  · have hdj : decide ((j : Int) < 3) = false := by clear wi; exact decide_eq_false (by omega)
    simp only [S.withylaw10_FieldStamps_c12_S, hdj]
    exact Ev.some (.inr ⟨by simp, n', ss', rfl, rfl, Z', hk', h5'⟩)

theorem fs_p {p i : Nat} (h : p + 1 < i + 1) (hi : i ≤ 1000) : wr .i64 ((p : Int) + 1) = ((p + 1 : Nat) : Int) ∧ decide ((0 : Int) ≤ (p : Int)) = true ∧ decide (((p + 1 : Nat) : Int) < ((i + 1 : Nat) : Int)) = true := ⟨by rw [wr64 (by omega) (by omega)]; rfl, decide_eq_true (by omega), decide_eq_true (by omega)⟩
def shFieldStamps : List (Bool × List CSh) := [(false, [.int .u8]), (false, [.sl 8 [.int .i64]])]
theorem wf_u8' {n : Int} (h : (Go.Lit.int .u8 n).wf = true) : 0 ≤ n ∧ n < 256 := by
  have : 0 ≤ n ∧ n ≤ 255 := by simpa [Go.Lit.wf, Go.IntKind.min, Go.IntKind.max, Go.IntKind.signed, Go.IntKind.bits] using h
  exact ⟨this.1, by omega⟩
theorem fs_k {n : Int} (h : 0 ≤ n ∧ n < 256) : ∃ k : Nat, k ≤ 4 ∧ wr .i64 (1 + (wr .i64 (Int.tmod n 4))) = (k : Int) := by
  refine ⟨(1 + n % 4).toNat, by omega, ?_⟩
  rw [tm h.1, wr64 (n := n % 4) (by omega) (by omega), wr64 (by omega) (by omega)]
  omega

theorem hat51 (h : H) : C 131 [.agg [.int .i64 40, .int .i64 3, .int .i64 1, .int .i64 1, .int .i64 9, .int .i64 0], .str ⟨⟨[98, 111, 100, 121]⟩⟩, .int .i64 5, .int .i64 1] h = some (.int .i64 ((Wd.body 5 1).pos cfg10 : Nat), h) := at10 (l := .body 5 1) ⟨by decide, by decide⟩ h
theorem fs_last {h : H} {x7 x10 : V} {w : Nat} {A : Adr} {f : Wd → Int} {B : BookT} {bs : List Nat} {tb : Nat} {ts : Turn} {cl : List Int} {n6 : Int} {ss6 : List Stamp} {g6 : H} (Z6 : FsAt h g6 x7 x10 w A f n6 B bs ss6 tb ts cl)
    {P Q : Int} {N : Nat} (hp : B.born 5 = some P) (hl6 : lenSl x10 = some N) (wp : wr .i64 (P + 1) = Q) (dp0 : decide (0 ≤ P) = true) (dpl : decide (Q < (N : Int)) = true) {y : V} (hyi : indexAV 1 x10 (.int .i64 Q) = some y) (hyl : g6.ld1 y = some (.int .u64 (f (.body 5 1)))) :
    Ev (S.withylaw10_FieldStamps_c10_e5 W (.ptr w 0) x10 (f (.body 5 1)) P g6) fun r => r.1 = .bool true := by
  have hb51 : (Wd.body 5 1).ok cfg10 := ⟨by decide, by decide⟩
  have hat' := hat51
  have r1 : decide (f (.body 5 1) = f (.body 5 1)) = true := decide_eq_true rfl
  have r2 : decide (P = P) = true := decide_eq_true rfl
  have hY6 := Z6.world.own
  simp only [S.withylaw10_FieldStamps_c10_e5, nilc_ptr, ptrAt_ptr, Option.bind_some, ld1_get', ldN_get', ldB_cells, ldNB_cells, List.getElem?_cons_zero, List.getElem?_cons_succ, Nat.zero_add, Nat.add_zero, Nat.reduceAdd, Nat.reduceLeDiff, V.one, asI_int, List.length_cons, List.length_nil, decide_true, List.take_succ_cons, List.take_zero, List.drop_zero, W_call, dp0, hl6, wp, dpl, hyi, hyl, hY6]
  refine Ev.bind Z6.words ?_
  rintro ⟨_, g7⟩ ⟨q7, rfl, hq7, Z7⟩
  dsimp only at hq7 Z7 ⊢
  obtain ⟨hix7, hld7⟩ := row_ld hq7 hb51
  have hY7 := Z7.world.own
  have hb7 := Z7.world.base.bk.bornS 5
  rw [BookT.at', hp] at hb7
  simp only [Option.bind_some, ldB_cells, ldNB_cells, List.getElem?_cons_zero, List.getElem?_cons_succ, Nat.zero_add, Nat.reduceAdd, Nat.reduceLeDiff, Int.reduceNeg, V.one, V.beq, V.beqs, ckB_some, asI_int, List.length_cons, List.length_nil, Bool.and_self, decide_true, List.take_succ_cons, List.take_zero, List.drop_zero, hY7, hat', hix7, hld7, hb7, Option.getD_some, awake10]
  exact Ev.some rfl

theorem fs_end {h : H} {x7 x10 : V} {w : Nat} {A : Adr} {f : Wd → Int} {B : BookT} {bs : List Nat} {tb : Nat} {ts : Turn} {cl : List Int} {n : Int} {ss : List Stamp} {g : H} (Z : FsAt h g x7 x10 w A f n B bs ss tb ts cl) {i k : Nat} (I : FsInv i (1 + i) ss f B cl) (hi : i ≤ 100) (hk : ss.length = k) (hk4 : k ≤ 4) :
    Ev (S.withylaw10_FieldStamps_c3_e2 W (.ptr w 0) (k : Nat) x7 x10 g) fun r => r.1 = .bool true := by
  have hY := Z.world.own
  have hb51 : (Wd.body 5 1).ok cfg10 := ⟨by decide, by decide⟩
  have hat' := hat51
  simp only [S.withylaw10_FieldStamps_c3_e2, nilc_ptr, ptrAt_ptr, Option.bind_some, ld1_get', ldN_get', ldB_cells, ldNB_cells, List.getElem?_cons_zero, List.getElem?_cons_succ, Nat.zero_add, Nat.add_zero, Nat.reduceAdd, Nat.reduceLeDiff, Int.reduceNeg, V.one, List.length_cons, List.length_nil, decide_true, List.take_succ_cons, List.take_zero, List.drop_zero, W_call, hY]
  refine Ev.bind Z.words ?_
  rintro ⟨_, g4⟩ ⟨q, rfl, hq, Z5⟩
  dsimp only at hq Z5 ⊢
  obtain ⟨hix, hld⟩ := row_ld hq hb51
  have hY5 := Z5.world.own
  have hb5 := Z5.world.base.bk.bornS 5
  have hb6 := Z5.world.base.bk.bornS 6
  rw [BookT.at', I.b6] at hb6
  by_cases hz : f (.body 5 1) = 0
  · rw [BookT.at', I.z hz] at hb5
    simp only [Option.bind_some, ldB_cells, ldNB_cells, List.getElem?_cons_zero, List.getElem?_cons_succ, Nat.zero_add, Nat.reduceAdd, Nat.reduceLeDiff, Int.reduceNeg, V.one, V.beq, V.beqs, ckB_some, asI_int, List.length_cons, List.length_nil, Bool.and_self, decide_true, List.take_succ_cons, List.take_zero, List.drop_zero, hY5, hat', hix, hld, hb5, hb6, hz, Option.getD_none, awake10]
    exact Ev.some rfl
  obtain ⟨p, hp, hcp⟩ := I.nz hz
  rw [BookT.at', hp] at hb5
  simp only [Option.bind_some, ldB_cells, ldNB_cells, List.getElem?_cons_zero, List.getElem?_cons_succ, Nat.zero_add, Nat.reduceAdd, Nat.reduceLeDiff, Int.reduceNeg, V.one, V.beq, V.beqs, ckB_some, asI_int, List.length_cons, List.length_nil, Bool.and_self, decide_true, decide_false, List.take_succ_cons, List.take_zero, List.drop_zero, hY5, hat', hix, hld, hb5, hz, Option.getD_some]
  refine loop_ev (α := Nat × Int × List Stamp) (fun y => S.withylaw10_FieldStamps_c10_E (.ptr w 0) (.int .i64 (k : Nat)) x7 x10 (.int .u64 (f (.body 5 1))) (.int .i64 (p : Nat)) (.int .i64 (y.1 : Nat)))
    (fun y g => y.1 ≤ k ∧ FsAt h g x7 x10 w A f y.2.1 B bs y.2.2 tb ts cl ∧ y.2.2.length = k ∧ ∀ s ∈ y.2.2, s.rec' = 5) (fun y _ => k - y.1)
    (fun r => ∃ n' ss', r.1 = .exit 5 ∧ r.2.1 = S.withylaw10_FieldStamps_c10_O (.ptr w 0) x10 (.int .u64 (f (.body 5 1))) (.int .i64 (p : Nat)) ∧ FsAt h r.2.2 x7 x10 w A f n' B bs ss' tb ts cl)
    (0, n, ss) rfl ⟨Nat.zero_le _, Z5, hk, fun s hs => (I.st s hs).1⟩ ?_ ?_
  · rintro ⟨j, n', ss'⟩ g' ⟨hj, Z', hk', h5'⟩
    dsimp only at hj Z' hk' h5' ⊢
    rw [S.withylaw10_FieldStamps_c10_eq]
    by_cases hjk : j < k
    · refine (fs_on hz hk4 hjk Z' hk' h5').mono ?_
      rintro ⟨_, _, g2⟩ ⟨n2, ss2, rfl, rfl, Z2, hk2, h52⟩
      exact .inl ⟨(j + 1, n2, ss2), rfl, rfl, ⟨hjk, Z2, hk2, h52⟩, Nat.sub_lt_sub_left hjk (Nat.lt_succ_self j)⟩
    · have he : j = k := Nat.le_antisymm hj (Nat.le_of_not_lt hjk)
      subst he
      have hd : decide ((j : Int) < (j : Int)) = false := decide_eq_false (Int.lt_irrefl _)
      simp only [S.withylaw10_FieldStamps_c10_S, hd]
      exact Ev.some (.inr ⟨by simp, n', ss', rfl, rfl, Z'⟩)
  rintro ⟨_, _, g6⟩ ⟨n6, ss6, rfl, rfl, Z6⟩
  dsimp only at Z6 ⊢
  rw [S.withylaw10_FieldStamps_c10_e5_eq]
  have hcl := I.len
  have hlt := lt_of_get hcp
  rw [hcl] at hlt
  obtain ⟨wp, dp0, dpl⟩ := fs_p hlt (Nat.le_trans hi (by decide))
  have hl6 := Z6.clk.len
  rw [intsK_len, hcl] at hl6
  obtain ⟨yb, hyi, hyl⟩ := Z6.clk.at1 (intsK_at hcp) rfl
  exact fs_last Z6 hp hl6 wp dp0 dpl hyi hyl

theorem fs_c5 {g : H} {x1 x5 x7 x9 x10 : V} {k : Int} {l : Nat} (hl : lenSl x1 = some l) (i : Nat) (hi : i ≤ 100) :
    S.withylaw10_FieldStamps_c5_S W x1 x5 k x7 x9 x10 (i : Nat) g = some (if i < l ∧ i < 100 then .normal else .exit 2, S.withylaw10_FieldStamps_c5_O x1 x5 (.int .i64 k) x7 x9 x10 (.int .i64 (i : Nat)), g) := by
  unfold S.withylaw10_FieldStamps_c5_S
  rw [hl, Option.bind_some]
  by_cases hil : i < l
  · rw [decide_eq_true (show (i : Int) < (l : Int) by omega)]
    by_cases h100 : i < 100
    · rw [decide_eq_true (show (i : Int) < 100 by omega), if_pos ⟨hil, h100⟩]
    · rw [decide_eq_false (show ¬ (i : Int) < 100 by omega), if_neg (fun q => h100 q.2)]
  · rw [decide_eq_false (show ¬ (i : Int) < (l : Int) by omega), if_neg (fun q => hil q.1)]
theorem fs_step {h g : H} {x1 x7 x10 : V} {w : Nat} {A : Adr} {f : Wd → Int} {n : Int} {B : BookT} {bs : List Nat} {ss : List Stamp} {tb : Nat} {ts : Turn} {cl : List Int} (Z : FsAt h g x7 x10 w A f n B bs ss tb ts cl)
    (ok : h.ok) {picks : List Int} (hx : RowN .i64 h.get x1 picks) {i k : Nat} (I : FsInv i (1 + i) ss f B cl) (hi : i ≤ 100) (hk : ss.length = k) :
    Ev (S.withylaw10_FieldStamps_c3_S W x1 (.ptr w 0) (k : Nat) x7 (.ptr tb 0) x10 (i : Nat) g) fun r => (i < 100 ∧ ∃ x10' f' n' B' ss' tb' ts' cl', r.1 = .normal ∧ r.2.1 = S.withylaw10_FieldStamps_c3_E x1 (.ptr w 0) (.int .i64 (k : Nat)) x7 (.ptr tb' 0) x10' (.int .i64 (i + 1 : Nat)) ∧ ss'.length = k ∧ FsAt h r.2.2 x7 x10' w A f' n' B' bs ss' tb' ts' cl' ∧ FsInv (i + 1) (1 + (i + 1 : Nat)) ss' f' B' cl') ∨
      (r.1 = .exit 2 ∧ r.2.1 = S.withylaw10_FieldStamps_c3_O (.ptr w 0) (.int .i64 (k : Nat)) x7 x10 ∧ r.2.2 = g) := by
  have hl := (hx.fr ok Z.fr (by simp) : RowN .i64 g.get x1 picks).len
  unfold S.withylaw10_FieldStamps_c3_S
  rw [S.withylaw10_FieldStamps_c5_eq, fs_c5 hl i hi, Option.bind_some]
  by_cases hc : i < picks.length ∧ i < 100
  · rw [if_pos hc]
    show Ev (S.withylaw10_FieldStamps_K6 W .normal _ g) _
    rw [S.withylaw10_FieldStamps_c5_n_eq]
    exact (fs_pick Z ok hx I hc.1 hc.2 hk).mono fun r q => .inl ⟨hc.2, q⟩
  · rw [if_neg hc]
    show Ev (S.withylaw10_FieldStamps_K6 W (.exit 2) _ g) _
    rw [S.withylaw10_FieldStamps_c5_e2_eq]
    exact Ev.some (.inr ⟨rfl, rfl, rfl⟩)

theorem lawFieldStamps (h : H) (us : List V) (ok : h.ok) (ha : ArgsOk h.get shFieldStamps us) : Ev (C 24 us h) fun r => r.1 = .bool true := by
  obtain ⟨_, _, rfl, ⟨_, _, hn, ⟨n0, rfl, bn⟩, rfl⟩, _, _, rfl, ⟨_, _, hx, hxc, rfl⟩, rfl⟩ := ha
  cases hx; cases hn
  rename_i x1
  obtain ⟨picks, hx, hw, hp8, _⟩ := rowN_of hxc
  obtain ⟨k, hk4, hwk⟩ := fs_k (wf_u8' bn)
  have hv10 : cfg10.v = .agg [.int .i64 40, .int .i64 3, .int .i64 1, .int .i64 1, .int .i64 9, .int .i64 0] := rfl
  refine call_ev (af := F.withylaw10_FieldStamps) (by kernel_rfl) rfl ?_
  rw [S.withylaw10_FieldStamps_eq]
  simp only [S.withylaw10_FieldStamps, Option.bind_some, asB_bool, Bool.not_true, W_call, awake10, hwk]
  refine Ev.bind (begin10_spec ok) ?_
  rintro ⟨_, g1⟩ ⟨w, A, rfl, F1, hwn, hAn, Y1⟩
  dsimp only at F1 Y1 ⊢
  have M1 : MkAt h g1 .nilsl w A [] 0 := ⟨F1, Y1, .nil _ _, ⟨rfl, by simp⟩, List.nodup_nil, by simp, by simp [V.blk]⟩
  refine loop_ev (α := Nat × V × List Nat) (fun y => S.withylaw10_FieldStamps_c1_E x1 (.ptr w 0) (.int .i64 (k : Nat)) y.2.1 (.int .i64 (y.1 : Nat)))
    (fun y g => y.1 ≤ k ∧ MkAt h g y.2.1 w A y.2.2 y.1) (fun y _ => k - y.1)
    (fun r => ∃ x7 bs, r.1 = .exit 0 ∧ r.2.1 = S.withylaw10_FieldStamps_c1_O x1 (.ptr w 0) (.int .i64 (k : Nat)) x7 ∧ MkAt h r.2.2 x7 w A bs k)
    (0, .nilsl, []) rfl ⟨Nat.zero_le _, M1⟩ ?_ ?_
  · rintro ⟨i, x7, bs⟩ g ⟨hi, Z⟩
    dsimp only at hi Z ⊢
    rw [S.withylaw10_FieldStamps_c1_eq]
    by_cases hik : i < k
    · refine (fs_make Z hik hk4).mono ?_
      rintro ⟨_, _, g'⟩ ⟨x7', bs', rfl, rfl, Z'⟩
      exact .inl ⟨(i + 1, x7', bs'), rfl, rfl, ⟨hik, Z'⟩, Nat.sub_lt_sub_left hik (Nat.lt_succ_self i)⟩
    · have he : i = k := Nat.le_antisymm hi (Nat.le_of_not_lt hik)
      subst he
      have hd : decide ((i : Int) < (i : Int)) = false := decide_eq_false (Int.lt_irrefl _)
      simp only [S.withylaw10_FieldStamps_c1_S, hd]
      exact Ev.some (.inr ⟨by simp, x7, bs, rfl, rfl, Z⟩)
  rintro ⟨_, _, g2⟩ ⟨x7, bs, rfl, rfl, Z2⟩
  dsimp only at Z2 ⊢
  rw [S.withylaw10_FieldStamps_c1_e0_eq]
  have ok2 := Z2.fr.ok
  have hY2 := Z2.world.own
  have hNT := newTurn_spec cfg10_R A.bk ok2
  rw [hv10] at hNT
  simp only [S.withylaw10_FieldStamps_c1_e0, nilc_ptr, ptrAt_ptr, Option.bind_some, ld1_get', ldN_get', ldB_cells, ldNB_cells, List.getElem?_cons_zero, List.getElem?_cons_succ, Nat.zero_add, Nat.add_zero, Nat.reduceAdd, Nat.reduceLeDiff, V.one, List.length_cons, List.length_nil, decide_true, List.take_succ_cons, List.take_zero, List.drop_zero, W_call, hY2]
  refine Ev.bind hNT ?_
  rintro ⟨_, g3⟩ ⟨tb, rfl, F3, htb, T3⟩
  dsimp only at F3 T3 ⊢
  have ok3 := F3.ok
  have F4 : Fr [] g3 (g3.new (.cells [.int .u64 1] .rw)) := (Fr.refl ok3).new _
  have F24 : Fr [] g2 (g3.new (.cells [.int .u64 1] .rw)) := F3.trans' F4
  have hwl := ok2.lt Z2.world.own
  have hAl := Z2.world.base.lt ok2
  have hbl := Z2.st.lt ok2
  have h7l := Z2.sl.lt ok2
  have htl := ok3.lt T3.own
  have l3 : g2.next ≤ g3.next := F3.le
  have ge2 : ∀ {c d : Nat}, c < g2.next → g2.next ≤ d → d ≠ c := fun hc hd q => absurd hc (Nat.not_lt_of_le (q ▸ hd))
  have Z4 : FsAt h (g3.new (.cells [.int .u64 1] .rw)) x7 (.sl g3.next 0 1 (.ex 1)) w A (beg10 cfg10.S) 0 .new bs (List.replicate k ⟨5, 0, 0, 0⟩) tb ⟨0, 0, 0⟩ [1] :=
    { fr := Z2.fr.trans F24 (by simp)
      world := Z2.world.fr' ok2 F24 (by simp) (by simp)
      sl := Z2.sl.fr ok2 F24 (by simp)
      st := Z2.st.fr ok2 F24 (by simp)
      t := T3.fr ok3 F4 (by simp)
      clk := .inr ⟨_, rfl, get_new_self _ _⟩
      nd := Z2.nd
      dT := ⟨ge2 hwl htb, fun hm => ge2 (hAl tb hm) htb rfl⟩
      dB := fun b hb => ⟨(Z2.dB b hb).2.1, (ge2 (hbl b hb) htb).symm, (Z2.dB b hb).2.2⟩
      d7 := fun b hb => ⟨(Z2.d7 b hb).2.1, (ge2 (h7l b hb) htb).symm, (Z2.d7 b hb).2.2⟩
      d10 := fun b hb => by
        simp only [V.blk, List.mem_singleton] at hb
        subst hb
        exact ⟨ge2 hwl l3, Nat.ne_of_gt htl, fun hm => ge2 (hAl _ hm) l3 rfl, fun hm => ge2 (hbl _ hm) l3 rfl, fun hm => ge2 (h7l _ hm) l3 rfl⟩
      nw := hwn
      nt := Nat.le_trans Z2.fr.le htb
      nA := hAn
      nB := fun b hb => (Z2.dB b hb).1
      n7 := fun b hb => (Z2.d7 b hb).1
      n10 := fun b hb => by
        simp only [V.blk, List.mem_singleton] at hb
        subst hb
        exact Nat.le_trans Z2.fr.le l3 }
  refine loop_ev (α := Nat × V × (Wd → Int) × Int × BookT × List Stamp × Nat × Turn × List Int) (fun y => S.withylaw10_FieldStamps_c3_E x1 (.ptr w 0) (.int .i64 (k : Nat)) x7 (.ptr y.2.2.2.2.2.2.1 0) y.2.1 (.int .i64 (y.1 : Nat)))
    (fun y g => y.1 ≤ 100 ∧ y.2.2.2.2.2.1.length = k ∧ FsAt h g x7 y.2.1 w A y.2.2.1 y.2.2.2.1 y.2.2.2.2.1 bs y.2.2.2.2.2.1 y.2.2.2.2.2.2.1 y.2.2.2.2.2.2.2.1 y.2.2.2.2.2.2.2.2 ∧ FsInv y.1 (1 + y.1) y.2.2.2.2.2.1 y.2.2.1 y.2.2.2.2.1 y.2.2.2.2.2.2.2.2)
    (fun y _ => 100 - y.1)
    (fun r => ∃ x10 f n B ss tb ts cl i, r.1 = .exit 2 ∧ r.2.1 = S.withylaw10_FieldStamps_c3_O (.ptr w 0) (.int .i64 (k : Nat)) x7 x10 ∧ i ≤ 100 ∧ ss.length = k ∧ FsAt h r.2.2 x7 x10 w A f n B bs ss tb ts cl ∧ FsInv i (1 + i) ss f B cl)
    (0, .sl g3.next 0 1 (.ex 1), beg10 cfg10.S, 0, .new, List.replicate k ⟨5, 0, 0, 0⟩, tb, ⟨0, 0, 0⟩, [1]) rfl ⟨Nat.zero_le _, List.length_replicate, Z4, FsInv.begin k⟩ ?_ ?_
  · rintro ⟨i, x10, f, n, B, ss, tb, ts, cl⟩ g ⟨hi, hk, Z, I⟩
    dsimp only at hi hk Z I ⊢
    rw [S.withylaw10_FieldStamps_c3_eq]
    refine (fs_step Z ok hx I hi hk).mono ?_
    rintro ⟨_, _, g'⟩ (⟨h100, x10', f', n', B', ss', tb', ts', cl', rfl, rfl, hk', Z', I'⟩ | ⟨rfl, rfl, rfl⟩)
    · exact .inl ⟨(i + 1, x10', f', n', B', ss', tb', ts', cl'), rfl, rfl, ⟨h100, hk', Z', I'⟩, Nat.sub_lt_sub_left h100 (Nat.lt_succ_self i)⟩
    · exact .inr ⟨by simp, x10, f, n, B, ss, tb, ts, cl, i, rfl, rfl, hi, hk, Z, I⟩
  rintro ⟨_, _, g⟩ ⟨x10, f, n, B, ss, tb, ts, cl, i, rfl, rfl, hi, hk, Z, I⟩
  dsimp only at Z ⊢
  rw [S.withylaw10_FieldStamps_c3_e2_eq]
  exact fs_end Z I hi hk hk4
end Wm
end

