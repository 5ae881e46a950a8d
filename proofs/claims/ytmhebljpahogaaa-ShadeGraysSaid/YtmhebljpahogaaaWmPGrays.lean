/- How many slots are gray: shade.Grays and withylaw09.grays. -/
import Derived.Test.YtmhebljpahogaaaWmPAt
import Derived.Test.YtmhebljpahogaaaWmPHead
import Derived.Test.YtmhebljpahogaaaWmPRow
import Derived.Test.YtmhebljpahogaaaWmTxtShadeGraysA
set_option linter.all false
namespace Wm

theorem set_concat {α : Type} (l : List α) (a b : α) : (l ++ [a]).set l.length b = l ++ [b] := by
  induction l with
  | nil => rfl
  | cons x l ih => simp only [List.cons_append, List.length_cons, List.set_cons_succ, ih]

def grayOf (w : Int) : Bool := okT w && decide (getT w 4 1 = 1)
def wAt (ws : List Int) (k : Int) : Int := (ws[k.toNat]?).getD 0
def cntT (s a c hd g st : Int) (ws : List Int) : Nat → Int
  | 0 => 0
  | k + 1 => cntT s a c hd g st ws k + (match grayOf (wAt ws (withinT s a c hd g st k 0)) with | true => 1 | false => 0)
/-- How many words there are. -/
def totT (s a c hd : Int) : Int := slotsT c hd + s * roomT a

theorem cntT_bd (s a c hd g st : Int) (ws : List Int) : ∀ k, 0 ≤ cntT s a c hd g st ws k ∧ cntT s a c hd g st ws k ≤ k
  | 0 => ⟨Int.le_refl _, Int.le_refl _⟩
  | k + 1 => by
    obtain ⟨h1, h2⟩ := cntT_bd s a c hd g st ws k
    unfold cntT
    cases grayOf (wAt ws (withinT s a c hd g st k 0)) <;> simp only <;> omega

theorem within_bd {s a c hd g st k : Int} (hr : cfgR s a c hd g st = true) (h0 : 0 ≤ k) (h1 : k < s) : 0 ≤ withinT s a c hd g st k 0 ∧ withinT s a c hd g st k 0 < totT s a c hd := by
  obtain ⟨⟨s1, s2⟩, ⟨a1, a2⟩, ⟨c1, c2⟩, ⟨d1, d2⟩, _⟩ := cfgR_iff.mp hr
  have hroom : 5 ≤ roomT a := by unfold roomT; omega
  unfold withinT totT
  rw [if_pos ⟨hr, ⟨h0, by omega⟩, ⟨Int.le_refl _, by omega⟩⟩]
  have q1 := Int.mul_nonneg (show 0 ≤ c by omega) (show 0 ≤ 1 + hd + 2 by omega)
  have q2 := Int.mul_nonneg h0 (show 0 ≤ roomT a by omega)
  have q3 : k * roomT a + roomT a ≤ s * roomT a := by
    have := Int.mul_le_mul_of_nonneg_right (show k + 1 ≤ s by omega) (show 0 ≤ roomT a by omega)
    rw [Int.add_mul, Int.one_mul] at this
    exact this
  unfold slotsT
  omega

theorem size_spec {s a c hd g st : Int} (hr : cfgR s a c hd g st = true) (h : H) : C 264 [cfgV s a c hd g st] h = some (.int .i64 (totT s a c hd), h) := by
  refine call_closed (af := F.plan_Size) (by kernel_rfl) rfl (by rfl) (by rfl) h ?_
  have ok := H.ok_empty
  obtain ⟨⟨s1, s2⟩, ⟨a1, a2⟩, ⟨c1, c2⟩, ⟨d1, d2⟩, _⟩ := cfgR_iff.mp hr
  have hR := planRight_spec s a c hd g st
  rw [hr] at hR
  have h1 := room_spec s a c hd g st (by omega) (by omega)
  have h2 := slots_spec s a c hd g st (by omega) (by omega) (by omega) (by omega)
  have hroom : 5 ≤ roomT a ∧ roomT a ≤ 10 := by unfold roomT; omega
  obtain ⟨q1, q2⟩ := mul_bd (show 0 ≤ s by omega) s2 (show 0 ≤ roomT a by omega) hroom.2
  obtain ⟨q3, q4⟩ := mul_bd (show 0 ≤ c by omega) c2 (show 0 ≤ 1 + hd + 2 by omega) (show 1 + hd + 2 ≤ 19 by omega)
  have w1 := wr64 (n := s * roomT a) (by omega) (by omega)
  have w2 : wr .i64 (slotsT c hd + s * roomT a) = totT s a c hd := wr64 (by unfold slotsT; omega) (by unfold slotsT; omega)
  unfold cfgV at hR h1 h2 ⊢
  rw [S.plan_Size_eq]
  simp only [S.plan_Size, H.new_ext, H.ext_ext, H.ext_next, H.ext_ldNk_0, H.ext_ldNk, H.ext_ldk_0, H.ext_ldk, H.ext_stk_0, H.ext_stk, ok, ldB_cells, ldNB_cells, stB_cells, V.one, V.cells, List.length_cons, List.length_nil, List.length_append, List.length_singleton, Nat.zero_add, Nat.add_zero, Nat.reduceAdd, Nat.reduceLeDiff, Nat.reduceLT, Nat.reduceMul, Nat.reduceSub, Int.reduceEq, Int.reduceLT, Int.reduceLE, if_true, if_false, or_self, or_false, false_or, or_true, true_or, Nat.zero_lt_one, Nat.lt_add_one, Nat.zero_lt_succ, Nat.add_assoc, decide_true, decide_false, List.getElem?_cons_zero, List.getElem?_cons_succ, List.cons_append, List.nil_append, List.append_assoc, List.drop_zero, List.drop_succ_cons, List.take_succ_cons, List.take_zero, List.set_cons_zero, List.set_cons_succ, splice, List.all_cons, List.all_nil, Bool.and_true, Bool.not_true, Bool.not_false, Bool.or_false, Option.bind_some, Option.map_some, Option.join_some, ckB_some, V.beq, V.beqs, Nat.beq_refl, BEq.rfl, Bool.and_self, fill, opd, boxc, finV, resAllV, resOfV, result, eqV, aggCells, eqOffs, eqCell, asI_int, asB_bool, ptrAt_ptr, reduceCtorEq, W_call, hR, h1, h2, w1, w2]
  exact Ev.some rfl

theorem ar_lt {i : Nat} {s : Int} (h : (i : Int) < s) (h2 : s ≤ 64) : i < 64 := by omega
theorem ar_wr {i : Nat} (h : i < 64) : wr .i64 ((i : Int) + 1) = ((i + 1 : Nat) : Int) := by rw [wr64 (by omega) (by omega)]; rfl
theorem ar_wc {i : Nat} {x : Int} (h : 0 ≤ x ∧ x ≤ i) (h2 : i < 64) : wr .i64 (x + 1) = x + 1 := wr64 (by omega) (by omega)
theorem ar_q1 {i : Nat} {s : Int} (h : (i : Int) < s) : i + 1 ≤ s.toNat := by omega
theorem ar_q2 {i : Nat} {s : Int} (h : (i : Int) < s) : s.toNat - (i + 1) < s.toNat - i := by omega
theorem ar_nat {z t : Int} {n : Nat} (h0 : 0 ≤ z) (h1 : z < t) (h2 : (n : Int) = t) : z.toNat < n := by omega
theorem ar_eq {i : Nat} {s : Int} (h : i ≤ s.toNat) (h1 : ¬ (i : Int) < s) : i = s.toNat := by omega

theorem grays_loop {s a c hd g st : Int} (hr : cfgR s a c hd g st = true) {h : H} (ok : h.ok) {x : V} {ws : List Int} (hx : RowIs h.get x ws) (hu : ∀ w ∈ ws, U64 w) (hl : (ws.length : Int) = totT s a c hd) :
    Ev ((W.loop (S.withylaw09_grays_c1_B W) (S.withylaw09_grays_c1_E x (.ptr h.next 0) (.int .i64 0) (.int .i64 0)) (h.ext [(some (Blk.cells [.int .i64 s, .int .i64 a, .int .i64 c, .int .i64 hd, .int .i64 g, .int .i64 st] .rw))])).bind fun p1 => S.withylaw09_grays_K2 W p1.1 p1.2.1 p1.2.2) fun r => ∃ L, r = (.int .i64 (cntT s a c hd g st ws s.toNat), h.ext L) := by
  obtain ⟨⟨s1, s2⟩, _⟩ := cfgR_iff.mp hr
  refine loop_ev (fun i : Nat => S.withylaw09_grays_c1_E x (.ptr h.next 0) (.int .i64 (cntT s a c hd g st ws i)) (.int .i64 (i : Nat))) (fun i g' => i ≤ s.toNat ∧ ∃ L, g' = h.ext ((some (Blk.cells [.int .i64 s, .int .i64 a, .int .i64 c, .int .i64 hd, .int .i64 g, .int .i64 st] .rw)) :: L)) (fun i _ => s.toNat - i) (fun r => ∃ L, r = (.exit 0, S.withylaw09_grays_c1_O (.int .i64 (cntT s a c hd g st ws s.toNat)), h.ext L)) 0 rfl ⟨Nat.zero_le _, [], rfl⟩ ?_ ?_
  · rintro i g' ⟨hi, L, rfl⟩
    rw [S.withylaw09_grays_c1_eq]
    have hf := ldF ok (L := L) (cs := [.int .i64 s, .int .i64 a, .int .i64 c, .int .i64 hd, .int .i64 g, .int .i64 st]) (k := 0) rfl rfl
    have hd6 : (h.ext ((some (Blk.cells [.int .i64 s, .int .i64 a, .int .i64 c, .int .i64 hd, .int .i64 g, .int .i64 st] .rw)) :: L)).ldN 6 (.ptr h.next 0) = some (.agg [.int .i64 s, .int .i64 a, .int .i64 c, .int .i64 hd, .int .i64 g, .int .i64 st]) := by rw [H.ext_ldNk_0 ok]; rfl
    by_cases his : (i : Int) < s
    · have hb := within_bd hr (Int.natCast_nonneg i) his
      obtain ⟨p, e1, e2⟩ := (hx.mono (GExt.ext ok ((some (Blk.cells [.int .i64 s, .int .i64 a, .int .i64 c, .int .i64 hd, .int .i64 g, .int .i64 st] .rw)) :: L))).at hb.1 (by rw [hl]; exact hb.2)
      have hat := atHeader_spec hr (Int.natCast_nonneg i) his
      have hhd := header_spec s a c hd g st (i : Int)
      unfold cfgV at hat hhd
      have hw0 : (ws[(withinT s a c hd g st (i : Int) 0).toNat]?).getD 0 = wAt ws (withinT s a c hd g st (i : Int) 0) := rfl
      have hU : U64 (wAt ws (withinT s a c hd g st (i : Int) 0)) := by
        have hlt : (withinT s a c hd g st (i : Int) 0).toNat < ws.length := ar_nat hb.1 hb.2 hl
        unfold wAt
        rw [List.getElem?_eq_getElem hlt]
        exact hu _ (List.getElem_mem hlt)
      have hcu := refUnpack_spec hU
      have hstep : cntT s a c hd g st ws (i + 1) = cntT s a c hd g st ws i + (match grayOf (wAt ws (withinT s a c hd g st (i : Int) 0)) with | true => 1 | false => 0) := rfl
      have hbd := cntT_bd s a c hd g st ws i
      rw [hw0] at e2
      generalize wAt ws (withinT s a c hd g st (i : Int) 0) = w at hU hcu hstep e2
      have hi64 := ar_lt his s2
      have hwi := ar_wr hi64
      have hwc := ar_wc hbd hi64
      have q1 := ar_q1 his
      have q2 := ar_q2 his
      clear hb hbd hl
      cases hok : okT w with
      | false =>
        rw [hok] at hcu
        have hg : grayOf w = false := by simp [grayOf, hok]
        rw [hg] at hstep
        simp only [Int.add_zero] at hstep
        unfold hdr0 at hcu
        simp only [S.withylaw09_grays_c1_S, ptrAt_ptr, Nat.zero_add, hf, hd6, W_call, hat, hcu, e1, e2, Option.bind_some, asI_int, decide_true, decide_eq_true his, List.getElem?_cons_zero, List.getElem?_cons_succ, H.new_ext, H.ext_ext, H.ext_next, H.ext_stk, H.ext_ldk, ok, List.cons_append, List.length_cons, List.length_append, List.length_nil, Nat.add_assoc, Nat.reduceAdd, V.cells, List.getElem?_concat_length, Option.join_some, stB_cells, splice, List.take_zero, List.nil_append, List.drop_succ_cons, List.drop_zero, List.all_cons, List.all_nil, V.one, Bool.and_true, Bool.not_true, Bool.or_false, Nat.reduceLeDiff, reduceCtorEq, decide_false, Option.map_some, List.set_cons_succ, set_concat, List.append_nil, ldB_cells, asB_bool]
        rw [hwi, ← hstep]
        exact Ev.some (Or.inl ⟨i + 1, rfl, rfl, ⟨q1, _, rfl⟩, q2⟩)
      | true =>
        rw [hok] at hcu
        unfold hdrT at hcu
        cases hgr : decide (getT w 4 1 = 1) with
        | false =>
          have hg : grayOf w = false := by simp [grayOf, hok, hgr]
          rw [hg] at hstep
          simp only [Int.add_zero] at hstep
          rw [hgr] at hcu
          simp only [S.withylaw09_grays_c1_S, ptrAt_ptr, Nat.zero_add, hf, hd6, W_call, hat, hcu, e1, e2, Option.bind_some, asI_int, decide_true, decide_eq_true his, List.getElem?_cons_zero, List.getElem?_cons_succ, H.new_ext, H.ext_ext, H.ext_next, H.ext_stk, H.ext_ldk, ok, List.cons_append, List.length_cons, List.length_append, List.length_nil, Nat.add_assoc, Nat.reduceAdd, V.cells, List.getElem?_concat_length, Option.join_some, stB_cells, splice, List.take_zero, List.nil_append, List.drop_succ_cons, List.drop_zero, List.all_cons, List.all_nil, V.one, Bool.and_true, Bool.not_true, Bool.or_false, Nat.reduceLeDiff, reduceCtorEq, decide_false, Option.map_some, List.set_cons_succ, set_concat, List.append_nil, ldB_cells, asB_bool]
          rw [hwi, ← hstep]
          exact Ev.some (Or.inl ⟨i + 1, rfl, rfl, ⟨q1, _, rfl⟩, q2⟩)
        | true =>
          have hg : grayOf w = true := by simp [grayOf, hok, hgr]
          rw [hg] at hstep
          rw [hgr] at hcu
          simp only [S.withylaw09_grays_c1_S, ptrAt_ptr, Nat.zero_add, hf, hd6, W_call, hat, hcu, e1, e2, Option.bind_some, asI_int, decide_true, decide_eq_true his, List.getElem?_cons_zero, List.getElem?_cons_succ, H.new_ext, H.ext_ext, H.ext_next, H.ext_stk, H.ext_ldk, ok, List.cons_append, List.length_cons, List.length_append, List.length_nil, Nat.add_assoc, Nat.reduceAdd, V.cells, List.getElem?_concat_length, Option.join_some, stB_cells, splice, List.take_zero, List.nil_append, List.drop_succ_cons, List.drop_zero, List.all_cons, List.all_nil, V.one, Bool.and_true, Bool.not_true, Bool.or_false, Nat.reduceLeDiff, reduceCtorEq, decide_false, Option.map_some, List.set_cons_succ, set_concat, List.append_nil, ldB_cells, asB_bool]
          rw [hwi, hwc, ← hstep]
          exact Ev.some (Or.inl ⟨i + 1, rfl, rfl, ⟨q1, _, rfl⟩, q2⟩)
    · have := ar_eq hi his
      subst this
      simp only [S.withylaw09_grays_c1_S, ptrAt_ptr, Nat.zero_add, hf, Option.bind_some, asI_int, decide_eq_false his]
      exact Ev.some (Or.inr ⟨by simp, _, rfl⟩)
  · rintro r ⟨L, rfl⟩
    simp only
    rw [S.withylaw09_grays_c1_e0_eq]
    exact Ev.some ⟨L, rfl⟩

theorem shadeGrays_loop {s a c hd g st : Int} (hr : cfgR s a c hd g st = true) {h : H} (ok : h.ok) {x : V} {ws : List Int} (hx : RowIs h.get x ws) (hu : ∀ w ∈ ws, U64 w) (hl : (ws.length : Int) = totT s a c hd) :
    Ev ((W.loop (S.shade_Grays_c1_B W) (S.shade_Grays_c1_E x (.ptr h.next 0) (.int .i64 0) (.int .i64 s) (.int .i64 0)) (h.ext [(some (Blk.cells [.int .i64 s, .int .i64 a, .int .i64 c, .int .i64 hd, .int .i64 g, .int .i64 st] .rw))])).bind fun p1 => S.shade_Grays_K2 W p1.1 p1.2.1 p1.2.2) fun r => ∃ L, r = (.int .i64 (cntT s a c hd g st ws s.toNat), h.ext L) := by
  obtain ⟨⟨s1, s2⟩, _⟩ := cfgR_iff.mp hr
  refine loop_ev (fun i : Nat => S.shade_Grays_c1_E x (.ptr h.next 0) (.int .i64 (cntT s a c hd g st ws i)) (.int .i64 s) (.int .i64 (i : Nat))) (fun i g' => i ≤ s.toNat ∧ ∃ L, g' = h.ext ((some (Blk.cells [.int .i64 s, .int .i64 a, .int .i64 c, .int .i64 hd, .int .i64 g, .int .i64 st] .rw)) :: L)) (fun i _ => s.toNat - i) (fun r => ∃ L, r = (.exit 0, S.shade_Grays_c1_O (.int .i64 (cntT s a c hd g st ws s.toNat)), h.ext L)) 0 rfl ⟨Nat.zero_le _, [], rfl⟩ ?_ ?_
  · rintro i g' ⟨hi, L, rfl⟩
    rw [S.shade_Grays_c1_eq]
    have hf := ldF ok (L := L) (cs := [.int .i64 s, .int .i64 a, .int .i64 c, .int .i64 hd, .int .i64 g, .int .i64 st]) (k := 0) rfl rfl
    have hd6 : (h.ext ((some (Blk.cells [.int .i64 s, .int .i64 a, .int .i64 c, .int .i64 hd, .int .i64 g, .int .i64 st] .rw)) :: L)).ldN 6 (.ptr h.next 0) = some (.agg [.int .i64 s, .int .i64 a, .int .i64 c, .int .i64 hd, .int .i64 g, .int .i64 st]) := by rw [H.ext_ldNk_0 ok]; rfl
    by_cases his : (i : Int) < s
    · have hb := within_bd hr (Int.natCast_nonneg i) his
      obtain ⟨p, e1, e2⟩ := (hx.mono (GExt.ext ok ((some (Blk.cells [.int .i64 s, .int .i64 a, .int .i64 c, .int .i64 hd, .int .i64 g, .int .i64 st] .rw)) :: L))).at hb.1 (by rw [hl]; exact hb.2)
      have hat := atHeader_spec hr (Int.natCast_nonneg i) his
      have hhd := header_spec s a c hd g st (i : Int)
      unfold cfgV at hat hhd
      have hw0 : (ws[(withinT s a c hd g st (i : Int) 0).toNat]?).getD 0 = wAt ws (withinT s a c hd g st (i : Int) 0) := rfl
      have hU : U64 (wAt ws (withinT s a c hd g st (i : Int) 0)) := by
        have hlt : (withinT s a c hd g st (i : Int) 0).toNat < ws.length := ar_nat hb.1 hb.2 hl
        unfold wAt
        rw [List.getElem?_eq_getElem hlt]
        exact hu _ (List.getElem_mem hlt)
      have hcu := headUnpack_spec hU
      have hstep : cntT s a c hd g st ws (i + 1) = cntT s a c hd g st ws i + (match grayOf (wAt ws (withinT s a c hd g st (i : Int) 0)) with | true => 1 | false => 0) := rfl
      have hbd := cntT_bd s a c hd g st ws i
      rw [hw0] at e2
      generalize wAt ws (withinT s a c hd g st (i : Int) 0) = w at hU hcu hstep e2
      have hi64 := ar_lt his s2
      have hwi := ar_wr hi64
      have hwc := ar_wc hbd hi64
      have q1 := ar_q1 his
      have q2 := ar_q2 his
      clear hb hbd hl
      cases hok : okT w with
      | false =>
        rw [hok] at hcu
        have hg : grayOf w = false := by simp [grayOf, hok]
        rw [hg] at hstep
        simp only [Int.add_zero] at hstep
        unfold hdr0 at hcu
        simp only [S.shade_Grays_c1_S, ptrAt_ptr, Nat.zero_add, hf, hd6, W_call, hhd, hcu, e1, e2, Option.bind_some, asI_int, decide_true, decide_eq_true his, List.getElem?_cons_zero, List.getElem?_cons_succ, H.new_ext, H.ext_ext, H.ext_next, H.ext_stk, H.ext_ldk, ok, List.cons_append, List.length_cons, List.length_append, List.length_nil, Nat.add_assoc, Nat.reduceAdd, V.cells, List.getElem?_concat_length, Option.join_some, stB_cells, splice, List.take_zero, List.nil_append, List.drop_succ_cons, List.drop_zero, List.all_cons, List.all_nil, V.one, Bool.and_true, Bool.not_true, Bool.or_false, Nat.reduceLeDiff, reduceCtorEq, decide_false, Option.map_some, List.set_cons_succ, set_concat, List.append_nil, ldB_cells, asB_bool]
        rw [hwi, ← hstep]
        exact Ev.some (Or.inl ⟨i + 1, rfl, rfl, ⟨q1, _, rfl⟩, q2⟩)
      | true =>
        rw [hok] at hcu
        unfold hdrT at hcu
        cases hgr : decide (getT w 4 1 = 1) with
        | false =>
          have hg : grayOf w = false := by simp [grayOf, hok, hgr]
          rw [hg] at hstep
          simp only [Int.add_zero] at hstep
          rw [hgr] at hcu
          simp only [S.shade_Grays_c1_S, ptrAt_ptr, Nat.zero_add, hf, hd6, W_call, hhd, hcu, e1, e2, Option.bind_some, asI_int, decide_true, decide_eq_true his, List.getElem?_cons_zero, List.getElem?_cons_succ, H.new_ext, H.ext_ext, H.ext_next, H.ext_stk, H.ext_ldk, ok, List.cons_append, List.length_cons, List.length_append, List.length_nil, Nat.add_assoc, Nat.reduceAdd, V.cells, List.getElem?_concat_length, Option.join_some, stB_cells, splice, List.take_zero, List.nil_append, List.drop_succ_cons, List.drop_zero, List.all_cons, List.all_nil, V.one, Bool.and_true, Bool.not_true, Bool.or_false, Nat.reduceLeDiff, reduceCtorEq, decide_false, Option.map_some, List.set_cons_succ, set_concat, List.append_nil, ldB_cells, asB_bool]
          rw [hwi, ← hstep]
          exact Ev.some (Or.inl ⟨i + 1, rfl, rfl, ⟨q1, _, rfl⟩, q2⟩)
        | true =>
          have hg : grayOf w = true := by simp [grayOf, hok, hgr]
          rw [hg] at hstep
          rw [hgr] at hcu
          simp only [S.shade_Grays_c1_S, ptrAt_ptr, Nat.zero_add, hf, hd6, W_call, hhd, hcu, e1, e2, Option.bind_some, asI_int, decide_true, decide_eq_true his, List.getElem?_cons_zero, List.getElem?_cons_succ, H.new_ext, H.ext_ext, H.ext_next, H.ext_stk, H.ext_ldk, ok, List.cons_append, List.length_cons, List.length_append, List.length_nil, Nat.add_assoc, Nat.reduceAdd, V.cells, List.getElem?_concat_length, Option.join_some, stB_cells, splice, List.take_zero, List.nil_append, List.drop_succ_cons, List.drop_zero, List.all_cons, List.all_nil, V.one, Bool.and_true, Bool.not_true, Bool.or_false, Nat.reduceLeDiff, reduceCtorEq, decide_false, Option.map_some, List.set_cons_succ, set_concat, List.append_nil, ldB_cells, asB_bool]
          rw [hwi, hwc, ← hstep]
          exact Ev.some (Or.inl ⟨i + 1, rfl, rfl, ⟨q1, _, rfl⟩, q2⟩)
    · have := ar_eq hi his
      subst this
      simp only [S.shade_Grays_c1_S, ptrAt_ptr, Nat.zero_add, hf, Option.bind_some, asI_int, decide_eq_false his]
      exact Ev.some (Or.inr ⟨by simp, _, rfl⟩)
  · rintro r ⟨L, rfl⟩
    simp only
    rw [S.shade_Grays_c1_e0_eq]
    exact Ev.some ⟨L, rfl⟩

theorem grays_spec {s a c hd g st : Int} (hr : cfgR s a c hd g st = true) {h : H} (ok : h.ok) {x : V} {ws : List Int} (hx : RowIs h.get x ws) (hu : ∀ w ∈ ws, U64 w) (hl : (ws.length : Int) = totT s a c hd) :
    ∃ L, C 88 [cfgV s a c hd g st, x] h = some (.int .i64 (cntT s a c hd g st ws s.toNat), h.ext L) := by
  obtain ⟨r, e, L, rfl⟩ := grays_loop hr ok hx hu hl
  refine ⟨L, call_open (af := F.withylaw09_grays) (by kernel_rfl) rfl ?_⟩
  unfold cfgV
  rw [S.withylaw09_grays_eq]
  simp only [S.withylaw09_grays, H.new_ext]
  exact e

theorem shadeGrays_spec {s a c hd g st : Int} (hr : cfgR s a c hd g st = true) {h : H} (ok : h.ok) {x : V} {ws : List Int} (hx : RowIs h.get x ws) (hu : ∀ w ∈ ws, U64 w) (hl : (ws.length : Int) = totT s a c hd) :
    ∃ L, C 89 [cfgV s a c hd g st, x] h = some (.int .i64 (cntT s a c hd g st ws s.toNat), h.ext L) := by
  obtain ⟨r, e, L, rfl⟩ := shadeGrays_loop hr ok hx hu hl
  refine ⟨L, call_open (af := F.shade_Grays) (by kernel_rfl) rfl ?_⟩
  have hR := planRight_spec s a c hd g st
  rw [hr] at hR
  have hS := size_spec hr
  unfold cfgV at hR hS ⊢
  rw [S.shade_Grays_eq]
  simp only [S.shade_Grays, H.new_ext, H.ext_ext, H.ext_next, H.ext_ldNk_0, H.ext_ldNk, H.ext_ldk_0, H.ext_ldk, H.ext_stk_0, H.ext_stk, ok, ldB_cells, ldNB_cells, stB_cells, V.one, V.cells, List.length_cons, List.length_nil, List.length_append, List.length_singleton, Nat.zero_add, Nat.add_zero, Nat.reduceAdd, Nat.reduceLeDiff, Nat.reduceLT, Nat.reduceMul, Nat.reduceSub, Int.reduceEq, Int.reduceLT, Int.reduceLE, if_true, if_false, or_self, or_false, false_or, or_true, true_or, Nat.zero_lt_one, Nat.lt_add_one, Nat.zero_lt_succ, Nat.add_assoc, decide_true, decide_false, List.getElem?_cons_zero, List.getElem?_cons_succ, List.cons_append, List.nil_append, List.append_assoc, List.drop_zero, List.drop_succ_cons, List.take_succ_cons, List.take_zero, List.set_cons_zero, List.set_cons_succ, splice, List.all_cons, List.all_nil, Bool.and_true, Bool.not_true, Bool.not_false, Bool.or_false, Option.bind_some, Option.map_some, Option.join_some, ckB_some, V.beq, V.beqs, Nat.beq_refl, BEq.rfl, Bool.and_self, fill, opd, boxc, finV, resAllV, resOfV, result, eqV, aggCells, eqOffs, eqCell, asI_int, asB_bool, ptrAt_ptr, reduceCtorEq, W_call, hR, hS, hx.len, hl]
  exact e

/-- Of a config that isn't right, or other words, there is none. -/
theorem shadeGrays_none {s a c hd g st : Int} {h : H} (ok : h.ok) {x : V} {ws : List Int} (hx : RowIs h.get x ws) (hn : cfgR s a c hd g st = false ∨ (ws.length : Int) ≠ totT s a c hd) :
    ∃ L, C 89 [cfgV s a c hd g st, x] h = some (.int .i64 0, h.ext L) := by
  refine ⟨[(some (Blk.cells [.int .i64 s, .int .i64 a, .int .i64 c, .int .i64 hd, .int .i64 g, .int .i64 st] .rw))], call_open (af := F.shade_Grays) (by kernel_rfl) rfl ?_⟩
  have hR := planRight_spec s a c hd g st
  cases hr : cfgR s a c hd g st with
  | false =>
    rw [hr] at hR
    unfold cfgV at hR ⊢
    rw [S.shade_Grays_eq]
    simp only [S.shade_Grays, H.new_ext, H.ext_ext, H.ext_next, H.ext_ldNk_0, H.ext_ldNk, H.ext_ldk_0, H.ext_ldk, H.ext_stk_0, H.ext_stk, ok, ldB_cells, ldNB_cells, stB_cells, V.one, V.cells, List.length_cons, List.length_nil, List.length_append, List.length_singleton, Nat.zero_add, Nat.add_zero, Nat.reduceAdd, Nat.reduceLeDiff, Nat.reduceLT, Nat.reduceMul, Nat.reduceSub, Int.reduceEq, Int.reduceLT, Int.reduceLE, if_true, if_false, or_self, or_false, false_or, or_true, true_or, Nat.zero_lt_one, Nat.lt_add_one, Nat.zero_lt_succ, Nat.add_assoc, decide_true, decide_false, List.getElem?_cons_zero, List.getElem?_cons_succ, List.cons_append, List.nil_append, List.append_assoc, List.drop_zero, List.drop_succ_cons, List.take_succ_cons, List.take_zero, List.set_cons_zero, List.set_cons_succ, splice, List.all_cons, List.all_nil, Bool.and_true, Bool.not_true, Bool.not_false, Bool.or_false, Option.bind_some, Option.map_some, Option.join_some, ckB_some, V.beq, V.beqs, Nat.beq_refl, BEq.rfl, Bool.and_self, fill, opd, boxc, finV, resAllV, resOfV, result, eqV, aggCells, eqOffs, eqCell, asI_int, asB_bool, ptrAt_ptr, reduceCtorEq, W_call, hR]
  | true =>
    rw [hr] at hR hn
    have hn : ¬ ((ws.length : Nat) : Int) = totT s a c hd := by
      rcases hn with q | q
      · cases q
      · exact q
    have hS := size_spec hr
    unfold cfgV at hR hS ⊢
    rw [S.shade_Grays_eq]
    simp only [S.shade_Grays, H.new_ext, H.ext_ext, H.ext_next, H.ext_ldNk_0, H.ext_ldNk, H.ext_ldk_0, H.ext_ldk, H.ext_stk_0, H.ext_stk, ok, ldB_cells, ldNB_cells, stB_cells, V.one, V.cells, List.length_cons, List.length_nil, List.length_append, List.length_singleton, Nat.zero_add, Nat.add_zero, Nat.reduceAdd, Nat.reduceLeDiff, Nat.reduceLT, Nat.reduceMul, Nat.reduceSub, Int.reduceEq, Int.reduceLT, Int.reduceLE, if_true, if_false, or_self, or_false, false_or, or_true, true_or, Nat.zero_lt_one, Nat.lt_add_one, Nat.zero_lt_succ, Nat.add_assoc, decide_true, decide_false, List.getElem?_cons_zero, List.getElem?_cons_succ, List.cons_append, List.nil_append, List.append_assoc, List.drop_zero, List.drop_succ_cons, List.take_succ_cons, List.take_zero, List.set_cons_zero, List.set_cons_succ, splice, List.all_cons, List.all_nil, Bool.and_true, Bool.not_true, Bool.not_false, Bool.or_false, Option.bind_some, Option.map_some, Option.join_some, ckB_some, V.beq, V.beqs, Nat.beq_refl, BEq.rfl, Bool.and_self, fill, opd, boxc, finV, resAllV, resOfV, result, eqV, aggCells, eqOffs, eqCell, asI_int, asB_bool, ptrAt_ptr, reduceCtorEq, W_call, hR, hS, hx.len, decide_eq_false hn]
end Wm
