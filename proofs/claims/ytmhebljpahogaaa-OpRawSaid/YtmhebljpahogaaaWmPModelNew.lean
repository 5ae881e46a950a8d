/- A new model. -/
import Derived.Test.YtmhebljpahogaaaWmPPlan
import Derived.Test.YtmhebljpahogaaaWmPModelNewA
import Derived.Test.YtmhebljpahogaaaWmPModelNewB
import Derived.Test.YtmhebljpahogaaaWmTxtOpRawA
set_option linter.all false
namespace Wm

/-- What was there is as it was. -/
def Old (h h' : H) : Prop := h.next ≤ h'.next ∧ ∀ b, b < h.next → h'.get b = h.get b
theorem Old.refl (h : H) : Old h h := ⟨Nat.le_refl _, fun _ _ => rfl⟩
theorem Old.trans {a b c : H} (x : Old a b) (y : Old b c) : Old a c := ⟨Nat.le_trans x.1 y.1, fun n hn => (y.2 n (Nat.lt_of_lt_of_le hn x.1)).trans (x.2 n hn)⟩
theorem Old.new {h h' : H} (o : Old h h') (x : Blk) : Old h (h'.new x) := ⟨by have := o.1; simp only [H.next_new]; omega, fun b hb => by rw [get_new_ne (by have := o.1; omega)]; exact o.2 b hb⟩
theorem Old.put {h h' : H} (o : Old h h') {c : Nat} (hc : h.next ≤ c) (x : Option Blk) : Old h (h'.put c x) := ⟨o.1, fun b hb => by rw [get_put_ne (by omega)]; exact o.2 b hb⟩

theorem modelNew_ev (s a c hd g st : Int) (h : H) : Ev (C 96 [cfgV s a c hd g st] h) fun r => Old h r.2 ∧ match cfgR s a c hd g st with
    | true => ∃ b, r.1 = .ptr b 0
    | false => r.1 = .nilp := by
  refine call_ev (af := F.model_New) (by kernel_rfl) rfl ?_
  unfold cfgV
  rw [S.model_New_eq]
  simp only [S.model_New]
  rw [ldN_new (by simp)]
  simp only [Option.bind_some, List.drop_zero, List.take, W_call]
  have hR := planRight_spec s a c hd g st (h.new (.cells [.int .i64 s, .int .i64 a, .int .i64 c, .int .i64 hd, .int .i64 g, .int .i64 st] .rw))
  unfold cfgV at hR
  rw [hR]
  simp only [Option.bind_some, asB]
  cases hr : cfgR s a c hd g st with
  | false => exact Ev.some ⟨(Old.refl h).new _, rfl⟩
  | true =>
    obtain ⟨_, _, hc, _⟩ := cfgR_iff.mp hr
    simp only [Bool.not_true]
    rw [ldN_new (by simp)]
    simp only [Option.bind_some, List.drop_zero, List.take, ld1_new, List.getElem?_cons_succ, List.getElem?_cons_zero, V.one, asI, decide_true]
    rw [mkSl_ok (e := 2) (b := 32) (z := [V.int .u64 0, .nilsl]) (by omega) (by omega) (by omega) (by omega) (by rfl) (by omega)]
    simp only [Option.bind_some, H.next_new]
    refine Ev.bindE (r := [.int .i64 s, .int .i64 a, .int .i64 c, .int .i64 hd, .int .i64 g, .int .i64 st, .nilsl, .nilsl, .sl (h.next + 1) 0 c.toNat (.ex c.toNat), .map (h.next + 1 + 1)]) (by rfl) ?_
    refine Ev.bindE (r := [.int .i64 s, .int .i64 a, .int .i64 c, .int .i64 hd, .int .i64 g, .int .i64 st, .nilsl, .nilsl, .sl (h.next + 1) 0 c.toNat (.ex c.toNat), .map (h.next + 1 + 1)]) (by rfl) ?_
    rw [ld1_new_ne (by simp only [H.next_new]; omega), ld1_new_ne (by simp only [H.next_new]; omega), ld1_new_ne (by simp only [H.next_new]; omega), ld1_new]
    simp only [List.getElem?_cons_succ, List.getElem?_cons_zero, V.one, Option.bind_some]
    refine loop_ev (α := Nat) (fun i => S.model_New_c1_E (.ptr (h.next + 1 + 1 + 1) 0) (.int .i64 c) (.int .i64 i))
      (fun i g' => Old h g' ∧ i ≤ c.toNat ∧ h.next + 4 ≤ g'.next ∧ ∃ x w z, g'.get (h.next + 3) = some (.cells [.int .i64 s, .int .i64 a, .int .i64 c, .int .i64 hd, .int .i64 g, .int .i64 st, .nilsl, x, w, z] .rw) ∧
        ((i = 0 ∧ x = .nilsl) ∨ ∃ b l, x = .sl b 0 i (.op 1) ∧ h.next ≤ b ∧ b ≠ h.next + 3 ∧ b < g'.next ∧ g'.get b = some (.cells l (.gr 1)) ∧ l.length = i ∧ l.all V.one = true))
      (fun i _ => c.toNat - i) (fun r => Old h r.2.2 ∧ r.1 = .exit 0 ∧ r.2.1 = S.model_New_c1_O (.ptr (h.next + 3) 0)) 0 rfl ?_ ?_ ?_
    · refine ⟨((((Old.refl h).new _).new _).new _).new _, Nat.zero_le _, by simp only [H.next_new]; omega, .nilsl, .sl (h.next + 1) 0 c.toNat (.ex c.toNat), .map (h.next + 1 + 1), ?_, .inl ⟨rfl, rfl⟩⟩
      rw [show h.next + 3 = (((h.new (.cells [.int .i64 s, .int .i64 a, .int .i64 c, .int .i64 hd, .int .i64 g, .int .i64 st] .rw)).new (.cells (repl [.int .u64 0, .nilsl] c.toNat) .rw)).new (.map [])).next from rfl, get_new_self]
    · rintro i g' ⟨hold0, hi, hn, x, w, z, hb, hx⟩
      rw [S.model_New_c1_eq]
      simp only [S.model_New_c1_S]
      by_cases hic : (i : Int) < c
      · simp only [hic, decide_true]
        have hx1 : x.one = true := by rcases hx with ⟨_, rfl⟩ | ⟨b, l, rfl, _⟩ <;> rfl
        have h13 : (h.next + 1 + 1 + 1) = h.next + 3 := rfl
        refine Ev.bindE (r := .ptr (h.next + 3) 0) rfl ?_
        refine Ev.bindE (r := .ptr (h.next + 3) (0 + 7)) rfl ?_
        refine Ev.bindE (r := x) (ld1_get hb (by rfl) hx1) ?_
        -- the one more
        have happ : ∃ b' g2, Old h g2 ∧ ((g'.new (.map [])).new (.cells [.map g'.next] .rw)).append 1 8 x (.sl (g'.new (.map [])).next 0 1 (.ex 1)) = some (.sl b' 0 (i + 1) (.op 1), g2) ∧ b' = g'.next + 2 ∧ g2.next = g'.next + 3 ∧
            g2.get (h.next + 3) = some (.cells [.int .i64 s, .int .i64 a, .int .i64 c, .int .i64 hd, .int .i64 g, .int .i64 st, .nilsl, x, w, z] .rw) ∧
            ∃ l, g2.get b' = some (.cells l (.gr 1)) ∧ l.length = i + 1 ∧ l.all V.one = true := by
          have hnew : ((g'.new (.map [])).new (.cells [.map g'.next] .rw)).slc 1 (.sl (g'.new (.map [])).next 0 1 (.ex 1)) = some [.map g'.next] := slc_get (get_new_self _ _) (by simp)
          have hold : ∀ b' y, b' < g'.next → (((g'.new (.map [])).new (.cells [.map g'.next] .rw)).get b' = some y ↔ g'.get b' = some y) := by
            intro b' y hb'
            rw [get_new_ne (by simp only [H.next_new]; omega), get_new_ne (by omega)]
          rcases hx with ⟨rfl, rfl⟩ | ⟨b, l, rfl, hb0, hbm, hbn, hbl, hll, hlo⟩
          · refine ⟨_, _, ((hold0.new _).new _).new _, append_nil rfl hnew (by omega) (by rfl) (by omega) (by omega) (by omega), by simp [H.next_new], by simp [H.next_new], ?_, _, get_new_self _ _, by rfl, by rfl⟩
            rw [get_new_ne (by simp only [H.next_new]; omega)]
            exact (hold _ _ (by omega)).mpr hb
          · have hgb := (hold b _ hbn).mpr hbl
            refine ⟨_, _, (((hold0.new _).new _).put hb0 _).new _, append_op rfl hnew (slc_get hgb (by simp [hll])) hgb (by rfl) (by omega) (by omega) (by omega), by simp [H.next_new], by simp [H.next_new], ?_, _, get_new_self _ _, by simp [hll], ?_⟩
            · rw [get_new_ne (by simp only [H.next_new, H.next_put]; omega), get_put_ne (by omega)]
              exact (hold _ _ (by omega)).mpr hb
            · simp only [List.drop_zero, List.all_append, Bool.and_eq_true]
              refine ⟨?_, by rfl⟩
              rw [List.take_of_length_le (by omega)]; exact hlo
        obtain ⟨b', g2, hold2, ha, hb', hn2, hg2, l, hl2, hl3, hl4⟩ := happ
        refine Ev.bindE ha ?_
        refine Ev.bindE (r := .ptr (h.next + 3) 0) rfl ?_
        refine Ev.bindE (r := .ptr (h.next + 3) (0 + 7)) rfl ?_
        refine Ev.bindE (st1_get hg2 (by intro e; cases e) (by rfl) (by simp)) ?_
        refine Ev.some (.inl ⟨i + 1, rfl, ?_, ?_, by omega⟩)
        · have : wr .i64 ((i : Int) + 1) = ((i + 1 : Nat) : Int) := by simp only [wr]; omega
          rw [this]
        · refine ⟨hold2.put (by omega) _, by omega, by simp only [H.next_put]; omega, .sl b' 0 (i + 1) (.op 1), w, z, ?_,   .inr ⟨b', l, rfl, by omega, by omega, by simp only [H.next_put]; omega, ?_, hl3, hl4⟩⟩
          · rw [get_put_self]; rfl
          · rw [get_put_ne (by omega)]; exact hl2
      · simp only [hic, decide_false]
        exact Ev.some (.inr ⟨by simp, hold0, rfl, rfl⟩)
    · rintro ⟨x, e, h'⟩ ⟨ho, hx, he⟩
      simp only at hx he ho
      subst hx; subst he
      rw [S.model_New_c1_e0_eq]
      exact Ev.some ⟨ho, _, rfl⟩
end Wm
