/- The law ShadeGrays, of my machine. -/
import Derived.Test.YtmhebljpahogaaaWmPMemory
import Derived.Test.YtmhebljpahogaaaWmAw09
import Derived.Test.YtmhebljpahogaaaWmTxtShadeGraysA
set_option linter.all false
namespace Wm

theorem u64_wf {m : Int} (h : (Go.Lit.int .u64 m).wf = true) : U64 m := by
  simp [Go.Lit.wf, Go.IntKind.min, Go.IntKind.max, Go.IntKind.signed, Go.IntKind.bits] at h
  exact ⟨by omega, by omega⟩

theorem row_u64 {g : Nat → Option Blk} {v : V} (h : CellOk g (.sl 8 [.int .u64]) v) : ∃ x, RowIs g v x ∧ ∀ w ∈ x, U64 w := by
  unfold CellOk at h
  rcases h with rfl | ⟨b, n, cs, rfl, ⟨hn, _⟩, hb, hl, hc⟩
  · exact ⟨[], ⟨by simp, .inl ⟨rfl, rfl⟩⟩, by simp⟩
  · have : ∀ i, i < n → ∃ m, cs[i]? = some (.int .u64 m) ∧ U64 m := by
      intro i hi
      have := hc i hi
      simp only [List.length_singleton, Nat.mul_one] at this
      obtain ⟨u, us, h1, h2, _⟩ := this
      unfold CellOk at h2
      obtain ⟨m, rfl, hm⟩ := h2
      refine ⟨m, ?_, u64_wf hm⟩
      have h3 := congrArg (fun l => l[0]?) h1
      simpa using h3
    obtain ⟨x, hx, hxs⟩ := list_of n this
    have hcs : cs = x.map (.int .u64) := by
      apply List.ext_getElem?
      intro i
      by_cases hi : i < n
      · have h1 : x[i]? = some (x[i]'(by omega)) := List.getElem?_eq_getElem (by omega)
        rw [(hxs i _ h1).1, List.getElem?_map, h1]; rfl
      · simp only [List.length_singleton, Nat.mul_one] at hl
        rw [List.getElem?_eq_none (by omega), List.getElem?_eq_none (by simp; omega)]
    refine ⟨x, ⟨by have : n ≤ 9223372036854775807 := hn; omega, .inr ⟨b, .op 1, .ro, ?_, ?_⟩⟩, fun w hw => ?_⟩
    · rw [hx]; rfl
    · rw [hb, hcs]
    · obtain ⟨i, hi⟩ := List.mem_iff_getElem?.mp hw
      exact (hxs i w hi).2

theorem cmp_part {s a c hd g st : Int} {hh : H} (ok : hh.ok) {fp : Nat} (hf : hh.get fp = (some (Blk.cells [.int .i64 s, .int .i64 a, .int .i64 c, .int .i64 hd, .int .i64 g, .int .i64 st] .rw))) {x : V} {ws : List Int} (hx : RowIs hh.get x ws) (hu : ∀ w ∈ ws, U64 w) : Ev (S.withylaw09_ShadeGrays_c2_e0 W (.ptr fp 0) x hh) fun r => r.1 = .bool true := by
  have hfp := ok.lt hf
  have hR := ref06Right_spec s a c hd g st
  have hd0 := ldN_get (n := 6) hf (o := 0) (by simp)
  have hdL : ∀ L, (hh.ext L).ldN 6 (.ptr fp 0) = some (.agg [.int .i64 s, .int .i64 a, .int .i64 c, .int .i64 hd, .int .i64 g, .int .i64 st]) := fun L => by
    rw [ldN_get (n := 6) (o := 0) (cs := [.int .i64 s, .int .i64 a, .int .i64 c, .int .i64 hd, .int .i64 g, .int .i64 st]) (k := .rw) (by rw [H.ext_old hfp]; exact hf) (by simp)]; rfl
  have hd1 : hh.ldN 6 (.ptr fp 0) = some (.agg [.int .i64 s, .int .i64 a, .int .i64 c, .int .i64 hd, .int .i64 g, .int .i64 st]) := hd0
  cases hr : cfgR s a c hd g st with
  | false =>
    rw [hr] at hR
    obtain ⟨L, hG⟩ := shadeGrays_none (s := s) (a := a) (c := c) (hd := hd) (g := g) (st := st) ok hx (.inl hr)
    unfold cfgV at hR hG
    simp only [S.withylaw09_ShadeGrays_c2_e0, hd1, W_call, hR, hG, Option.bind_some, asI_int, decide_true, awake09]
    exact Ev.some rfl
  | true =>
    rw [hr] at hR
    obtain ⟨xw, Lw, hW, hA⟩ := words_spec hr ok
    have hlw := hA.len
    have htot := sizeW_tot hr
    have hxl := hx.mono (GExt.ext ok ((some (Blk.cells [.int .i64 s, .int .i64 a, .int .i64 c, .int .i64 hd, .int .i64 g, .int .i64 st] .rw)) :: Lw))
    have ok1 := ok.ext ((some (Blk.cells [.int .i64 s, .int .i64 a, .int .i64 c, .int .i64 hd, .int .i64 g, .int .i64 st] .rw)) :: Lw)
    by_cases hq : ((ws.length : Nat) : Int) = ((sizeW s.toNat (if a < 3 then 3 else a).toNat c.toNat hd.toNat : Nat) : Int)
    · obtain ⟨L1, h1⟩ := grays_spec hr ok1 hxl hu (hq.trans htot)
      have hx2 := hxl.mono (GExt.ext ok1 L1)
      obtain ⟨L2, h2⟩ := shadeGrays_spec hr (ok1.ext L1) hx2 hu (hq.trans htot)
      have hd2 : ((hh.ext ((some (Blk.cells [.int .i64 s, .int .i64 a, .int .i64 c, .int .i64 hd, .int .i64 g, .int .i64 st] .rw)) :: Lw)).ext L1).ldN 6 (.ptr fp 0) = some (.agg [.int .i64 s, .int .i64 a, .int .i64 c, .int .i64 hd, .int .i64 g, .int .i64 st]) := by rw [H.ext_ext]; exact hdL _
      unfold cfgV at hR hW h1 h2
      simp only [S.withylaw09_ShadeGrays_c2_e0, hd1, W_call, hR, hx.len, hW, hlw, decide_eq_true hq, hdL, h1, hd2, h2, Option.bind_some, asI_int, decide_true, awake09]
      exact Ev.some rfl
    · obtain ⟨L1, h1⟩ := shadeGrays_none (s := s) (a := a) (c := c) (hd := hd) (g := g) (st := st) ok1 hxl (.inr (fun e => hq (e.trans htot.symm)))
      unfold cfgV at hR hW h1
      simp only [S.withylaw09_ShadeGrays_c2_e0, hd1, W_call, hR, hx.len, hW, hlw, decide_eq_false hq, hdL, h1, Option.bind_some, asI_int, decide_true, awake09]
      exact Ev.some rfl

theorem ar_idx {m i : Nat} (h : i < m) (hm : m ≤ 100000) : wr .i64 (wr .i64 (((m : Nat) : Int) - 1) - (i : Int)) = ((m - 1 - i : Nat) : Int) := by
  rw [wr64 (n := ((m : Nat) : Int) - 1) (by omega) (by omega), wr64 (by omega) (by omega)]; omega
theorem ar_w1' {m i : Nat} (h : i < m) (hm : m ≤ 100000) : wr .i64 ((i : Int) + 1) = ((i + 1 : Nat) : Int) := by rw [wr64 (by omega) (by omega)]; rfl
theorem ar_in {m i : Nat} (h : i < m) : m - 1 - i < m := by omega
theorem tot_small {s a c hd g st : Int} (hr : cfgR s a c hd g st = true) {m : Nat} (h : (m : Int) = totT s a c hd) : m ≤ 100000 := by
  obtain ⟨⟨s1, s2⟩, ⟨a1, a2⟩, ⟨c1, c2⟩, ⟨d1, d2⟩, _⟩ := cfgR_iff.mp hr
  have hroom : 5 ≤ roomT a ∧ roomT a ≤ 10 := by unfold roomT; omega
  obtain ⟨q1, q2⟩ := mul_bd (show 0 ≤ s by omega) s2 (show 0 ≤ roomT a by omega) hroom.2
  obtain ⟨q3, q4⟩ := mul_bd (show 0 ≤ c by omega) c2 (show 0 ≤ 1 + hd + 2 by omega) (show 1 + hd + 2 ≤ 19 by omega)
  unfold totT slotsT at h
  omega

def shShadeGrays : List (Bool × List CSh) := [(true, [.int .i64, .int .i64, .int .i64, .int .i64, .int .i64, .int .i64]), (false, [.sl 8 [.int .u64]]), (false, [.bool])]

theorem lawShadeGrays (h : H) (us : List V) (ok : h.ok) (ha : ArgsOk h.get shShadeGrays us) : Ev (C 8 us h) fun r => r.1 = .bool true := by
  obtain ⟨_, _, rfl, ⟨_, rfl, _, _, rfl, ⟨s, rfl, _⟩, _, _, rfl, ⟨a, rfl, _⟩, _, _, rfl, ⟨c, rfl, _⟩, _, _, rfl, ⟨hd, rfl, _⟩, _, _, rfl, ⟨g, rfl, _⟩, _, _, rfl, ⟨st, rfl, _⟩, rfl⟩, x, _, rfl, ⟨_, _, hv, hxw, rfl⟩, _, _, rfl, ⟨_, _, hb, ⟨fit, rfl⟩, rfl⟩, rfl⟩ := ha
  cases hv; cases hb
  obtain ⟨ws, hx, hu⟩ := row_u64 hxw
  refine call_ev (af := F.withylaw09_ShadeGrays) (by kernel_rfl) rfl ?_
  rw [S.withylaw09_ShadeGrays_eq]
  have hR := ref06Right_spec s a c hd g st
  have hd6 : (h.ext [(some (Blk.cells [.int .i64 s, .int .i64 a, .int .i64 c, .int .i64 hd, .int .i64 g, .int .i64 st] .rw))]).ldN 6 (.ptr h.next 0) = some (.agg [.int .i64 s, .int .i64 a, .int .i64 c, .int .i64 hd, .int .i64 g, .int .i64 st]) := by rw [H.ext_ldNk_0 ok]; rfl
  have hf : (h.ext [(some (Blk.cells [.int .i64 s, .int .i64 a, .int .i64 c, .int .i64 hd, .int .i64 g, .int .i64 st] .rw))]).get h.next = (some (Blk.cells [.int .i64 s, .int .i64 a, .int .i64 c, .int .i64 hd, .int .i64 g, .int .i64 st] .rw)) := by
    have := H.ext_get' (h := h) (l := [(some (Blk.cells [.int .i64 s, .int .i64 a, .int .i64 c, .int .i64 hd, .int .i64 g, .int .i64 st] .rw))]) (i := 0) ok
    rw [Nat.add_zero] at this
    rw [this]; rfl
  have hx1 := hx.mono (GExt.ext ok [(some (Blk.cells [.int .i64 s, .int .i64 a, .int .i64 c, .int .i64 hd, .int .i64 g, .int .i64 st] .rw))])
  have ok1 := ok.ext [(some (Blk.cells [.int .i64 s, .int .i64 a, .int .i64 c, .int .i64 hd, .int .i64 g, .int .i64 st] .rw))]
  have hcmp := cmp_part ok1 hf hx1 hu
  by_cases h7 : (700 : Int) < ((ws.length : Nat) : Int)
  · simp only [S.withylaw09_ShadeGrays, H.new_ext, hx.len, Option.bind_some, decide_eq_true h7, W_call, awake09]
    exact Ev.some rfl
  · cases fit with
    | false =>
      simp only [S.withylaw09_ShadeGrays, H.new_ext, hx.len, Option.bind_some, decide_eq_false h7]
      simp only [S.withylaw09_ShadeGrays_c2_e0, hx.len, Option.bind_some] at hcmp
      exact hcmp
    | true =>
      cases hr : cfgR s a c hd g st with
      | false =>
        rw [hr] at hR
        unfold cfgV at hR
        simp only [S.withylaw09_ShadeGrays, H.new_ext, hx.len, Option.bind_some, decide_eq_false h7, hd6, W_call, hR]
        simp only [S.withylaw09_ShadeGrays_c2_e0, hd6, W_call, hR, Option.bind_some] at hcmp
        exact hcmp
      | true =>
        rw [hr] at hR
        by_cases h20 : s ≤ 20
        · obtain ⟨g1, b, ws0, hM, old1, okg, hb0, hbn, hgb, htot, hu0⟩ := memory_spec hr ok1
          have hm := tot_small hr htot
          have hnext : h.next < (h.ext [(some (Blk.cells [.int .i64 s, .int .i64 a, .int .i64 c, .int .i64 hd, .int .i64 g, .int .i64 st] .rw))]).next := by rw [H.ext_next]; exact Nat.lt_succ_self _
          have hbne : ∀ q, q < (h.ext [(some (Blk.cells [.int .i64 s, .int .i64 a, .int .i64 c, .int .i64 hd, .int .i64 g, .int .i64 st] .rw))]).next → q ≠ b := fun q hq e => by rw [e] at hq; exact absurd hq (Nat.not_lt.mpr hb0)
          have hfr : ∀ X, (g1.put b X).get h.next = (some (Blk.cells [.int .i64 s, .int .i64 a, .int .i64 c, .int .i64 hd, .int .i64 g, .int .i64 st] .rw)) := fun X => by rw [get_put_ne (hbne _ hnext), old1.2 _ hnext]; exact hf
          have hxr : ∀ X, RowIs (g1.put b X).get x ws := fun X => hx1.mono fun q y hq => by
            have hlt := ok1.lt hq
            rw [get_put_ne (hbne q hlt), old1.2 q hlt]; exact hq
          unfold cfgV at hR hM
          simp only [S.withylaw09_ShadeGrays, H.new_ext, hx.len, Option.bind_some, decide_eq_false h7, hd6, W_call, hR, show (h.ext [(some (Blk.cells [.int .i64 s, .int .i64 a, .int .i64 c, .int .i64 hd, .int .i64 g, .int .i64 st] .rw))]).ld1 (.ptr h.next 0) = some (.int .i64 s) from ldF ok (L := []) rfl rfl, asI_int, decide_eq_true h20, hM]
          refine loop_ev (fun i : Nat => S.withylaw09_ShadeGrays_c2_E x (.ptr h.next 0) (.sl b 0 ws0.length (.ex ws0.length)) (.int .i64 (i : Nat))) (fun i g' => i ≤ ws0.length ∧ g'.ok ∧ g'.get h.next = (some (Blk.cells [.int .i64 s, .int .i64 a, .int .i64 c, .int .i64 hd, .int .i64 g, .int .i64 st] .rw)) ∧ (∀ q, q < (h.ext [(some (Blk.cells [.int .i64 s, .int .i64 a, .int .i64 c, .int .i64 hd, .int .i64 g, .int .i64 st] .rw))]).next → g'.get q = (h.ext [(some (Blk.cells [.int .i64 s, .int .i64 a, .int .i64 c, .int .i64 hd, .int .i64 g, .int .i64 st] .rw))]).get q) ∧ ∃ ws' : List Int, g'.get b = some (.cells (ws'.map (.int .u64)) .rw) ∧ ws'.length = ws0.length ∧ ∀ w ∈ ws', U64 w) (fun i _ => ws0.length - i)
            (fun r => ∃ (ws' : List Int) (g' : H), r = (.exit 0, S.withylaw09_ShadeGrays_c2_O (.ptr h.next 0) (.sl b 0 ws0.length (.ex ws0.length)), g') ∧ g'.ok ∧ g'.get h.next = (some (Blk.cells [.int .i64 s, .int .i64 a, .int .i64 c, .int .i64 hd, .int .i64 g, .int .i64 st] .rw)) ∧ g'.get b = some (.cells (ws'.map (.int .u64)) .rw) ∧ ws'.length = ws0.length ∧ ∀ w ∈ ws', U64 w) 0 rfl ⟨Nat.zero_le _, okg, by rw [old1.2 _ hnext]; exact hf, fun q hq => old1.2 q hq, ws0, hgb, rfl, hu0⟩ ?_ ?_
          · rintro i g' ⟨hi, okg', hfg, hq3, ws', hgb', hl', hu'⟩
            rw [S.withylaw09_ShadeGrays_c2_eq]
            have hl0 : lenSl (.sl b 0 ws0.length (.ex ws0.length)) = some ws0.length := rfl
            have hxg : RowIs g'.get x ws := hx1.mono fun q y hq => by rw [hq3 q (ok1.lt hq)]; exact hq
            by_cases hin : (i : Int) < ((ws.length : Nat) : Int)
            · by_cases him : i < ws0.length
              · have himi : (i : Int) < ((ws0.length : Nat) : Int) := Int.ofNat_lt.mpr him
                obtain ⟨p, e1, e2⟩ := hxg.at (Int.natCast_nonneg i) hin
                have hidx := ar_idx him hm
                have hlt := ar_in him
                have e3 : indexAV 1 (.sl b 0 ws0.length (.ex ws0.length)) (.int .i64 ((ws0.length - 1 - i : Nat) : Int)) = some (.ptr b (ws0.length - 1 - i)) := by rw [indexAV_in (Int.natCast_nonneg _) (Int.ofNat_lt.mpr hlt)]; simp
                have hst := st1_get (v := .int .u64 ((ws[(i : Int).toNat]?).getD 0)) hgb' (by decide) rfl (show ws0.length - 1 - i < (ws'.map (V.int .u64)).length by rw [List.length_map, hl']; exact hlt)
                have hw1 := ar_w1' him hm
                have hU : U64 ((ws[(i : Int).toNat]?).getD 0) := by
                  have hk : (i : Int).toNat < ws.length := by rw [Int.toNat_natCast]; exact Int.ofNat_lt.mp hin
                  rw [List.getElem?_eq_getElem hk]
                  exact hu _ (List.getElem_mem hk)
                simp only [S.withylaw09_ShadeGrays_c2_S, hxg.len, hl0, Option.bind_some, decide_eq_true hin, decide_eq_true himi, e1, e2, hidx, e3, hst, hw1]
                refine Ev.some (Or.inl ⟨i + 1, rfl, rfl, ⟨him, okg'.put (okg'.lt hgb') _, ?_, ?_, ws'.set (ws0.length - 1 - i) ((ws[(i : Int).toNat]?).getD 0), ?_, ?_, ws_set hu' hU⟩, Nat.sub_lt_sub_left him (Nat.lt_succ_self i)⟩)
                · rw [get_put_ne (hbne _ hnext)]; exact hfg
                · intro q hq
                  rw [get_put_ne (hbne q hq)]; exact hq3 q hq
                · rw [get_put_self, List.map_set]
                · rw [List.length_set]; exact hl'
              · have himi : ¬ (i : Int) < ((ws0.length : Nat) : Int) := fun q => him (Int.ofNat_lt.mp q)
                simp only [S.withylaw09_ShadeGrays_c2_S, hxg.len, hl0, Option.bind_some, decide_eq_true hin, decide_eq_false himi]
                refine Ev.some (Or.inr ?_)
                exact ⟨by simp, ws', g', rfl, okg', hfg, hgb', hl', hu'⟩
            · simp only [S.withylaw09_ShadeGrays_c2_S, hxg.len, hl0, Option.bind_some, decide_eq_false hin]
              refine Ev.some (Or.inr ?_)
              exact ⟨by simp, ws', g', rfl, okg', hfg, hgb', hl', hu'⟩
          · rintro r ⟨ws', g', rfl, okg', hfg, hgb', hl', hu'⟩
            simp only
            rw [S.withylaw09_ShadeGrays_c2_e0_eq]
            refine cmp_part okg' hfg (x := .sl b 0 ws0.length (.ex ws0.length)) (ws := ws') ⟨by rw [hl']; exact Nat.le_trans hm (by decide), .inr ⟨b, _, _, by rw [hl'], hgb'⟩⟩ hu'
        · unfold cfgV at hR
          simp only [S.withylaw09_ShadeGrays, H.new_ext, hx.len, Option.bind_some, decide_eq_false h7, hd6, W_call, hR, show (h.ext [(some (Blk.cells [.int .i64 s, .int .i64 a, .int .i64 c, .int .i64 hd, .int .i64 g, .int .i64 st] .rw))]).ld1 (.ptr h.next 0) = some (.int .i64 s) from ldF ok (L := []) rfl rfl, asI_int, decide_eq_false h20]
          simp only [S.withylaw09_ShadeGrays_c2_e0, hd6, W_call, hR, hx.len, Option.bind_some] at hcmp
          exact hcmp
end Wm
