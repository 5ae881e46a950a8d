/- op.Value and op.Call, of my machine. -/
import Derived.Test.YtmhebljpahogaaaWmProgOpRaw
import Derived.Test.YtmhebljpahogaaaWmHeap
import Derived.Test.YtmhebljpahogaaaWmOpen
import Derived.Test.YtmhebljpahogaaaWmPOp0
import Derived.Test.YtmhebljpahogaaaWmPModelNewB
import Derived.Test.YtmhebljpahogaaaWmPOld
import Derived.Test.YtmhebljpahogaaaWmTxtOpRawA
set_option linter.all false
namespace Wm

def RowIs (g : Nat → Option Blk) (u : V) (x : List Int) : Prop := x.length ≤ 9223372036854775807 ∧ ((u = .nilsl ∧ x = []) ∨ ∃ b c k, u = .sl b 0 x.length c ∧ g b = some (.cells (x.map (.int .u64)) k))
def ToldIs (g : Nat → Option Blk) (v : V) (T : List (List Int)) : Prop := T.length ≤ 9223372036854775807 ∧ ((v = .nilsl ∧ T = []) ∨ ∃ b cs c k, v = .sl b 0 T.length c ∧ g b = some (.cells cs k) ∧ cs.length = T.length ∧ ∀ (i : Nat) (x : List Int), T[i]? = some x → ∃ u, cs[i]? = some u ∧ RowIs g u x)

theorem RowIs.mono {g g' : Nat → Option Blk} (hg : GExt g g') {u : V} {x : List Int} (h : RowIs g u x) : RowIs g' u x := by
  obtain ⟨h0, h⟩ := h
  refine ⟨h0, ?_⟩
  rcases h with h | ⟨b, c, k, h1, h2⟩
  · exact .inl h
  · exact .inr ⟨b, c, k, h1, hg _ _ h2⟩
theorem ToldIs.mono {g g' : Nat → Option Blk} (hg : GExt g g') {v : V} {T : List (List Int)} (h : ToldIs g v T) : ToldIs g' v T := by
  obtain ⟨h0, h⟩ := h
  refine ⟨h0, ?_⟩
  rcases h with h | ⟨b, cs, c, k, h1, h2, h3, h4⟩
  · exact .inl h
  · refine .inr ⟨b, cs, c, k, h1, hg _ _ h2, h3, fun i x hx => ?_⟩
    obtain ⟨u, a, c⟩ := h4 i x hx
    exact ⟨u, a, c.mono hg⟩

theorem RowIs.len {g : Nat → Option Blk} {u : V} {x : List Int} (h : RowIs g u x) : lenSl u = some x.length := by
  rcases h with ⟨_, ⟨rfl, rfl⟩ | ⟨b, c, k, rfl, _⟩⟩ <;> rfl
theorem ToldIs.len {g : Nat → Option Blk} {u : V} {x : List (List Int)} (h : ToldIs g u x) : lenSl u = some x.length := by
  rcases h with ⟨_, ⟨rfl, rfl⟩ | ⟨b, _, c, k, rfl, _⟩⟩ <;> rfl

theorem indexAV_ok {b o n e : Nat} {c : Cap} {i : Int} {k : Go.IntKind} (h0 : 0 ≤ i) (h1 : i < n) : indexAV e (.sl b o n c) (.int k i) = some (.ptr b (o + i.toNat * e)) := by
  simp only [indexAV, indexOf, asIAny, h0, h1, decide_true, Bool.and_self]

theorem RowIs.at {g : H} {u : V} {x : List Int} (h : RowIs g.get u x) {i : Int} (h0 : 0 ≤ i) (h1 : i < x.length) : ∃ p, indexAV 1 u (.int .i64 i) = some p ∧ g.ld1 p = some (.int .u64 ((x[i.toNat]?).getD 0)) := by
  rcases h with ⟨_, ⟨rfl, rfl⟩ | ⟨b, c, k, rfl, h2⟩⟩
  · simp at h1; omega
  · refine ⟨_, indexAV_ok h0 h1, ?_⟩
    have hl : i.toNat < x.length := by omega
    rw [Nat.zero_add, Nat.mul_one]
    exact ld1_get h2 (by simp [hl]) rfl
theorem ToldIs.at {g : H} {u : V} {T : List (List Int)} (h : ToldIs g.get u T) {i : Int} (h0 : 0 ≤ i) (h1 : i < T.length) : ∃ p r, indexAV 1 u (.int .i64 i) = some p ∧ g.ld1 p = some r ∧ RowIs g.get r ((T[i.toNat]?).getD []) := by
  rcases h with ⟨_, ⟨rfl, rfl⟩ | ⟨b, cs, c, k, rfl, h2, h3, h4⟩⟩
  · simp at h1; omega
  · have hl : i.toNat < T.length := by omega
    obtain ⟨r, hr, hR⟩ := h4 i.toNat _ (List.getElem?_eq_getElem hl)
    have hone : r.one = true := by rcases hR with ⟨_, ⟨rfl, _⟩ | ⟨b, c, k, rfl, _⟩⟩ <;> rfl
    refine ⟨_, r, indexAV_ok h0 h1, ?_, by simpa [hl] using hR⟩
    rw [Nat.zero_add, Nat.mul_one]
    exact ld1_get h2 hr hone

/-- What an argument is. -/
def valT (T : List (List Int)) (of cl raw self : Int) : Int :=
  if of < 0 then raw else
    let who := if cl < 0 then self else cl
    if who < 0 ∨ (T.length : Int) ≤ who then 0 else
      let row := (T[who.toNat]?).getD []
      if (row.length : Int) ≤ of then 0 else (row[of.toNat]?).getD 0

theorem GExt.ext {h : H} (ok : h.ok) (l : List (Option Blk)) : GExt h.get (h.ext l).get := fun b x hb => by rw [H.ext_old (ok.lt hb)]; exact hb

theorem opValue_spec {h : H} (ok : h.ok) {v : V} {T : List (List Int)} (ht : ToldIs h.get v T) (of cl raw self : Int) :
    C 78 [.agg [.int .i64 of, .int .i64 cl, .int .u64 raw], .int .i64 self, v] h = some (.int .u64 (valT T of cl raw self), h.ext [some (.cells [.int .i64 of, .int .i64 cl, .int .u64 raw] .rw)]) := by
  refine call_open (af := F.op_Value) (by kernel_rfl) rfl ?_
  rw [S.op_Value_eq]
  have hl := ht.len
  have ht' := ht.mono (GExt.ext ok [some (.cells [.int .i64 of, .int .i64 cl, .int .u64 raw] .rw)])
  simp only [S.op_Value, H.new_ext, H.ext_ldk_0, ok, List.length_singleton, Nat.zero_lt_one, List.getElem?_cons_zero, ldB_cells, V.one, List.getElem?_cons_succ, Option.bind_some, asI_int, hl, Option.join_some]
  by_cases h1 : of < 0
  · simp [h1, valT]
  · simp only [h1, decide_false]
    generalize (h.ext [some (.cells [.int .i64 of, .int .i64 cl, .int .u64 raw] .rw)]) = g at ht' ⊢
    by_cases h2 : cl < 0
    · simp only [h2, decide_true]
      by_cases h3 : self < 0
      · simp [valT, h1, h2, h3]
      · by_cases h4 : (T.length : Int) ≤ self
        · simp [valT, h1, h2, h3, h4]
        · obtain ⟨p, r, e1, e2, hr⟩ := ht'.at (i := self) (by omega) (by omega)
          simp only [h3, h4, decide_false, e1, Option.bind_some, e2, hr.len]
          by_cases h5 : ((((T[self.toNat]?).getD []).length : Nat) : Int) ≤ of
          · simp [valT, h1, h2, h3, h4, h5]
          · obtain ⟨q, e3, e4⟩ := hr.at (i := of) (by omega) (by omega)
            simp [valT, h1, h2, h3, h4, h5, e3, e4]
    · simp only [h2, decide_false]
      · by_cases h4 : (T.length : Int) ≤ cl
        · simp [valT, h1, h2, h4]
        · obtain ⟨p, r, e1, e2, hr⟩ := ht'.at (i := cl) (by omega) (by omega)
          simp only [h4, decide_false, e1, Option.bind_some, e2, hr.len]
          by_cases h5 : ((((T[cl.toNat]?).getD []).length : Nat) : Int) ≤ of
          · simp [valT, h1, h2, h4, h5]
          · obtain ⟨q, e3, e4⟩ := hr.at (i := of) (by omega) (by omega)
            simp [valT, h1, h2, h4, h5, e3, e4]

theorem value16_spec {h : H} (ok : h.ok) {v : V} {T : List (List Int)} (ht : ToldIs h.get v T) (of cl raw self : Int) :
    C 79 [.agg [.int .i64 of, .int .i64 cl, .int .u64 raw], .int .i64 self, v] h = some (.int .u64 (valT T of cl raw self), h.ext [some (.cells [.int .i64 of, .int .i64 cl, .int .u64 raw] .rw)]) := by
  refine call_open (af := F.withylaw16_value) (by kernel_rfl) rfl ?_
  rw [S.withylaw16_value_eq]
  have hl := ht.len
  have ht' := ht.mono (GExt.ext ok [some (.cells [.int .i64 of, .int .i64 cl, .int .u64 raw] .rw)])
  simp only [S.withylaw16_value, H.new_ext, H.ext_ldk_0, ok, List.length_singleton, Nat.zero_lt_one, List.getElem?_cons_zero, ldB_cells, V.one, List.getElem?_cons_succ, Option.bind_some, asI_int, Option.join_some]
  by_cases h1 : of < 0
  · simp [h1, valT]
  · simp only [h1, decide_false]
    have hld : ∀ o, (h.ext [some (.cells [.int .i64 of, .int .i64 cl, .int .u64 raw] .rw)]).ld1 (.ptr h.next o) = ldB (some (.cells [.int .i64 of, .int .i64 cl, .int .u64 raw] .rw)) o := fun o => H.ext_ld1_0 (by simp)
    generalize (h.ext [some (.cells [.int .i64 of, .int .i64 cl, .int .u64 raw] .rw)]) = g at ht' hld ⊢
    suffices hh : Ev ((W.loop (S.withylaw16_value_c1_B W) (S.withylaw16_value_c1_E (.int .i64 self) v (.ptr h.next 0) (.int .i64 0)) g).bind fun p3 => S.withylaw16_value_K2 W p3.1 p3.2.1 p3.2.2) (fun r => r = (.int .u64 (valT T of cl raw self), g)) by
      obtain ⟨r, hr, rfl⟩ := hh
      exact hr
    refine loop_ev (fun k : Nat => S.withylaw16_value_c1_E (.int .i64 self) v (.ptr h.next 0) (.int .i64 k)) (fun k g' => g' = g ∧ k ≤ T.length ∧ ∀ who : Int, who = (if cl < 0 then self else cl) → 0 ≤ who → who < k → ((((T[who.toNat]?).getD []).length : Nat) : Int) ≤ of)
      (fun k _ => T.length - k) (fun r => r = (.exit 0, S.withylaw16_value_c1_O .dead, g) ∧ valT T of cl raw self = 0 ∨ r = (.ret, S.withylaw16_value_c1_O (.int .u64 (valT T of cl raw self)), g)) 0 rfl ⟨rfl, Nat.zero_le _, fun who _ h0 h1 => by simp at h1; omega⟩ ?_ ?_
    · rintro k g' ⟨rfl, hk, hp⟩
      rw [S.withylaw16_value_c1_eq]
      simp only [S.withylaw16_value_c1_S, hl, Option.bind_some, ptrAt_ptr, hld, ldB_cells, V.one, List.getElem?_cons_succ, List.getElem?_cons_zero, asI_int, Nat.zero_add]
      have hb := ht'.1
      -- the row is gone through
      have inner : ∀ r, (∃ p, indexAV 1 v (.int .i64 k) = some p ∧ g'.ld1 p = some r) → RowIs g'.get r ((T[k]?).getD []) → Ev ((W.loop (S.withylaw16_value_c3_B W) (S.withylaw16_value_c3_E (.int .i64 self) v (.ptr h.next 0) (.int .i64 k) (.int .i64 0)) g').bind fun p4 => S.withylaw16_value_K6 W p4.1 p4.2.1 p4.2.2) fun r =>
          (r = (.normal, S.withylaw16_value_c1_E (.int .i64 self) v (.ptr h.next 0) (.int .i64 (wr .i64 (k + 1))), g') ∧ ((((T[k]?).getD []).length : Nat) : Int) ≤ of) ∨
          (r = (.ret, S.withylaw16_value_c1_O (.int .u64 (((((T[k]?).getD [])[of.toNat]?).getD 0))), g') ∧ of < ((((T[k]?).getD []).length : Nat) : Int)) := by
        rintro r ⟨p, e1, e2⟩ hr
        generalize (T[k]?).getD [] = row at hr ⊢
        have hrb := hr.1
        refine loop_ev (fun i : Nat => S.withylaw16_value_c3_E (.int .i64 self) v (.ptr h.next 0) (.int .i64 k) (.int .i64 i)) (fun i g2 => g2 = g' ∧ i ≤ row.length ∧ (i : Int) ≤ of) (fun i _ => row.length - i)
          (fun r => (r = (.exit 2, S.withylaw16_value_c3_O (.int .i64 self) v (.ptr h.next 0) .dead (.int .i64 k), g') ∧ (row.length : Int) ≤ of) ∨ (r = (.ret, S.withylaw16_value_c3_O (.int .i64 self) v (.ptr h.next 0) (.int .u64 ((row[of.toNat]?).getD 0)) (.int .i64 k), g') ∧ of < row.length)) 0 rfl ⟨rfl, by omega, by omega⟩ ?_ ?_
        · rintro i g2 ⟨rfl, hi, hio⟩
          rw [S.withylaw16_value_c3_eq]
          simp only [S.withylaw16_value_c3_S, e1, Option.bind_some, e2, hr.len, ptrAt_ptr, hld, ldB_cells, V.one, List.getElem?_cons_succ, List.getElem?_cons_zero, asI_int, Nat.zero_add]
          by_cases q1 : (i : Int) < row.length
          · simp only [q1, decide_true]
            by_cases q2 : (i : Int) = of
            · simp only [decide_eq_true q2]
              obtain ⟨p2, e3, e4⟩ := hr.at (i := (i : Int)) (by omega) (by omega)
              simp only [e3, Option.bind_some, e4]
              exact Ev.some (Or.inr ⟨by simp, Or.inr ⟨by rw [q2], by omega⟩⟩)
            · simp only [q2, decide_false]
              rw [wr64 (by omega) (by omega)]
              exact Ev.some (.inl ⟨i + 1, rfl, rfl, ⟨rfl, by omega, by omega⟩, by omega⟩)
          · simp only [q1, decide_false]
            exact Ev.some (.inr ⟨by simp, .inl ⟨rfl, by omega⟩⟩)
        · rintro r (⟨rfl, he⟩ | ⟨rfl, he⟩)
          · simp only
            rw [S.withylaw16_value_c3_e2_eq]
            exact Ev.some (.inl ⟨rfl, he⟩)
          · simp only
            rw [S.withylaw16_value_c3_r_eq]
            exact Ev.some (.inr ⟨rfl, he⟩)
      by_cases hkT : (k : Int) < T.length
      · simp only [hkT, decide_true]
        obtain ⟨p, r, e1, e2, hr⟩ := ht'.at (i := k) (by omega) hkT
        rw [Int.toNat_natCast] at hr
        have hin := inner r ⟨p, e1, e2⟩ hr
        -- how the row ends
        have fin : (if cl < 0 then self else cl) = (k : Int) → ∀ r, ((r = (.normal, S.withylaw16_value_c1_E (.int .i64 self) v (.ptr h.next 0) (.int .i64 (wr .i64 (k + 1))), g') ∧ ((((T[k]?).getD []).length : Nat) : Int) ≤ of) ∨
          (r = (.ret, S.withylaw16_value_c1_O (.int .u64 (((((T[k]?).getD [])[of.toNat]?).getD 0))), g') ∧ of < ((((T[k]?).getD []).length : Nat) : Int))) → ((∃ a' : Nat, r.1 = AX.normal ∧ r.2.1 = S.withylaw16_value_c1_E (.int .i64 self) v (.ptr h.next 0) (.int .i64 a') ∧ (r.2.2 = g' ∧ a' ≤ T.length ∧ ∀ who : Int, who = (if cl < 0 then self else cl) → 0 ≤ who → who < a' → ((((T[who.toNat]?).getD []).length : Nat) : Int) ≤ of) ∧ T.length - a' < T.length - k) ∨ r.1 ≠ AX.normal ∧ (r = (.exit 0, S.withylaw16_value_c1_O .dead, g') ∧ valT T of cl raw self = 0 ∨ r = (.ret, S.withylaw16_value_c1_O (.int .u64 (valT T of cl raw self)), g'))) := by
          rintro hw r (⟨rfl, he⟩ | ⟨rfl, he⟩)
          · rw [wr64 (by omega) (by omega)]
            refine .inl ⟨k + 1, rfl, rfl, ⟨rfl, by omega, fun who e h0 h2 => ?_⟩, by omega⟩
            rw [hw] at e; subst e
            rw [Int.toNat_natCast]; exact he
          · refine .inr ⟨by simp, .inr ?_⟩
            have : valT T of cl raw self = (((((T[k]?).getD [])[of.toNat]?).getD 0)) := by
              simp only [valT, if_neg h1, hw, Int.toNat_natCast]
              rw [if_neg (by omega), if_neg (by omega)]
            rw [this]
        have nxt : (if cl < 0 then self else cl) ≠ (k : Int) → Ev (some (AX.normal, S.withylaw16_value_c1_E (.int .i64 self) v (.ptr h.next 0) (.int .i64 (wr .i64 (k + 1))), g')) fun r => ((∃ a' : Nat, r.1 = AX.normal ∧ r.2.1 = S.withylaw16_value_c1_E (.int .i64 self) v (.ptr h.next 0) (.int .i64 a') ∧ (r.2.2 = g' ∧ a' ≤ T.length ∧ ∀ who : Int, who = (if cl < 0 then self else cl) → 0 ≤ who → who < a' → ((((T[who.toNat]?).getD []).length : Nat) : Int) ≤ of) ∧ T.length - a' < T.length - k) ∨ r.1 ≠ AX.normal ∧ (r = (.exit 0, S.withylaw16_value_c1_O .dead, g') ∧ valT T of cl raw self = 0 ∨ r = (.ret, S.withylaw16_value_c1_O (.int .u64 (valT T of cl raw self)), g'))) := by
          intro hw
          rw [wr64 (by omega) (by omega)]
          exact Ev.some (.inl ⟨k + 1, rfl, rfl, ⟨rfl, by omega, fun who e h0 h2 => hp who e h0 (by omega)⟩, by omega⟩)
        by_cases q1 : (k : Int) = cl
        · simp only [decide_eq_true q1]
          exact hin.mono (fin (by rw [if_neg (by omega)]; exact q1.symm))
        · simp only [decide_eq_false q1]
          by_cases q2 : cl < 0
          · simp only [decide_eq_true q2]
            by_cases q3 : (k : Int) = self
            · simp only [decide_eq_true q3]
              exact hin.mono (fin (by rw [if_pos q2]; exact q3.symm))
            · simp only [decide_eq_false q3]
              exact nxt (by rw [if_pos q2]; exact fun e => q3 e.symm)
          · simp only [decide_eq_false q2]
            exact nxt (by rw [if_neg q2]; exact fun e => q1 e.symm)
      · simp only [hkT, decide_false]
        refine Ev.some (.inr ⟨by simp, .inl ⟨rfl, ?_⟩⟩)
        have hp' := hp _ rfl
        simp only [valT, if_neg h1]
        generalize (if cl < 0 then self else cl) = who at hp' ⊢
        by_cases q : who < 0 ∨ (T.length : Int) ≤ who
        · rw [if_pos q]
        · rw [if_neg q, if_pos (hp' (by omega) (by omega))]
    · rintro r (⟨rfl, he⟩ | rfl)
      · simp only
        rw [S.withylaw16_value_c1_e0_eq]
        exact Ev.some (by rw [he])
      · simp only
        rw [S.withylaw16_value_c1_r_eq]
        exact Ev.some rfl
theorem opNone_spec (k : Int) (h : H) : C 260 [.int .i64 k] h = some (.bool (decide (k < 1 ∨ 10 < k)), h) := by
  refine call_closed (af := F.op_none) (by kernel_rfl) rfl (by rfl) (by rfl) h ?_
  rw [S.op_none_eq]
  simp only [S.op_none]
  by_cases h1 : k < 1
  · simp only [h1, decide_true, true_or]; exact Ev.some rfl
  · simp only [h1, decide_false, false_or]; exact Ev.some rfl

/-- What an operation comes to. -/
def callT (kind n vh vx vy : Int) : List V :=
  if kind < 1 ∨ 10 < kind then [.int .i64 kind, .int .i64 0, .int .u64 0, .int .u64 0, .int .u64 0]
  else [.int .i64 kind, .int .i64 n, .int .u64 (if kind = 1 then 0 else vh), .int .u64 (if kind = 3 ∨ kind = 5 ∨ kind = 7 then vx else 0), .int .u64 (if kind = 5 then vy else 0)]

theorem opCall_spec {h : H} (ok : h.ok) {v : V} {T : List (List Int)} (ht : ToldIs h.get v T) (kind n ho hc hr xo xc xr yo yc yr self : Int) :
    ∃ l, C 81 [.agg [.int .i64 kind, .int .i64 n, .int .i64 ho, .int .i64 hc, .int .u64 hr, .int .i64 xo, .int .i64 xc, .int .u64 xr, .int .i64 yo, .int .i64 yc, .int .u64 yr], .int .i64 self, v] h = some (.agg (callT kind n (valT T ho hc hr self) (valT T xo xc xr self) (valT T yo yc yr self)), h.ext l) := by
  have ht' : ∀ l, ToldIs (h.ext l).get v T := fun l => ht.mono (GExt.ext ok _)
  suffices hh : ∃ l, evalF W F.op_Call [.agg [.int .i64 kind, .int .i64 n, .int .i64 ho, .int .i64 hc, .int .u64 hr, .int .i64 xo, .int .i64 xc, .int .u64 xr, .int .i64 yo, .int .i64 yc, .int .u64 yr], .int .i64 self, v] h = some (.agg (callT kind n (valT T ho hc hr self) (valT T xo xc xr self) (valT T yo yc yr self)), h.ext l) by
    obtain ⟨l, hh⟩ := hh
    exact ⟨l, call_open (af := F.op_Call) (by kernel_rfl) rfl hh⟩
  rw [S.op_Call_eq]
  simp only [S.op_Call, H.new_ext, H.ext_ext, H.ext_next, H.ext_ldNk_0, H.ext_ldNk, H.ext_ldk_0, H.ext_ldk, H.ext_stk_0, H.ext_stk, ok, ldB_cells, ldNB_cells, stB_cells, V.one, V.cells, List.length_cons, List.length_nil, List.length_append, List.length_singleton, Nat.zero_add, Nat.add_zero, Nat.reduceAdd, Nat.reduceLeDiff, Nat.reduceLT, Nat.reduceMul, Nat.reduceSub, Int.reduceEq, Int.reduceLT, Int.reduceLE, if_true, if_false, or_self, or_false, false_or, or_true, true_or, Nat.zero_lt_one, Nat.lt_add_one, Nat.zero_lt_succ, Nat.add_assoc, decide_true, decide_false, List.getElem?_cons_zero, List.getElem?_cons_succ, List.cons_append, List.nil_append, List.append_assoc, List.drop_zero, List.drop_succ_cons, List.take_succ_cons, List.take_zero, List.set_cons_zero, List.set_cons_succ, splice, List.all_cons, List.all_nil, Bool.and_true, Bool.not_true, Bool.not_false, Bool.or_false, Option.bind_some, Option.map_some, Option.join_some, ckB_some, V.beq, V.beqs, Nat.beq_refl, BEq.rfl, Bool.and_self, fill, opd, boxc, finV, resAllV, resOfV, result, eqV, aggCells, eqOffs, eqCell, asI_int, asB_bool, ptrAt_ptr, reduceCtorEq, W_call, opNone_spec]
  by_cases h1 : kind < 1 ∨ 10 < kind
  · simp only [h1, H.new_ext, H.ext_ext, H.ext_next, H.ext_ldNk_0, H.ext_ldNk, H.ext_ldk_0, H.ext_ldk, H.ext_stk_0, H.ext_stk, ok, ldB_cells, ldNB_cells, stB_cells, V.one, V.cells, List.length_cons, List.length_nil, List.length_append, List.length_singleton, Nat.zero_add, Nat.add_zero, Nat.reduceAdd, Nat.reduceLeDiff, Nat.reduceLT, Nat.reduceMul, Nat.reduceSub, Int.reduceEq, Int.reduceLT, Int.reduceLE, if_true, if_false, or_self, or_false, false_or, or_true, true_or, Nat.zero_lt_one, Nat.lt_add_one, Nat.zero_lt_succ, Nat.add_assoc, decide_true, decide_false, List.getElem?_cons_zero, List.getElem?_cons_succ, List.cons_append, List.nil_append, List.append_assoc, List.drop_zero, List.drop_succ_cons, List.take_succ_cons, List.take_zero, List.set_cons_zero, List.set_cons_succ, splice, List.all_cons, List.all_nil, Bool.and_true, Bool.not_true, Bool.not_false, Bool.or_false, Option.bind_some, Option.map_some, Option.join_some, ckB_some, V.beq, V.beqs, Nat.beq_refl, BEq.rfl, Bool.and_self, fill, opd, boxc, finV, resAllV, resOfV, result, eqV, aggCells, eqOffs, eqCell, asI_int, asB_bool, ptrAt_ptr, reduceCtorEq, callT]
    exact ⟨_, rfl⟩
  · simp only [h1, H.new_ext, H.ext_ext, H.ext_next, H.ext_ldNk_0, H.ext_ldNk, H.ext_ldk_0, H.ext_ldk, H.ext_stk_0, H.ext_stk, ok, ldB_cells, ldNB_cells, stB_cells, V.one, V.cells, List.length_cons, List.length_nil, List.length_append, List.length_singleton, Nat.zero_add, Nat.add_zero, Nat.reduceAdd, Nat.reduceLeDiff, Nat.reduceLT, Nat.reduceMul, Nat.reduceSub, Int.reduceEq, Int.reduceLT, Int.reduceLE, if_true, if_false, or_self, or_false, false_or, or_true, true_or, Nat.zero_lt_one, Nat.lt_add_one, Nat.zero_lt_succ, Nat.add_assoc, decide_true, decide_false, List.getElem?_cons_zero, List.getElem?_cons_succ, List.cons_append, List.nil_append, List.append_assoc, List.drop_zero, List.drop_succ_cons, List.take_succ_cons, List.take_zero, List.set_cons_zero, List.set_cons_succ, splice, List.all_cons, List.all_nil, Bool.and_true, Bool.not_true, Bool.not_false, Bool.or_false, Option.bind_some, Option.map_some, Option.join_some, ckB_some, V.beq, V.beqs, Nat.beq_refl, BEq.rfl, Bool.and_self, fill, opd, boxc, finV, resAllV, resOfV, result, eqV, aggCells, eqOffs, eqCell, asI_int, asB_bool, ptrAt_ptr, reduceCtorEq, callT]
    by_cases h2 : kind = 1
    · subst h2
      simp only [H.new_ext, H.ext_ext, H.ext_next, H.ext_ldNk_0, H.ext_ldNk, H.ext_ldk_0, H.ext_ldk, H.ext_stk_0, H.ext_stk, ok, ldB_cells, ldNB_cells, stB_cells, V.one, V.cells, List.length_cons, List.length_nil, List.length_append, List.length_singleton, Nat.zero_add, Nat.add_zero, Nat.reduceAdd, Nat.reduceLeDiff, Nat.reduceLT, Nat.reduceMul, Nat.reduceSub, Int.reduceEq, Int.reduceLT, Int.reduceLE, if_true, if_false, or_self, or_false, false_or, or_true, true_or, Nat.zero_lt_one, Nat.lt_add_one, Nat.zero_lt_succ, Nat.add_assoc, decide_true, decide_false, List.getElem?_cons_zero, List.getElem?_cons_succ, List.cons_append, List.nil_append, List.append_assoc, List.drop_zero, List.drop_succ_cons, List.take_succ_cons, List.take_zero, List.set_cons_zero, List.set_cons_succ, splice, List.all_cons, List.all_nil, Bool.and_true, Bool.not_true, Bool.not_false, Bool.or_false, Option.bind_some, Option.map_some, Option.join_some, ckB_some, V.beq, V.beqs, Nat.beq_refl, BEq.rfl, Bool.and_self, fill, opd, boxc, finV, resAllV, resOfV, result, eqV, aggCells, eqOffs, eqCell, asI_int, asB_bool, ptrAt_ptr, reduceCtorEq]
      exact ⟨_, rfl⟩
    · simp only [h2, H.new_ext, H.ext_ext, H.ext_next, H.ext_ldNk_0, H.ext_ldNk, H.ext_ldk_0, H.ext_ldk, H.ext_stk_0, H.ext_stk, ok, ldB_cells, ldNB_cells, stB_cells, V.one, V.cells, List.length_cons, List.length_nil, List.length_append, List.length_singleton, Nat.zero_add, Nat.add_zero, Nat.reduceAdd, Nat.reduceLeDiff, Nat.reduceLT, Nat.reduceMul, Nat.reduceSub, Int.reduceEq, Int.reduceLT, Int.reduceLE, if_true, if_false, or_self, or_false, false_or, or_true, true_or, Nat.zero_lt_one, Nat.lt_add_one, Nat.zero_lt_succ, Nat.add_assoc, decide_true, decide_false, List.getElem?_cons_zero, List.getElem?_cons_succ, List.cons_append, List.nil_append, List.append_assoc, List.drop_zero, List.drop_succ_cons, List.take_succ_cons, List.take_zero, List.set_cons_zero, List.set_cons_succ, splice, List.all_cons, List.all_nil, Bool.and_true, Bool.not_true, Bool.not_false, Bool.or_false, Option.bind_some, Option.map_some, Option.join_some, ckB_some, V.beq, V.beqs, Nat.beq_refl, BEq.rfl, Bool.and_self, fill, opd, boxc, finV, resAllV, resOfV, result, eqV, aggCells, eqOffs, eqCell, asI_int, asB_bool, ptrAt_ptr, reduceCtorEq, opValue_spec (ok.ext _) (ht' _)]
      by_cases h3 : kind = 5
      · subst h3
        simp only [H.new_ext, H.ext_ext, H.ext_next, H.ext_ldNk_0, H.ext_ldNk, H.ext_ldk_0, H.ext_ldk, H.ext_stk_0, H.ext_stk, ok, ldB_cells, ldNB_cells, stB_cells, V.one, V.cells, List.length_cons, List.length_nil, List.length_append, List.length_singleton, Nat.zero_add, Nat.add_zero, Nat.reduceAdd, Nat.reduceLeDiff, Nat.reduceLT, Nat.reduceMul, Nat.reduceSub, Int.reduceEq, Int.reduceLT, Int.reduceLE, if_true, if_false, or_self, or_false, false_or, or_true, true_or, Nat.zero_lt_one, Nat.lt_add_one, Nat.zero_lt_succ, Nat.add_assoc, decide_true, decide_false, List.getElem?_cons_zero, List.getElem?_cons_succ, List.cons_append, List.nil_append, List.append_assoc, List.drop_zero, List.drop_succ_cons, List.take_succ_cons, List.take_zero, List.set_cons_zero, List.set_cons_succ, splice, List.all_cons, List.all_nil, Bool.and_true, Bool.not_true, Bool.not_false, Bool.or_false, Option.bind_some, Option.map_some, Option.join_some, ckB_some, V.beq, V.beqs, Nat.beq_refl, BEq.rfl, Bool.and_self, fill, opd, boxc, finV, resAllV, resOfV, result, eqV, aggCells, eqOffs, eqCell, asI_int, asB_bool, ptrAt_ptr, reduceCtorEq, opValue_spec (ok.ext _) (ht' _)]
        exact ⟨_, rfl⟩
      · by_cases h4 : kind = 3
        · subst h4
          simp only [H.new_ext, H.ext_ext, H.ext_next, H.ext_ldNk_0, H.ext_ldNk, H.ext_ldk_0, H.ext_ldk, H.ext_stk_0, H.ext_stk, ok, ldB_cells, ldNB_cells, stB_cells, V.one, V.cells, List.length_cons, List.length_nil, List.length_append, List.length_singleton, Nat.zero_add, Nat.add_zero, Nat.reduceAdd, Nat.reduceLeDiff, Nat.reduceLT, Nat.reduceMul, Nat.reduceSub, Int.reduceEq, Int.reduceLT, Int.reduceLE, if_true, if_false, or_self, or_false, false_or, or_true, true_or, Nat.zero_lt_one, Nat.lt_add_one, Nat.zero_lt_succ, Nat.add_assoc, decide_true, decide_false, List.getElem?_cons_zero, List.getElem?_cons_succ, List.cons_append, List.nil_append, List.append_assoc, List.drop_zero, List.drop_succ_cons, List.take_succ_cons, List.take_zero, List.set_cons_zero, List.set_cons_succ, splice, List.all_cons, List.all_nil, Bool.and_true, Bool.not_true, Bool.not_false, Bool.or_false, Option.bind_some, Option.map_some, Option.join_some, ckB_some, V.beq, V.beqs, Nat.beq_refl, BEq.rfl, Bool.and_self, fill, opd, boxc, finV, resAllV, resOfV, result, eqV, aggCells, eqOffs, eqCell, asI_int, asB_bool, ptrAt_ptr, reduceCtorEq, opValue_spec (ok.ext _) (ht' _)]
          exact ⟨_, rfl⟩
        · by_cases h5 : kind = 7
          · subst h5
            simp only [H.new_ext, H.ext_ext, H.ext_next, H.ext_ldNk_0, H.ext_ldNk, H.ext_ldk_0, H.ext_ldk, H.ext_stk_0, H.ext_stk, ok, ldB_cells, ldNB_cells, stB_cells, V.one, V.cells, List.length_cons, List.length_nil, List.length_append, List.length_singleton, Nat.zero_add, Nat.add_zero, Nat.reduceAdd, Nat.reduceLeDiff, Nat.reduceLT, Nat.reduceMul, Nat.reduceSub, Int.reduceEq, Int.reduceLT, Int.reduceLE, if_true, if_false, or_self, or_false, false_or, or_true, true_or, Nat.zero_lt_one, Nat.lt_add_one, Nat.zero_lt_succ, Nat.add_assoc, decide_true, decide_false, List.getElem?_cons_zero, List.getElem?_cons_succ, List.cons_append, List.nil_append, List.append_assoc, List.drop_zero, List.drop_succ_cons, List.take_succ_cons, List.take_zero, List.set_cons_zero, List.set_cons_succ, splice, List.all_cons, List.all_nil, Bool.and_true, Bool.not_true, Bool.not_false, Bool.or_false, Option.bind_some, Option.map_some, Option.join_some, ckB_some, V.beq, V.beqs, Nat.beq_refl, BEq.rfl, Bool.and_self, fill, opd, boxc, finV, resAllV, resOfV, result, eqV, aggCells, eqOffs, eqCell, asI_int, asB_bool, ptrAt_ptr, reduceCtorEq, opValue_spec (ok.ext _) (ht' _)]
            exact ⟨_, rfl⟩
          · simp only [h3, h4, h5, H.new_ext, H.ext_ext, H.ext_next, H.ext_ldNk_0, H.ext_ldNk, H.ext_ldk_0, H.ext_ldk, H.ext_stk_0, H.ext_stk, ok, ldB_cells, ldNB_cells, stB_cells, V.one, V.cells, List.length_cons, List.length_nil, List.length_append, List.length_singleton, Nat.zero_add, Nat.add_zero, Nat.reduceAdd, Nat.reduceLeDiff, Nat.reduceLT, Nat.reduceMul, Nat.reduceSub, Int.reduceEq, Int.reduceLT, Int.reduceLE, if_true, if_false, or_self, or_false, false_or, or_true, true_or, Nat.zero_lt_one, Nat.lt_add_one, Nat.zero_lt_succ, Nat.add_assoc, decide_true, decide_false, List.getElem?_cons_zero, List.getElem?_cons_succ, List.cons_append, List.nil_append, List.append_assoc, List.drop_zero, List.drop_succ_cons, List.take_succ_cons, List.take_zero, List.set_cons_zero, List.set_cons_succ, splice, List.all_cons, List.all_nil, Bool.and_true, Bool.not_true, Bool.not_false, Bool.or_false, Option.bind_some, Option.map_some, Option.join_some, ckB_some, V.beq, V.beqs, Nat.beq_refl, BEq.rfl, Bool.and_self, fill, opd, boxc, finV, resAllV, resOfV, result, eqV, aggCells, eqOffs, eqCell, asI_int, asB_bool, ptrAt_ptr, reduceCtorEq, opValue_spec (ok.ext _) (ht' _)]
            exact ⟨_, rfl⟩
end Wm
