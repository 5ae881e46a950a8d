/- The law OpRaw, of my machine. -/
import Derived.Test.YtmhebljpahogaaaWmLOp
import Derived.Test.YtmhebljpahogaaaWmPModelNewB
import Derived.Test.YtmhebljpahogaaaWmPOld
import Derived.Test.YtmhebljpahogaaaWmTxtOpRawA
set_option linter.all false
namespace Wm

theorem row_of' {g : Nat → Option Blk} {v : V} (h : CellOk g (.sl 8 [.int .u64]) v) : ∃ x, RowIs g v x ∧ x.length * 8 ≤ 140737488351232 := by
  obtain ⟨x, hx⟩ := row_of h
  refine ⟨x, hx, ?_⟩
  unfold CellOk at h
  rcases h with rfl | ⟨b, n, cs, rfl, ⟨_, hn⟩, hb, hl, hc⟩
  · have := hx.len
    simp only [lenSl, Option.some.injEq] at this
    omega
  · have := hx.len
    simp only [lenSl, Option.some.injEq] at this
    omega

theorem told_of' {g : Nat → Option Blk} {v : V} (h : CellOk g (.sl 24 [.sl 8 [.int .u64]]) v) : ∃ T, ToldIs g v T ∧ T.length * 24 ≤ 140737488351232 ∧ ∀ row ∈ T, row.length * 8 ≤ 140737488351232 := by
  unfold CellOk at h
  rcases h with rfl | ⟨b, n, cs, rfl, ⟨hn, hn2⟩, hb, hl, hc⟩
  · exact ⟨[], ⟨by simp, .inl ⟨rfl, rfl⟩⟩, by simp, by simp⟩
  · simp only [List.length_singleton, Nat.mul_one] at hl hc
    have : ∀ i, i < n → ∃ x u, cs[i]? = some u ∧ RowIs g u x ∧ x.length * 8 ≤ 140737488351232 := by
      intro i hi
      obtain ⟨u, us, h1, h2, _⟩ := hc i hi
      obtain ⟨x, hx, hx2⟩ := row_of' h2
      have h3 := congrArg (fun l => l[0]?) h1
      exact ⟨x, u, by simpa using h3, hx, hx2⟩
    obtain ⟨T, hT, hTs⟩ := list_of n this
    refine ⟨T, ⟨by have : n ≤ 9223372036854775807 := hn; omega, .inr ⟨b, cs, .op 1, .ro, ?_, hb, by omega, fun i x hx => ?_⟩⟩, by omega, fun row hrow => ?_⟩
    · rw [hT]; rfl
    · obtain ⟨u, h1, h2, _⟩ := hTs i x hx
      exact ⟨u, h1, h2⟩
    · obtain ⟨i, hi⟩ := List.mem_iff_getElem?.mp hrow
      obtain ⟨_, _, _, h3⟩ := hTs i row hi
      exact h3

theorem append_ex {h : H} {e b bb o len n c : Nat} {x : V} {new old : List V} (hx : lenSl x = some n) (hn : h.slc e x = some new) (ho : h.slc e (.sl bb o len (.ex c)) = some old) (h1 : new.all V.one = true) (h2 : (len + n + (len + n) / 2 + 1000) * b ≤ 281474976710656) (he : 0 < e) (hb : 0 < b) (hc : ¬ len + n ≤ c) :
    h.append e b (.sl bb o len (.ex c)) x = some (.sl h.next 0 (len + n) (.op e), h.new (.cells (old ++ new) (.gr e))) := by
  have h3 : lenSl (.sl bb o len (.ex c)) = some len := rfl
  simp only [H.append, hx, hn, h3, ho, h1, h2, he, hb, decide_true, Bool.and_self, hc, decide_false]

theorem ints_one : ∀ (l : List Int), (l.map (V.int .u64)).all V.one = true
  | [] => rfl
  | _ :: l => by simp [V.one]

/-- A row's copy, and one more. -/
theorem clone_more {g : H} (okg : g.ok) {u : V} {row : List Int} (hu : RowIs g.get u row) (hb : row.length * 8 ≤ 140737488351232) (more : Int) :
    ∃ p4, (g.new (.cells [] .rw)).append 1 8 (.sl g.next 0 0 (.ex 0)) u = some p4 ∧ ∃ b6 g6, (p4.2.new (.cells [.int .u64 more] .rw)).append 1 8 p4.1 (.sl p4.2.next 0 1 (.ex 1)) = some (.sl b6 0 (row.length + 1) (.op 1), g6) ∧ Old g g6 ∧ g6.ok ∧ g.next ≤ b6 ∧ b6 < g6.next ∧
      g6.get b6 = some (.cells ((row ++ [more]).map (.int .u64)) (.gr 1)) := by
  have ok1 : (g.new (.cells [] .rw)).ok := okg.new _
  have hu1 : (g.new (.cells [] .rw)).slc 1 u = some (row.map (.int .u64)) := by
    rcases hu with ⟨_, ⟨rfl, rfl⟩ | ⟨b, c, k, rfl, h2⟩⟩
    · rfl
    · rw [slc_get (by rw [get_new_ne (Nat.ne_of_lt (okg.lt h2))]; exact h2) (by simp)]
      rw [Nat.mul_one, List.drop_zero, List.take_of_length_le (by simp)]
  have hold : (g.new (.cells [] .rw)).slc 1 (.sl g.next 0 0 (.ex 0)) = some [] := by
    rw [slc_get (get_new_self _ _) (by simp)]; rfl
  have hmore : ∀ q : H, (q.new (.cells [.int .u64 more] .rw)).slc 1 (.sl q.next 0 1 (.ex 1)) = some [.int .u64 more] := fun q => by
    rw [slc_get (get_new_self _ _) (by simp)]; rfl
  cases hr : row with
  | nil =>
    subst hr
    have e1 : (g.new (.cells [] .rw)).append 1 8 (.sl g.next 0 0 (.ex 0)) u = some (.sl g.next 0 0 (.ex 0), (g.new (.cells [] .rw)).put g.next (some (.cells [] .rw))) := by
      have h3 : lenSl (.sl g.next 0 0 (.ex 0)) = some 0 := rfl
      have h4 : (g.new (.cells [] .rw)).stc g.next (0 + 0 * 1) [] = some ((g.new (.cells [] .rw)).put g.next (some (.cells [] .rw))) := by
        rw [stc_get (get_new_self _ _) (by decide) rfl (by simp)]; rfl
      simp only [H.append, hu.len, hu1, h3, hold, List.length_nil, List.map_nil, List.all_nil, Nat.add_zero, Nat.zero_div, Nat.zero_add, Nat.reduceMul, Nat.reduceLeDiff, decide_true, Bool.and_self, Nat.le_refl, h4, Nat.zero_lt_one, Nat.reduceLT, Nat.zero_mul]
    refine ⟨_, e1, _, _, append_ex rfl (hmore _) (o := 0) (old := []) (by
      rw [slc_get (cs := []) (k := .rw) ?_ (by simp)]
      · rfl
      · rw [get_new_ne (by simp [H.next_put, H.next_new]), get_put_self]) rfl (by simp) (by simp) (by simp) (by simp), ?_, ?_, ?_, ?_, ?_⟩
    · exact ((((Old.refl g).new _).put (Nat.le_refl _) _).new _).new _
    · exact (((okg.new _).put (by simp) _).new _).new _
    · simp [H.next_put, H.next_new]; omega
    · simp [H.next_put, H.next_new]
    · rw [get_new_self]; rfl
  | cons r0 rs =>
    rw [← hr]
    have hpos : 0 < row.length := by rw [hr]; simp
    refine ⟨_, append_ex hu.len hu1 hold (ints_one _) (by omega) (by omega) (by omega) (by omega), ?_⟩
    simp only [Nat.zero_add, List.nil_append]
    generalize hg4 : (g.new (.cells [] .rw)).new (.cells (row.map (.int .u64)) (.gr 1)) = g4
    have hn4 : g4.next = g.next + 2 := by rw [← hg4]; simp
    have hb4 : g4.get (g.new (.cells [] .rw)).next = some (.cells (row.map (.int .u64)) (.gr 1)) := by rw [← hg4, get_new_self]
    have ok4 : g4.ok := by rw [← hg4]; exact (okg.new _).new _
    have old4 : Old g g4 := by rw [← hg4]; exact ((Old.refl g).new _).new _
    have hb5 : (g4.new (.cells [.int .u64 more] .rw)).get (g.new (.cells [] .rw)).next = some (.cells (row.map (.int .u64)) (.gr 1)) := by
      rw [get_new_ne (by rw [hn4]; simp)]; exact hb4
    refine ⟨_, _, append_op rfl (hmore g4) (old := row.map (.int .u64)) (by rw [slc_get hb5 (by simp), Nat.mul_one, List.drop_zero, List.take_of_length_le (by simp)]) hb5 rfl (by omega) (by omega) (by omega), ?_, ?_, ?_, ?_, ?_⟩
    · exact ((old4.new _).put (by simp) _).new _
    · exact ((ok4.new _).put (by simp [hn4]) _).new _
    · simp [H.next_put, H.next_new, hn4]; omega
    · simp [H.next_put, H.next_new]
    · have := get_new_self ((g4.new (.cells [.int .u64 more] .rw)).put (g.new (.cells [] .rw)).next none) (.cells (row.map (.int .u64) ++ [.int .u64 more]) (.gr 1))
      rw [H.next_put] at this
      rw [this]; simp

/-- The new list, so far. -/
def XI (b0 : Nat) (T : List (List Int)) (more : Int) (g : H) (x : V) (i : Nat) : Prop :=
  (i = 0 ∧ x = .nilsl) ∨ ∃ b cs, x = .sl b 0 i (.op 1) ∧ b0 ≤ b ∧ b < g.next ∧ g.get b = some (.cells cs (.gr 1)) ∧ cs.length = i ∧ cs.all V.one = true ∧
    ∀ (j : Nat) (row : List Int), j < i → T[j]? = some row → ∃ b', cs[j]? = some (.sl b' 0 (row.length + 1) (.op 1)) ∧ b' ≠ b ∧ b' < g.next ∧ g.get b' = some (.cells ((row ++ [more]).map (.int .u64)) (.gr 1))

theorem XI.told {b0 : Nat} {T : List (List Int)} {more : Int} {g : H} {x : V} (h : XI b0 T more g x T.length) (hT : T.length ≤ 9223372036854775807) (hr : ∀ row ∈ T, row.length * 8 ≤ 140737488351232) : ToldIs g.get x (T.map (· ++ [more])) := by
  refine ⟨by simpa using hT, ?_⟩
  rcases h with ⟨h1, rfl⟩ | ⟨b, cs, rfl, _, _, hb, hl, _, hj⟩
  · exact .inl ⟨rfl, by rw [List.eq_nil_of_length_eq_zero h1]; rfl⟩
  · refine .inr ⟨b, cs, _, _, by rw [List.length_map], hb, by rw [List.length_map]; exact hl, fun i y hy => ?_⟩
    rw [List.getElem?_map] at hy
    cases hi : T[i]? with
    | none => rw [hi] at hy; cases hy
    | some row =>
      rw [hi] at hy; cases hy
      have hlt : i < T.length := by
        rcases Nat.lt_or_ge i T.length with q | q
        · exact q
        · rw [List.getElem?_eq_none q] at hi; cases hi
      obtain ⟨b', h1, _, _, h3⟩ := hj i row hlt hi
      have h4 := hr row (List.mem_of_getElem? hi)
      exact ⟨_, h1, ⟨by simp; omega, .inr ⟨b', .op 1, _, by simp, h3⟩⟩⟩

/-- Is the argument one that was answered? -/
def Known (T : List (List Int)) (of cl self : Int) : Prop :=
  0 ≤ of ∧ 0 ≤ (if cl < 0 then self else cl) ∧ (if cl < 0 then self else cl) < (T.length : Int) ∧ of < ((((T[(if cl < 0 then self else cl).toNat]?).getD []).length : Nat) : Int)

theorem Known.same {T : List (List Int)} {of cl self : Int} (h : Known T of cl self) (raw more : Int) : valT (T.map (· ++ [more])) of cl raw self = valT T of cl raw self := by
  obtain ⟨h1, h2, h3, h4⟩ := h
  simp only [valT]
  generalize (if cl < 0 then self else cl) = who at h2 h3 h4 ⊢
  have hw : who.toNat < T.length := by omega
  simp only [List.length_map, List.getElem?_map, List.getElem?_eq_getElem hw, Option.map_some, Option.getD_some, List.length_append, List.length_singleton] at h4 ⊢
  rw [if_neg (show ¬ of < 0 by omega), if_neg (show ¬ of < 0 by omega), if_neg (show ¬(who < 0 ∨ (T.length : Int) ≤ who) by omega), if_neg (show ¬(who < 0 ∨ (T.length : Int) ≤ who) by omega), if_neg (by omega), if_neg (by omega)]
  rw [List.getElem?_append_left (by omega)]

theorem ld1_ext {g g' : H} (hg : GExt g.get g'.get) {p u : V} (h : g.ld1 p = some u) : g'.ld1 p = some u := by
  cases p with
  | ptr b o =>
    rw [H.ld1_eq] at h ⊢
    cases hb : g.get b with
    | none => rw [hb] at h; cases h
    | some x => rw [hb] at h; rw [hg b x hb]; exact h
  | _ => simp [H.ld1] at h

theorem outer_append {g0 g g6 : H} {T : List (List Int)} {more : Int} {x w : V} {i b6 : Nat} {row : List Int} (hold0 : Old g0 g6) (hold : Old g g6) (ok6 : g6.ok) (hx : XI g0.next T more g x i) (h0 : g0.next ≤ g.next) (hi : i < T.length) (hT : T.length * 24 ≤ 140737488351232)
    (hw : w = .sl b6 0 (row.length + 1) (.op 1)) (hb6 : g.next ≤ b6) (hb6n : b6 < g6.next) (hg6 : g6.get b6 = some (.cells ((row ++ [more]).map (.int .u64)) (.gr 1))) (hrow : T[i]? = some row) :
    ∃ x' g9, (g6.new (.cells [w] .rw)).append 1 24 x (.sl g6.next 0 1 (.ex 1)) = some (x', g9) ∧ Old g0 g9 ∧ g9.ok ∧ XI g0.next T more g9 x' (i + 1) := by
  have hn0 := hold0.1
  have hn := hold.1
  have hw1 : w.one = true := by subst hw; rfl
  have hnew : (g6.new (.cells [w] .rw)).slc 1 (.sl g6.next 0 1 (.ex 1)) = some [w] := by
    rw [slc_get (get_new_self _ _) (by simp)]; rfl
  rcases hx with ⟨rfl, rfl⟩ | ⟨b, cs, rfl, hb0, hbn, hb, hl, hone, hj⟩
  · refine ⟨_, _, append_nil rfl hnew (by omega) (by simp [hw1]) (by omega) (by omega) (by omega), ((hold0.new _).new _), (ok6.new _).new _, .inr ⟨_, _, rfl, by simp; omega, by simp, get_new_self _ _, rfl, by simp [hw1], fun j r hj hr => ?_⟩⟩
    have : j = 0 := by omega
    subst this
    rw [hrow] at hr; cases hr
    refine ⟨b6, by rw [hw]; rfl, by simp; omega, by simp; omega, ?_⟩
    rw [get_new_ne (by simp; omega), get_new_ne (by omega)]; exact hg6
  · have hb' : (g6.new (.cells [w] .rw)).get b = some (.cells cs (.gr 1)) := by
      rw [get_new_ne (by omega), hold.2 b hbn]; exact hb
    refine ⟨_, _, append_op rfl hnew (old := cs) (by rw [slc_get hb' (by omega)]; simp [← hl]) hb' (by simp [hw1]) (by omega) (by omega) (by omega), ((hold0.new _).put hb0 _).new _, ((ok6.new _).put (by simp; omega) _).new _,
      .inr ⟨_, _, rfl, by simp [H.next_put]; omega, by simp [H.next_put], get_new_self _ _, by simp [hl], by simp [hone, hw1], fun j r hj' hr => ?_⟩⟩
    by_cases hji : j < i
    · obtain ⟨b', k1, k2, k3, k4⟩ := hj j r hji hr
      refine ⟨b', ?_, by simp [H.next_put]; omega, by simp [H.next_put]; omega, ?_⟩
      · rw [List.getElem?_append_left (by omega)]; exact k1
      · rw [get_new_ne (by simp [H.next_put]; omega), get_put_ne k2, get_new_ne (by omega), hold.2 b' k3]; exact k4
    · have : j = i := by omega
      subst this
      rw [hrow] at hr; cases hr
      refine ⟨b6, ?_, by simp [H.next_put]; omega, by simp [H.next_put]; omega, ?_⟩
      · rw [List.getElem?_append_right (by omega), hl, Nat.sub_self, hw]; rfl
      · rw [get_new_ne (by simp [H.next_put]; omega), get_put_ne (by omega), get_new_ne (by omega)]; exact hg6

theorem opRaw_step {g0 : H} (ok0 : g0.ok) {v : V} {T : List (List Int)} (ht : ToldIs g0.get v T) (hT : T.length * 24 ≤ 140737488351232) (hr : ∀ row ∈ T, row.length * 8 ≤ 140737488351232) {fp : Nat} {of cl raw : Int}
    (hf : g0.get fp = some (.cells [.int .i64 of, .int .i64 cl, .int .u64 raw] .rw)) (self more : Int) :
    Ev ((W.loop (S.withylaw16_OpRaw_c1_B W) (S.withylaw16_OpRaw_c1_E (.int .i64 self) v (.int .u64 more) (.ptr fp 0) (.bool true) (.int .u64 (valT T of cl raw self)) .nilsl (.bool false) (.int .i64 0)) g0).bind fun p => S.withylaw16_OpRaw_K2 W p.1 p.2.1 p.2.2) fun r => r.1 = .bool true := by
  have hfp := ok0.lt hf
  refine loop_ev (α := Nat × Bool × V) (fun a => S.withylaw16_OpRaw_c1_E (.int .i64 self) v (.int .u64 more) (.ptr fp 0) (.bool true) (.int .u64 (valT T of cl raw self)) a.2.2 (.bool a.2.1) (.int .i64 a.1))
    (fun a g => Old g0 g ∧ g.ok ∧ a.1 ≤ T.length ∧ (a.2.1 = true → Known T of cl self) ∧ XI g0.next T more g a.2.2 a.1) (fun a _ => T.length - a.1)
    (fun r => ∃ (k : Bool) (x : V) (g : H), r = (.exit 0, S.withylaw16_OpRaw_c1_O (.int .i64 self) (.ptr fp 0) (.bool true) (.int .u64 (valT T of cl raw self)) x (.bool k), g) ∧ Old g0 g ∧ g.ok ∧ (k = true → Known T of cl self) ∧ XI g0.next T more g x T.length)
    (0, false, .nilsl) rfl ⟨Old.refl _, ok0, Nat.zero_le _, (fun q => by cases q), Or.inl ⟨rfl, rfl⟩⟩ ?_ ?_
  · rintro ⟨i, k, x⟩ g ⟨hold, okg, hi, hk, hx⟩
    simp only at hi hk hx ⊢
    rw [S.withylaw16_OpRaw_c1_eq]
    simp only [S.withylaw16_OpRaw_c1_S, ht.len, Option.bind_some]
    by_cases hiT : (i : Int) < T.length
    · simp only [decide_eq_true hiT]
      have htg : ToldIs g.get v T := ht.mono fun b y hb => by rw [hold.2 b (ok0.lt hb)]; exact hb
      obtain ⟨p, u, e1, e2, hu⟩ := htg.at (i := (i : Int)) (by omega) hiT
      rw [Int.toNat_natCast] at hu
      have hiN : i < T.length := by omega
      have hrow : T[i]? = some T[i] := List.getElem?_eq_getElem hiN
      rw [hrow, Option.getD_some] at hu
      have hrb := hr T[i] (List.getElem_mem hiN)
      have e3 : (g.new (.cells [] .rw)).ld1 p = some u := ld1_ext (fun b y hb => by rw [get_new_ne (Nat.ne_of_lt (okg.lt hb))]; exact hb) e2
      obtain ⟨p4, h4, b6, g6, h6, hold6, ok6, hb6, hb6n, hg6⟩ := clone_more okg hu hrb more
      obtain ⟨x', g9, h9, hold9, ok9, hx9⟩ := outer_append (hold.trans hold6) hold6 ok6 hx hold.1 hiN hT (w := .sl b6 0 (T[i].length + 1) (.op 1)) rfl hb6 hb6n hg6 hrow
      have hfill : fill (repl [V.nilsl] 1) [] [(0, 1, .c (.sl b6 0 (T[i].length + 1) (.op 1)))] = some [.sl b6 0 (T[i].length + 1) (.op 1)] := rfl
      simp only [e1, e3, h4, h6, hfill, h9, Option.bind_some]
      have hwr : wr .i64 ((i : Int) + 1) = ((i + 1 : Nat) : Int) := by rw [wr64 (by omega) (by omega)]; omega
      rw [hwr]
      have fin : ∀ k' : Bool, (k' = true → Known T of cl self) → Ev (some (AX.normal, S.withylaw16_OpRaw_c1_E (.int .i64 self) v (.int .u64 more) (.ptr fp 0) (.bool true) (.int .u64 (valT T of cl raw self)) x' (.bool k') (.int .i64 ((i + 1 : Nat) : Int)), g9)) fun r =>
          ((∃ a' : Nat × Bool × V, r.1 = .normal ∧ r.2.1 = S.withylaw16_OpRaw_c1_E (.int .i64 self) v (.int .u64 more) (.ptr fp 0) (.bool true) (.int .u64 (valT T of cl raw self)) a'.2.2 (.bool a'.2.1) (.int .i64 a'.1) ∧ (Old g0 r.2.2 ∧ r.2.2.ok ∧ a'.1 ≤ T.length ∧ (a'.2.1 = true → Known T of cl self) ∧ XI g0.next T more r.2.2 a'.2.2 a'.1) ∧ T.length - a'.1 < T.length - i) ∨
            r.1 ≠ .normal ∧ ∃ (k : Bool) (x : V) (g : H), r = (.exit 0, S.withylaw16_OpRaw_c1_O (.int .i64 self) (.ptr fp 0) (.bool true) (.int .u64 (valT T of cl raw self)) x (.bool k), g) ∧ Old g0 g ∧ g.ok ∧ (k = true → Known T of cl self) ∧ XI g0.next T more g x T.length) := fun k' hk' =>
        Ev.some (.inl ⟨(i + 1, k', x'), rfl, rfl, ⟨hold9, ok9, hiN, hk', hx9⟩, by show T.length - (i + 1) < _; omega⟩)
      cases k with
      | true => exact fin true fun _ => hk rfl
      | false =>
        have hf9 : g9.get fp = some (.cells [.int .i64 of, .int .i64 cl, .int .u64 raw] .rw) := by rw [hold9.2 fp hfp]; exact hf
        have d0 : g9.ld1 (.ptr fp 0) = some (.int .i64 of) := ld1_get hf9 rfl rfl
        have d1 : g9.ld1 (.ptr fp 1) = some (.int .i64 cl) := ld1_get hf9 rfl rfl
        have htg9 : ToldIs g9.get v T := ht.mono fun b y hb => by rw [hold9.2 b (ok0.lt hb)]; exact hb
        obtain ⟨q, u9, e5, e6, hu9⟩ := htg9.at (i := (i : Int)) (by omega) hiT
        rw [Int.toNat_natCast, hrow, Option.getD_some] at hu9
        rw [e1] at e5; cases e5
        simp only [ptrAt_ptr, Nat.zero_add, d0, d1, Option.bind_some, asI_int, e6, hu9.len]
        by_cases q1 : 0 ≤ of
        · simp only [decide_eq_true q1]
          by_cases q2 : of < ((T[i].length : Nat) : Int)
          · simp only [decide_eq_true q2]
            by_cases q3 : (i : Int) = cl
            · simp only [decide_eq_true q3]
              refine fin true fun _ => ⟨q1, ?_⟩
              have hw : (if cl < 0 then self else cl) = (i : Int) := by rw [if_neg (by omega)]; exact q3.symm
              rw [hw, Int.toNat_natCast, hrow, Option.getD_some]
              exact ⟨by omega, hiT, q2⟩
            · simp only [decide_eq_false q3]
              by_cases q4 : cl < 0
              · simp only [decide_eq_true q4]
                refine fin _ fun q5 => ⟨q1, ?_⟩
                have q5 : (i : Int) = self := of_decide_eq_true q5
                have hw : (if cl < 0 then self else cl) = (i : Int) := by rw [if_pos q4]; exact q5.symm
                rw [hw, Int.toNat_natCast, hrow, Option.getD_some]
                exact ⟨by omega, hiT, q2⟩
              · simp only [decide_eq_false q4]
                exact fin false fun q => by cases q
          · simp only [decide_eq_false q2]
            exact fin false fun q => by cases q
        · simp only [decide_eq_false q1]
          exact fin false fun q => by cases q
    · simp only [decide_eq_false hiT]
      refine Ev.some (.inr ⟨by simp, k, x, g, rfl, hold, okg, hk, ?_⟩)
      rw [show T.length = i by omega]; exact hx
  · rintro r ⟨k, x, g, rfl, hold, okg, hk, hx⟩
    simp only
    rw [S.withylaw16_OpRaw_c1_e0_eq]
    have hfg : g.get fp = some (.cells [.int .i64 of, .int .i64 cl, .int .u64 raw] .rw) := by rw [hold.2 fp hfp]; exact hf
    simp only [S.withylaw16_OpRaw_c1_e0]
    cases k with
    | false =>
      simp only [Bool.not_false, W_call, awake16, Option.bind_some]
      exact Ev.some rfl
    | true =>
      have hd := ldN_get (n := 3) hfg (o := 0) (by simp)
      simp only [Bool.not_true, hd, Option.bind_some, List.drop_zero, List.take_succ_cons, List.take_zero, W_call]
      rw [opValue_spec okg (hx.told (by omega) hr), (hk rfl).same]
      simp only [Option.bind_some, asI_int, decide_true, awake16]
      exact Ev.some rfl

def shOpRaw : List (Bool × List CSh) := [(true, [.int .i64, .int .i64, .int .u64]), (false, [.int .i64]), (false, [.sl 24 [.sl 8 [.int .u64]]]), (false, [.int .u64])]

theorem lawOpRaw (h : H) (us : List V) (ok : h.ok) (ha : ArgsOk h.get shOpRaw us) : Ev (C 5 us h) fun r => r.1 = .bool true := by
  obtain ⟨_, _, rfl, ⟨_, rfl, _, _, rfl, ⟨of, rfl, _⟩, _, _, rfl, ⟨cl, rfl, _⟩, _, _, rfl, ⟨raw, rfl, _⟩, rfl⟩, _, _, rfl, ⟨_, _, hs, ⟨self, rfl, _⟩, rfl⟩, v, _, rfl, ⟨_, _, hv, ht, rfl⟩, _, _, rfl, ⟨_, _, hm, ⟨more, rfl, _⟩, rfl⟩, rfl⟩ := ha
  cases hs; cases hv; cases hm
  obtain ⟨T, ht, hT, hrs⟩ := told_of' ht
  refine call_ev (af := F.withylaw16_OpRaw) (by kernel_rfl) rfl ?_
  rw [S.withylaw16_OpRaw_eq]
  have ht' : ∀ l, ToldIs (h.ext l).get v T := fun l => ht.mono (GExt.ext ok _)
  have hn' : ∀ l, ToldIs (h.ext l).get .nilsl [] := fun l => ⟨by simp, .inl ⟨rfl, rfl⟩⟩
  have hV := fun l a b c => opValue_spec (ok.ext l) (ht' l) a b c self
  have hN := fun l a b c => opValue_spec (ok.ext l) (hn' l) a b c self
  have hL := fun l hf => opRaw_step (ok.ext (some (.cells [.int .i64 of, .int .i64 cl, .int .u64 raw] .rw) :: l)) (ht' _) hT hrs (fp := h.next) (of := of) (cl := cl) (raw := raw) hf self more
  have hfr : ∀ l, (h.ext (some (.cells [.int .i64 of, .int .i64 cl, .int .u64 raw] .rw) :: l)).get h.next = some (.cells [.int .i64 of, .int .i64 cl, .int .u64 raw] .rw) := fun l => by
    have := H.ext_get (h := h) (l := some (.cells [.int .i64 of, .int .i64 cl, .int .u64 raw] .rw) :: l) (i := 0) (by simp)
    simpa using this
  by_cases h0 : 0 ≤ of
  · simp only [S.withylaw16_OpRaw, H.new_ext, H.ext_ext, H.ext_next, H.ext_ldNk_0, H.ext_ldNk, H.ext_ldk_0, H.ext_ldk, H.ext_stk_0, H.ext_stk, ok, ldB_cells, ldNB_cells, stB_cells, V.one, V.cells, List.length_cons, List.length_nil, List.length_append, List.length_singleton, Nat.zero_add, Nat.add_zero, Nat.reduceAdd, Nat.reduceLeDiff, Nat.reduceLT, Nat.reduceMul, Nat.reduceSub, Int.reduceEq, Int.reduceLT, Int.reduceLE, if_true, if_false, or_self, or_false, false_or, or_true, true_or, Nat.zero_lt_one, Nat.lt_add_one, Nat.zero_lt_succ, Nat.add_assoc, decide_true, decide_false, List.getElem?_cons_zero, List.getElem?_cons_succ, List.cons_append, List.nil_append, List.append_assoc, List.drop_zero, List.drop_succ_cons, List.take_succ_cons, List.take_zero, List.set_cons_zero, List.set_cons_succ, splice, List.all_cons, List.all_nil, Bool.and_true, Bool.not_true, Bool.not_false, Bool.or_false, Option.bind_some, Option.map_some, Option.join_some, ckB_some, V.beq, V.beqs, Nat.beq_refl, BEq.rfl, Bool.and_self, fill, opd, boxc, finV, resAllV, resOfV, result, eqV, aggCells, eqOffs, eqCell, asI_int, asB_bool, ptrAt_ptr, reduceCtorEq, W_call, h0, hV]
    exact hL _ (hfr _)
  · have e1 : valT [] of cl raw self = raw := by simp [valT, show of < 0 by omega]
    have e2 : valT T of cl raw self = raw := by simp [valT, show of < 0 by omega]
    simp only [S.withylaw16_OpRaw, H.new_ext, H.ext_ext, H.ext_next, H.ext_ldNk_0, H.ext_ldNk, H.ext_ldk_0, H.ext_ldk, H.ext_stk_0, H.ext_stk, ok, ldB_cells, ldNB_cells, stB_cells, V.one, V.cells, List.length_cons, List.length_nil, List.length_append, List.length_singleton, Nat.zero_add, Nat.add_zero, Nat.reduceAdd, Nat.reduceLeDiff, Nat.reduceLT, Nat.reduceMul, Nat.reduceSub, Int.reduceEq, Int.reduceLT, Int.reduceLE, if_true, if_false, or_self, or_false, false_or, or_true, true_or, Nat.zero_lt_one, Nat.lt_add_one, Nat.zero_lt_succ, Nat.add_assoc, decide_true, decide_false, List.getElem?_cons_zero, List.getElem?_cons_succ, List.cons_append, List.nil_append, List.append_assoc, List.drop_zero, List.drop_succ_cons, List.take_succ_cons, List.take_zero, List.set_cons_zero, List.set_cons_succ, splice, List.all_cons, List.all_nil, Bool.and_true, Bool.not_true, Bool.not_false, Bool.or_false, Option.bind_some, Option.map_some, Option.join_some, ckB_some, V.beq, V.beqs, Nat.beq_refl, BEq.rfl, Bool.and_self, fill, opd, boxc, finV, resAllV, resOfV, result, eqV, aggCells, eqOffs, eqCell, asI_int, asB_bool, ptrAt_ptr, reduceCtorEq, W_call, h0, hV, hN, e1, e2]
    have := hL
    rw [e2] at this
    exact this _ (hfr _)
end Wm
