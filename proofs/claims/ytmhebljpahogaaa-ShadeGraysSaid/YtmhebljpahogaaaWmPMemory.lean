/- The words of a memory in which nothing was done: withyref06.Memory. -/
import Derived.Test.YtmhebljpahogaaaWmPGrays
import Derived.Test.YtmhebljpahogaaaWmPOld
import Derived.Test.YtmhebljpahogaaaWmTxtShadeGraysA
set_option linter.all false
namespace Wm

theorem H.put_put (h : H) (b : Nat) (x y : Option Blk) : (h.put b x).put b y = h.put b y := by
  simp only [H.put, T.put, T.put'_put' _ _ _ _ _ _ (Nat.lt_succ_self _) (Nat.lt_succ_self _)]

def WordP (e : List V) : Prop := ∃ (nm : ByteArray) (who k : Int), e = [.str nm, .int .i64 who, .int .i64 k] ∧ 0 ≤ who ∧ who ≤ 64
def elemsW (S room c hd : Nat) : List (List V) := aheadE c hd ++ (List.range S).flatMap (slotE room)

theorem elemsW_flatten (S room c hd : Nat) : (elemsW S room c hd).flatten = wordsW S room c hd := by
  have h3 : ((List.range S).flatMap (slotE room)).flatten = (List.range S).flatMap (slotW room) := by
    rw [flatten_flatMap']
    exact congrArg (fun f => (List.range S).flatMap f) (funext fun q => slotE_flatten room q)
  unfold elemsW wordsW
  rw [List.flatten_append, aheadE_flatten, h3]

theorem wordP {nm : ByteArray} {q : Nat} {k : Int} (h : q ≤ 64) : WordP [.str nm, .int .i64 (q : Int), .int .i64 k] := ⟨nm, q, k, rfl, Int.natCast_nonneg q, Int.ofNat_le.mpr h⟩

theorem elemsW_ok (S room c hd : Nat) (hS : S ≤ 64) (hc : c ≤ 8) : ∀ e ∈ elemsW S room c hd, WordP e := by
  intro e he
  unfold elemsW aheadE at he
  simp only [List.mem_append, List.mem_flatMap, List.mem_map, List.mem_range] at he
  rcases he with (((he | ⟨q, hq, rfl⟩) | ⟨q, hq, i, _, rfl⟩) | ⟨q, hq, he⟩) | ⟨q, hq, he⟩
  · simp only [oneE, List.mem_cons, List.not_mem_nil, or_false] at he
    rcases he with rfl | rfl | rfl | rfl <;> exact wordP (q := 0) (Nat.zero_le _)
  · exact wordP (by omega)
  · exact wordP (by omega)
  · simp only [viewE, List.mem_cons, List.not_mem_nil, or_false] at he
    rcases he with rfl | rfl <;> exact wordP (by omega)
  · simp only [slotE, List.mem_append, List.mem_cons, List.not_mem_nil, or_false, List.mem_map, List.mem_range] at he
    rcases he with (rfl | rfl) | ⟨i, _, rfl⟩ <;> exact wordP (by omega)

theorem elem_at {S room c hd n i : Nat} (hS : S ≤ 64) (hc : c ≤ 8) (hl : (wordsW S room c hd).length = n * 3) (hi : i < n) :
    ∃ (nm : ByteArray) (who : Int), (wordsW S room c hd)[i * 3]? = some (.str nm) ∧ (wordsW S room c hd)[i * 3 + 1]? = some (.int .i64 who) ∧ 0 ≤ who ∧ who ≤ 64 := by
  have hp := elemsW_ok S room c hd hS hc
  have h3 : ∀ x ∈ elemsW S room c hd, x.length = 3 := fun x hx => by
    obtain ⟨_, _, _, rfl, _⟩ := hp x hx; rfl
  have hfl := flat_length h3
  rw [elemsW_flatten, hl] at hfl
  have hlt : i < (elemsW S room c hd).length := by omega
  have hpart := flat_part h3 i _ (List.getElem?_eq_getElem hlt)
  rw [elemsW_flatten] at hpart
  obtain ⟨nm, who, k, he, q1, q2⟩ := hp _ (List.getElem_mem hlt)
  rw [he] at hpart
  refine ⟨nm, who, ?_, ?_, q1, q2⟩
  · have := congrArg (fun l => l[0]?) hpart
    simpa using this
  · have := congrArg (fun l => l[1]?) hpart
    simpa using this

theorem sizeW_tot {s a c hd g st : Int} (hr : cfgR s a c hd g st = true) : ((sizeW s.toNat (if a < 3 then 3 else a).toNat c.toNat hd.toNat : Nat) : Int) = totT s a c hd := by
  obtain ⟨⟨s1, s2⟩, ⟨a1, a2⟩, ⟨c1, c2⟩, ⟨d1, d2⟩, _⟩ := cfgR_iff.mp hr
  have hroom : ((if a < 3 then 3 else a).toNat : Int) = max a 3 := by split <;> omega
  unfold sizeW totT slotsT roomT
  generalize (if a < 3 then 3 else a).toNat = R at hroom ⊢
  have m1 : ((c.toNat * hd.toNat : Nat) : Int) = c * hd := by rw [Int.natCast_mul, Int.toNat_of_nonneg (by omega), Int.toNat_of_nonneg (by omega)]
  have m2 : ((s.toNat * (2 + R) : Nat) : Int) = s * (2 + max a 3) := by
    rw [Int.natCast_mul, Int.toNat_of_nonneg (by omega)]
    congr 1
    omega
  have m3 : c * (1 + hd + 2) = c + c * hd + c * 2 := by rw [Int.mul_add, Int.mul_add, Int.mul_one]
  rw [m3, ← m1, ← m2]
  generalize c.toNat * hd.toNat = P
  generalize s.toNat * (2 + R) = Q
  omega

theorem ws_set {ws : List Int} {i : Nat} {v : Int} (hu : ∀ w ∈ ws, U64 w) (hv : U64 v) : ∀ w ∈ ws.set i v, U64 w := fun w hw => by
  rcases List.mem_or_eq_of_mem_set hw with q | rfl
  · exact hu w q
  · exact hv

theorem row_st {g1 : H} {b n i : Nat} {ws : List Int} {v : Int} (hl : ws.length = n) (hi : i < n) : (g1.put b (some (.cells (ws.map (.int .u64)) .rw))).st 1 (.ptr b i) (.int .u64 v) = some (g1.put b (some (.cells ((ws.set i v).map (.int .u64)) .rw))) := by
  rw [st1_get (get_put_self _ _ _) (by decide) rfl (by rw [List.length_map, hl]; exact hi), H.put_put, List.map_set]

theorem u64_small {v : Int} (h0 : 0 ≤ v) (h1 : v ≤ 1000) : U64 v := ⟨h0, by omega⟩
theorem ar_link {who : Int} (h0 : 0 ≤ who) (h1 : who ≤ 64) : wr .u64 (wr .i64 (who + 2)) = who + 2 := by rw [wr64 (by omega) (by omega), wru64 (by omega) (by omega)]
theorem ar_w1 {i n : Nat} (h : i < n) (hn : n ≤ 10000) : wr .i64 ((i : Int) + 1) = ((i + 1 : Nat) : Int) := by rw [wr64 (by omega) (by omega)]; rfl
theorem repl_map (n : Nat) : repl [V.int .u64 0] n = (List.replicate n (0 : Int)).map (.int .u64) := by
  induction n with
  | zero => rfl
  | succ n ih => simp only [repl, ih, List.replicate_succ, List.map_cons, List.cons_append, List.nil_append]

theorem memory_spec {s a c hd g st : Int} (hr : cfgR s a c hd g st = true) {h : H} (ok : h.ok) : ∃ (g' : H) (b : Nat) (ws : List Int), C 86 [cfgV s a c hd g st] h = some (.sl b 0 ws.length (.ex ws.length), g') ∧ Old h g' ∧ g'.ok ∧ h.next ≤ b ∧ b < g'.next ∧ g'.get b = some (.cells (ws.map (.int .u64)) .rw) ∧ (ws.length : Int) = totT s a c hd ∧ ∀ w ∈ ws, U64 w := by
  obtain ⟨⟨s1, s2⟩, ⟨a1, a2⟩, ⟨c1, c2⟩, ⟨d1, d2⟩, _⟩ := cfgR_iff.mp hr
  have hS : s.toNat ≤ 64 := by omega
  have hc : c.toNat ≤ 8 := by omega
  obtain ⟨xw, Lw, hW, hA⟩ := words_spec hr (ok.ext [(some (Blk.cells [.int .i64 s, .int .i64 a, .int .i64 c, .int .i64 hd, .int .i64 g, .int .i64 st] .rw))])
  have hn : sizeW s.toNat (if a < 3 then 3 else a).toNat c.toNat hd.toNat ≤ 10000 ∧ 4 ≤ sizeW s.toNat (if a < 3 then 3 else a).toNat c.toNat hd.toNat := by
    have hroom2 : (if a < 3 then 3 else a).toNat ≤ 8 := by split <;> omega
    unfold sizeW
    generalize (if a < 3 then 3 else a).toNat = R at hroom2 ⊢
    have b1 : c.toNat * hd.toNat ≤ 8 * 16 := Nat.mul_le_mul hc (by omega)
    have b2 : s.toNat * (2 + R) ≤ 64 * 10 := Nat.mul_le_mul hS (by omega)
    omega
  have htot := sizeW_tot hr
  have hlen := hA.len
  have hat := fun i hi => elem_at (i := i) hS hc hA.1 hi
  obtain ⟨bw, kw, capw, hxw, hbw⟩ : ∃ bw kw capw, xw = .sl bw 0 (sizeW s.toNat (if a < 3 then 3 else a).toNat c.toNat hd.toNat) capw ∧ ((h.ext [(some (Blk.cells [.int .i64 s, .int .i64 a, .int .i64 c, .int .i64 hd, .int .i64 g, .int .i64 st] .rw))]).ext ((some (Blk.cells [.int .i64 s, .int .i64 a, .int .i64 c, .int .i64 hd, .int .i64 g, .int .i64 st] .rw)) :: Lw)).get bw = some (.cells (wordsW s.toNat (if a < 3 then 3 else a).toNat c.toNat hd.toNat) kw) := by
    obtain ⟨_, _, j, ⟨e, hj⟩ | ⟨e, hj⟩⟩ := hA
    · exact ⟨_, _, _, e, by rw [H.ext_get' (ok.ext _), List.getElem?_cons_succ, hj]; rfl⟩
    · exact ⟨_, _, _, e, by rw [H.ext_get' (ok.ext _), List.getElem?_cons_succ, hj]; rfl⟩
  have hfr : ((h.ext [(some (Blk.cells [.int .i64 s, .int .i64 a, .int .i64 c, .int .i64 hd, .int .i64 g, .int .i64 st] .rw))]).ext ((some (Blk.cells [.int .i64 s, .int .i64 a, .int .i64 c, .int .i64 hd, .int .i64 g, .int .i64 st] .rw)) :: Lw)).get h.next = (some (Blk.cells [.int .i64 s, .int .i64 a, .int .i64 c, .int .i64 hd, .int .i64 g, .int .i64 st] .rw)) := by
    rw [H.ext_ext]
    have := H.ext_get' (h := h) (l := [(some (Blk.cells [.int .i64 s, .int .i64 a, .int .i64 c, .int .i64 hd, .int .i64 g, .int .i64 st] .rw))] ++ (some (Blk.cells [.int .i64 s, .int .i64 a, .int .i64 c, .int .i64 hd, .int .i64 g, .int .i64 st] .rw)) :: Lw) (i := 0) ok
    rw [Nat.add_zero] at this
    rw [this]; rfl
  have ok0 := (ok.ext [(some (Blk.cells [.int .i64 s, .int .i64 a, .int .i64 c, .int .i64 hd, .int .i64 g, .int .i64 st] .rw))]).ext ((some (Blk.cells [.int .i64 s, .int .i64 a, .int .i64 c, .int .i64 hd, .int .i64 g, .int .i64 st] .rw)) :: Lw)
  have old0 : Old h ((h.ext [(some (Blk.cells [.int .i64 s, .int .i64 a, .int .i64 c, .int .i64 hd, .int .i64 g, .int .i64 st] .rw))]).ext ((some (Blk.cells [.int .i64 s, .int .i64 a, .int .i64 c, .int .i64 hd, .int .i64 g, .int .i64 st] .rw)) :: Lw)) := by
    rw [H.ext_ext]
    exact ⟨by rw [H.ext_next]; exact Nat.le_add_right _ _, fun q hq => H.ext_old hq⟩
  generalize hg0 : (h.ext [(some (Blk.cells [.int .i64 s, .int .i64 a, .int .i64 c, .int .i64 hd, .int .i64 g, .int .i64 st] .rw))]).ext ((some (Blk.cells [.int .i64 s, .int .i64 a, .int .i64 c, .int .i64 hd, .int .i64 g, .int .i64 st] .rw)) :: Lw) = g0 at hW hbw ok0 old0 hfr
  generalize hnn : sizeW s.toNat (if a < 3 then 3 else a).toNat c.toNat hd.toNat = n at *
  generalize wordsW s.toNat (if a < 3 then 3 else a).toNat c.toNat hd.toNat = l at *
  have hbwlt := ok0.lt hbw
  have hfrlt := ok0.lt hfr
  -- the loop
  have hloop : ∀ ws : List Int, ws.length = n → (∀ w ∈ ws, U64 w) → Ev ((W.loop (S.withyref06_Memory_c1_B W) (S.withyref06_Memory_c1_E (.ptr h.next 0) (.sl bw 0 n capw) (.sl g0.next 0 n (.ex n)) (.int .i64 0)) ((g0.new (.cells [] .rw)).put g0.next (some (.cells (ws.map (.int .u64)) .rw)))).bind fun p9 => S.withyref06_Memory_K2 W p9.1 p9.2.1 p9.2.2)
      fun r => ∃ ws : List Int, r = (.sl g0.next 0 n (.ex n), (g0.new (.cells [] .rw)).put g0.next (some (.cells (ws.map (.int .u64)) .rw))) ∧ ws.length = n ∧ ∀ w ∈ ws, U64 w := by
    intro ws0 hws0 hu0
    have hgw : ∀ X, ((g0.new (.cells [] .rw)).put g0.next X).get bw = some (.cells l kw) := fun X => by rw [get_put_ne (Nat.ne_of_lt hbwlt), get_new_ne (Nat.ne_of_lt hbwlt)]; exact hbw
    have hgf : ∀ X, ((g0.new (.cells [] .rw)).put g0.next X).get h.next = (some (Blk.cells [.int .i64 s, .int .i64 a, .int .i64 c, .int .i64 hd, .int .i64 g, .int .i64 st] .rw)) := fun X => by rw [get_put_ne (Nat.ne_of_lt hfrlt), get_new_ne (Nat.ne_of_lt hfrlt)]; exact hfr
    refine loop_ev (fun i : Nat => S.withyref06_Memory_c1_E (.ptr h.next 0) (.sl bw 0 n capw) (.sl g0.next 0 n (.ex n)) (.int .i64 (i : Nat))) (fun i g' => i ≤ n ∧ ∃ ws : List Int, g' = (g0.new (.cells [] .rw)).put g0.next (some (.cells (ws.map (.int .u64)) .rw)) ∧ ws.length = n ∧ ∀ w ∈ ws, U64 w) (fun i _ => n - i)
      (fun r => ∃ ws : List Int, r = (.exit 0, S.withyref06_Memory_c1_O (.sl g0.next 0 n (.ex n)), (g0.new (.cells [] .rw)).put g0.next (some (.cells (ws.map (.int .u64)) .rw))) ∧ ws.length = n ∧ ∀ w ∈ ws, U64 w) 0 rfl ⟨Nat.zero_le _, ws0, rfl, hws0, hu0⟩ ?_ ?_
    · rintro i g' ⟨hi, ws, rfl, hws, hu⟩
      rw [S.withyref06_Memory_c1_eq]
      by_cases hin : i < n
      · have hini : (i : Int) < ((n : Nat) : Int) := Int.ofNat_lt.mpr hin
        obtain ⟨nm, who, hn1, hn2, q1, q2⟩ := hat i hin
        have hw1 := ar_w1 hin hn.1
        have e1 : indexAV 3 (.sl bw 0 n capw) (.int .i64 (i : Int)) = some (.ptr bw (i * 3)) := by rw [indexAV_in (Int.natCast_nonneg i) hini]; simp
        have e2 : indexAV 1 (.sl g0.next 0 n (.ex n)) (.int .i64 (i : Int)) = some (.ptr g0.next i) := by rw [indexAV_in (Int.natCast_nonneg i) hini]; simp
        have d1 := ld1_get (hgw (some (.cells (ws.map (.int .u64)) .rw))) hn1 rfl
        have d2 := ld1_get (hgw (some (.cells (ws.map (.int .u64)) .rw))) hn2 rfl
        have d3 : ((g0.new (.cells [] .rw)).put g0.next (some (.cells (ws.map (.int .u64)) .rw))).ld1 (.ptr h.next 0) = some (.int .i64 s) := ld1_get (hgf _) rfl rfl
        have hst := row_st (g1 := g0.new (.cells [] .rw)) (b := g0.next) (v := who + 2) hws hin
        have hlk := ar_link q1 q2
        have hdec : n - (i + 1) < n - i := Nat.sub_lt_sub_left hin (Nat.lt_succ_self i)
        have hU : U64 (who + 2) := u64_small (by clear hlk; omega) (by clear hlk; omega)
        simp only [S.withyref06_Memory_c1_S, lenSl, Option.bind_some, decide_eq_true hini, e1, ptrAt_ptr, Nat.add_zero, d1, eqV]
        cases hq : (nm.toList == ByteArray.toList ⟨⟨[108, 105, 110, 107]⟩⟩) with
        | false =>
          simp only [hw1]
          exact Ev.some (Or.inl ⟨i + 1, rfl, rfl, ⟨hin, ws, rfl, hws, hu⟩, hdec⟩)
        | true =>
          simp only [d2, Option.bind_some, asI_int, Nat.zero_add, d3]
          cases hq2 : decide (wr .i64 (who + 1) < s) with
          | false =>
            simp only [hw1]
            exact Ev.some (Or.inl ⟨i + 1, rfl, rfl, ⟨hin, ws, rfl, hws, hu⟩, hdec⟩)
          | true =>
            simp only [e2, Option.bind_some, hlk, hst, hw1]
            exact Ev.some (Or.inl ⟨i + 1, rfl, rfl, ⟨hin, ws.set i (who + 2), rfl, by rw [List.length_set]; exact hws, ws_set hu hU⟩, hdec⟩)
      · have hini : ¬ (i : Int) < ((n : Nat) : Int) := fun q => hin (Int.ofNat_lt.mp q)
        simp only [S.withyref06_Memory_c1_S, lenSl, Option.bind_some, decide_eq_false hini]
        exact Ev.some (Or.inr ⟨by simp, ws, rfl, hws, hu⟩)
    · rintro r ⟨ws, rfl, hws, hu⟩
      simp only
      rw [S.withyref06_Memory_c1_e0_eq]
      exact Ev.some ⟨ws, rfl, hws, hu⟩
  have hpn : ∀ X, g0.new X = (g0.new (.cells [] .rw)).put g0.next (some X) := fun X => (H.add_put (h := g0) (x := some (.cells [] .rw)) (y := some X)).symm
  have hz : (List.replicate n (0 : Int)).length = n := List.length_replicate
  have hz2 : ((List.replicate n (0 : Int)).set 0 1).length = n := by rw [List.length_set]; exact hz
  have hz3 : (((List.replicate n (0 : Int)).set 0 1).set 3 1).length = n := by rw [List.length_set]; exact hz2
  have hu0 : ∀ w ∈ List.replicate n (0 : Int), U64 w := fun w hw => by
    rw [List.eq_of_mem_replicate hw]; exact u64_small (Int.le_refl _) (by decide)
  have h1u : U64 1 := u64_small (by decide) (by decide)
  obtain ⟨r, er, ws, rfl, hws, hu⟩ := hloop _ hz3 (ws_set (ws_set hu0 h1u) h1u)
  have hmk : g0.mkSl 1 8 [V.int .u64 0] ((n : Nat) : Int) ((n : Nat) : Int) = some (.sl g0.next 0 n (.ex n), g0.new (.cells (repl [V.int .u64 0] n) .rw)) := by
    have := mkSl_ok (h := g0) (e := 1) (b := 8) (z := [V.int .u64 0]) (l := (n : Int)) (c := (n : Int)) (Int.natCast_nonneg n) (Int.le_refl _) (by clear hat hW er; omega) (by clear hat hW er; omega) rfl (by decide)
    rw [Int.toNat_natCast] at this
    exact this
  have x0 : indexAV 1 (.sl g0.next 0 n (.ex n)) (.int .i64 0) = some (.ptr g0.next 0) := by rw [indexAV_in (Int.le_refl _) (by clear hat hW er; omega)]; rfl
  have x3 : indexAV 1 (.sl g0.next 0 n (.ex n)) (.int .i64 3) = some (.ptr g0.next 3) := by rw [indexAV_in (by decide) (by clear hat hW er; omega)]; rfl
  have s0 := row_st (g1 := g0.new (.cells [] .rw)) (b := g0.next) (i := 0) (v := 1) hz (by clear hat hW er; omega)
  have s3 := row_st (g1 := g0.new (.cells [] .rw)) (b := g0.next) (i := 3) (v := 1) hz2 (by clear hat hW er; omega)
  refine ⟨(g0.new (.cells [] .rw)).put g0.next (some (.cells (ws.map (.int .u64)) .rw)), g0.next, ws, ?_, (old0.new _).put old0.1 _, (ok0.new _).put (Nat.lt_succ_self _) _, old0.1, Nat.lt_succ_self _, get_put_self _ _ _, by rw [hws]; exact htot, hu⟩
  rw [hws]
  refine call_open (af := F.withyref06_Memory) (by kernel_rfl) rfl ?_
  have hd6 : (h.ext [(some (Blk.cells [.int .i64 s, .int .i64 a, .int .i64 c, .int .i64 hd, .int .i64 g, .int .i64 st] .rw))]).ldN 6 (.ptr h.next 0) = some (.agg [.int .i64 s, .int .i64 a, .int .i64 c, .int .i64 hd, .int .i64 g, .int .i64 st]) := by rw [H.ext_ldNk_0 ok]; rfl
  unfold cfgV at hW ⊢
  rw [S.withyref06_Memory_eq]
  simp only [S.withyref06_Memory, H.new_ext, hd6, Option.bind_some, W_call, hW, hxw, lenSl]
  rw [hmk]
  simp only [Option.bind_some, x0]
  rw [repl_map, hpn, s0]
  simp only [Option.bind_some, x3]
  rw [s3]
  simp only [Option.bind_some]
  exact er
end Wm
