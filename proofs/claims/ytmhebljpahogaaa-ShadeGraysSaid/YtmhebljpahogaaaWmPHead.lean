/- A header's word: what the functions of word, head and withyref04 come to. -/
import Derived.Test.YtmhebljpahogaaaWmProgShadeGrays
import Derived.Test.YtmhebljpahogaaaWmHeap
import Derived.Test.YtmhebljpahogaaaWmPOp0
import Derived.Test.YtmhebljpahogaaaWmPModelNewB
import Derived.Test.YtmhebljpahogaaaWmGrow
import Derived.Test.YtmhebljpahogaaaWmTxtShadeGraysA
set_option linter.all false
namespace Wm

def U64 (w : Int) : Prop := 0 ≤ w ∧ w < 18446744073709551616

/-- So many bits, from one on. -/
def getT (w : Int) (at' n : Nat) : Int := w / (2 ^ at' : Int) % (2 ^ n : Int)

theorem and64_mask {x : Int} (hx : U64 x) {n : Nat} (hn : n ≤ 64) : and64 x (2 ^ n - 1) = x % (2 ^ n : Int) := by
  obtain ⟨h0, h1⟩ := hx
  obtain ⟨k, rfl⟩ : ∃ k : Nat, x = k := ⟨x.toNat, by omega⟩
  have e1 : (2 ^ n - 1 : Int) = ((2 ^ n - 1 : Nat) : Int) := by
    have : 1 ≤ 2 ^ n := Nat.one_le_two_pow
    rw [Int.natCast_sub this]; simp
  have h2 : 2 ^ n ≤ 2 ^ 64 := Nat.pow_le_pow_right (by omega) hn
  have h3 : 2 ^ n - 1 < 2 ^ 64 := by have : 1 ≤ 2 ^ n := Nat.one_le_two_pow; omega
  unfold and64
  rw [e1, BitVec.ofInt_natCast, BitVec.ofInt_natCast, BitVec.toNat_and, BitVec.toNat_ofNat, BitVec.toNat_ofNat, Nat.mod_eq_of_lt (by omega), Nat.mod_eq_of_lt h3, Nat.and_two_pow_sub_one_eq_mod]
  simp

theorem getT_range {w : Int} (hw : U64 w) (a n : Nat) : U64 (w / (2 ^ a : Int)) := by
  obtain ⟨h0, h1⟩ := hw
  have h2 : (0 : Int) < 2 ^ a := Int.pow_pos (by omega)
  refine ⟨Int.ediv_nonneg h0 (by omega), ?_⟩
  have := Int.ediv_le_self (2 ^ a : Int) h0
  omega

theorem some_spec (a n : Int) (h0 : 0 ≤ a) (h1 : 1 ≤ n) (h2 : a + n ≤ 64) (h : H) : C 441 [.int .i64 a, .int .i64 n] h = some (.bool true, h) := by
  refine call_closed (af := F.word_some) (by kernel_rfl) rfl (by rfl) (by rfl) h ?_
  rw [S.word_some_eq]
  simp only [S.word_some, show 1 ≤ n from h1, show n ≤ 64 by omega, h0, decide_true]
  rw [wr64 (by omega) (by omega)]
  exact Ev.some (by simp; omega)

theorem mask_spec (n : Nat) (hn : n ≤ 63) (h : H) : C 449 [.int .i64 n] h = some (.int .u64 (2 ^ n - 1), h) := by
  refine call_closed (af := F.word_mask) (by kernel_rfl) rfl (by rfl) (by rfl) h ?_
  rw [S.word_mask_eq]
  have h1 : ¬ (n : Int) < 0 := by omega
  have hp : (1 : Nat) ≤ 2 ^ n := Nat.one_le_two_pow
  have hq : 2 ^ n ≤ 2 ^ 63 := Nat.pow_le_pow_right (by omega) hn
  have hc : ((2 ^ n : Nat) : Int) = (2 ^ n : Int) := by simp
  have e1 : (2 ^ n : Int) ≤ 9223372036854775808 := by rw [← hc]; omega
  have e2 : (1 : Int) ≤ 2 ^ n := by rw [← hc]; omega
  simp only [S.word_mask, shiftI, decide_eq_false h1, Int.toNat_natCast, show min n (Go.IntKind.bits .u64) = n from by show min n 64 = n; omega, Option.bind_some, Int.one_mul]
  rw [wru64 (n := 2 ^ n) (by omega) (by omega), wru64 (by omega) (by omega)]
  exact Ev.some rfl

theorem get_spec {w : Int} (hw : U64 w) (a n : Nat) (h1 : 1 ≤ n) (h2 : a + n ≤ 64) (h3 : n ≤ 63) (h : H) : C 396 [.int .u64 w, .int .i64 a, .int .i64 n] h = some (.int .u64 (getT w a n), h) := by
  refine call_closed (af := F.word_Get) (by kernel_rfl) rfl (by rfl) (by rfl) h ?_
  rw [S.word_Get_eq]
  have h4 : ¬ (a : Int) < 0 := by omega
  simp only [S.word_Get, W_call, some_spec (a : Int) (n : Int) (by omega) (by omega) (by omega), asB_bool, Option.bind_some, Bool.not_true, shiftI, decide_eq_false h4, Int.toNat_natCast, show min a (Go.IntKind.bits .u64) = a from by show min a 64 = a; omega, mask_spec n h3, asI_int]
  rw [and64_mask (getT_range hw a n) (by omega)]
  exact Ev.some rfl

/-- The seven values of a word. -/
def sevenT (w : Int) : List Int := [getT w 0 3, getT w 3 1, getT w 4 1, getT w 5 4, getT w 9 7, getT w 16 32, getT w 48 16]
def sizesT : List Nat := [3, 1, 1, 4, 7, 32, 16]
def sumT (i : Nat) : Nat := (sizesT.take i).sum

theorem size_at (w : Int) : ∀ i, i < 7 → ∃ n : Nat, ([.int .i64 3, .int .i64 1, .int .i64 1, .int .i64 4, .int .i64 7, .int .i64 32, .int .i64 16] : List V)[i]? = some (.int .i64 n) ∧ 1 ≤ n ∧ sumT i + n ≤ 64 ∧ n ≤ 63 ∧ sumT (i + 1) = sumT i + n ∧ (sevenT w).take (i + 1) = (sevenT w).take i ++ [getT w (sumT i) n]
  | 0, _ => ⟨3, rfl, by decide, by decide, by decide, rfl, rfl⟩
  | 1, _ => ⟨1, rfl, by decide, by decide, by decide, rfl, rfl⟩
  | 2, _ => ⟨1, rfl, by decide, by decide, by decide, rfl, rfl⟩
  | 3, _ => ⟨4, rfl, by decide, by decide, by decide, rfl, rfl⟩
  | 4, _ => ⟨7, rfl, by decide, by decide, by decide, rfl, rfl⟩
  | 5, _ => ⟨32, rfl, by decide, by decide, by decide, rfl, rfl⟩
  | 6, _ => ⟨16, rfl, by decide, by decide, by decide, rfl, rfl⟩
  | n + 7, h => by omega

theorem unpack_loop {w : Int} (hw : U64 w) {h : H} (ok : h.ok) (A : Option Blk) :
    Ev (C 379 [.int .u64 w, .sl (h.next + 1) 0 7 (.ex 7)] (h.ext [A, some (.cells [.int .i64 3, .int .i64 1, .int .i64 1, .int .i64 4, .int .i64 7, .int .i64 32, .int .i64 16] .rw)])) fun r =>
      ∃ j L, r = (.tup [.sl (h.next + (j + 2)) 0 7 (.op 1), .bool true], h.ext (A :: some (.cells [.int .i64 3, .int .i64 1, .int .i64 1, .int .i64 4, .int .i64 7, .int .i64 32, .int .i64 16] .rw) :: L)) ∧ L[j]? = some (some (.cells ((sevenT w).map (.int .u64)) (.gr 1))) := by
  refine call_ev (af := F.word_Unpack) (by kernel_rfl) rfl ?_
  rw [S.word_Unpack_eq]
  simp only [S.word_Unpack, lenSl, Option.bind_some]
  generalize hZ : (some (Blk.cells [.int .i64 3, .int .i64 1, .int .i64 1, .int .i64 4, .int .i64 7, .int .i64 32, .int .i64 16] .rw)) = Z
  refine loop_ev (α := Nat × V) (fun a => S.word_Unpack_c1_E (.int .u64 w) a.2 (.int .i64 (sumT a.1 : Nat)) (.sl (h.next + 1) 0 7 (.ex 7)) (.int .i64 (7 : Nat)) (.int .i64 a.1))
    (fun a g => a.1 ≤ 7 ∧ ∃ L, g = h.ext (A :: Z :: L) ∧ ((a.1 = 0 ∧ a.2 = .nilsl) ∨ ∃ j, a.2 = .sl (h.next + (j + 2)) 0 a.1 (.op 1) ∧ j < L.length ∧ L[j]? = some (some (.cells (((sevenT w).take a.1).map (.int .u64)) (.gr 1)))))
    (fun a _ => 7 - a.1) (fun r => ∃ j L, r = (.exit 0, S.word_Unpack_c1_O .dead .dead (.sl (h.next + (j + 2)) 0 7 (.op 1)), h.ext (A :: Z :: L)) ∧ L[j]? = some (some (.cells ((sevenT w).map (.int .u64)) (.gr 1))))
    (0, .nilsl) rfl ⟨Nat.zero_le _, [], rfl, Or.inl ⟨rfl, rfl⟩⟩ ?_ ?_
  · rintro ⟨i, x⟩ g ⟨hi, L, rfl, hx⟩
    simp only at hi hx ⊢
    rw [S.word_Unpack_c1_eq]
    simp only [S.word_Unpack_c1_S]
    by_cases hic : (i : Int) < ((7 : Nat) : Int)
    · have hi7 : i < 7 := by omega
      simp only [decide_eq_true hic]
      obtain ⟨n, hn, n1, n2, n3, n4, n5⟩ := size_at w i hi7
      have hld : (h.ext (A :: Z :: L)).ld1 (.ptr (h.next + 1) i) = some (.int .i64 n) := by
        rw [H.ext_ldk ok]
        simp only [List.getElem?_cons_succ, List.getElem?_cons_zero, Option.join_some, ← hZ, ldB_cells, hn, V.one]
      have e1 : indexAV 1 (.sl (h.next + 1) 0 7 (.ex 7)) (.int .i64 (i : Int)) = some (.ptr (h.next + 1) i) := by
        rw [indexAV_in (by omega) (by omega)]
        simp
      have hfill : ∀ v : Int, fill (repl [V.int .u64 0] 1) [] [(0, 1, .c (.int .u64 v))] = some [.int .u64 v] := fun v => rfl
      have hw1 : wr .i64 ((sumT i : Nat) + (n : Int)) = ((sumT (i + 1) : Nat) : Int) := by rw [wr64 (by omega) (by omega), n4]; omega
      have hw2 : wr .i64 ((i : Int) + 1) = ((i + 1 : Nat) : Int) := by rw [wr64 (by omega) (by omega)]; rfl
      simp only [e1, hld, Option.bind_some, W_call, some_spec ((sumT i : Nat) : Int) (n : Int) (by omega) (by omega) (by omega), asB_bool, Bool.not_true, get_spec hw (sumT i) n n1 n2 n3, hfill, asI_int, hw1, hw2, H.new_ext, H.ext_ext, H.ext_next]
      rcases hx with ⟨rfl, rfl⟩ | ⟨j, rfl, hj, hjL⟩
      · rw [grow_nil (P := A :: Z :: L) (e := 1) (b := 8) (new := [.int .u64 (getT w (sumT 0) n)]) rfl rfl (by decide) (by decide)]
        simp only [Option.bind_some]
        refine Ev.some (Or.inl ⟨(1, .sl (h.next + ((A :: Z :: L).length + 1)) 0 1 (.op 1)), rfl, rfl, ⟨by omega, L ++ [some (.cells [.int .u64 (getT w (sumT 0) n)] .rw)] ++ [some (.cells [.int .u64 (getT w (sumT 0) n)] (.gr 1))], rfl, Or.inr ⟨L.length + 1, ?_, ?_, ?_⟩⟩, by omega⟩)
        · simp only [List.length_cons]
        · simp
        · rw [List.getElem?_append_right (by simp)]
          simp [n5]
      · rw [grow_op (P := A :: Z :: L) (e := 1) (b := 8) (j := j + 2) (i := i) (cs := ((sevenT w).take i).map (.int .u64)) (new := [.int .u64 (getT w (sumT i) n)]) (by simpa using hjL) ?_ rfl rfl (by decide) (by decide) (by omega)]
        · simp only [Option.bind_some]
          refine Ev.some (Or.inl ⟨(i + 1, .sl (h.next + ((A :: Z :: L).length + 1)) 0 (i + 1) (.op 1)), rfl, rfl, ⟨hi7, (L ++ [some (Blk.cells [.int .u64 (getT w (sumT i) n)] .rw)]).set j none ++ [some (.cells (((sevenT w).take i).map (.int .u64) ++ [.int .u64 (getT w (sumT i) n)]) (.gr 1))], ?_, Or.inr ⟨L.length + 1, ?_, ?_, ?_⟩⟩, by omega⟩)
          · simp only [List.cons_append, List.set_cons_succ]
          · simp only [List.length_cons]
          · simp
          · rw [List.getElem?_append_right (by simp)]
            simp [n5]
        · rw [List.length_map, List.length_take]
          have : (sevenT w).length = 7 := rfl
          omega
    · simp only [decide_eq_false hic]
      have h7 : i = 7 := by omega
      subst h7
      rcases hx with ⟨h1, _⟩ | ⟨j, rfl, hj, hjL⟩
      · cases h1
      · exact Ev.some (Or.inr ⟨by simp, j, L, rfl, hjL⟩)
  · rintro r ⟨j, L, rfl, hL⟩
    simp only
    rw [S.word_Unpack_c1_e0_eq]
    exact Ev.some ⟨j, L, rfl, hL⟩

def hdrT (w : Int) : List V := [.int .i64 (getT w 0 3), .int .i64 (getT w 3 1), .bool (decide (getT w 4 1 = 1)), .int .i64 (getT w 5 4), .int .i64 (getT w 16 32), .int .i64 (getT w 48 16)]
def hdr0 : List V := [.int .i64 0, .int .i64 0, .bool false, .int .i64 0, .int .i64 0, .int .i64 0]
/-- Is it a header's word? -/
def okT (w : Int) : Bool := decide (getT w 0 3 ≤ 4) && decide (getT w 9 7 = 0)

theorem getT_small (w : Int) (a n : Nat) (hn : n ≤ 62) : 0 ≤ getT w a n ∧ getT w a n ≤ 4611686018427387904 := by
  have h2 : (0 : Int) < 2 ^ n := Int.pow_pos (by omega)
  have h3 : ((2 ^ n : Nat) : Int) = (2 ^ n : Int) := by simp
  have h4 : 2 ^ n ≤ 2 ^ 62 := Nat.pow_le_pow_right (by omega) hn
  refine ⟨Int.emod_nonneg _ (by omega), ?_⟩
  have := Int.emod_lt_of_pos (w / (2 ^ a : Int)) h2
  unfold getT
  omega

theorem headUnpack_spec {w : Int} (hw : U64 w) (h : H) : C 265 [.int .u64 w] h = some (.tup [.agg (match okT w with | true => hdrT w | false => hdr0), .bool (okT w)], h) := by
  refine call_closed (af := F.head_Unpack) (by kernel_rfl) rfl (by rfl) (by cases okT w <;> rfl) h ?_
  rw [S.head_Unpack_eq]
  have ok := H.ok_empty
  obtain ⟨r, e, j, L, rfl, hL⟩ := unpack_loop hw ok (some (.cells [.int .i64 0, .int .i64 0, .bool false, .int .i64 0, .int .i64 0, .int .i64 0] .rw))
  have hld : ∀ i v, (sevenT w)[i]? = some v → (H.empty.ext (some (.cells [.int .i64 0, .int .i64 0, .bool false, .int .i64 0, .int .i64 0, .int .i64 0] .rw) :: some (.cells [.int .i64 3, .int .i64 1, .int .i64 1, .int .i64 4, .int .i64 7, .int .i64 32, .int .i64 16] .rw) :: L)).ld1 (.ptr (H.empty.next + (j + 2)) i) = some (.int .u64 v) := by
    intro i v hv
    rw [H.ext_ldk ok]
    simp only [List.getElem?_cons_succ, hL, Option.join_some, ldB_cells, List.getElem?_map, hv, Option.map_some, V.one]
  have x0 : indexAV 1 (.sl (H.empty.next + (j + 2)) 0 7 (.op 1)) (.int .i64 0) = some (.ptr (H.empty.next + (j + 2)) 0) := rfl
  have d0 := hld 0 (getT w 0 3) rfl
  have x1 : indexAV 1 (.sl (H.empty.next + (j + 2)) 0 7 (.op 1)) (.int .i64 1) = some (.ptr (H.empty.next + (j + 2)) 1) := rfl
  have d1 := hld 1 (getT w 3 1) rfl
  have x2 : indexAV 1 (.sl (H.empty.next + (j + 2)) 0 7 (.op 1)) (.int .i64 2) = some (.ptr (H.empty.next + (j + 2)) 2) := rfl
  have d2 := hld 2 (getT w 4 1) rfl
  have x3 : indexAV 1 (.sl (H.empty.next + (j + 2)) 0 7 (.op 1)) (.int .i64 3) = some (.ptr (H.empty.next + (j + 2)) 3) := rfl
  have d3 := hld 3 (getT w 5 4) rfl
  have x4 : indexAV 1 (.sl (H.empty.next + (j + 2)) 0 7 (.op 1)) (.int .i64 4) = some (.ptr (H.empty.next + (j + 2)) 4) := rfl
  have d4 := hld 4 (getT w 9 7) rfl
  have x5 : indexAV 1 (.sl (H.empty.next + (j + 2)) 0 7 (.op 1)) (.int .i64 5) = some (.ptr (H.empty.next + (j + 2)) 5) := rfl
  have d5 := hld 5 (getT w 16 32) rfl
  have x6 : indexAV 1 (.sl (H.empty.next + (j + 2)) 0 7 (.op 1)) (.int .i64 6) = some (.ptr (H.empty.next + (j + 2)) 6) := rfl
  have d6 := hld 6 (getT w 48 16) rfl
  have e7 : ¬ (((7 : Nat) : Int) < 7) := by omega
  have q0 := getT_small w 0 3 (by omega)
  have q1 := getT_small w 3 1 (by omega)
  have q3 := getT_small w 5 4 (by omega)
  have q5 := getT_small w 16 32 (by omega)
  have q6 := getT_small w 48 16 (by omega)
  have w0 := wr64 (n := getT w 0 3) (by omega) (by omega)
  have w1 := wr64 (n := getT w 3 1) (by omega) (by omega)
  have w3 := wr64 (n := getT w 5 4) (by omega) (by omega)
  have w5 := wr64 (n := getT w 16 32) (by omega) (by omega)
  have w6 := wr64 (n := getT w 48 16) (by omega) (by omega)
  have hany : ∀ (k : Go.IntKind) (n : Int), asIAny (.int k n) = some n := fun _ _ => rfl
  clear q0 q1 q3 q5 q6 hld
  by_cases k1 : getT w 0 3 ≤ 4
  · have k1' : ¬ 4 < getT w 0 3 := by clear w0 w1 w3 w5 w6; omega
    by_cases k2 : getT w 9 7 = 0
    · simp only [S.head_Unpack, H.new_ext, H.ext_ext, H.ext_next, H.ext_ldNk_0, H.ext_ldNk, H.ext_ldk_0, H.ext_ldk, H.ext_stk_0, H.ext_stk, ok, ldB_cells, ldNB_cells, stB_cells, V.one, V.cells, List.length_cons, List.length_nil, List.length_append, List.length_singleton, Nat.zero_add, Nat.add_zero, Nat.reduceAdd, Nat.reduceLeDiff, Nat.reduceLT, Nat.reduceMul, Nat.reduceSub, Int.reduceEq, Int.reduceLT, Int.reduceLE, if_true, if_false, or_self, or_false, false_or, or_true, true_or, Nat.zero_lt_one, Nat.lt_add_one, Nat.zero_lt_succ, Nat.add_assoc, decide_true, decide_false, List.getElem?_cons_zero, List.getElem?_cons_succ, List.cons_append, List.nil_append, List.append_assoc, List.drop_zero, List.drop_succ_cons, List.take_succ_cons, List.take_zero, List.set_cons_zero, List.set_cons_succ, splice, List.all_cons, List.all_nil, Bool.and_true, Bool.not_true, Bool.not_false, Bool.or_false, Option.bind_some, Option.map_some, Option.join_some, ckB_some, V.beq, V.beqs, Nat.beq_refl, BEq.rfl, Bool.and_self, fill, opd, boxc, finV, resAllV, resOfV, result, eqV, aggCells, eqOffs, eqCell, asI_int, asB_bool, ptrAt_ptr, reduceCtorEq, W_call, e, lenSl, e7, x0, x1, x2, x3, x4, x5, x6, d0, d1, d2, d3, d4, d5, d6, k1', k2, hany, w0, w1, w3, w5, w6]
      exact Ev.some (by simp [okT, k1, k2, hdrT])
    · simp only [S.head_Unpack, H.new_ext, H.ext_ext, H.ext_next, H.ext_ldNk_0, H.ext_ldNk, H.ext_ldk_0, H.ext_ldk, H.ext_stk_0, H.ext_stk, ok, ldB_cells, ldNB_cells, stB_cells, V.one, V.cells, List.length_cons, List.length_nil, List.length_append, List.length_singleton, Nat.zero_add, Nat.add_zero, Nat.reduceAdd, Nat.reduceLeDiff, Nat.reduceLT, Nat.reduceMul, Nat.reduceSub, Int.reduceEq, Int.reduceLT, Int.reduceLE, if_true, if_false, or_self, or_false, false_or, or_true, true_or, Nat.zero_lt_one, Nat.lt_add_one, Nat.zero_lt_succ, Nat.add_assoc, decide_true, decide_false, List.getElem?_cons_zero, List.getElem?_cons_succ, List.cons_append, List.nil_append, List.append_assoc, List.drop_zero, List.drop_succ_cons, List.take_succ_cons, List.take_zero, List.set_cons_zero, List.set_cons_succ, splice, List.all_cons, List.all_nil, Bool.and_true, Bool.not_true, Bool.not_false, Bool.or_false, Option.bind_some, Option.map_some, Option.join_some, ckB_some, V.beq, V.beqs, Nat.beq_refl, BEq.rfl, Bool.and_self, fill, opd, boxc, finV, resAllV, resOfV, result, eqV, aggCells, eqOffs, eqCell, asI_int, asB_bool, ptrAt_ptr, reduceCtorEq, W_call, e, lenSl, e7, x0, x1, x2, x3, x4, x5, x6, d0, d1, d2, d3, d4, d5, d6, k1', k2, hany, w0, w1, w3, w5, w6]
      exact Ev.some (by simp [okT, k1, k2, hdr0])
  · have k1' : 4 < getT w 0 3 := by clear w0 w1 w3 w5 w6; omega
    simp only [S.head_Unpack, H.new_ext, H.ext_ext, H.ext_next, H.ext_ldNk_0, H.ext_ldNk, H.ext_ldk_0, H.ext_ldk, H.ext_stk_0, H.ext_stk, ok, ldB_cells, ldNB_cells, stB_cells, V.one, V.cells, List.length_cons, List.length_nil, List.length_append, List.length_singleton, Nat.zero_add, Nat.add_zero, Nat.reduceAdd, Nat.reduceLeDiff, Nat.reduceLT, Nat.reduceMul, Nat.reduceSub, Int.reduceEq, Int.reduceLT, Int.reduceLE, if_true, if_false, or_self, or_false, false_or, or_true, true_or, Nat.zero_lt_one, Nat.lt_add_one, Nat.zero_lt_succ, Nat.add_assoc, decide_true, decide_false, List.getElem?_cons_zero, List.getElem?_cons_succ, List.cons_append, List.nil_append, List.append_assoc, List.drop_zero, List.drop_succ_cons, List.take_succ_cons, List.take_zero, List.set_cons_zero, List.set_cons_succ, splice, List.all_cons, List.all_nil, Bool.and_true, Bool.not_true, Bool.not_false, Bool.or_false, Option.bind_some, Option.map_some, Option.join_some, ckB_some, V.beq, V.beqs, Nat.beq_refl, BEq.rfl, Bool.and_self, fill, opd, boxc, finV, resAllV, resOfV, result, eqV, aggCells, eqOffs, eqCell, asI_int, asB_bool, ptrAt_ptr, reduceCtorEq, W_call, e, lenSl, e7, x0, x1, x2, x3, x4, x5, x6, d0, d1, d2, d3, d4, d5, d6, k1', hany, w0, w1, w3, w5, w6]
    exact Ev.some (by simp [okT, k1, hdr0])

theorem tm {a b : Int} (h : 0 ≤ a) : Int.tmod a b = a % b := Int.tmod_eq_emod_of_nonneg h
theorem td {a b : Int} (h : 0 ≤ a) : Int.tdiv a b = a / b := Int.tdiv_eq_ediv_of_nonneg h

theorem refUnpack_spec {w : Int} (hw : U64 w) (h : H) : C 109 [.int .u64 w] h = some (.tup [.agg (match okT w with | true => hdrT w | false => hdr0), .bool (okT w)], h) := by
  refine call_closed (af := F.withyref04_Unpack) (by kernel_rfl) rfl (by rfl) (by cases okT w <;> rfl) h ?_
  rw [S.withyref04_Unpack_eq]
  have ok := H.ok_empty
  obtain ⟨h0, h1⟩ := hw
  have e0 : wr .i64 (Int.tmod w 8) = getT w 0 3 := by rw [tm h0, wr64 (by omega) (by omega)]; simp [getT]
  have e1 : wr .i64 (Int.tmod (wr .u64 (Int.tdiv w 8)) 2) = getT w 3 1 := by rw [td h0, wru64 (by omega) (by omega), tm (by omega), wr64 (by omega) (by omega)]; rfl
  have e2 : Int.tmod (wr .u64 (Int.tdiv w 16)) 2 = getT w 4 1 := by rw [td h0, wru64 (by omega) (by omega), tm (by omega)]; rfl
  have e3 : wr .i64 (Int.tmod (wr .u64 (Int.tdiv w 32)) 16) = getT w 5 4 := by rw [td h0, wru64 (by omega) (by omega), tm (by omega), wr64 (by omega) (by omega)]; rfl
  have e4 : wr .i64 (Int.tmod (wr .u64 (Int.tdiv w 65536)) 4294967296) = getT w 16 32 := by rw [td h0, wru64 (by omega) (by omega), tm (by omega), wr64 (by omega) (by omega)]; rfl
  have e5 : wr .i64 (wr .u64 (Int.tdiv w 281474976710656)) = getT w 48 16 := by
    rw [td h0, wru64 (by omega) (by omega), wr64 (by omega) (by omega)]
    show _ = w / 281474976710656 % 65536
    omega
  have e6 : Int.tmod (wr .u64 (Int.tdiv w 512)) 128 = getT w 9 7 := by rw [td h0, wru64 (by omega) (by omega), tm (by omega)]; rfl
  clear h0 h1
  by_cases k1 : getT w 0 3 ≤ 4
  · have k1' : ¬ 4 < getT w 0 3 := by clear e0 e1 e2 e3 e4 e5 e6; omega
    by_cases k2 : getT w 9 7 = 0
    · simp only [S.withyref04_Unpack, H.new_ext, H.ext_ext, H.ext_next, H.ext_ldNk_0, H.ext_ldNk, H.ext_ldk_0, H.ext_ldk, H.ext_stk_0, H.ext_stk, ok, ldB_cells, ldNB_cells, stB_cells, V.one, V.cells, List.length_cons, List.length_nil, List.length_append, List.length_singleton, Nat.zero_add, Nat.add_zero, Nat.reduceAdd, Nat.reduceLeDiff, Nat.reduceLT, Nat.reduceMul, Nat.reduceSub, Int.reduceEq, Int.reduceLT, Int.reduceLE, if_true, if_false, or_self, or_false, false_or, or_true, true_or, Nat.zero_lt_one, Nat.lt_add_one, Nat.zero_lt_succ, Nat.add_assoc, decide_true, decide_false, List.getElem?_cons_zero, List.getElem?_cons_succ, List.cons_append, List.nil_append, List.append_assoc, List.drop_zero, List.drop_succ_cons, List.take_succ_cons, List.take_zero, List.set_cons_zero, List.set_cons_succ, splice, List.all_cons, List.all_nil, Bool.and_true, Bool.not_true, Bool.not_false, Bool.or_false, Option.bind_some, Option.map_some, Option.join_some, ckB_some, V.beq, V.beqs, Nat.beq_refl, BEq.rfl, Bool.and_self, fill, opd, boxc, finV, resAllV, resOfV, result, eqV, aggCells, eqOffs, eqCell, asI_int, asB_bool, ptrAt_ptr, reduceCtorEq, e0, e1, e2, e3, e4, e5, e6, k1', k2]
      exact Ev.some (by simp [okT, k1, k2, hdrT])
    · simp only [S.withyref04_Unpack, H.new_ext, H.ext_ext, H.ext_next, H.ext_ldNk_0, H.ext_ldNk, H.ext_ldk_0, H.ext_ldk, H.ext_stk_0, H.ext_stk, ok, ldB_cells, ldNB_cells, stB_cells, V.one, V.cells, List.length_cons, List.length_nil, List.length_append, List.length_singleton, Nat.zero_add, Nat.add_zero, Nat.reduceAdd, Nat.reduceLeDiff, Nat.reduceLT, Nat.reduceMul, Nat.reduceSub, Int.reduceEq, Int.reduceLT, Int.reduceLE, if_true, if_false, or_self, or_false, false_or, or_true, true_or, Nat.zero_lt_one, Nat.lt_add_one, Nat.zero_lt_succ, Nat.add_assoc, decide_true, decide_false, List.getElem?_cons_zero, List.getElem?_cons_succ, List.cons_append, List.nil_append, List.append_assoc, List.drop_zero, List.drop_succ_cons, List.take_succ_cons, List.take_zero, List.set_cons_zero, List.set_cons_succ, splice, List.all_cons, List.all_nil, Bool.and_true, Bool.not_true, Bool.not_false, Bool.or_false, Option.bind_some, Option.map_some, Option.join_some, ckB_some, V.beq, V.beqs, Nat.beq_refl, BEq.rfl, Bool.and_self, fill, opd, boxc, finV, resAllV, resOfV, result, eqV, aggCells, eqOffs, eqCell, asI_int, asB_bool, ptrAt_ptr, reduceCtorEq, e0, e1, e2, e3, e4, e5, e6, k1', k2]
      exact Ev.some (by simp [okT, k1, k2, hdr0])
  · have k1' : 4 < getT w 0 3 := by clear e0 e1 e2 e3 e4 e5 e6; omega
    simp only [S.withyref04_Unpack, H.new_ext, H.ext_ext, H.ext_next, H.ext_ldNk_0, H.ext_ldNk, H.ext_ldk_0, H.ext_ldk, H.ext_stk_0, H.ext_stk, ok, ldB_cells, ldNB_cells, stB_cells, V.one, V.cells, List.length_cons, List.length_nil, List.length_append, List.length_singleton, Nat.zero_add, Nat.add_zero, Nat.reduceAdd, Nat.reduceLeDiff, Nat.reduceLT, Nat.reduceMul, Nat.reduceSub, Int.reduceEq, Int.reduceLT, Int.reduceLE, if_true, if_false, or_self, or_false, false_or, or_true, true_or, Nat.zero_lt_one, Nat.lt_add_one, Nat.zero_lt_succ, Nat.add_assoc, decide_true, decide_false, List.getElem?_cons_zero, List.getElem?_cons_succ, List.cons_append, List.nil_append, List.append_assoc, List.drop_zero, List.drop_succ_cons, List.take_succ_cons, List.take_zero, List.set_cons_zero, List.set_cons_succ, splice, List.all_cons, List.all_nil, Bool.and_true, Bool.not_true, Bool.not_false, Bool.or_false, Option.bind_some, Option.map_some, Option.join_some, ckB_some, V.beq, V.beqs, Nat.beq_refl, BEq.rfl, Bool.and_self, fill, opd, boxc, finV, resAllV, resOfV, result, eqV, aggCells, eqOffs, eqCell, asI_int, asB_bool, ptrAt_ptr, reduceCtorEq, e0, e1, e2, e3, e4, e5, e6, k1']
    exact Ev.some (by simp [okT, k1, hdr0])
end Wm
