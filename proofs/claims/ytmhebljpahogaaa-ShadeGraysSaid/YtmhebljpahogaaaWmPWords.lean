/- All words of a config, in their order: withyref06.Words. -/
import Derived.Test.YtmhebljpahogaaaWmAcc
import Derived.Test.YtmhebljpahogaaaWmPPlan
import Derived.Test.YtmhebljpahogaaaWmPModelNewA
import Derived.Test.YtmhebljpahogaaaWmPOp0
import Derived.Test.YtmhebljpahogaaaWmTxtShadeGraysA
set_option linter.all false
namespace Wm

/-- A loop that counts, and appends so many elements each time. -/
theorem acc_loop {h : H} {F : Option Blk} {e N m id : Nat} {B : List V → H → Option (AX × List V × H)} (enc : V → Nat → List V) (O : V → List V) (new : Nat → List V)
    (hstep : ∀ i x L n l, i < N → n + m ≤ 100000 → Acc h L x e n l → ∃ x' L', B (enc x i) (h.ext (F :: L)) = some (.normal, enc x' (i + 1), h.ext (F :: L')) ∧ Acc h L' x' e (n + m) (l ++ new i))
    (hout : ∀ x L, B (enc x N) (h.ext (F :: L)) = some (.exit id, O x, h.ext (F :: L))) :
    ∀ (k i : Nat) (x : V) (L : List (Option Blk)) (n : Nat) (l : List V), i + k = N → n + k * m ≤ 100000 → Acc h L x e n l → ∃ x' L', loopW B (enc x i) (h.ext (F :: L)) = some (.exit id, O x', h.ext (F :: L')) ∧ Acc h L' x' e (n + k * m) (l ++ (List.range' i k).flatMap new)
  | 0, i, x, L, n, l, hi, _, hA => by
    have : i = N := by omega
    subst this
    exact ⟨x, L, loopW_out (hout x L) (by simp), by simpa using hA⟩
  | k + 1, i, x, L, n, l, hi, hn, hA => by
    rw [Nat.add_mul] at hn
    obtain ⟨x1, L1, h1, hA1⟩ := hstep i x L n l (by omega) (by omega) hA
    obtain ⟨x2, L2, h2, hA2⟩ := acc_loop enc O new hstep hout k (i + 1) x1 L1 (n + m) (l ++ new i) (by omega) (by omega) hA1
    refine ⟨x2, L2, loopW_next h1 h2, ?_⟩
    rw [show n + (k + 1) * m = n + m + k * m by rw [Nat.add_mul]; omega, List.range'_succ, List.flatMap_cons, ← List.append_assoc]
    exact hA2

/-- A word's description. -/
def pinW (k : Nat) : List V := [.str ⟨⟨[112, 105, 110]⟩⟩, .int .i64 k, .int .i64 0]
def entryW (k i : Nat) : List V := [.str ⟨⟨[101, 110, 116, 114, 121]⟩⟩, .int .i64 k, .int .i64 i]
def viewW (k : Nat) : List V := [.str ⟨⟨[118, 105, 101, 119]⟩⟩, .int .i64 k, .int .i64 0, .str ⟨⟨[115, 116, 97, 114, 116]⟩⟩, .int .i64 k, .int .i64 0]
def headW (k : Nat) : List V := [.str ⟨⟨[104, 101, 97, 100, 101, 114]⟩⟩, .int .i64 k, .int .i64 0, .str ⟨⟨[108, 105, 110, 107]⟩⟩, .int .i64 k, .int .i64 0]
def bodyW (k i : Nat) : List V := [.str ⟨⟨[98, 111, 100, 121]⟩⟩, .int .i64 k, .int .i64 i]
def oneW : List V := [.str ⟨⟨[99, 108, 111, 99, 107]⟩⟩, .int .i64 0, .int .i64 0, .str ⟨⟨[101, 112, 111, 99, 104]⟩⟩, .int .i64 0, .int .i64 0, .str ⟨⟨[103, 114, 97, 121, 115]⟩⟩, .int .i64 0, .int .i64 0, .str ⟨⟨[116, 111, 112]⟩⟩, .int .i64 0, .int .i64 0]
def slotW (room k : Nat) : List V := headW k ++ (List.range room).flatMap (bodyW k)
def wordsW (S room c hd : Nat) : List V :=
  oneW ++ (List.range c).flatMap pinW ++ (List.range c).flatMap (fun k => (List.range hd).flatMap (entryW k)) ++ (List.range c).flatMap viewW ++ (List.range S).flatMap (slotW room)
def sizeW (S room c hd : Nat) : Nat := 4 + c * 1 + c * hd + c * 2 + S * (2 + room)

theorem refRoom_spec (s a c hd g st : Int) (h : H) : C 149 [cfgV s a c hd g st] h = some (.int .i64 (if a < 3 then 3 else a), h) := by
  refine call_closed (af := F.withyref06_Room) (by kernel_rfl) rfl (by rfl) (by rfl) h ?_
  have ok := H.ok_empty
  unfold cfgV
  rw [S.withyref06_Room_eq]
  simp only [S.withyref06_Room, H.new_ext, H.ext_ext, H.ext_next, H.ext_ldNk_0, H.ext_ldNk, H.ext_ldk_0, H.ext_ldk, H.ext_stk_0, H.ext_stk, ok, ldB_cells, ldNB_cells, stB_cells, V.one, V.cells, List.length_cons, List.length_nil, List.length_append, List.length_singleton, Nat.zero_add, Nat.add_zero, Nat.reduceAdd, Nat.reduceLeDiff, Nat.reduceLT, Nat.reduceMul, Nat.reduceSub, Int.reduceEq, Int.reduceLT, Int.reduceLE, if_true, if_false, or_self, or_false, false_or, or_true, true_or, Nat.zero_lt_one, Nat.lt_add_one, Nat.zero_lt_succ, Nat.add_assoc, decide_true, decide_false, List.getElem?_cons_zero, List.getElem?_cons_succ, List.cons_append, List.nil_append, List.append_assoc, List.drop_zero, List.drop_succ_cons, List.take_succ_cons, List.take_zero, List.set_cons_zero, List.set_cons_succ, splice, List.all_cons, List.all_nil, Bool.and_true, Bool.not_true, Bool.not_false, Bool.or_false, Option.bind_some, Option.map_some, Option.join_some, ckB_some, V.beq, V.beqs, Nat.beq_refl, BEq.rfl, Bool.and_self, fill, opd, boxc, finV, resAllV, resOfV, result, eqV, aggCells, eqOffs, eqCell, asI_int, asB_bool, ptrAt_ptr, reduceCtorEq]
  by_cases h0 : a < 3
  · simp only [h0, H.new_ext, H.ext_ext, H.ext_next, H.ext_ldNk_0, H.ext_ldNk, H.ext_ldk_0, H.ext_ldk, H.ext_stk_0, H.ext_stk, ok, ldB_cells, ldNB_cells, stB_cells, V.one, V.cells, List.length_cons, List.length_nil, List.length_append, List.length_singleton, Nat.zero_add, Nat.add_zero, Nat.reduceAdd, Nat.reduceLeDiff, Nat.reduceLT, Nat.reduceMul, Nat.reduceSub, Int.reduceEq, Int.reduceLT, Int.reduceLE, if_true, if_false, or_self, or_false, false_or, or_true, true_or, Nat.zero_lt_one, Nat.lt_add_one, Nat.zero_lt_succ, Nat.add_assoc, decide_true, decide_false, List.getElem?_cons_zero, List.getElem?_cons_succ, List.cons_append, List.nil_append, List.append_assoc, List.drop_zero, List.drop_succ_cons, List.take_succ_cons, List.take_zero, List.set_cons_zero, List.set_cons_succ, splice, List.all_cons, List.all_nil, Bool.and_true, Bool.not_true, Bool.not_false, Bool.or_false, Option.bind_some, Option.map_some, Option.join_some, ckB_some, V.beq, V.beqs, Nat.beq_refl, BEq.rfl, Bool.and_self, fill, opd, boxc, finV, resAllV, resOfV, result, eqV, aggCells, eqOffs, eqCell, asI_int, asB_bool, ptrAt_ptr, reduceCtorEq]; exact Ev.some rfl
  · simp only [h0, H.new_ext, H.ext_ext, H.ext_next, H.ext_ldNk_0, H.ext_ldNk, H.ext_ldk_0, H.ext_ldk, H.ext_stk_0, H.ext_stk, ok, ldB_cells, ldNB_cells, stB_cells, V.one, V.cells, List.length_cons, List.length_nil, List.length_append, List.length_singleton, Nat.zero_add, Nat.add_zero, Nat.reduceAdd, Nat.reduceLeDiff, Nat.reduceLT, Nat.reduceMul, Nat.reduceSub, Int.reduceEq, Int.reduceLT, Int.reduceLE, if_true, if_false, or_self, or_false, false_or, or_true, true_or, Nat.zero_lt_one, Nat.lt_add_one, Nat.zero_lt_succ, Nat.add_assoc, decide_true, decide_false, List.getElem?_cons_zero, List.getElem?_cons_succ, List.cons_append, List.nil_append, List.append_assoc, List.drop_zero, List.drop_succ_cons, List.take_succ_cons, List.take_zero, List.set_cons_zero, List.set_cons_succ, splice, List.all_cons, List.all_nil, Bool.and_true, Bool.not_true, Bool.not_false, Bool.or_false, Option.bind_some, Option.map_some, Option.join_some, ckB_some, V.beq, V.beqs, Nat.beq_refl, BEq.rfl, Bool.and_self, fill, opd, boxc, finV, resAllV, resOfV, result, eqV, aggCells, eqOffs, eqCell, asI_int, asB_bool, ptrAt_ptr, reduceCtorEq]; exact Ev.some rfl

section
variable {h : H} (ok : h.ok) (s a g st : Int) (c hd : Nat) (hc : c ≤ 8) (hhd : hd ≤ 16)
include ok hc hhd

omit hc hhd in
theorem ldF {L : List (Option Blk)} {cs : List V} {k : Nat} {v : V} (hv : cs[k]? = some v) (h1 : v.one = true) : (h.ext (some (.cells cs .rw) :: L)).ld1 (.ptr h.next k) = some v := by
  rw [H.ext_ldk_0 ok]
  simp only [List.getElem?_cons_zero, Option.join_some, ldB_cells, hv, h1]


theorem pins_loop : ∀ (k i : Nat) (x : V) (L : List (Option Blk)) (n : Nat) (l : List V), i + k = c → n + k * 1 ≤ 100000 → Acc h L x 3 n l → ∃ x' L', loopW (S.withyref06_Words_c1_B W) (S.withyref06_Words_c1_E (.ptr h.next 0) x (.int .i64 (i : Nat))) (h.ext ((some (.cells [.int .i64 s, .int .i64 a, .int .i64 c, .int .i64 hd, .int .i64 g, .int .i64 st] .rw)) :: L)) = some (.exit 0, S.withyref06_Words_c1_O (.ptr h.next 0) x', h.ext ((some (.cells [.int .i64 s, .int .i64 a, .int .i64 c, .int .i64 hd, .int .i64 g, .int .i64 st] .rw)) :: L')) ∧ Acc h L' x' 3 (n + k * 1) (l ++ (List.range' i k).flatMap pinW) := by
  refine acc_loop (fun x i => S.withyref06_Words_c1_E (.ptr h.next 0) x (.int .i64 (i : Nat))) (fun x => S.withyref06_Words_c1_O (.ptr h.next 0) x) pinW (fun i x L n l hi hn hA => ?_) (fun x L => ?_)
  · rw [S.withyref06_Words_c1_eq]
    have hf := ldF ok (L := L) (cs := [.int .i64 s, .int .i64 a, .int .i64 c, .int .i64 hd, .int .i64 g, .int .i64 st]) (k := 2) rfl rfl
    obtain ⟨x', L', h1, hA'⟩ := hA.grow (F := (some (.cells [.int .i64 s, .int .i64 a, .int .i64 c, .int .i64 hd, .int .i64 g, .int .i64 st] .rw))) (b := 32) (m := 1) (new := pinW i) rfl rfl (by omega) (by omega) (by omega) (by omega)
    have hw : wr .i64 ((i : Int) + 1) = ((i + 1 : Nat) : Int) := by rw [wr64 (by omega) (by omega)]; rfl
    refine ⟨x', L', ?_, hA'⟩
    simp only [S.withyref06_Words_c1_S, ptrAt_ptr, Nat.zero_add, hf, Option.bind_some, asI_int, show (i : Int) < ((c : Nat) : Int) by omega, decide_true, H.new_ext, H.ext_ext, H.ext_next, List.cons_append, List.length_cons]
    simp only [pinW] at h1
    rw [h1]
    simp only [Option.bind_some, hw]
  · rw [S.withyref06_Words_c1_eq]
    have hf := ldF ok (L := L) (cs := [.int .i64 s, .int .i64 a, .int .i64 c, .int .i64 hd, .int .i64 g, .int .i64 st]) (k := 2) rfl rfl
    simp only [S.withyref06_Words_c1_S, ptrAt_ptr, Nat.zero_add, hf, Option.bind_some, asI_int, Int.lt_irrefl, decide_false]

theorem entries_loop (q : Nat) : ∀ (k i : Nat) (x : V) (L : List (Option Blk)) (n : Nat) (l : List V), i + k = hd → n + k * 1 ≤ 100000 → Acc h L x 3 n l → ∃ x' L', loopW (S.withyref06_Words_c5_B W) (S.withyref06_Words_c5_E (.ptr h.next 0) x (.int .i64 (q : Nat)) (.int .i64 (i : Nat))) (h.ext ((some (.cells [.int .i64 s, .int .i64 a, .int .i64 c, .int .i64 hd, .int .i64 g, .int .i64 st] .rw)) :: L)) = some (.exit 4, S.withyref06_Words_c5_O (.ptr h.next 0) x' (.int .i64 (q : Nat)), h.ext ((some (.cells [.int .i64 s, .int .i64 a, .int .i64 c, .int .i64 hd, .int .i64 g, .int .i64 st] .rw)) :: L')) ∧ Acc h L' x' 3 (n + k * 1) (l ++ (List.range' i k).flatMap (entryW q)) := by
  refine acc_loop (fun x i => S.withyref06_Words_c5_E (.ptr h.next 0) x (.int .i64 (q : Nat)) (.int .i64 (i : Nat))) (fun x => S.withyref06_Words_c5_O (.ptr h.next 0) x (.int .i64 (q : Nat))) (entryW q) (fun i x L n l hi hn hA => ?_) (fun x L => ?_)
  · rw [S.withyref06_Words_c5_eq]
    have hf := ldF ok (L := L) (cs := [.int .i64 s, .int .i64 a, .int .i64 c, .int .i64 hd, .int .i64 g, .int .i64 st]) (k := 3) rfl rfl
    obtain ⟨x', L', h1, hA'⟩ := hA.grow (F := (some (.cells [.int .i64 s, .int .i64 a, .int .i64 c, .int .i64 hd, .int .i64 g, .int .i64 st] .rw))) (b := 32) (m := 1) (new := entryW q i) rfl rfl (by omega) (by omega) (by omega) (by omega)
    have hw : wr .i64 ((i : Int) + 1) = ((i + 1 : Nat) : Int) := by rw [wr64 (by omega) (by omega)]; rfl
    refine ⟨x', L', ?_, hA'⟩
    simp only [S.withyref06_Words_c5_S, ptrAt_ptr, Nat.zero_add, hf, Option.bind_some, asI_int, show (i : Int) < ((hd : Nat) : Int) by omega, decide_true, H.new_ext, H.ext_ext, H.ext_next, List.cons_append, List.length_cons]
    simp only [entryW] at h1
    rw [h1]
    simp only [Option.bind_some, hw]
  · rw [S.withyref06_Words_c5_eq]
    have hf := ldF ok (L := L) (cs := [.int .i64 s, .int .i64 a, .int .i64 c, .int .i64 hd, .int .i64 g, .int .i64 st]) (k := 3) rfl rfl
    simp only [S.withyref06_Words_c5_S, ptrAt_ptr, Nat.zero_add, hf, Option.bind_some, asI_int, Int.lt_irrefl, decide_false]

theorem views_loop : ∀ (k i : Nat) (x : V) (L : List (Option Blk)) (n : Nat) (l : List V), i + k = c → n + k * 2 ≤ 100000 → Acc h L x 3 n l → ∃ x' L', loopW (S.withyref06_Words_c7_B W) (S.withyref06_Words_c7_E (.ptr h.next 0) x (.int .i64 (i : Nat))) (h.ext ((some (.cells [.int .i64 s, .int .i64 a, .int .i64 c, .int .i64 hd, .int .i64 g, .int .i64 st] .rw)) :: L)) = some (.exit 6, S.withyref06_Words_c7_O (.ptr h.next 0) x', h.ext ((some (.cells [.int .i64 s, .int .i64 a, .int .i64 c, .int .i64 hd, .int .i64 g, .int .i64 st] .rw)) :: L')) ∧ Acc h L' x' 3 (n + k * 2) (l ++ (List.range' i k).flatMap viewW) := by
  refine acc_loop (fun x i => S.withyref06_Words_c7_E (.ptr h.next 0) x (.int .i64 (i : Nat))) (fun x => S.withyref06_Words_c7_O (.ptr h.next 0) x) viewW (fun i x L n l hi hn hA => ?_) (fun x L => ?_)
  · rw [S.withyref06_Words_c7_eq]
    have hf := ldF ok (L := L) (cs := [.int .i64 s, .int .i64 a, .int .i64 c, .int .i64 hd, .int .i64 g, .int .i64 st]) (k := 2) rfl rfl
    obtain ⟨x', L', h1, hA'⟩ := hA.grow (F := (some (.cells [.int .i64 s, .int .i64 a, .int .i64 c, .int .i64 hd, .int .i64 g, .int .i64 st] .rw))) (b := 32) (m := 2) (new := viewW i) rfl rfl (by omega) (by omega) (by omega) (by omega)
    have hw : wr .i64 ((i : Int) + 1) = ((i + 1 : Nat) : Int) := by rw [wr64 (by omega) (by omega)]; rfl
    refine ⟨x', L', ?_, hA'⟩
    simp only [S.withyref06_Words_c7_S, ptrAt_ptr, Nat.zero_add, hf, Option.bind_some, asI_int, show (i : Int) < ((c : Nat) : Int) by omega, decide_true, H.new_ext, H.ext_ext, H.ext_next, List.cons_append, List.length_cons]
    simp only [viewW] at h1
    rw [h1]
    simp only [Option.bind_some, hw]
  · rw [S.withyref06_Words_c7_eq]
    have hf := ldF ok (L := L) (cs := [.int .i64 s, .int .i64 a, .int .i64 c, .int .i64 hd, .int .i64 g, .int .i64 st]) (k := 2) rfl rfl
    simp only [S.withyref06_Words_c7_S, ptrAt_ptr, Nat.zero_add, hf, Option.bind_some, asI_int, Int.lt_irrefl, decide_false]

theorem allEntries_loop : ∀ (k i : Nat) (x : V) (L : List (Option Blk)) (n : Nat) (l : List V), i + k = c → n + k * hd ≤ 100000 → Acc h L x 3 n l → ∃ x' L', loopW (S.withyref06_Words_c3_B W) (S.withyref06_Words_c3_E (.ptr h.next 0) x (.int .i64 (i : Nat))) (h.ext ((some (.cells [.int .i64 s, .int .i64 a, .int .i64 c, .int .i64 hd, .int .i64 g, .int .i64 st] .rw)) :: L)) = some (.exit 2, S.withyref06_Words_c3_O (.ptr h.next 0) x', h.ext ((some (.cells [.int .i64 s, .int .i64 a, .int .i64 c, .int .i64 hd, .int .i64 g, .int .i64 st] .rw)) :: L')) ∧ Acc h L' x' 3 (n + k * hd) (l ++ (List.range' i k).flatMap fun k => (List.range' 0 hd).flatMap (entryW k)) := by
  refine acc_loop (fun x i => S.withyref06_Words_c3_E (.ptr h.next 0) x (.int .i64 (i : Nat))) (fun x => S.withyref06_Words_c3_O (.ptr h.next 0) x) (fun k => (List.range' 0 hd).flatMap (entryW k)) (fun i x L n l hi hn hA => ?_) (fun x L => ?_)
  · rw [S.withyref06_Words_c3_eq]
    have hf := ldF ok (L := L) (cs := [.int .i64 s, .int .i64 a, .int .i64 c, .int .i64 hd, .int .i64 g, .int .i64 st]) (k := 2) rfl rfl
    obtain ⟨x', L', h1, hA'⟩ := entries_loop ok s a g st c hd hc hhd i hd 0 x L n l (by omega) (by omega) hA
    have hw : wr .i64 ((i : Int) + 1) = ((i + 1 : Nat) : Int) := by rw [wr64 (by omega) (by omega)]; rfl
    rw [Nat.mul_one] at hA'
    refine ⟨x', L', ?_, hA'⟩
    have h1' : W.loop (S.withyref06_Words_c5_B W) (S.withyref06_Words_c5_E (.ptr h.next 0) x (.int .i64 (i : Nat)) (.int .i64 0)) (h.ext ((some (.cells [.int .i64 s, .int .i64 a, .int .i64 c, .int .i64 hd, .int .i64 g, .int .i64 st] .rw)) :: L)) = _ := h1
    simp only [S.withyref06_Words_c3_S, ptrAt_ptr, Nat.zero_add, hf, Option.bind_some, asI_int, show (i : Int) < ((c : Nat) : Int) by omega, decide_true]
    rw [h1']
    simp only [Option.bind_some]
    rw [S.withyref06_Words_c5_e4_eq]
    simp only [S.withyref06_Words_c5_e4, hw]
  · rw [S.withyref06_Words_c3_eq]
    have hf := ldF ok (L := L) (cs := [.int .i64 s, .int .i64 a, .int .i64 c, .int .i64 hd, .int .i64 g, .int .i64 st]) (k := 2) rfl rfl
    simp only [S.withyref06_Words_c3_S, ptrAt_ptr, Nat.zero_add, hf, Option.bind_some, asI_int, Int.lt_irrefl, decide_false]

theorem bodies_loop (q room : Nat) (hr : (if a < 3 then 3 else a) = (room : Int)) (hr2 : room ≤ 10) : ∀ (k i : Nat) (x : V) (L : List (Option Blk)) (n : Nat) (l : List V), i + k = room → n + k * 1 ≤ 100000 → Acc h L x 3 n l → ∃ x' L', loopW (S.withyref06_Words_c11_B W) (S.withyref06_Words_c11_E (.ptr h.next 0) x (.int .i64 (q : Nat)) (.int .i64 (i : Nat))) (h.ext ((some (.cells [.int .i64 s, .int .i64 a, .int .i64 c, .int .i64 hd, .int .i64 g, .int .i64 st] .rw)) :: L)) = some (.exit 10, S.withyref06_Words_c11_O (.ptr h.next 0) x' (.int .i64 (q : Nat)), h.ext ((some (.cells [.int .i64 s, .int .i64 a, .int .i64 c, .int .i64 hd, .int .i64 g, .int .i64 st] .rw)) :: L')) ∧ Acc h L' x' 3 (n + k * 1) (l ++ (List.range' i k).flatMap (bodyW q)) := by
  have hd6 : ∀ L, (h.ext ((some (.cells [.int .i64 s, .int .i64 a, .int .i64 c, .int .i64 hd, .int .i64 g, .int .i64 st] .rw)) :: L)).ldN 6 (.ptr h.next 0) = some (.agg [.int .i64 s, .int .i64 a, .int .i64 c, .int .i64 hd, .int .i64 g, .int .i64 st]) := fun L => by
    rw [H.ext_ldNk_0 ok]; rfl
  have hR := refRoom_spec s a c hd g st
  rw [hr] at hR
  unfold cfgV at hR
  refine acc_loop (fun x i => S.withyref06_Words_c11_E (.ptr h.next 0) x (.int .i64 (q : Nat)) (.int .i64 (i : Nat))) (fun x => S.withyref06_Words_c11_O (.ptr h.next 0) x (.int .i64 (q : Nat))) (bodyW q) (fun i x L n l hi hn hA => ?_) (fun x L => ?_)
  · rw [S.withyref06_Words_c11_eq]
    obtain ⟨x', L', h1, hA'⟩ := hA.grow (F := (some (.cells [.int .i64 s, .int .i64 a, .int .i64 c, .int .i64 hd, .int .i64 g, .int .i64 st] .rw))) (b := 32) (m := 1) (new := bodyW q i) rfl rfl (by omega) (by omega) (by omega) (by omega)
    have hw : wr .i64 ((i : Int) + 1) = ((i + 1 : Nat) : Int) := by rw [wr64 (by omega) (by omega)]; rfl
    refine ⟨x', L', ?_, hA'⟩
    simp only [S.withyref06_Words_c11_S, hd6, W_call, hR, Option.bind_some, asI_int, show (i : Int) < ((room : Nat) : Int) by omega, decide_true, H.new_ext, H.ext_ext, H.ext_next, List.cons_append, List.length_cons]
    simp only [bodyW] at h1
    rw [h1]
    simp only [Option.bind_some, hw]
  · rw [S.withyref06_Words_c11_eq]
    simp only [S.withyref06_Words_c11_S, hd6, W_call, hR, Option.bind_some, asI_int, Int.lt_irrefl, decide_false]

theorem slots_loop (S' room : Nat) (hS : s = (S' : Int)) (hS2 : S' ≤ 64) (hr : (if a < 3 then 3 else a) = (room : Int)) (hr2 : room ≤ 10) : ∀ (k i : Nat) (x : V) (L : List (Option Blk)) (n : Nat) (l : List V), i + k = S' → n + k * (2 + room) ≤ 100000 → Acc h L x 3 n l → ∃ x' L', loopW (S.withyref06_Words_c9_B W) (S.withyref06_Words_c9_E (.ptr h.next 0) x (.int .i64 (i : Nat))) (h.ext ((some (.cells [.int .i64 s, .int .i64 a, .int .i64 c, .int .i64 hd, .int .i64 g, .int .i64 st] .rw)) :: L)) = some (.exit 8, S.withyref06_Words_c9_O x', h.ext ((some (.cells [.int .i64 s, .int .i64 a, .int .i64 c, .int .i64 hd, .int .i64 g, .int .i64 st] .rw)) :: L')) ∧ Acc h L' x' 3 (n + k * (2 + room)) (l ++ (List.range' i k).flatMap fun k => headW k ++ (List.range' 0 room).flatMap (bodyW k)) := by
  refine acc_loop (fun x i => S.withyref06_Words_c9_E (.ptr h.next 0) x (.int .i64 (i : Nat))) (fun x => S.withyref06_Words_c9_O x) (fun k => headW k ++ (List.range' 0 room).flatMap (bodyW k)) (fun i x L n l hi hn hA => ?_) (fun x L => ?_)
  · rw [S.withyref06_Words_c9_eq]
    have hf := ldF ok (L := L) (cs := [.int .i64 s, .int .i64 a, .int .i64 c, .int .i64 hd, .int .i64 g, .int .i64 st]) (k := 0) rfl rfl
    obtain ⟨x1, L1, h1, hA1⟩ := hA.grow (F := (some (.cells [.int .i64 s, .int .i64 a, .int .i64 c, .int .i64 hd, .int .i64 g, .int .i64 st] .rw))) (b := 32) (m := 2) (new := headW i) rfl rfl (by omega) (by omega) (by omega) (by omega)
    obtain ⟨x', L', h2, hA'⟩ := bodies_loop ok s a g st c hd hc hhd i room hr hr2 room 0 x1 L1 (n + 2) (l ++ headW i) (by omega) (by omega) hA1
    have hw : wr .i64 ((i : Int) + 1) = ((i + 1 : Nat) : Int) := by rw [wr64 (by omega) (by omega)]; rfl
    rw [Nat.mul_one, List.append_assoc, Nat.add_assoc] at hA'
    refine ⟨x', L', ?_, hA'⟩
    have h2' : W.loop (S.withyref06_Words_c11_B W) (S.withyref06_Words_c11_E (.ptr h.next 0) x1 (.int .i64 (i : Nat)) (.int .i64 0)) (h.ext ((some (.cells [.int .i64 s, .int .i64 a, .int .i64 c, .int .i64 hd, .int .i64 g, .int .i64 st] .rw)) :: L1)) = _ := h2
    simp only [S.withyref06_Words_c9_S, ptrAt_ptr, Nat.zero_add, hf, Option.bind_some, asI_int, show (i : Int) < s by omega, decide_true, H.new_ext, H.ext_ext, H.ext_next, List.cons_append, List.length_cons]
    simp only [headW] at h1
    rw [h1]
    simp only [Option.bind_some]
    rw [h2']
    simp only [Option.bind_some]
    rw [S.withyref06_Words_c11_e10_eq]
    simp only [S.withyref06_Words_c11_e10, hw]
  · rw [S.withyref06_Words_c9_eq]
    have hf := ldF ok (L := L) (cs := [.int .i64 s, .int .i64 a, .int .i64 c, .int .i64 hd, .int .i64 g, .int .i64 st]) (k := 0) rfl rfl
    simp only [S.withyref06_Words_c9_S, ptrAt_ptr, Nat.zero_add, hf, Option.bind_some, asI_int, show ¬ ((S' : Nat) : Int) < s by omega, decide_false]
end

theorem range'_zero (n : Nat) : List.range' 0 n = List.range n := (List.range_eq_range').symm

theorem words_spec {s a c hd g st : Int} (hr : cfgR s a c hd g st = true) {h : H} (ok : h.ok) : ∃ x L, C 87 [cfgV s a c hd g st] h = some (x, h.ext (some (.cells [.int .i64 s, .int .i64 a, .int .i64 c, .int .i64 hd, .int .i64 g, .int .i64 st] .rw) :: L)) ∧
    Acc h L x 3 (sizeW s.toNat (if a < 3 then 3 else a).toNat c.toNat hd.toNat) (wordsW s.toNat (if a < 3 then 3 else a).toNat c.toNat hd.toNat) := by
  obtain ⟨⟨s1, s2⟩, ⟨a1, a2⟩, ⟨c1, c2⟩, ⟨d1, d2⟩, _⟩ := cfgR_iff.mp hr
  obtain ⟨c', rfl⟩ : ∃ n : Nat, c = n := ⟨c.toNat, by omega⟩
  obtain ⟨hd', rfl⟩ : ∃ n : Nat, hd = n := ⟨hd.toNat, by omega⟩
  obtain ⟨s', rfl⟩ : ∃ n : Nat, s = n := ⟨s.toNat, by omega⟩
  obtain ⟨room, hroom⟩ : ∃ n : Nat, (if a < 3 then 3 else a) = (n : Int) := ⟨(if a < 3 then 3 else a).toNat, by split <;> omega⟩
  have hroom2 : room ≤ 10 := by split at hroom <;> omega
  have hS2 : s' ≤ 64 := by omega
  rw [hroom]
  simp only [Int.toNat_natCast]
  -- loop by loop
  have hA0 : Acc h [some (.cells oneW .rw)] (.sl (h.next + 1) 0 4 (.ex 4)) 3 4 oneW := ⟨rfl, rfl, 0, Or.inr ⟨rfl, rfl⟩⟩
  obtain ⟨x1, L1, e1, A1⟩ := pins_loop ok s' a g st c' hd' (by omega) (by omega) c' 0 _ _ 4 _ (by omega) (by omega) hA0
  have b1 : c' * hd' ≤ 8 * 16 := Nat.mul_le_mul (by omega) (by omega)
  obtain ⟨x2, L2, e2, A2⟩ := allEntries_loop ok s' a g st c' hd' (by omega) (by omega) c' 0 _ _ _ _ (by omega) (by omega) A1
  obtain ⟨x3, L3, e3, A3⟩ := views_loop ok s' a g st c' hd' (by omega) (by omega) c' 0 _ _ _ _ (by omega) (by omega) A2
  have b2 : s' * (2 + room) ≤ 64 * 12 := Nat.mul_le_mul hS2 (by omega)
  obtain ⟨x4, L4, e4, A4⟩ := slots_loop ok s' a g st c' hd' (by omega) (by omega) s' room rfl hS2 hroom hroom2 s' 0 _ _ _ _ (by omega) (by omega) A3
  simp only [range'_zero] at A4
  refine ⟨x4, L4, ?_, A4⟩
  refine call_open (af := F.withyref06_Words) (by kernel_rfl) rfl ?_
  unfold cfgV
  rw [S.withyref06_Words_eq]
  simp only [S.withyref06_Words, H.new_ext, H.ext_ext, H.ext_next, List.length_singleton, List.cons_append, List.nil_append]
  have e1' : W.loop (S.withyref06_Words_c1_B W) (S.withyref06_Words_c1_E (.ptr h.next 0) (.sl (h.next + 1) 0 4 (.ex 4)) (.int .i64 0)) _ = _ := e1
  unfold oneW at e1'
  rw [e1']
  simp only [Option.bind_some]
  rw [S.withyref06_Words_c1_e0_eq]
  simp only [S.withyref06_Words_c1_e0]
  have e2' : W.loop (S.withyref06_Words_c3_B W) (S.withyref06_Words_c3_E (.ptr h.next 0) x1 (.int .i64 0)) _ = _ := e2
  rw [e2']
  simp only [Option.bind_some]
  rw [S.withyref06_Words_c3_e2_eq]
  simp only [S.withyref06_Words_c3_e2]
  have e3' : W.loop (S.withyref06_Words_c7_B W) (S.withyref06_Words_c7_E (.ptr h.next 0) x2 (.int .i64 0)) _ = _ := e3
  rw [e3']
  simp only [Option.bind_some]
  rw [S.withyref06_Words_c7_e6_eq]
  simp only [S.withyref06_Words_c7_e6]
  have e4' : W.loop (S.withyref06_Words_c9_B W) (S.withyref06_Words_c9_E (.ptr h.next 0) x3 (.int .i64 0)) _ = _ := e4
  rw [e4']
  simp only [Option.bind_some]
  rw [S.withyref06_Words_c9_e8_eq]
  rfl
end Wm
