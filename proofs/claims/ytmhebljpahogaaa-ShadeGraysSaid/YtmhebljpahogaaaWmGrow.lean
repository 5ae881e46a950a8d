/- A slice that one element is appended to, among blocks that came. -/
import Derived.Test.YtmhebljpahogaaaWmHeap
import Derived.Test.YtmhebljpahogaaaWmPModelNewB
set_option linter.all false
namespace Wm

theorem indexAV_in {b o n e : Nat} {c : Cap} {i : Int} {k : Go.IntKind} (h0 : 0 ≤ i) (h1 : i < n) : indexAV e (.sl b o n c) (.int k i) = some (.ptr b (o + i.toNat * e)) := by
  simp only [indexAV, indexOf, asIAny, h0, h1, decide_true, Bool.and_self]

section
variable {h : H} {P : List (Option Blk)} {e b : Nat} {new : List V}

theorem grow_new (hn : new.length = e) : (h.ext (P ++ [some (.cells new .rw)])).slc e (.sl (h.next + P.length) 0 1 (.ex 1)) = some new := by
  rw [slc_get (cs := new) (k := .rw) ?_ (by omega)]
  · rw [List.drop_zero, List.take_of_length_le (by omega)]
  · rw [H.ext_get (by rw [List.length_append]; exact Nat.lt_succ_self _), List.getElem?_append_right (Nat.le_refl _), Nat.sub_self]; rfl

theorem grow_nil (hn : new.length = e) (h1 : new.all V.one = true) (he : 0 < e) (hb : 0 < b ∧ b ≤ 1000) :
    (h.ext (P ++ [some (.cells new .rw)])).append e b .nilsl (.sl (h.next + P.length) 0 1 (.ex 1)) = some (.sl (h.next + (P.length + 1)) 0 1 (.op e), h.ext (P ++ [some (Blk.cells new .rw)] ++ [some (Blk.cells new (.gr e))])) := by
  rw [append_nil (n := 1) rfl (grow_new hn) (by omega) h1 (by omega) he hb.1, H.new_ext, H.ext_ext, H.ext_next]
  have e1 : (P ++ [some (Blk.cells new .rw)]).length = P.length + 1 := by rw [List.length_append]; rfl
  rw [e1]

theorem grow_op {j i : Nat} {cs : List V} (hj : P[j]? = some (some (.cells cs (.gr e)))) (hc : cs.length = i * e) (hn : new.length = e) (h1 : new.all V.one = true) (he : 0 < e) (hb : 0 < b) (hi : (i + 1 + (i + 1) / 2 + 1000) * b ≤ 281474976710656) :
    (h.ext (P ++ [some (.cells new .rw)])).append e b (.sl (h.next + j) 0 i (.op e)) (.sl (h.next + P.length) 0 1 (.ex 1)) =
      some (.sl (h.next + (P.length + 1)) 0 (i + 1) (.op e), h.ext ((P ++ [some (Blk.cells new .rw)]).set j none ++ [some (Blk.cells (cs ++ new) (.gr e))])) := by
  have hlt : j < P.length := by
    rcases Nat.lt_or_ge j P.length with q | q
    · exact q
    · rw [List.getElem?_eq_none q] at hj; cases hj
  have e1 : (P ++ [some (Blk.cells new .rw)]).length = P.length + 1 := by rw [List.length_append]; rfl
  have hbk : (h.ext (P ++ [some (.cells new .rw)])).get (h.next + j) = some (.cells cs (.gr e)) := by
    rw [H.ext_get (by rw [e1]; omega), List.getElem?_append_left hlt, hj]; rfl
  have hs : (h.ext (P ++ [some (.cells new .rw)])).slc e (.sl (h.next + j) 0 i (.op e)) = some cs := by
    rw [slc_get hbk (by omega), List.drop_zero, List.take_of_length_le (by omega)]
  rw [append_op (n := 1) rfl (grow_new hn) hs hbk h1 hi he hb, H.ext_put (by rw [e1]; omega), H.new_ext, H.ext_ext, H.ext_next, e1]
end
end Wm
