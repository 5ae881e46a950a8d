/- A slice that grows among blocks that came: what it holds. -/
import Derived.Test.YtmhebljpahogaaaWmGrow
set_option linter.all false
namespace Wm

/-- The slice holds these cells; its block is one of those behind the first. -/
def Acc (h : H) (L : List (Option Blk)) (x : V) (e n : Nat) (l : List V) : Prop :=
  l.length = n * e ∧ l.all V.one = true ∧ ∃ j, (x = .sl (h.next + (j + 1)) 0 n (.op e) ∧ L[j]? = some (some (.cells l (.gr e)))) ∨ (x = .sl (h.next + (j + 1)) 0 n (.ex n) ∧ L[j]? = some (some (.cells l .rw)))

theorem lt_of_get {α : Type} {l : List α} {j : Nat} {x : α} (h : l[j]? = some x) : j < l.length := by
  rcases Nat.lt_or_ge j l.length with q | q
  · exact q
  · rw [List.getElem?_eq_none q] at h; cases h

theorem append_ex' {h : H} {e b bb o len n c : Nat} {x : V} {new old : List V} (hx : lenSl x = some n) (hn : h.slc e x = some new) (ho : h.slc e (.sl bb o len (.ex c)) = some old) (h1 : new.all V.one = true) (h2 : (len + n + (len + n) / 2 + 1000) * b ≤ 281474976710656) (he : 0 < e) (hb : 0 < b) (hc : ¬ len + n ≤ c) :
    h.append e b (.sl bb o len (.ex c)) x = some (.sl h.next 0 (len + n) (.op e), h.new (.cells (old ++ new) (.gr e))) := by
  have h3 : lenSl (.sl bb o len (.ex c)) = some len := rfl
  simp only [H.append, hx, hn, h3, ho, h1, h2, he, hb, decide_true, Bool.and_self, hc, decide_false]

theorem Acc.grow {h : H} {F : Option Blk} {L : List (Option Blk)} {x : V} {e n m b : Nat} {l new : List V} (hA : Acc h L x e n l) (hn : new.length = m * e) (h1 : new.all V.one = true) (hm : 0 < m) (he : 0 < e) (hb : 0 < b) (hs : (n + m + (n + m) / 2 + 1000) * b ≤ 281474976710656) :
    ∃ x' L', (h.ext (F :: (L ++ [some (.cells new .rw)]))).append e b x (.sl (h.next + (L.length + 1)) 0 m (.ex m)) = some (x', h.ext (F :: L')) ∧ Acc h L' x' e (n + m) (l ++ new) := by
  obtain ⟨hl, ho, j, hj⟩ := hA
  have hlen : (l ++ new).length = (n + m) * e := by rw [List.length_append, hl, hn, Nat.add_mul]
  have hone : (l ++ new).all V.one = true := by rw [List.all_append, ho, h1]; rfl
  have e1 : (F :: (L ++ [some (Blk.cells new .rw)])).length = L.length + 2 := by rw [List.length_cons, List.length_append]; rfl
  have hnew : (h.ext (F :: (L ++ [some (.cells new .rw)]))).slc e (.sl (h.next + (L.length + 1)) 0 m (.ex m)) = some new := by
    rw [slc_get (cs := new) (k := .rw) ?_ (by omega)]
    · rw [List.drop_zero, List.take_of_length_le (by omega)]
    · rw [H.ext_get (by rw [e1]; omega), List.getElem?_cons_succ, List.getElem?_append_right (Nat.le_refl _), Nat.sub_self]; rfl
  rcases hj with ⟨rfl, hjL⟩ | ⟨rfl, hjL⟩
  · have hlt := lt_of_get hjL
    have hbk : (h.ext (F :: (L ++ [some (.cells new .rw)]))).get (h.next + (j + 1)) = some (.cells l (.gr e)) := by
      rw [H.ext_get (by rw [e1]; omega), List.getElem?_cons_succ, List.getElem?_append_left hlt, hjL]; rfl
    have hold : (h.ext (F :: (L ++ [some (.cells new .rw)]))).slc e (.sl (h.next + (j + 1)) 0 n (.op e)) = some l := by
      rw [slc_get hbk (by omega), List.drop_zero, List.take_of_length_le (by omega)]
    refine ⟨.sl (h.next + (L.length + 2)) 0 (n + m) (.op e), (L ++ [some (Blk.cells new .rw)]).set j none ++ [some (Blk.cells (l ++ new) (.gr e))], ?_, hlen, hone, L.length + 1, Or.inl ⟨rfl, ?_⟩⟩
    · rw [append_op (n := m) rfl hnew hold hbk h1 hs he hb, H.ext_put (by rw [e1]; omega), H.new_ext, H.ext_ext, H.ext_next, e1]
      rfl
    · rw [List.getElem?_append_right (by rw [List.length_set, List.length_append]; exact Nat.le_refl _), List.length_set, List.length_append]
      simp only [List.length_singleton, Nat.sub_self, List.getElem?_cons_zero]
  · have hlt := lt_of_get hjL
    have hbk : (h.ext (F :: (L ++ [some (.cells new .rw)]))).get (h.next + (j + 1)) = some (.cells l .rw) := by
      rw [H.ext_get (by rw [e1]; omega), List.getElem?_cons_succ, List.getElem?_append_left hlt, hjL]; rfl
    have hold : (h.ext (F :: (L ++ [some (.cells new .rw)]))).slc e (.sl (h.next + (j + 1)) 0 n (.ex n)) = some l := by
      rw [slc_get hbk (by omega), List.drop_zero, List.take_of_length_le (by omega)]
    refine ⟨.sl (h.next + (L.length + 2)) 0 (n + m) (.op e), L ++ [some (Blk.cells new .rw)] ++ [some (Blk.cells (l ++ new) (.gr e))], ?_, hlen, hone, L.length + 1, Or.inl ⟨rfl, ?_⟩⟩
    · rw [append_ex' (n := m) rfl hnew hold h1 hs he hb (by omega), H.new_ext, H.ext_ext, H.ext_next, e1]
      rfl
    · rw [List.getElem?_append_right (by rw [List.length_append]; exact Nat.le_refl _), List.length_append]
      simp only [List.length_singleton, Nat.sub_self, List.getElem?_cons_zero]
end Wm
