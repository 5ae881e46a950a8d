/- Slices that grow, and loops. -/
import Derived.Test.YtmhebljpahogaaaWmEv
set_option linter.all false
namespace Wm
theorem ldN_new {h : H} {cs : List V} {k : Bk} {o n : Nat} (hl : o + n ≤ cs.length) : (h.new (.cells cs k)).ldN n (.ptr h.next o) = some (.agg ((cs.drop o).take n)) := ldN_get (get_new_self _ _) hl

theorem mkSl_ok {h : H} {e b : Nat} {z : List V} {l c : Int} (h1 : 0 ≤ l) (h2 : l ≤ c) (h3 : c * b ≤ 140737488355328) (h4 : c ≤ 9223372036854775807) (h5 : z.length = e) (h6 : 0 < e) :
    h.mkSl e b z l c = some (.sl h.next 0 l.toNat (.ex c.toNat), h.new (.cells (repl z c.toNat) .rw)) := by
  subst h5
  simp [H.mkSl, h1, h2, h3, h4, h6]

theorem ld1_new_ne {h : H} {x : Blk} {b o : Nat} (hb : b ≠ h.next) : (h.new x).ld1 (.ptr b o) = h.ld1 (.ptr b o) := by
  simp only [H.ld1, get_new_ne hb]

theorem append_op {h : H} {e b bb o len n : Nat} {x : V} {new old cs : List V} (hx : lenSl x = some n) (hn : h.slc e x = some new) (ho : h.slc e (.sl bb o len (.op e)) = some old) (hg : h.get bb = some (.cells cs (.gr e))) (h1 : new.all V.one = true) (h2 : (len + n + (len + n) / 2 + 1000) * b ≤ 281474976710656) (he : 0 < e) (hb : 0 < b) :
    h.append e b (.sl bb o len (.op e)) x = some (.sl h.next 0 (len + n) (.op e), (h.put bb none).new (.cells (old ++ new) (.gr e))) := by
  have h3 : lenSl (.sl bb o len (.op e)) = some len := rfl
  simp only [H.append, hx, hn, h3, ho, h1, h2, he, hb, decide_true, Bool.and_self, hg, Nat.beq_refl]

theorem append_nil {h : H} {e b n : Nat} {x : V} {new : List V} (hx : lenSl x = some n) (hn : h.slc e x = some new) (h0 : n ≠ 0) (h1 : new.all V.one = true) (h2 : (n + n / 2 + 1000) * b ≤ 281474976710656) (he : 0 < e) (hb : 0 < b) :
    h.append e b .nilsl x = some (.sl h.next 0 n (.op e), h.new (.cells new (.gr e))) := by
  have h3 : lenSl .nilsl = some 0 := rfl
  have h4 : h.slc e .nilsl = some [] := rfl
  have h5 : Nat.beq n 0 = false := by cases n with
    | zero => exact absurd rfl h0
    | succ n => rfl
  simp only [H.append, hx, hn, h3, h4, h1, h2, he, hb, decide_true, Bool.and_self, Nat.zero_add, h5, List.nil_append]

theorem slc_get {h : H} {e bb o len : Nat} {cap : Cap} {cs : List V} {k : Bk} (hg : h.get bb = some (.cells cs k)) (hl : o + len * e ≤ cs.length) : h.slc e (.sl bb o len cap) = some ((cs.drop o).take (len * e)) := by
  simp only [H.slc, ldc_get hg hl]

theorem st1_get {h : H} {b o : Nat} {cs : List V} {k : Bk} {v : V} (hb : h.get b = some (.cells cs k)) (hk : k ≠ .ro) (hv : v.one = true) (hl : o < cs.length) : h.st 1 (.ptr b o) v = some (h.put b (some (.cells (cs.set o v) k))) := by
  have hc : v.cells = [v] := by cases v <;> first | rfl | simp [V.one] at hv
  have hs : splice cs o [v] = cs.set o v := by
    simp only [splice, List.length_singleton]
    rw [List.set_eq_take_append_cons_drop, if_pos hl]
    simp
  have h6 := stc_get hb hk (vs := [v]) (by simp [hv]) (show o + [v].length ≤ cs.length by simp; omega)
  rw [hs] at h6
  simp only [H.st, hc, List.length_singleton, Nat.beq, h6]

theorem loop_ev {α : Type} {call : Nat → List V → H → Option (V × H)} {meth : Nat → Nat → Option Nat} {b : List V → H → Option (AX × List V × H)} {R : Type} {k : AX × List V × H → Option R} {Q : R → Prop} {e : List V} {h : H} (enc : α → List V) (I : α → H → Prop) (μ : α → H → Nat) (P : AX × List V × H → Prop) (a : α) (he : e = enc a) (h0 : I a h)
    (step : ∀ a h, I a h → Ev (b (enc a) h) fun r => (∃ a', r.1 = .normal ∧ r.2.1 = enc a' ∧ I a' r.2.2 ∧ μ a' r.2.2 < μ a h) ∨ (r.1 ≠ .normal ∧ P r)) (out : ∀ r, P r → Ev (k r) Q) : Ev (((envW meth call).loop b e h).bind k) Q := by
  subst he
  exact Ev.bind (loopW_ev enc I μ step a h h0) out

end Wm
