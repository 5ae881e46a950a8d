/- What was there is as it was. -/
import Derived.Test.YtmhebljpahogaaaWmEv
set_option linter.all false
namespace Wm
/-- What was there is as it was. -/
def Old (h h' : H) : Prop := h.next ≤ h'.next ∧ ∀ b, b < h.next → h'.get b = h.get b
theorem Old.refl (h : H) : Old h h := ⟨Nat.le_refl _, fun _ _ => rfl⟩
theorem Old.trans {a b c : H} (x : Old a b) (y : Old b c) : Old a c := ⟨Nat.le_trans x.1 y.1, fun n hn => (y.2 n (Nat.lt_of_lt_of_le hn x.1)).trans (x.2 n hn)⟩
theorem Old.new {h h' : H} (o : Old h h') (x : Blk) : Old h (h'.new x) := ⟨by have := o.1; simp only [H.next_new]; omega, fun b hb => by rw [get_new_ne (by have := o.1; omega)]; exact o.2 b hb⟩
theorem Old.put {h h' : H} (o : Old h h') {c : Nat} (hc : h.next ≤ c) (x : Option Blk) : Old h (h'.put c x) := ⟨o.1, fun b hb => by rw [get_put_ne (by omega)]; exact o.2 b hb⟩

end Wm
