/- A slice of words. -/
import Derived.Test.YtmhebljpahogaaaWmHeap
import Derived.Test.YtmhebljpahogaaaWmOpen
set_option linter.all false
namespace Wm

def RowIs (g : Nat → Option Blk) (u : V) (x : List Int) : Prop := x.length ≤ 9223372036854775807 ∧ ((u = .nilsl ∧ x = []) ∨ ∃ b c k, u = .sl b 0 x.length c ∧ g b = some (.cells (x.map (.int .u64)) k))
theorem RowIs.mono {g g' : Nat → Option Blk} (hg : GExt g g') {u : V} {x : List Int} (h : RowIs g u x) : RowIs g' u x := by
  obtain ⟨h0, h⟩ := h
  refine ⟨h0, ?_⟩
  rcases h with h | ⟨b, c, k, h1, h2⟩
  · exact .inl h
  · exact .inr ⟨b, c, k, h1, hg _ _ h2⟩
theorem RowIs.len {g : Nat → Option Blk} {u : V} {x : List Int} (h : RowIs g u x) : lenSl u = some x.length := by
  rcases h with ⟨_, ⟨rfl, rfl⟩ | ⟨b, c, k, rfl, _⟩⟩ <;> rfl
theorem indexAV_ok {b o n e : Nat} {c : Cap} {i : Int} {k : Go.IntKind} (h0 : 0 ≤ i) (h1 : i < n) : indexAV e (.sl b o n c) (.int k i) = some (.ptr b (o + i.toNat * e)) := by
  simp only [indexAV, indexOf, asIAny, h0, h1, decide_true, Bool.and_self]

theorem RowIs.at {g : H} {u : V} {x : List Int} (h : RowIs g.get u x) {i : Int} (h0 : 0 ≤ i) (h1 : i < x.length) : ∃ p, indexAV 1 u (.int .i64 i) = some p ∧ g.ld1 p = some (.int .u64 ((x[i.toNat]?).getD 0)) := by
  rcases h with ⟨_, ⟨rfl, rfl⟩ | ⟨b, c, k, rfl, h2⟩⟩
  · simp at h1; omega
  · refine ⟨_, indexAV_ok h0 h1, ?_⟩
    have hl : i.toNat < x.length := by omega
    rw [Nat.zero_add, Nat.mul_one]
    exact ld1_get h2 (by simp [hl]) rfl
theorem GExt.ext {h : H} (ok : h.ok) (l : List (Option Blk)) : GExt h.get (h.ext l).get := fun b x hb => by rw [H.ext_old (ok.lt hb)]; exact hb

end Wm
