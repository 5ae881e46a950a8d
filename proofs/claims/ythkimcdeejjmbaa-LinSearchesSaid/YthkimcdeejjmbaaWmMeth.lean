/- Methods of interface values, one by one. -/
import Derived.Test.YthkimcdeejjmbaaWmEv
set_option linter.all false
namespace Wm
open Go (Program Value World)
theorem z01o {n mm : String} {i m : Nat} (h : znr [(n, i)] mm = some m) : mm = n ∧ m = i := by
  simp only [znr] at h
  split at h
  · rename_i e
    cases h
    exact ⟨(by simpa using e : n = mm).symm, rfl⟩
  · cases h
theorem MethOk.of {P : Program} {tab : Tab} {meth : Nat → Nat → Option Nat} {n : String} {i : Nat} (hm : tab.meth = [(n, i)])
    (h : ∀ p ∈ tab.ty, ∀ f, meth p.2 i = some f → ∃ k, z6e tab.fn k = some f ∧ ∀ (v : Value) (w : World), (Go.method (P.types.size + Go.Made.depth) p.1 v n).run P w = .ok (k, v) w) : MethOk P tab meth := by
  intro T t mm m f hT h1 h2
  rw [hm] at h1
  obtain ⟨rfl, rfl⟩ := z01o h1
  exact h (T, t) (zsv hT) f h2
end Wm
