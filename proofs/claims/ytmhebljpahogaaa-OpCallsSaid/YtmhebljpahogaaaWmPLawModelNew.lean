/- ModelNew, of my machine. -/
import Derived.Test.YtmhebljpahogaaaWmPModelNew
import Derived.Test.YtmhebljpahogaaaWmOpen
import Derived.Test.YtmhebljpahogaaaWmTxtOpCallsA
set_option linter.all false
namespace Wm

set_option maxRecDepth 100000 in
theorem awake17_run : run prog meth 200 60 98 [] .empty = some (.bool true, .empty) := by kernel_rfl

theorem call_closed_run {prog : Nat → Option AFunc} {meth : Nat → Nat → Option Nat} {r n f : Nat} {af : AFunc} (hf : prog f = some af) (hc : af.closed = true) {v : V} (hr : run prog meth r n f [] .empty = some (v, .empty)) (h : H) : callW prog meth f [] h = some (v, h) := by
  cases n with
  | zero => simp [run] at hr
  | succ n =>
    refine callW_run (r := r) (n := n + 1) ?_
    simp only [run, hf] at hr ⊢
    unfold callF at hr ⊢
    simp only [hc] at hr ⊢
    split at hr
    · rename_i hfl
      simp only [Option.bind_eq_some_iff] at hr ⊢
      obtain ⟨p, hp, hr⟩ := hr
      refine ⟨p, hp, ?_⟩
      split at hr
      · cases hr; rfl
      · cases hr
    · cases hr

theorem awake17 (h : H) : C 98 [] h = some (.bool true, h) := call_closed_run (af := F.withylaw17_awake) (by kernel_rfl) rfl awake17_run h

theorem flip_not (b : Bool) : (!b) = !b := rfl

theorem lawModelNew_at (s a c hd g st : Int) (h : H) : C 13 [cfgV s a c hd g st] h = some (.bool true, h) := by
  refine call_closed (af := F.withylaw17_ModelNew) (by kernel_rfl) rfl (by rfl) (by rfl) h ?_
  unfold cfgV
  rw [S.withylaw17_ModelNew_eq]
  simp only [S.withylaw17_ModelNew]
  rw [ldN_new (by simp)]
  simp only [Option.bind_some, List.drop_zero, List.take, W_call]
  refine Ev.bind (modelNew_ev s a c hd g st _) ?_
  rintro ⟨v, h1⟩ ⟨ho, hv⟩
  simp only at hv ho ⊢
  have hb : h1.get H.empty.next = some (.cells [.int .i64 s, .int .i64 a, .int .i64 c, .int .i64 hd, .int .i64 g, .int .i64 st] .rw) := by
    rw [ho.2 _ (by simp only [H.next_new]; omega), get_new_self]
  rw [ldN_get hb (by simp)]
  simp only [ckB, List.drop_zero, List.take, V.beq, V.beqs, decide_true, Bool.and_self]
  have hR := ref06Right_spec s a c hd g st h1
  unfold cfgV at hR
  rw [hR]
  cases hr : cfgR s a c hd g st with
  | true =>
    rw [hr] at hv
    obtain ⟨b, rfl⟩ := hv
    simp only [eqV, eqPtr, Option.bind_some, Bool.not_false, beq_self_eq_true, awake17]
    exact Ev.some rfl
  | false =>
    rw [hr] at hv
    subst hv
    simp only [eqV, eqPtr, Option.bind_some, Bool.not_true, beq_self_eq_true, awake17]
    exact Ev.some rfl

def shModelNew : List (Bool × List CSh) := [(true, [.int .i64, .int .i64, .int .i64, .int .i64, .int .i64, .int .i64])]
theorem lawModelNew (h : H) (us : List V) (_ : h.ok) (ha : ArgsOk h.get shModelNew us) : Ev (C 13 us h) fun r => r.1 = .bool true := by
  obtain ⟨_, _, rfl, ⟨_, rfl, _, _, rfl, ⟨a, rfl, _⟩, _, _, rfl, ⟨b, rfl, _⟩, _, _, rfl, ⟨c, rfl, _⟩, _, _, rfl, ⟨d, rfl, _⟩, _, _, rfl, ⟨e, rfl, _⟩, _, _, rfl, ⟨f, rfl, _⟩, rfl⟩, rfl⟩ := ha
  exact ⟨_, lawModelNew_at a b c d e f h, rfl⟩
end Wm
