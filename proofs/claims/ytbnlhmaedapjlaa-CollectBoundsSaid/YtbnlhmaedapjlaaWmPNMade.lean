/- Machines of a config that isn't right, and of none (Made). -/
import Derived.Test.YtbnlhmaedapjlaaWmPPlan
import Derived.Test.YtbnlhmaedapjlaaWmHeap
import Derived.Test.YtbnlhmaedapjlaaWmOpen
import Derived.Test.YtbnlhmaedapjlaaWmPOp0
set_option linter.all false
namespace Wm

/-- A call that makes something of a config, or nothing. -/
def Made (o : Option (V × H)) (h : H) (b : Bool) : Prop := ∃ l v, o = some (v, h.ext l) ∧ match b with
  | true => ∃ p q, v = .ptr p q
  | false => v = .nilp

theorem Made.call {f : Nat} {af : AFunc} {args : List V} {h : H} {b : Bool} (hf : prog f = some af) (hc : af.closed = false) (he : Made (evalF W af args h) h b) : Made (C f args h) h b := by
  obtain ⟨l, v, h1, h2⟩ := he
  exact ⟨l, v, call_open hf hc h1, h2⟩
end Wm
