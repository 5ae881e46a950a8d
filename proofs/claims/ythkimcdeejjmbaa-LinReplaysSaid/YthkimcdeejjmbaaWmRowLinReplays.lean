/- The statement LinReplays: the given law answers true whatever it is called with. No condition but the statement's own. -/
import Derived.Test.YthkimcdeejjmbaaRows
import Derived.Test.YthkimcdeejjmbaaWmSeatLinReplays
import Derived.Test.YthkimcdeejjmbaaWmOpen
import Derived.Test.YthkimcdeejjmbaaWmOwnLinReplaysD
import Derived.WalkKit
import Derived.ProofKit
import Derived.OpenShut
import Derived.ChangeOld
import Derived.SizedLaws
import Derived.Carry
set_option linter.all false
namespace Go.Proofs.Ythkimcdeejjmbaa.linReplays
open Go.ChangeShapes Go.WideShapes Go.ChangeAt Go.RowKit
theorem own : ownKnob Try.prog.godebug = none := by kernel_rfl
set_option maxRecDepth 100000 in
theorem lifted (os : Os) (started : os.Started) (H : Type) (enc : TypeId × Value → H) :
    ReturnsInHanded {} Try.checked os 8 .any (Rows.linReplaysSpec.pre6 enc Try.prog Try.f8 Rows.linReplaysRow.domain false) (Rows.linReplaysSpec.post enc Try.prog Try.f8 false true false false) := by
  refine returnsInHanded_of_change_sized (C := Try.checked) own started (by kernel_rfl) Try.func8
    (ChangeSpec.witness6 (enc := enc) (C := Try.checked) false ⟨#[], #[.agg #[.int .i64 0, .int .i64 0, .int .i64 0, .int .i64 0, .int .i64 0, .int .i64 0], .slice none 0 0, .slice none 0 0], []⟩ 8 (by kernel_rfl) (by kernel_rfl) (by kernel_rfl) (by kernel_rfl)) ?_
  intro W base args ds gs before hval hW hcnd hsz _
  have hW' := hW
  obtain ⟨p, q, hA, hV, rfl, hfz, hnd⟩ := hW
  obtain ⟨rfl, rfl⟩ := trodVars_none hV
  have hsz' : (DataW.weightsEach Try.prog (Try.f8.params.toList ++ []) (ds ++ [])).all (· ≤ reachBytes) = true := hsz
  rw [List.append_nil, List.append_nil] at hsz'
  have hval' : ∀ (j : Nat) t v, Try.f8.params[j]? = some t → args[j]? = some v → Value.okWide Try.prog W .any base t v := hval
  have hA' : DataW.TrodAll enc Try.prog W 0 (fun _ => true) true Try.f8.params.toList args.toList ds p := hA
  have hlt : ∀ x ∈ p, x.block < W.heap.size := fun x hx => hW'.lt x (by simp [hx])
  have hc := Wm.law_calls (P := Try.prog) Wm.Seat.callOk (f := 44) (k := 8) (by rfl) (ps := Try.f8.params) (ss := Wm.shLinReplays) (by kernel_rfl) Wm.lawLinReplays hsz' hA' hval'
  refine hc.mono fun e W' ⟨he, bel⟩ => ?_
  subst he
  have hst := Wm.trodAll_stays (P := Try.prog) (by kernel_rfl) bel _ _ _ _ hA' (by kernel_rfl) hlt
  have hlen := Wm.trodAll_len hA'
  rw [show Try.f8.params.toList.length = 3 from by kernel_rfl] at hlen
  obtain ⟨d0, d1, d2, rfl⟩ : ∃ d0 d1 d2, ds = [d0, d1, d2] := by
    match ds, hlen with
    | [d0, d1, d2], _ => exact ⟨d0, d1, d2, rfl⟩
  exact ⟨_, rfl, _, _, _, [], _, [], hW', trodAll_mk1 (shut_bool Try.underlying4 _), hst, rfl, bel.frame _, fun h => by cases h⟩
theorem over : Rows.linReplaysRow.holds Try.pinned (OpenSpec.ofChange Rows.linReplaysSpec) :=
  OpenClaim.holds_of_wide 8 Try.f8 rfl rfl rfl rfl rfl rfl rfl ⟨rfl, rfl, rfl, rfl, rfl⟩ rfl rfl rfl rfl rfl (by kernel_rfl) Try.func8 (by kernel_rfl)
    (of_decide_eq_true (by kernel_rfl)) (by unfold Func.isWrapper; first | (rw [if_pos (by decide +kernel)]; kernel_rfl) | (rw [if_neg (by decide +kernel)]; exact ⟨rfl, rfl⟩))
    (fun os started H enc _ => lifted os started H enc)
theorem proved : Rows.LinReplaysSaid := over
end Go.Proofs.Ythkimcdeejjmbaa.linReplays
