/- The statement ClientNone: the given law answers true whatever it is called with. No condition but the statement's own. -/
import Derived.Test.YtbnlhmaedapjlaaGreatRows
import Derived.Test.YtbnlhmaedapjlaaGreatWmSeatZClientNone
import Derived.Test.YtbnlhmaedapjlaaGreatWmOpen
import Derived.Test.YtbnlhmaedapjlaaGreatWmOwnClientNoneA
import Derived.WalkKit
import Derived.ProofKit
import Derived.OpenShut
import Derived.ChangeOld
import Derived.SizedLaws
import Derived.Carry
set_option linter.all false
namespace Go.Proofs.YtbnlhmaedapjlaaGreat.clientNone
open Go.ChangeShapes Go.WideShapes Go.ChangeAt Go.RowKit
set_option linter.unusedVariables false
theorem own : ownKnob Tryz.prog.godebug = none := by kernel_rfl
set_option maxRecDepth 100000 in
theorem lifted (os : Os) (started : os.Started) (H : Type) (enc : TypeId × Value → H) :
    ReturnsInHanded {} Tryz.checked os 3 .any (Rows.clientNoneSpec.pre6 enc Tryz.prog Tryz.f3 Rows.clientNoneRow.domain false) (Rows.clientNoneSpec.post enc Tryz.prog Tryz.f3 false true false false) := by
  refine returnsInHanded_of_change_sized (C := Tryz.checked) own started (by kernel_rfl) Tryz.func3
    (ChangeSpec.witness6 (enc := enc) (C := Tryz.checked) false ⟨#[], #[.agg #[.int .i64 0, .int .i64 0, .int .i64 0, .int .i64 0, .int .i64 0, .int .i64 0], .int .i64 0, .bool false, .agg #[.int .i64 0, .int .i64 0, .int .u64 0, .int .u64 0, .int .u64 0]], []⟩ 8 (by kernel_rfl) (by kernel_rfl) (by kernel_rfl) (by kernel_rfl)) ?_
  intro W base args ds gs before hval hW hcnd hsz _
  have hW' := hW
  obtain ⟨p, q, hA, hV, rfl, hfz, hnd⟩ := hW
  obtain ⟨rfl, rfl⟩ := trodVars_none hV
  have hsz' : (DataW.weightsEach Tryz.prog (Tryz.f3.params.toList ++ []) (ds ++ [])).all (· ≤ reachBytes) = true := hsz
  rw [List.append_nil, List.append_nil] at hsz'
  have hval' : ∀ (j : Nat) t v, Tryz.f3.params[j]? = some t → args[j]? = some v → Value.okWide Tryz.prog W .any base t v := hval
  have hA' : DataW.TrodAll enc Tryz.prog W 0 (fun _ => true) true Tryz.f3.params.toList args.toList ds p := hA
  have hlt : ∀ x ∈ p, x.block < W.heap.size := fun x hx => hW'.lt x (by simp [hx])
  have hc := Wm.law_calls (P := Tryz.prog) Wm.Seat.callOk (f := 57) (k := 3) (by rfl) (ps := Tryz.f3.params) (ss := Wm.shClientNone) (by kernel_rfl) Wm.lawClientNone hsz' hA' hval'
  refine hc.mono fun e W' ⟨he, bel⟩ => ?_
  subst he
  have hst := Wm.trodAll_stays (P := Tryz.prog) (by kernel_rfl) bel _ _ _ _ hA' (by kernel_rfl) hlt
  have hlen := Wm.trodAll_len hA'
  rw [show Tryz.f3.params.toList.length = 4 from by kernel_rfl] at hlen
  obtain ⟨d0, d1, d2, d3, rfl⟩ : ∃ d0 d1 d2 d3, ds = [d0, d1, d2, d3] := by
    match ds, hlen with
    | [d0, d1, d2, d3], _ => exact ⟨d0, d1, d2, d3, rfl⟩
  exact ⟨_, rfl, _, _, _, [], _, [], hW', trodAll_mk1 (shut_bool Tryz.underlying4 _), hst, rfl, bel.frame _, fun h => by cases h⟩
theorem over : Rows.clientNoneRow.holds Tryz.pinned (OpenSpec.ofChange Rows.clientNoneSpec) :=
  OpenClaim.holds_of_wide 3 Tryz.f3 rfl rfl rfl rfl rfl rfl rfl ⟨rfl, rfl, rfl, rfl, rfl⟩ rfl rfl rfl rfl rfl (by kernel_rfl) Tryz.func3 (by kernel_rfl)
    (of_decide_eq_true (by kernel_rfl)) (by unfold Func.isWrapper; first | (rw [if_pos (by decide +kernel)]; kernel_rfl) | (rw [if_neg (by decide +kernel)]; exact ⟨rfl, rfl⟩))
    (fun os started H enc _ => lifted os started H enc)
theorem proved : Rows.ClientNoneSaid := over
end Go.Proofs.YtbnlhmaedapjlaaGreat.clientNone
