/- For every kind of operation, the program's Walk and Writes say just which kinds go on with a walk or end it, and which write a field. No condition. -/
import Derived.Test.YtmhebljpahogaaaPOpKindsx4
namespace Go.Proofs.Ytmhebljpahogaaa.Pure
open Go.RowKit Go.Proofs.Ytmhebljpahogaaa.POpKinds Go.Proofs.YtmhebljpahogaaaW.PrintWords Go.Proofs.YtmhebljpahogaaaW.PrintLast

theorem OpKinds_awake : withylaw16_awake.f 3 = some true := by decide +kernel

set_option linter.unusedSimpArgs false in
theorem OpKinds : withylaw16_OpKinds.Pure := by
  intro a0 h
  refine ⟨3, ?_⟩
  unfold withylaw16_OpKinds.f
  rw [OpKinds_awake]
  unfold op_Walk.f op_Writes.f
  by_cases h9 : a0 = 9
  · subst h9; simp
  · by_cases h10 : a0 = 10
    · subst h10; simp
    · by_cases h3 : a0 = 3
      · subst h3; simp
      · by_cases h4 : a0 = 4
        · subst h4; simp
        · by_cases h5 : a0 = 5
          · subst h5; simp
          · by_cases hge : 3 ≤ a0
            · have hle : ¬ a0 ≤ 5 := by omega
              simp [h9, h10, h3, h4, h5, hge, hle]
            · simp [h9, h10, h3, h4, h5, hge]

end Go.Proofs.Ytmhebljpahogaaa.Pure
