-- PRINTED BY print.sh 35421559b90ae4d0a3588c463048766b98c2df88dd9212a6774a882060cdf62d: not written by this session
import Derived.Test.YtmhebljpahogaaaPOpKindsx0
import Derived.Test.YtmhebljpahogaaaPOpKindsx3
namespace Go.Proofs.Ytmhebljpahogaaa.POpKinds
open Go.RowKit Go.Proofs.YtmhebljpahogaaaW.PrintWords Go.Proofs.YtmhebljpahogaaaW.PrintLast Go.Proofs.YtmhebljpahogaaaW.PrintMore
attribute [local go_sem] max2_int min2_int max_two min_two max_three min_three max_four min_four   -- for this text's walks alone
set_option linter.unusedVariables false
set_option linter.unusedSimpArgs false

/-! ### op_Writes: function 20 -/
def op_Writes.f (a0 : Int) : Option (Bool) := if a0 ≥ 3 then (some (decide (a0 ≤ 5))) else (some false)
set_option maxHeartbeats 8000000 in
set_option maxRecDepth 100000 in
theorem op_Writes.calls (a0 : Int) (r : Bool) (w : World) (h : op_Writes.f a0 = some r) :
    Calls Try.prog 20 #[.int .i64 a0] w fun e w' => e = .returned (.bool r) ∧ Drawn0 w w' := by
  have H : (if a0 ≥ 3 then (some (decide (a0 ≤ 5))) else (some false)) = some r := h
  clear h
  by_cases c2 : a0 ≥ 3
  · rw [if_pos c2] at H
    have c2b0 : decide (3 ≤ a0) = true := decide_eq_true c2
    clear c2
    obtain rfl := Option.some.inj H
    go_enter Try.func20, Try.ntmps20
    go_wp2
    go_ret
    exact ⟨by first | rfl | (simp; done) | (simp [*]; done), by repeat (first | exact Drawn0.refl _ | apply Drawn0.step)⟩
  · rw [if_neg c2] at H
    have c2b0 : decide (3 ≤ a0) = false := decide_eq_false c2
    clear c2
    obtain rfl := Option.some.inj H
    go_enter Try.func20, Try.ntmps20
    go_wp2
    go_ret
    exact ⟨by first | rfl | (simp; done) | (simp [*]; done), by repeat (first | exact Drawn0.refl _ | apply Drawn0.step)⟩

/-! ### withylaw16_OpKinds: function 7 -/
def withylaw16_OpKinds.f (k : Nat) (a0 : Int) : Option (Bool) := (op_Walk.f a0).bind fun t128 => (if a0 = 9 then (if (t128 == true) = true then ((op_Writes.f a0).bind fun t129 => (if a0 = 3 then (if (t129 == true) = true then ((withylaw16_awake.f k).bind fun t130 => (some t130)) else (some false)) else (if a0 = 4 then (if (t129 == true) = true then ((withylaw16_awake.f k).bind fun t131 => (some t131)) else (some false)) else (if (t129 == (a0 == 5)) = true then ((withylaw16_awake.f k).bind fun t132 => (some t132)) else (some false))))) else (some false)) else (if (t128 == (a0 == 10)) = true then ((op_Writes.f a0).bind fun t133 => (if a0 = 3 then (if (t133 == true) = true then ((withylaw16_awake.f k).bind fun t134 => (some t134)) else (some false)) else (if a0 = 4 then (if (t133 == true) = true then ((withylaw16_awake.f k).bind fun t135 => (some t135)) else (some false)) else (if (t133 == (a0 == 5)) = true then ((withylaw16_awake.f k).bind fun t136 => (some t136)) else (some false))))) else (some false)))
theorem withylaw16_OpKinds.mono : ∀ a0 k, LeO (withylaw16_OpKinds.f k a0) (withylaw16_OpKinds.f (k + 1) a0) := by
  intro a0 k
  unfold withylaw16_OpKinds.f
  repeat' first
      | (with_reducible exact withylaw16_awake.mono _)
      | (with_reducible exact LeO.refl _)
      | (with_reducible exact LeO.none _)
      | (with_reducible refine LeO.ite ?_ ?_)
      | (with_reducible refine LeO.bind ?_ (fun _ => ?_))
      | exact withylaw16_awake.mono _
      | exact LeO.none _
      | refine LeO.ite ?_ ?_
      | refine LeO.bind ?_ (fun _ => ?_)
set_option maxHeartbeats 8000000 in
set_option maxRecDepth 100000 in
theorem withylaw16_OpKinds.calls (k : Nat) (a0 : Int) (r : Bool) (w : World) (h : withylaw16_OpKinds.f k a0 = some r) :
    Calls Try.prog 7 #[.int .i64 a0] w fun e w' => e = .returned (.bool r) ∧ Below w.heap.size w w' := by
  have HB := Aside0.mk (Below.refl w.heap.size w)
  have H : ((op_Walk.f a0).bind fun t128 => (if a0 = 9 then (if (t128 == true) = true then ((op_Writes.f a0).bind fun t129 => (if a0 = 3 then (if (t129 == true) = true then ((withylaw16_awake.f k).bind fun t130 => (some t130)) else (some false)) else (if a0 = 4 then (if (t129 == true) = true then ((withylaw16_awake.f k).bind fun t131 => (some t131)) else (some false)) else (if (t129 == (a0 == 5)) = true then ((withylaw16_awake.f k).bind fun t132 => (some t132)) else (some false))))) else (some false)) else (if (t128 == (a0 == 10)) = true then ((op_Writes.f a0).bind fun t133 => (if a0 = 3 then (if (t133 == true) = true then ((withylaw16_awake.f k).bind fun t134 => (some t134)) else (some false)) else (if a0 = 4 then (if (t133 == true) = true then ((withylaw16_awake.f k).bind fun t135 => (some t135)) else (some false)) else (if (t133 == (a0 == 5)) = true then ((withylaw16_awake.f k).bind fun t136 => (some t136)) else (some false))))) else (some false)))) = some r := h
  clear h
  replace H := Option.bind_eq_some_iff.mp H
  obtain ⟨t128, A20, H⟩ := H
  replace H : (if a0 = 9 then (if (t128 == true) = true then ((op_Writes.f a0).bind fun t129 => (if a0 = 3 then (if (t129 == true) = true then ((withylaw16_awake.f k).bind fun t130 => (some t130)) else (some false)) else (if a0 = 4 then (if (t129 == true) = true then ((withylaw16_awake.f k).bind fun t131 => (some t131)) else (some false)) else (if (t129 == (a0 == 5)) = true then ((withylaw16_awake.f k).bind fun t132 => (some t132)) else (some false))))) else (some false)) else (if (t128 == (a0 == 10)) = true then ((op_Writes.f a0).bind fun t133 => (if a0 = 3 then (if (t133 == true) = true then ((withylaw16_awake.f k).bind fun t134 => (some t134)) else (some false)) else (if a0 = 4 then (if (t133 == true) = true then ((withylaw16_awake.f k).bind fun t135 => (some t135)) else (some false)) else (if (t133 == (a0 == 5)) = true then ((withylaw16_awake.f k).bind fun t136 => (some t136)) else (some false))))) else (some false))) = some r := H
  have A2 := Aside0.mk A20
  clear A20
  by_cases c3 : a0 = 9
  · rw [if_pos c3] at H
    have c3b0 : (a0 == 9) = true := beq_iff_eq.mpr c3
    have c3b1 : (a0 != 9) = false := bne_eq_false_iff_eq.mpr c3
    clear c3
    by_cases c4 : (t128 == true) = true
    · rw [if_pos c4] at H
      have c4b0 : (t128 == true) = true := c4
      (try (have c4b1 : decide (t128 = true) = true := by simpa using c4))
      (try (have c4b2 : (t128 == true) = true := by simpa using c4))
      clear c4
      replace H := Option.bind_eq_some_iff.mp H
      obtain ⟨t129, A50, H⟩ := H
      replace H : (if a0 = 3 then (if (t129 == true) = true then ((withylaw16_awake.f k).bind fun t130 => (some t130)) else (some false)) else (if a0 = 4 then (if (t129 == true) = true then ((withylaw16_awake.f k).bind fun t131 => (some t131)) else (some false)) else (if (t129 == (a0 == 5)) = true then ((withylaw16_awake.f k).bind fun t132 => (some t132)) else (some false)))) = some r := H
      have A5 := Aside0.mk A50
      clear A50
      by_cases c6 : a0 = 3
      · rw [if_pos c6] at H
        have c6b0 : (a0 == 3) = true := beq_iff_eq.mpr c6
        have c6b1 : (a0 != 3) = false := bne_eq_false_iff_eq.mpr c6
        clear c6
        by_cases c7 : (t129 == true) = true
        · rw [if_pos c7] at H
          have c7b0 : (t129 == true) = true := c7
          (try (have c7b1 : decide (t129 = true) = true := by simpa using c7))
          (try (have c7b2 : (t129 == true) = true := by simpa using c7))
          clear c7
          replace H := Option.bind_eq_some_iff.mp H
          obtain ⟨t130, A80, H⟩ := H
          replace H : (some t130) = some r := H
          have A8 := Aside0.mk A80
          clear A80
          obtain rfl := Option.some.inj H
          go_enter Try.func7, Try.ntmps7
          go_wp2_with (first | ((with_reducible refine gate_callee (f := 19) rfl ?_); refine goesL_ (some 4) rfl rfl Try.func19 (by kernel_rfl) rfl #[.int .i64 a0] rfl (by (try simp only [List.map_toArray, List.map_cons, List.map_nil]); first | done | rfl | (simp only [List.length_drop, List.length_take]; rfl)) ?_; (with_reducible refine (op_Walk.calls a0 t128 _ A2.out).mono ?_); rintro e w' ⟨rfl, ⟨nd, rfl⟩⟩; refine ⟨_, rfl, ?_⟩) | (go_at_call 20; (with_reducible refine (op_Writes.calls a0 t129 _ A5.out).mono ?_); rintro e w' ⟨rfl, ⟨nd, rfl⟩⟩) | (go_at_call 17; (with_reducible refine (withylaw16_awake.calls k  t130 _ A8.out).mono ?_); rintro e w9 ⟨rfl, hb⟩; have n0_ := Aside0.mk (below_step (by repeat (first | (with_reducible first | exact HB.out | apply below_alloc | apply pw_below_drewN | apply below_drew1) | exact HB.out)) hb); clear HB; have HB := n0_; clear n0_; (try clear hb); (try clear hb2); (try clear hk); (try clear hi)))
          go_ret
          exact ⟨by first | rfl | (simp [errW_none, errW_some] <;> rfl) | (simp [*, errW_none, errW_some] <;> rfl), by repeat (first | (with_reducible first | exact HB.out | apply below_alloc | apply pw_below_drewN | apply below_drew1) | exact HB.out)⟩
        · rw [if_neg c7] at H
          have c7b0 : (t129 == true) = false := by simpa using c7
          (try (have c7b1 : decide (t129 = true) = false := by simpa using c7))
          (try (have c7b2 : (t129 == true) = false := by simpa using c7))
          (try (have c7b3 : ¬ (t129 = true) := by simpa using c7))
          clear c7
          obtain rfl := Option.some.inj H
          go_enter Try.func7, Try.ntmps7
          go_wp2_with (first | ((with_reducible refine gate_callee (f := 19) rfl ?_); refine goesL_ (some 4) rfl rfl Try.func19 (by kernel_rfl) rfl #[.int .i64 a0] rfl (by (try simp only [List.map_toArray, List.map_cons, List.map_nil]); first | done | rfl | (simp only [List.length_drop, List.length_take]; rfl)) ?_; (with_reducible refine (op_Walk.calls a0 t128 _ A2.out).mono ?_); rintro e w' ⟨rfl, ⟨nd, rfl⟩⟩; refine ⟨_, rfl, ?_⟩) | (go_at_call 20; (with_reducible refine (op_Writes.calls a0 t129 _ A5.out).mono ?_); rintro e w' ⟨rfl, ⟨nd, rfl⟩⟩))
          go_ret
          exact ⟨by first | rfl | (simp [errW_none, errW_some] <;> rfl) | (simp [*, errW_none, errW_some] <;> rfl), by repeat (first | (with_reducible first | exact HB.out | apply below_alloc | apply pw_below_drewN | apply below_drew1) | exact HB.out)⟩
      · rw [if_neg c6] at H
        have c6b0 : (a0 == 3) = false := beq_eq_false_iff_ne.mpr c6
        have c6b1 : (a0 != 3) = true := bne_iff_ne.mpr c6
        by_cases c10 : a0 = 4
        · rw [if_pos c10] at H
          have c10b0 : (a0 == 4) = true := beq_iff_eq.mpr c10
          have c10b1 : (a0 != 4) = false := bne_eq_false_iff_eq.mpr c10
          clear c10
          by_cases c11 : (t129 == true) = true
          · rw [if_pos c11] at H
            have c11b0 : (t129 == true) = true := c11
            (try (have c11b1 : decide (t129 = true) = true := by simpa using c11))
            (try (have c11b2 : (t129 == true) = true := by simpa using c11))
            clear c11
            replace H := Option.bind_eq_some_iff.mp H
            obtain ⟨t131, A120, H⟩ := H
            replace H : (some t131) = some r := H
            have A12 := Aside0.mk A120
            clear A120
            obtain rfl := Option.some.inj H
            go_enter Try.func7, Try.ntmps7
            go_wp2_with (first | ((with_reducible refine gate_callee (f := 19) rfl ?_); refine goesL_ (some 4) rfl rfl Try.func19 (by kernel_rfl) rfl #[.int .i64 a0] rfl (by (try simp only [List.map_toArray, List.map_cons, List.map_nil]); first | done | rfl | (simp only [List.length_drop, List.length_take]; rfl)) ?_; (with_reducible refine (op_Walk.calls a0 t128 _ A2.out).mono ?_); rintro e w' ⟨rfl, ⟨nd, rfl⟩⟩; refine ⟨_, rfl, ?_⟩) | (go_at_call 20; (with_reducible refine (op_Writes.calls a0 t129 _ A5.out).mono ?_); rintro e w' ⟨rfl, ⟨nd, rfl⟩⟩) | (go_at_call 17; (with_reducible refine (withylaw16_awake.calls k  t131 _ A12.out).mono ?_); rintro e w13 ⟨rfl, hb⟩; have n0_ := Aside0.mk (below_step (by repeat (first | (with_reducible first | exact HB.out | apply below_alloc | apply pw_below_drewN | apply below_drew1) | exact HB.out)) hb); clear HB; have HB := n0_; clear n0_; (try clear hb); (try clear hb2); (try clear hk); (try clear hi)))
            go_ret
            exact ⟨by first | rfl | (simp [errW_none, errW_some] <;> rfl) | (simp [*, errW_none, errW_some] <;> rfl), by repeat (first | (with_reducible first | exact HB.out | apply below_alloc | apply pw_below_drewN | apply below_drew1) | exact HB.out)⟩
          · rw [if_neg c11] at H
            have c11b0 : (t129 == true) = false := by simpa using c11
            (try (have c11b1 : decide (t129 = true) = false := by simpa using c11))
            (try (have c11b2 : (t129 == true) = false := by simpa using c11))
            (try (have c11b3 : ¬ (t129 = true) := by simpa using c11))
            clear c11
            obtain rfl := Option.some.inj H
            go_enter Try.func7, Try.ntmps7
            go_wp2_with (first | ((with_reducible refine gate_callee (f := 19) rfl ?_); refine goesL_ (some 4) rfl rfl Try.func19 (by kernel_rfl) rfl #[.int .i64 a0] rfl (by (try simp only [List.map_toArray, List.map_cons, List.map_nil]); first | done | rfl | (simp only [List.length_drop, List.length_take]; rfl)) ?_; (with_reducible refine (op_Walk.calls a0 t128 _ A2.out).mono ?_); rintro e w' ⟨rfl, ⟨nd, rfl⟩⟩; refine ⟨_, rfl, ?_⟩) | (go_at_call 20; (with_reducible refine (op_Writes.calls a0 t129 _ A5.out).mono ?_); rintro e w' ⟨rfl, ⟨nd, rfl⟩⟩))
            go_ret
            exact ⟨by first | rfl | (simp [errW_none, errW_some] <;> rfl) | (simp [*, errW_none, errW_some] <;> rfl), by repeat (first | (with_reducible first | exact HB.out | apply below_alloc | apply pw_below_drewN | apply below_drew1) | exact HB.out)⟩
        · rw [if_neg c10] at H
          have c10b0 : (a0 == 4) = false := beq_eq_false_iff_ne.mpr c10
          have c10b1 : (a0 != 4) = true := bne_iff_ne.mpr c10
          by_cases c14 : (t129 == (a0 == 5)) = true
          · rw [if_pos c14] at H
            have c14b0 : (t129 == (a0 == 5)) = true := c14
            (try (have c14b1 : decide (t129 = (a0 == 5)) = true := by simpa using c14))
            (try (have c14b2 : (t129 == (a0 == 5)) = true := by simpa using c14))
            clear c14
            replace H := Option.bind_eq_some_iff.mp H
            obtain ⟨t132, A150, H⟩ := H
            replace H : (some t132) = some r := H
            have A15 := Aside0.mk A150
            clear A150
            obtain rfl := Option.some.inj H
            go_enter Try.func7, Try.ntmps7
            go_wp2_with (first | ((with_reducible refine gate_callee (f := 19) rfl ?_); refine goesL_ (some 4) rfl rfl Try.func19 (by kernel_rfl) rfl #[.int .i64 a0] rfl (by (try simp only [List.map_toArray, List.map_cons, List.map_nil]); first | done | rfl | (simp only [List.length_drop, List.length_take]; rfl)) ?_; (with_reducible refine (op_Walk.calls a0 t128 _ A2.out).mono ?_); rintro e w' ⟨rfl, ⟨nd, rfl⟩⟩; refine ⟨_, rfl, ?_⟩) | (go_at_call 20; (with_reducible refine (op_Writes.calls a0 t129 _ A5.out).mono ?_); rintro e w' ⟨rfl, ⟨nd, rfl⟩⟩) | (go_at_call 17; (with_reducible refine (withylaw16_awake.calls k  t132 _ A15.out).mono ?_); rintro e w16 ⟨rfl, hb⟩; have n0_ := Aside0.mk (below_step (by repeat (first | (with_reducible first | exact HB.out | apply below_alloc | apply pw_below_drewN | apply below_drew1) | exact HB.out)) hb); clear HB; have HB := n0_; clear n0_; (try clear hb); (try clear hb2); (try clear hk); (try clear hi)))
            go_ret
            exact ⟨by first | rfl | (simp [errW_none, errW_some] <;> rfl) | (simp [*, errW_none, errW_some] <;> rfl), by repeat (first | (with_reducible first | exact HB.out | apply below_alloc | apply pw_below_drewN | apply below_drew1) | exact HB.out)⟩
          · rw [if_neg c14] at H
            have c14b0 : (t129 == (a0 == 5)) = false := by simpa using c14
            (try (have c14b1 : decide (t129 = (a0 == 5)) = false := by simpa using c14))
            (try (have c14b2 : (t129 == (a0 == 5)) = false := by simpa using c14))
            (try (have c14b3 : ¬ (t129 = (a0 == 5)) := by simpa using c14))
            clear c14
            obtain rfl := Option.some.inj H
            go_enter Try.func7, Try.ntmps7
            go_wp2_with (first | ((with_reducible refine gate_callee (f := 19) rfl ?_); refine goesL_ (some 4) rfl rfl Try.func19 (by kernel_rfl) rfl #[.int .i64 a0] rfl (by (try simp only [List.map_toArray, List.map_cons, List.map_nil]); first | done | rfl | (simp only [List.length_drop, List.length_take]; rfl)) ?_; (with_reducible refine (op_Walk.calls a0 t128 _ A2.out).mono ?_); rintro e w' ⟨rfl, ⟨nd, rfl⟩⟩; refine ⟨_, rfl, ?_⟩) | (go_at_call 20; (with_reducible refine (op_Writes.calls a0 t129 _ A5.out).mono ?_); rintro e w' ⟨rfl, ⟨nd, rfl⟩⟩))
            go_ret
            exact ⟨by first | rfl | (simp [errW_none, errW_some] <;> rfl) | (simp [*, errW_none, errW_some] <;> rfl), by repeat (first | (with_reducible first | exact HB.out | apply below_alloc | apply pw_below_drewN | apply below_drew1) | exact HB.out)⟩
    · rw [if_neg c4] at H
      have c4b0 : (t128 == true) = false := by simpa using c4
      (try (have c4b1 : decide (t128 = true) = false := by simpa using c4))
      (try (have c4b2 : (t128 == true) = false := by simpa using c4))
      (try (have c4b3 : ¬ (t128 = true) := by simpa using c4))
      clear c4
      obtain rfl := Option.some.inj H
      go_enter Try.func7, Try.ntmps7
      go_wp2_with (first | ((with_reducible refine gate_callee (f := 19) rfl ?_); refine goesL_ (some 4) rfl rfl Try.func19 (by kernel_rfl) rfl #[.int .i64 a0] rfl (by (try simp only [List.map_toArray, List.map_cons, List.map_nil]); first | done | rfl | (simp only [List.length_drop, List.length_take]; rfl)) ?_; (with_reducible refine (op_Walk.calls a0 t128 _ A2.out).mono ?_); rintro e w' ⟨rfl, ⟨nd, rfl⟩⟩; refine ⟨_, rfl, ?_⟩))
      go_ret
      exact ⟨by first | rfl | (simp [errW_none, errW_some] <;> rfl) | (simp [*, errW_none, errW_some] <;> rfl), by repeat (first | (with_reducible first | exact HB.out | apply below_alloc | apply pw_below_drewN | apply below_drew1) | exact HB.out)⟩
  · rw [if_neg c3] at H
    have c3b0 : (a0 == 9) = false := beq_eq_false_iff_ne.mpr c3
    have c3b1 : (a0 != 9) = true := bne_iff_ne.mpr c3
    by_cases c17 : (t128 == (a0 == 10)) = true
    · rw [if_pos c17] at H
      have c17b0 : (t128 == (a0 == 10)) = true := c17
      (try (have c17b1 : decide (t128 = (a0 == 10)) = true := by simpa using c17))
      (try (have c17b2 : (t128 == (a0 == 10)) = true := by simpa using c17))
      clear c17
      replace H := Option.bind_eq_some_iff.mp H
      obtain ⟨t133, A180, H⟩ := H
      replace H : (if a0 = 3 then (if (t133 == true) = true then ((withylaw16_awake.f k).bind fun t134 => (some t134)) else (some false)) else (if a0 = 4 then (if (t133 == true) = true then ((withylaw16_awake.f k).bind fun t135 => (some t135)) else (some false)) else (if (t133 == (a0 == 5)) = true then ((withylaw16_awake.f k).bind fun t136 => (some t136)) else (some false)))) = some r := H
      have A18 := Aside0.mk A180
      clear A180
      by_cases c19 : a0 = 3
      · rw [if_pos c19] at H
        have c19b0 : (a0 == 3) = true := beq_iff_eq.mpr c19
        have c19b1 : (a0 != 3) = false := bne_eq_false_iff_eq.mpr c19
        clear c19
        by_cases c20 : (t133 == true) = true
        · rw [if_pos c20] at H
          have c20b0 : (t133 == true) = true := c20
          (try (have c20b1 : decide (t133 = true) = true := by simpa using c20))
          (try (have c20b2 : (t133 == true) = true := by simpa using c20))
          clear c20
          replace H := Option.bind_eq_some_iff.mp H
          obtain ⟨t134, A210, H⟩ := H
          replace H : (some t134) = some r := H
          have A21 := Aside0.mk A210
          clear A210
          obtain rfl := Option.some.inj H
          go_enter Try.func7, Try.ntmps7
          go_wp2_with (first | ((with_reducible refine gate_callee (f := 19) rfl ?_); refine goesL_ (some 4) rfl rfl Try.func19 (by kernel_rfl) rfl #[.int .i64 a0] rfl (by (try simp only [List.map_toArray, List.map_cons, List.map_nil]); first | done | rfl | (simp only [List.length_drop, List.length_take]; rfl)) ?_; (with_reducible refine (op_Walk.calls a0 t128 _ A2.out).mono ?_); rintro e w' ⟨rfl, ⟨nd, rfl⟩⟩; refine ⟨_, rfl, ?_⟩) | (go_at_call 20; (with_reducible refine (op_Writes.calls a0 t133 _ A18.out).mono ?_); rintro e w' ⟨rfl, ⟨nd, rfl⟩⟩) | (go_at_call 17; (with_reducible refine (withylaw16_awake.calls k  t134 _ A21.out).mono ?_); rintro e w22 ⟨rfl, hb⟩; have n0_ := Aside0.mk (below_step (by repeat (first | (with_reducible first | exact HB.out | apply below_alloc | apply pw_below_drewN | apply below_drew1) | exact HB.out)) hb); clear HB; have HB := n0_; clear n0_; (try clear hb); (try clear hb2); (try clear hk); (try clear hi)))
          go_ret
          exact ⟨by first | rfl | (simp [errW_none, errW_some] <;> rfl) | (simp [*, errW_none, errW_some] <;> rfl), by repeat (first | (with_reducible first | exact HB.out | apply below_alloc | apply pw_below_drewN | apply below_drew1) | exact HB.out)⟩
        · rw [if_neg c20] at H
          have c20b0 : (t133 == true) = false := by simpa using c20
          (try (have c20b1 : decide (t133 = true) = false := by simpa using c20))
          (try (have c20b2 : (t133 == true) = false := by simpa using c20))
          (try (have c20b3 : ¬ (t133 = true) := by simpa using c20))
          clear c20
          obtain rfl := Option.some.inj H
          go_enter Try.func7, Try.ntmps7
          go_wp2_with (first | ((with_reducible refine gate_callee (f := 19) rfl ?_); refine goesL_ (some 4) rfl rfl Try.func19 (by kernel_rfl) rfl #[.int .i64 a0] rfl (by (try simp only [List.map_toArray, List.map_cons, List.map_nil]); first | done | rfl | (simp only [List.length_drop, List.length_take]; rfl)) ?_; (with_reducible refine (op_Walk.calls a0 t128 _ A2.out).mono ?_); rintro e w' ⟨rfl, ⟨nd, rfl⟩⟩; refine ⟨_, rfl, ?_⟩) | (go_at_call 20; (with_reducible refine (op_Writes.calls a0 t133 _ A18.out).mono ?_); rintro e w' ⟨rfl, ⟨nd, rfl⟩⟩))
          go_ret
          exact ⟨by first | rfl | (simp [errW_none, errW_some] <;> rfl) | (simp [*, errW_none, errW_some] <;> rfl), by repeat (first | (with_reducible first | exact HB.out | apply below_alloc | apply pw_below_drewN | apply below_drew1) | exact HB.out)⟩
      · rw [if_neg c19] at H
        have c19b0 : (a0 == 3) = false := beq_eq_false_iff_ne.mpr c19
        have c19b1 : (a0 != 3) = true := bne_iff_ne.mpr c19
        by_cases c23 : a0 = 4
        · rw [if_pos c23] at H
          have c23b0 : (a0 == 4) = true := beq_iff_eq.mpr c23
          have c23b1 : (a0 != 4) = false := bne_eq_false_iff_eq.mpr c23
          clear c23
          by_cases c24 : (t133 == true) = true
          · rw [if_pos c24] at H
            have c24b0 : (t133 == true) = true := c24
            (try (have c24b1 : decide (t133 = true) = true := by simpa using c24))
            (try (have c24b2 : (t133 == true) = true := by simpa using c24))
            clear c24
            replace H := Option.bind_eq_some_iff.mp H
            obtain ⟨t135, A250, H⟩ := H
            replace H : (some t135) = some r := H
            have A25 := Aside0.mk A250
            clear A250
            obtain rfl := Option.some.inj H
            go_enter Try.func7, Try.ntmps7
            go_wp2_with (first | ((with_reducible refine gate_callee (f := 19) rfl ?_); refine goesL_ (some 4) rfl rfl Try.func19 (by kernel_rfl) rfl #[.int .i64 a0] rfl (by (try simp only [List.map_toArray, List.map_cons, List.map_nil]); first | done | rfl | (simp only [List.length_drop, List.length_take]; rfl)) ?_; (with_reducible refine (op_Walk.calls a0 t128 _ A2.out).mono ?_); rintro e w' ⟨rfl, ⟨nd, rfl⟩⟩; refine ⟨_, rfl, ?_⟩) | (go_at_call 20; (with_reducible refine (op_Writes.calls a0 t133 _ A18.out).mono ?_); rintro e w' ⟨rfl, ⟨nd, rfl⟩⟩) | (go_at_call 17; (with_reducible refine (withylaw16_awake.calls k  t135 _ A25.out).mono ?_); rintro e w26 ⟨rfl, hb⟩; have n0_ := Aside0.mk (below_step (by repeat (first | (with_reducible first | exact HB.out | apply below_alloc | apply pw_below_drewN | apply below_drew1) | exact HB.out)) hb); clear HB; have HB := n0_; clear n0_; (try clear hb); (try clear hb2); (try clear hk); (try clear hi)))
            go_ret
            exact ⟨by first | rfl | (simp [errW_none, errW_some] <;> rfl) | (simp [*, errW_none, errW_some] <;> rfl), by repeat (first | (with_reducible first | exact HB.out | apply below_alloc | apply pw_below_drewN | apply below_drew1) | exact HB.out)⟩
          · rw [if_neg c24] at H
            have c24b0 : (t133 == true) = false := by simpa using c24
            (try (have c24b1 : decide (t133 = true) = false := by simpa using c24))
            (try (have c24b2 : (t133 == true) = false := by simpa using c24))
            (try (have c24b3 : ¬ (t133 = true) := by simpa using c24))
            clear c24
            obtain rfl := Option.some.inj H
            go_enter Try.func7, Try.ntmps7
            go_wp2_with (first | ((with_reducible refine gate_callee (f := 19) rfl ?_); refine goesL_ (some 4) rfl rfl Try.func19 (by kernel_rfl) rfl #[.int .i64 a0] rfl (by (try simp only [List.map_toArray, List.map_cons, List.map_nil]); first | done | rfl | (simp only [List.length_drop, List.length_take]; rfl)) ?_; (with_reducible refine (op_Walk.calls a0 t128 _ A2.out).mono ?_); rintro e w' ⟨rfl, ⟨nd, rfl⟩⟩; refine ⟨_, rfl, ?_⟩) | (go_at_call 20; (with_reducible refine (op_Writes.calls a0 t133 _ A18.out).mono ?_); rintro e w' ⟨rfl, ⟨nd, rfl⟩⟩))
            go_ret
            exact ⟨by first | rfl | (simp [errW_none, errW_some] <;> rfl) | (simp [*, errW_none, errW_some] <;> rfl), by repeat (first | (with_reducible first | exact HB.out | apply below_alloc | apply pw_below_drewN | apply below_drew1) | exact HB.out)⟩
        · rw [if_neg c23] at H
          have c23b0 : (a0 == 4) = false := beq_eq_false_iff_ne.mpr c23
          have c23b1 : (a0 != 4) = true := bne_iff_ne.mpr c23
          by_cases c27 : (t133 == (a0 == 5)) = true
          · rw [if_pos c27] at H
            have c27b0 : (t133 == (a0 == 5)) = true := c27
            (try (have c27b1 : decide (t133 = (a0 == 5)) = true := by simpa using c27))
            (try (have c27b2 : (t133 == (a0 == 5)) = true := by simpa using c27))
            clear c27
            replace H := Option.bind_eq_some_iff.mp H
            obtain ⟨t136, A280, H⟩ := H
            replace H : (some t136) = some r := H
            have A28 := Aside0.mk A280
            clear A280
            obtain rfl := Option.some.inj H
            go_enter Try.func7, Try.ntmps7
            go_wp2_with (first | ((with_reducible refine gate_callee (f := 19) rfl ?_); refine goesL_ (some 4) rfl rfl Try.func19 (by kernel_rfl) rfl #[.int .i64 a0] rfl (by (try simp only [List.map_toArray, List.map_cons, List.map_nil]); first | done | rfl | (simp only [List.length_drop, List.length_take]; rfl)) ?_; (with_reducible refine (op_Walk.calls a0 t128 _ A2.out).mono ?_); rintro e w' ⟨rfl, ⟨nd, rfl⟩⟩; refine ⟨_, rfl, ?_⟩) | (go_at_call 20; (with_reducible refine (op_Writes.calls a0 t133 _ A18.out).mono ?_); rintro e w' ⟨rfl, ⟨nd, rfl⟩⟩) | (go_at_call 17; (with_reducible refine (withylaw16_awake.calls k  t136 _ A28.out).mono ?_); rintro e w29 ⟨rfl, hb⟩; have n0_ := Aside0.mk (below_step (by repeat (first | (with_reducible first | exact HB.out | apply below_alloc | apply pw_below_drewN | apply below_drew1) | exact HB.out)) hb); clear HB; have HB := n0_; clear n0_; (try clear hb); (try clear hb2); (try clear hk); (try clear hi)))
            go_ret
            exact ⟨by first | rfl | (simp [errW_none, errW_some] <;> rfl) | (simp [*, errW_none, errW_some] <;> rfl), by repeat (first | (with_reducible first | exact HB.out | apply below_alloc | apply pw_below_drewN | apply below_drew1) | exact HB.out)⟩
          · rw [if_neg c27] at H
            have c27b0 : (t133 == (a0 == 5)) = false := by simpa using c27
            (try (have c27b1 : decide (t133 = (a0 == 5)) = false := by simpa using c27))
            (try (have c27b2 : (t133 == (a0 == 5)) = false := by simpa using c27))
            (try (have c27b3 : ¬ (t133 = (a0 == 5)) := by simpa using c27))
            clear c27
            obtain rfl := Option.some.inj H
            go_enter Try.func7, Try.ntmps7
            go_wp2_with (first | ((with_reducible refine gate_callee (f := 19) rfl ?_); refine goesL_ (some 4) rfl rfl Try.func19 (by kernel_rfl) rfl #[.int .i64 a0] rfl (by (try simp only [List.map_toArray, List.map_cons, List.map_nil]); first | done | rfl | (simp only [List.length_drop, List.length_take]; rfl)) ?_; (with_reducible refine (op_Walk.calls a0 t128 _ A2.out).mono ?_); rintro e w' ⟨rfl, ⟨nd, rfl⟩⟩; refine ⟨_, rfl, ?_⟩) | (go_at_call 20; (with_reducible refine (op_Writes.calls a0 t133 _ A18.out).mono ?_); rintro e w' ⟨rfl, ⟨nd, rfl⟩⟩))
            go_ret
            exact ⟨by first | rfl | (simp [errW_none, errW_some] <;> rfl) | (simp [*, errW_none, errW_some] <;> rfl), by repeat (first | (with_reducible first | exact HB.out | apply below_alloc | apply pw_below_drewN | apply below_drew1) | exact HB.out)⟩
    · rw [if_neg c17] at H
      have c17b0 : (t128 == (a0 == 10)) = false := by simpa using c17
      (try (have c17b1 : decide (t128 = (a0 == 10)) = false := by simpa using c17))
      (try (have c17b2 : (t128 == (a0 == 10)) = false := by simpa using c17))
      (try (have c17b3 : ¬ (t128 = (a0 == 10)) := by simpa using c17))
      clear c17
      obtain rfl := Option.some.inj H
      go_enter Try.func7, Try.ntmps7
      go_wp2_with (first | ((with_reducible refine gate_callee (f := 19) rfl ?_); refine goesL_ (some 4) rfl rfl Try.func19 (by kernel_rfl) rfl #[.int .i64 a0] rfl (by (try simp only [List.map_toArray, List.map_cons, List.map_nil]); first | done | rfl | (simp only [List.length_drop, List.length_take]; rfl)) ?_; (with_reducible refine (op_Walk.calls a0 t128 _ A2.out).mono ?_); rintro e w' ⟨rfl, ⟨nd, rfl⟩⟩; refine ⟨_, rfl, ?_⟩))
      go_ret
      exact ⟨by first | rfl | (simp [errW_none, errW_some] <;> rfl) | (simp [*, errW_none, errW_some] <;> rfl), by repeat (first | (with_reducible first | exact HB.out | apply below_alloc | apply pw_below_drewN | apply below_drew1) | exact HB.out)⟩

/-- THE ONE PURE STATEMENT of withylaw16_OpKinds: yours. -/
def withylaw16_OpKinds.Pure : Prop := ∀ (a0 : Int), (Lit.int .i64 a0).wf = true → ∃ k, withylaw16_OpKinds.f k a0 = some true
theorem withylaw16_OpKinds.walk (P : withylaw16_OpKinds.Pure) (a0 : Int) (w : World) (w0 : (Lit.int .i64 a0).wf = true) :
    Calls Try.prog 7 #[.int .i64 a0] w fun e w' => e = .returned (.bool true) ∧ Below w.heap.size w w' := by
  obtain ⟨k, h⟩ := P a0 w0
  refine (withylaw16_OpKinds.calls k a0 true w h).mono ?_
  rintro e w' ⟨rfl, hd⟩
  exact ⟨rfl, hd⟩

end Go.Proofs.Ytmhebljpahogaaa.POpKinds
