/- Functions and loops of the given program as Lean functions, and that the code comes to what they say: written by this session's own program; Lean checks it. -/
import Derived.Test.YteahnnhekfkabaaPx0
import Derived.Test.YteahnnhekfkabaaPx1
import Derived.Test.YteahnnhekfkabaaPx2
namespace Go.Proofs.Yteahnnhekfkabaa.P
open Go.RowKit Go.Proofs.YteahnnhekfkabaaW.PrintWords Go.Proofs.YteahnnhekfkabaaW.PrintLast Go.Proofs.YteahnnhekfkabaaW.PrintMore
attribute [local go_sem] max2_int min2_int max_two min_two max_three min_three max_four min_four   -- for this text's walks alone
set_option linter.unusedVariables false
set_option linter.unusedSimpArgs false

/-! ### carillonlaw02_StampNumbers: function 6 -/
def carillonlaw02_StampNumbers.f (k : Nat) (a0 : Int) (a1 : Int) : Option (Bool) := (stamp_Floor.f a0).bind fun t128 => ((carillonref02_Floor.f a0).bind fun t129 => (if t128 = t129 then ((stamp_Add.f k a0 a1).bind fun t130 => ((carillonref02_Add.f k a0 a1).bind fun t131 => (if t130 = t131 then ((stamp_Ticks.f a0).bind fun t132 => ((carillonref02_Ticks.f a0).bind fun t133 => (if t132 = t133 then ((stamp_Nanos.f a0).bind fun t134 => ((carillonref02_Nanos.f a0).bind fun t135 => (if t134 = t135 then ((carillonlaw02_awake.f).bind fun t136 => (some t136)) else (some false)))) else (some false)))) else (some false)))) else (some false)))
theorem carillonlaw02_StampNumbers.mono : ∀ a0 a1 k, LeO (carillonlaw02_StampNumbers.f k a0 a1) (carillonlaw02_StampNumbers.f (k + 1) a0 a1) := by
  intro a0 a1 k
  unfold carillonlaw02_StampNumbers.f
  repeat' first
      | (with_reducible exact carillonref02_Add.mono _ _ _)
      | (with_reducible exact stamp_Add.mono _ _ _)
      | (with_reducible exact LeO.refl _)
      | (with_reducible exact LeO.none _)
      | (with_reducible refine LeO.ite ?_ ?_)
      | (with_reducible refine LeO.bind ?_ (fun _ => ?_))
      | exact carillonref02_Add.mono _ _ _
      | exact stamp_Add.mono _ _ _
      | exact LeO.none _
      | refine LeO.ite ?_ ?_
      | refine LeO.bind ?_ (fun _ => ?_)
set_option maxHeartbeats 8000000 in
set_option maxRecDepth 100000 in
theorem carillonlaw02_StampNumbers.calls (k : Nat) (a0 : Int) (a1 : Int) (w : World) (h : carillonlaw02_StampNumbers.f k a0 a1 = some true) :
    Calls Try.prog 6 #[.int .i64 a0, .int .i64 a1] w fun e w' => e = .returned (.bool true) ∧ Below w.heap.size w w' := by
  have HB := Aside0.mk (Below.refl w.heap.size w)
  have H : ((stamp_Floor.f a0).bind fun t128 => ((carillonref02_Floor.f a0).bind fun t129 => (if t128 = t129 then ((stamp_Add.f k a0 a1).bind fun t130 => ((carillonref02_Add.f k a0 a1).bind fun t131 => (if t130 = t131 then ((stamp_Ticks.f a0).bind fun t132 => ((carillonref02_Ticks.f a0).bind fun t133 => (if t132 = t133 then ((stamp_Nanos.f a0).bind fun t134 => ((carillonref02_Nanos.f a0).bind fun t135 => (if t134 = t135 then ((carillonlaw02_awake.f).bind fun t136 => (some t136)) else (some false)))) else (some false)))) else (some false)))) else (some false)))) = some true := h
  clear h
  replace H := Option.bind_eq_some_iff.mp H
  obtain ⟨t128, A30, H⟩ := H
  replace H : ((carillonref02_Floor.f a0).bind fun t129 => (if t128 = t129 then ((stamp_Add.f k a0 a1).bind fun t130 => ((carillonref02_Add.f k a0 a1).bind fun t131 => (if t130 = t131 then ((stamp_Ticks.f a0).bind fun t132 => ((carillonref02_Ticks.f a0).bind fun t133 => (if t132 = t133 then ((stamp_Nanos.f a0).bind fun t134 => ((carillonref02_Nanos.f a0).bind fun t135 => (if t134 = t135 then ((carillonlaw02_awake.f).bind fun t136 => (some t136)) else (some false)))) else (some false)))) else (some false)))) else (some false))) = some true := H
  have A3 := Aside0.mk A30
  clear A30
  replace H := Option.bind_eq_some_iff.mp H
  obtain ⟨t129, A40, H⟩ := H
  replace H : (if t128 = t129 then ((stamp_Add.f k a0 a1).bind fun t130 => ((carillonref02_Add.f k a0 a1).bind fun t131 => (if t130 = t131 then ((stamp_Ticks.f a0).bind fun t132 => ((carillonref02_Ticks.f a0).bind fun t133 => (if t132 = t133 then ((stamp_Nanos.f a0).bind fun t134 => ((carillonref02_Nanos.f a0).bind fun t135 => (if t134 = t135 then ((carillonlaw02_awake.f).bind fun t136 => (some t136)) else (some false)))) else (some false)))) else (some false)))) else (some false)) = some true := H
  have A4 := Aside0.mk A40
  clear A40
  by_cases c5 : t128 = t129
  · rw [if_pos c5] at H
    have c5b0 : (t128 == t129) = true := beq_iff_eq.mpr c5
    have c5b1 : (t128 != t129) = false := bne_eq_false_iff_eq.mpr c5
    clear c5
    replace H := Option.bind_eq_some_iff.mp H
    obtain ⟨t130, A60, H⟩ := H
    replace H : ((carillonref02_Add.f k a0 a1).bind fun t131 => (if t130 = t131 then ((stamp_Ticks.f a0).bind fun t132 => ((carillonref02_Ticks.f a0).bind fun t133 => (if t132 = t133 then ((stamp_Nanos.f a0).bind fun t134 => ((carillonref02_Nanos.f a0).bind fun t135 => (if t134 = t135 then ((carillonlaw02_awake.f).bind fun t136 => (some t136)) else (some false)))) else (some false)))) else (some false))) = some true := H
    have A6 := Aside0.mk A60
    clear A60
    replace H := Option.bind_eq_some_iff.mp H
    obtain ⟨t131, A70, H⟩ := H
    replace H : (if t130 = t131 then ((stamp_Ticks.f a0).bind fun t132 => ((carillonref02_Ticks.f a0).bind fun t133 => (if t132 = t133 then ((stamp_Nanos.f a0).bind fun t134 => ((carillonref02_Nanos.f a0).bind fun t135 => (if t134 = t135 then ((carillonlaw02_awake.f).bind fun t136 => (some t136)) else (some false)))) else (some false)))) else (some false)) = some true := H
    have A7 := Aside0.mk A70
    clear A70
    by_cases c8 : t130 = t131
    · rw [if_pos c8] at H
      have c8b0 : (t130 == t131) = true := beq_iff_eq.mpr c8
      have c8b1 : (t130 != t131) = false := bne_eq_false_iff_eq.mpr c8
      clear c8
      replace H := Option.bind_eq_some_iff.mp H
      obtain ⟨t132, A90, H⟩ := H
      replace H : ((carillonref02_Ticks.f a0).bind fun t133 => (if t132 = t133 then ((stamp_Nanos.f a0).bind fun t134 => ((carillonref02_Nanos.f a0).bind fun t135 => (if t134 = t135 then ((carillonlaw02_awake.f).bind fun t136 => (some t136)) else (some false)))) else (some false))) = some true := H
      have A9 := Aside0.mk A90
      clear A90
      replace H := Option.bind_eq_some_iff.mp H
      obtain ⟨t133, A100, H⟩ := H
      replace H : (if t132 = t133 then ((stamp_Nanos.f a0).bind fun t134 => ((carillonref02_Nanos.f a0).bind fun t135 => (if t134 = t135 then ((carillonlaw02_awake.f).bind fun t136 => (some t136)) else (some false)))) else (some false)) = some true := H
      have A10 := Aside0.mk A100
      clear A100
      by_cases c11 : t132 = t133
      · rw [if_pos c11] at H
        have c11b0 : (t132 == t133) = true := beq_iff_eq.mpr c11
        have c11b1 : (t132 != t133) = false := bne_eq_false_iff_eq.mpr c11
        clear c11
        replace H := Option.bind_eq_some_iff.mp H
        obtain ⟨t134, A120, H⟩ := H
        replace H : ((carillonref02_Nanos.f a0).bind fun t135 => (if t134 = t135 then ((carillonlaw02_awake.f).bind fun t136 => (some t136)) else (some false))) = some true := H
        have A12 := Aside0.mk A120
        clear A120
        replace H := Option.bind_eq_some_iff.mp H
        obtain ⟨t135, A130, H⟩ := H
        replace H : (if t134 = t135 then ((carillonlaw02_awake.f).bind fun t136 => (some t136)) else (some false)) = some true := H
        have A13 := Aside0.mk A130
        clear A130
        by_cases c14 : t134 = t135
        · rw [if_pos c14] at H
          have c14b0 : (t134 == t135) = true := beq_iff_eq.mpr c14
          have c14b1 : (t134 != t135) = false := bne_eq_false_iff_eq.mpr c14
          clear c14
          replace H := Option.bind_eq_some_iff.mp H
          obtain ⟨t136, A150, H⟩ := H
          replace H : (some t136) = some true := H
          have A15 := Aside0.mk A150
          clear A150
          have hret_ := Aside0.mk (Option.some.inj H)
          clear H
          go_enter Try.func6, Try.ntmps6
          go_wp2_with (first | ((with_reducible refine gate_callee (f := 12) rfl ?_); refine goesL_ (some 6) rfl rfl Try.func12 (by kernel_rfl) rfl #[.int .i64 a0] rfl (by (try simp only [List.map_toArray, List.map_cons, List.map_nil]); first | done | rfl | (simp only [List.length_drop, List.length_take]; rfl)) ?_; (with_reducible refine (stamp_Floor.calls a0 t128 _ A3.out).mono ?_); rintro e w' ⟨rfl, ⟨nd, rfl⟩⟩; refine ⟨_, rfl, ?_⟩) | ((with_reducible refine gate_callee (f := 17) rfl ?_); refine goesL_ (some 8) rfl rfl Try.func17 (by kernel_rfl) rfl #[.int .i64 a0] rfl (by (try simp only [List.map_toArray, List.map_cons, List.map_nil]); first | done | rfl | (simp only [List.length_drop, List.length_take]; rfl)) ?_; (with_reducible refine (carillonref02_Floor.calls a0 t129 _ A4.out).mono ?_); rintro e w' ⟨rfl, ⟨nd, rfl⟩⟩; refine ⟨_, rfl, ?_⟩) | (go_at_call 18; (with_reducible refine (stamp_Add.calls k a0 a1 t130 _ A6.out).mono ?_); rintro e w' ⟨rfl, ⟨nd, rfl⟩⟩) | (go_at_call 19; (with_reducible refine (carillonref02_Add.calls k a0 a1 t131 _ A7.out).mono ?_); rintro e w' ⟨rfl, ⟨nd, rfl⟩⟩) | (go_at_call 15; (with_reducible refine (stamp_Ticks.calls a0 t132 _ A9.out).mono ?_); rintro e w16 ⟨rfl, hb⟩; have n0_ := Aside0.mk (below_step (by repeat (first | (with_reducible first | exact HB.out | apply below_alloc | apply pw_below_drewN | apply below_drew1) | exact HB.out)) hb); clear HB; have HB := n0_; clear n0_; (try clear hb); (try clear hb2); (try clear hk); (try clear hi)) | (go_at_call 20; (with_reducible refine (carillonref02_Ticks.calls a0 t133 _ A10.out).mono ?_); rintro e w17 ⟨rfl, hb⟩; have n0_ := Aside0.mk (below_step (by repeat (first | (with_reducible first | exact HB.out | apply below_alloc | apply pw_below_drewN | apply below_drew1) | exact HB.out)) hb); clear HB; have HB := n0_; clear n0_; (try clear hb); (try clear hb2); (try clear hk); (try clear hi)) | (go_at_call 16; (with_reducible refine (stamp_Nanos.calls a0 t134 _ A12.out).mono ?_); rintro e w18 ⟨rfl, hb⟩; have n0_ := Aside0.mk (below_step (by repeat (first | (with_reducible first | exact HB.out | apply below_alloc | apply pw_below_drewN | apply below_drew1) | exact HB.out)) hb); clear HB; have HB := n0_; clear n0_; (try clear hb); (try clear hb2); (try clear hk); (try clear hi)) | (go_at_call 21; (with_reducible refine (carillonref02_Nanos.calls a0 t135 _ A13.out).mono ?_); rintro e w19 ⟨rfl, hb⟩; have n0_ := Aside0.mk (below_step (by repeat (first | (with_reducible first | exact HB.out | apply below_alloc | apply pw_below_drewN | apply below_drew1) | exact HB.out)) hb); clear HB; have HB := n0_; clear n0_; (try clear hb); (try clear hb2); (try clear hk); (try clear hi)) | (go_at_call 13; (with_reducible refine (carillonlaw02_awake.calls  t136 _ A15.out).mono ?_); rintro e w20 ⟨rfl, hb⟩; have n0_ := Aside0.mk (below_step (by repeat (first | (with_reducible first | exact HB.out | apply below_alloc | apply pw_below_drewN | apply below_drew1) | exact HB.out)) hb); clear HB; have HB := n0_; clear n0_; (try clear hb); (try clear hb2); (try clear hk); (try clear hi)))
          all_goals
            go_ret
            exact ⟨by first | exact congrArg (fun b_ => Ending.returned (.bool b_)) hret_.out | rfl | (simp [errW_none, errW_some] <;> rfl) | (simp [*, errW_none, errW_some] <;> rfl), by repeat (first | (with_reducible first | exact HB.out | apply below_alloc | apply pw_below_drewN | apply below_drew1) | exact HB.out)⟩
        · rw [if_neg c14] at H
          have c14b0 : (t134 == t135) = false := beq_eq_false_iff_ne.mpr c14
          have c14b1 : (t134 != t135) = true := bne_iff_ne.mpr c14
          exact absurd H (by simp)
      · rw [if_neg c11] at H
        have c11b0 : (t132 == t133) = false := beq_eq_false_iff_ne.mpr c11
        have c11b1 : (t132 != t133) = true := bne_iff_ne.mpr c11
        exact absurd H (by simp)
    · rw [if_neg c8] at H
      have c8b0 : (t130 == t131) = false := beq_eq_false_iff_ne.mpr c8
      have c8b1 : (t130 != t131) = true := bne_iff_ne.mpr c8
      exact absurd H (by simp)
  · rw [if_neg c5] at H
    have c5b0 : (t128 == t129) = false := beq_eq_false_iff_ne.mpr c5
    have c5b1 : (t128 != t129) = true := bne_iff_ne.mpr c5
    exact absurd H (by simp)

/-- THE ONE PURE STATEMENT of carillonlaw02_StampNumbers: yours. -/
def carillonlaw02_StampNumbers.Pure : Prop := ∀ (a0 : Int) (a1 : Int), (Lit.int .i64 a0).wf = true → (Lit.int .i64 a1).wf = true → ∃ k, carillonlaw02_StampNumbers.f k a0 a1 = some true
theorem carillonlaw02_StampNumbers.walk (P : carillonlaw02_StampNumbers.Pure) (a0 : Int) (a1 : Int) (w : World) (w0 : (Lit.int .i64 a0).wf = true) (w1 : (Lit.int .i64 a1).wf = true) :
    Calls Try.prog 6 #[.int .i64 a0, .int .i64 a1] w fun e w' => e = .returned (.bool true) ∧ Below w.heap.size w w' := by
  obtain ⟨k, h⟩ := P a0 a1 w0 w1
  refine (carillonlaw02_StampNumbers.calls k a0 a1 w h).mono ?_
  rintro e w' ⟨rfl, hd⟩
  exact ⟨rfl, hd⟩

/-! ### carillonlaw02_StampSums: function 7 -/
def carillonlaw02_StampSums.f (k : Nat) (a0 : Int) (a1 : Int) : Option (Bool) := (stamp_Add.f k a0 a1).bind fun t137 => ((stamp_Add.f k a1 a0).bind fun t138 => (if t137 = t138 then ((stamp_Add.f k a0 0).bind fun t139 => (if t139 = a0 then (if a1 < 0 then (if a1 > 0 then ((carillonlaw02_awake.f).bind fun t140 => (some t140)) else (if t137 ≤ a0 then ((carillonlaw02_awake.f).bind fun t141 => (some t141)) else (some false))) else (if t137 ≥ a0 then (if a1 > 0 then ((carillonlaw02_awake.f).bind fun t142 => (some t142)) else (if t137 ≤ a0 then ((carillonlaw02_awake.f).bind fun t143 => (some t143)) else (some false))) else (some false))) else (some false))) else (some false)))
theorem carillonlaw02_StampSums.mono : ∀ a0 a1 k, LeO (carillonlaw02_StampSums.f k a0 a1) (carillonlaw02_StampSums.f (k + 1) a0 a1) := by
  intro a0 a1 k
  unfold carillonlaw02_StampSums.f
  repeat' first
      | (with_reducible exact stamp_Add.mono _ _ _)
      | (with_reducible exact LeO.refl _)
      | (with_reducible exact LeO.none _)
      | (with_reducible refine LeO.ite ?_ ?_)
      | (with_reducible refine LeO.bind ?_ (fun _ => ?_))
      | exact stamp_Add.mono _ _ _
      | exact LeO.none _
      | refine LeO.ite ?_ ?_
      | refine LeO.bind ?_ (fun _ => ?_)
set_option maxHeartbeats 8000000 in
set_option maxRecDepth 100000 in
theorem carillonlaw02_StampSums.calls (k : Nat) (a0 : Int) (a1 : Int) (w : World) (h : carillonlaw02_StampSums.f k a0 a1 = some true) :
    Calls Try.prog 7 #[.int .i64 a0, .int .i64 a1] w fun e w' => e = .returned (.bool true) ∧ Below w.heap.size w w' := by
  have HB := Aside0.mk (Below.refl w.heap.size w)
  have H : ((stamp_Add.f k a0 a1).bind fun t137 => ((stamp_Add.f k a1 a0).bind fun t138 => (if t137 = t138 then ((stamp_Add.f k a0 0).bind fun t139 => (if t139 = a0 then (if a1 < 0 then (if a1 > 0 then ((carillonlaw02_awake.f).bind fun t140 => (some t140)) else (if t137 ≤ a0 then ((carillonlaw02_awake.f).bind fun t141 => (some t141)) else (some false))) else (if t137 ≥ a0 then (if a1 > 0 then ((carillonlaw02_awake.f).bind fun t142 => (some t142)) else (if t137 ≤ a0 then ((carillonlaw02_awake.f).bind fun t143 => (some t143)) else (some false))) else (some false))) else (some false))) else (some false)))) = some true := h
  clear h
  replace H := Option.bind_eq_some_iff.mp H
  obtain ⟨t137, A30, H⟩ := H
  replace H : ((stamp_Add.f k a1 a0).bind fun t138 => (if t137 = t138 then ((stamp_Add.f k a0 0).bind fun t139 => (if t139 = a0 then (if a1 < 0 then (if a1 > 0 then ((carillonlaw02_awake.f).bind fun t140 => (some t140)) else (if t137 ≤ a0 then ((carillonlaw02_awake.f).bind fun t141 => (some t141)) else (some false))) else (if t137 ≥ a0 then (if a1 > 0 then ((carillonlaw02_awake.f).bind fun t142 => (some t142)) else (if t137 ≤ a0 then ((carillonlaw02_awake.f).bind fun t143 => (some t143)) else (some false))) else (some false))) else (some false))) else (some false))) = some true := H
  have A3 := Aside0.mk A30
  clear A30
  replace H := Option.bind_eq_some_iff.mp H
  obtain ⟨t138, A40, H⟩ := H
  replace H : (if t137 = t138 then ((stamp_Add.f k a0 0).bind fun t139 => (if t139 = a0 then (if a1 < 0 then (if a1 > 0 then ((carillonlaw02_awake.f).bind fun t140 => (some t140)) else (if t137 ≤ a0 then ((carillonlaw02_awake.f).bind fun t141 => (some t141)) else (some false))) else (if t137 ≥ a0 then (if a1 > 0 then ((carillonlaw02_awake.f).bind fun t142 => (some t142)) else (if t137 ≤ a0 then ((carillonlaw02_awake.f).bind fun t143 => (some t143)) else (some false))) else (some false))) else (some false))) else (some false)) = some true := H
  have A4 := Aside0.mk A40
  clear A40
  by_cases c5 : t137 = t138
  · rw [if_pos c5] at H
    have c5b0 : (t137 == t138) = true := beq_iff_eq.mpr c5
    have c5b1 : (t137 != t138) = false := bne_eq_false_iff_eq.mpr c5
    clear c5
    replace H := Option.bind_eq_some_iff.mp H
    obtain ⟨t139, A60, H⟩ := H
    replace H : (if t139 = a0 then (if a1 < 0 then (if a1 > 0 then ((carillonlaw02_awake.f).bind fun t140 => (some t140)) else (if t137 ≤ a0 then ((carillonlaw02_awake.f).bind fun t141 => (some t141)) else (some false))) else (if t137 ≥ a0 then (if a1 > 0 then ((carillonlaw02_awake.f).bind fun t142 => (some t142)) else (if t137 ≤ a0 then ((carillonlaw02_awake.f).bind fun t143 => (some t143)) else (some false))) else (some false))) else (some false)) = some true := H
    have A6 := Aside0.mk A60
    clear A60
    by_cases c7 : t139 = a0
    · rw [if_pos c7] at H
      have c7b0 : (t139 == a0) = true := beq_iff_eq.mpr c7
      have c7b1 : (t139 != a0) = false := bne_eq_false_iff_eq.mpr c7
      clear c7
      by_cases c8 : a1 < 0
      · rw [if_pos c8] at H
        have c8b0 : decide (a1 < 0) = true := decide_eq_true c8
        clear c8
        by_cases c9 : a1 > 0
        · rw [if_pos c9] at H
          have c9b0 : decide (0 < a1) = true := decide_eq_true c9
          clear c9
          replace H := Option.bind_eq_some_iff.mp H
          obtain ⟨t140, A100, H⟩ := H
          replace H : (some t140) = some true := H
          have A10 := Aside0.mk A100
          clear A100
          have hret_ := Aside0.mk (Option.some.inj H)
          clear H
          go_enter Try.func7, Try.ntmps7
          go_wp2_with (first | ((with_reducible refine gate_callee (f := 18) rfl ?_); refine goesL_ (some 8) rfl rfl Try.func18 (by kernel_rfl) rfl #[.int .i64 a0, .int .i64 a1] rfl (by (try simp only [List.map_toArray, List.map_cons, List.map_nil]); first | done | rfl | (simp only [List.length_drop, List.length_take]; rfl)) ?_; (with_reducible refine (stamp_Add.calls k a0 a1 t137 _ A3.out).mono ?_); rintro e w' ⟨rfl, ⟨nd, rfl⟩⟩; refine ⟨_, rfl, ?_⟩) | ((with_reducible refine gate_callee (f := 18) rfl ?_); refine goesL_ (some 12) rfl rfl Try.func18 (by kernel_rfl) rfl #[.int .i64 a1, .int .i64 a0] rfl (by (try simp only [List.map_toArray, List.map_cons, List.map_nil]); first | done | rfl | (simp only [List.length_drop, List.length_take]; rfl)) ?_; (with_reducible refine (stamp_Add.calls k a1 a0 t138 _ A4.out).mono ?_); rintro e w' ⟨rfl, ⟨nd, rfl⟩⟩; refine ⟨_, rfl, ?_⟩) | (go_at_call 18; (with_reducible refine (stamp_Add.calls k a0 0 t139 _ A6.out).mono ?_); rintro e w' ⟨rfl, ⟨nd, rfl⟩⟩) | (go_at_call 13; (with_reducible refine (carillonlaw02_awake.calls  t140 _ A10.out).mono ?_); rintro e w11 ⟨rfl, hb⟩; have n0_ := Aside0.mk (below_step (by repeat (first | (with_reducible first | exact HB.out | apply below_alloc | apply pw_below_drewN | apply below_drew1) | exact HB.out)) hb); clear HB; have HB := n0_; clear n0_; (try clear hb); (try clear hb2); (try clear hk); (try clear hi)))
          all_goals
            go_ret
            exact ⟨by first | exact congrArg (fun b_ => Ending.returned (.bool b_)) hret_.out | rfl | (simp [errW_none, errW_some] <;> rfl) | (simp [*, errW_none, errW_some] <;> rfl), by repeat (first | (with_reducible first | exact HB.out | apply below_alloc | apply pw_below_drewN | apply below_drew1) | exact HB.out)⟩
        · rw [if_neg c9] at H
          have c9b0 : decide (0 < a1) = false := decide_eq_false c9
          clear c9
          by_cases c12 : t137 ≤ a0
          · rw [if_pos c12] at H
            have c12b0 : decide (t137 ≤ a0) = true := decide_eq_true c12
            clear c12
            replace H := Option.bind_eq_some_iff.mp H
            obtain ⟨t141, A130, H⟩ := H
            replace H : (some t141) = some true := H
            have A13 := Aside0.mk A130
            clear A130
            have hret_ := Aside0.mk (Option.some.inj H)
            clear H
            go_enter Try.func7, Try.ntmps7
            go_wp2_with (first | ((with_reducible refine gate_callee (f := 18) rfl ?_); refine goesL_ (some 8) rfl rfl Try.func18 (by kernel_rfl) rfl #[.int .i64 a0, .int .i64 a1] rfl (by (try simp only [List.map_toArray, List.map_cons, List.map_nil]); first | done | rfl | (simp only [List.length_drop, List.length_take]; rfl)) ?_; (with_reducible refine (stamp_Add.calls k a0 a1 t137 _ A3.out).mono ?_); rintro e w' ⟨rfl, ⟨nd, rfl⟩⟩; refine ⟨_, rfl, ?_⟩) | ((with_reducible refine gate_callee (f := 18) rfl ?_); refine goesL_ (some 12) rfl rfl Try.func18 (by kernel_rfl) rfl #[.int .i64 a1, .int .i64 a0] rfl (by (try simp only [List.map_toArray, List.map_cons, List.map_nil]); first | done | rfl | (simp only [List.length_drop, List.length_take]; rfl)) ?_; (with_reducible refine (stamp_Add.calls k a1 a0 t138 _ A4.out).mono ?_); rintro e w' ⟨rfl, ⟨nd, rfl⟩⟩; refine ⟨_, rfl, ?_⟩) | (go_at_call 18; (with_reducible refine (stamp_Add.calls k a0 0 t139 _ A6.out).mono ?_); rintro e w' ⟨rfl, ⟨nd, rfl⟩⟩) | (go_at_call 13; (with_reducible refine (carillonlaw02_awake.calls  t141 _ A13.out).mono ?_); rintro e w14 ⟨rfl, hb⟩; have n0_ := Aside0.mk (below_step (by repeat (first | (with_reducible first | exact HB.out | apply below_alloc | apply pw_below_drewN | apply below_drew1) | exact HB.out)) hb); clear HB; have HB := n0_; clear n0_; (try clear hb); (try clear hb2); (try clear hk); (try clear hi)))
            all_goals
              go_ret
              exact ⟨by first | exact congrArg (fun b_ => Ending.returned (.bool b_)) hret_.out | rfl | (simp [errW_none, errW_some] <;> rfl) | (simp [*, errW_none, errW_some] <;> rfl), by repeat (first | (with_reducible first | exact HB.out | apply below_alloc | apply pw_below_drewN | apply below_drew1) | exact HB.out)⟩
          · rw [if_neg c12] at H
            have c12b0 : decide (t137 ≤ a0) = false := decide_eq_false c12
            clear c12
            exact absurd H (by simp)
      · rw [if_neg c8] at H
        have c8b0 : decide (a1 < 0) = false := decide_eq_false c8
        clear c8
        by_cases c15 : t137 ≥ a0
        · rw [if_pos c15] at H
          have c15b0 : decide (a0 ≤ t137) = true := decide_eq_true c15
          clear c15
          by_cases c16 : a1 > 0
          · rw [if_pos c16] at H
            have c16b0 : decide (0 < a1) = true := decide_eq_true c16
            clear c16
            replace H := Option.bind_eq_some_iff.mp H
            obtain ⟨t142, A170, H⟩ := H
            replace H : (some t142) = some true := H
            have A17 := Aside0.mk A170
            clear A170
            have hret_ := Aside0.mk (Option.some.inj H)
            clear H
            go_enter Try.func7, Try.ntmps7
            go_wp2_with (first | ((with_reducible refine gate_callee (f := 18) rfl ?_); refine goesL_ (some 8) rfl rfl Try.func18 (by kernel_rfl) rfl #[.int .i64 a0, .int .i64 a1] rfl (by (try simp only [List.map_toArray, List.map_cons, List.map_nil]); first | done | rfl | (simp only [List.length_drop, List.length_take]; rfl)) ?_; (with_reducible refine (stamp_Add.calls k a0 a1 t137 _ A3.out).mono ?_); rintro e w' ⟨rfl, ⟨nd, rfl⟩⟩; refine ⟨_, rfl, ?_⟩) | ((with_reducible refine gate_callee (f := 18) rfl ?_); refine goesL_ (some 12) rfl rfl Try.func18 (by kernel_rfl) rfl #[.int .i64 a1, .int .i64 a0] rfl (by (try simp only [List.map_toArray, List.map_cons, List.map_nil]); first | done | rfl | (simp only [List.length_drop, List.length_take]; rfl)) ?_; (with_reducible refine (stamp_Add.calls k a1 a0 t138 _ A4.out).mono ?_); rintro e w' ⟨rfl, ⟨nd, rfl⟩⟩; refine ⟨_, rfl, ?_⟩) | (go_at_call 18; (with_reducible refine (stamp_Add.calls k a0 0 t139 _ A6.out).mono ?_); rintro e w' ⟨rfl, ⟨nd, rfl⟩⟩) | (go_at_call 13; (with_reducible refine (carillonlaw02_awake.calls  t142 _ A17.out).mono ?_); rintro e w18 ⟨rfl, hb⟩; have n0_ := Aside0.mk (below_step (by repeat (first | (with_reducible first | exact HB.out | apply below_alloc | apply pw_below_drewN | apply below_drew1) | exact HB.out)) hb); clear HB; have HB := n0_; clear n0_; (try clear hb); (try clear hb2); (try clear hk); (try clear hi)))
            all_goals
              go_ret
              exact ⟨by first | exact congrArg (fun b_ => Ending.returned (.bool b_)) hret_.out | rfl | (simp [errW_none, errW_some] <;> rfl) | (simp [*, errW_none, errW_some] <;> rfl), by repeat (first | (with_reducible first | exact HB.out | apply below_alloc | apply pw_below_drewN | apply below_drew1) | exact HB.out)⟩
          · rw [if_neg c16] at H
            have c16b0 : decide (0 < a1) = false := decide_eq_false c16
            clear c16
            by_cases c19 : t137 ≤ a0
            · rw [if_pos c19] at H
              have c19b0 : decide (t137 ≤ a0) = true := decide_eq_true c19
              clear c19
              replace H := Option.bind_eq_some_iff.mp H
              obtain ⟨t143, A200, H⟩ := H
              replace H : (some t143) = some true := H
              have A20 := Aside0.mk A200
              clear A200
              have hret_ := Aside0.mk (Option.some.inj H)
              clear H
              go_enter Try.func7, Try.ntmps7
              go_wp2_with (first | ((with_reducible refine gate_callee (f := 18) rfl ?_); refine goesL_ (some 8) rfl rfl Try.func18 (by kernel_rfl) rfl #[.int .i64 a0, .int .i64 a1] rfl (by (try simp only [List.map_toArray, List.map_cons, List.map_nil]); first | done | rfl | (simp only [List.length_drop, List.length_take]; rfl)) ?_; (with_reducible refine (stamp_Add.calls k a0 a1 t137 _ A3.out).mono ?_); rintro e w' ⟨rfl, ⟨nd, rfl⟩⟩; refine ⟨_, rfl, ?_⟩) | ((with_reducible refine gate_callee (f := 18) rfl ?_); refine goesL_ (some 12) rfl rfl Try.func18 (by kernel_rfl) rfl #[.int .i64 a1, .int .i64 a0] rfl (by (try simp only [List.map_toArray, List.map_cons, List.map_nil]); first | done | rfl | (simp only [List.length_drop, List.length_take]; rfl)) ?_; (with_reducible refine (stamp_Add.calls k a1 a0 t138 _ A4.out).mono ?_); rintro e w' ⟨rfl, ⟨nd, rfl⟩⟩; refine ⟨_, rfl, ?_⟩) | (go_at_call 18; (with_reducible refine (stamp_Add.calls k a0 0 t139 _ A6.out).mono ?_); rintro e w' ⟨rfl, ⟨nd, rfl⟩⟩) | (go_at_call 13; (with_reducible refine (carillonlaw02_awake.calls  t143 _ A20.out).mono ?_); rintro e w21 ⟨rfl, hb⟩; have n0_ := Aside0.mk (below_step (by repeat (first | (with_reducible first | exact HB.out | apply below_alloc | apply pw_below_drewN | apply below_drew1) | exact HB.out)) hb); clear HB; have HB := n0_; clear n0_; (try clear hb); (try clear hb2); (try clear hk); (try clear hi)))
              all_goals
                go_ret
                exact ⟨by first | exact congrArg (fun b_ => Ending.returned (.bool b_)) hret_.out | rfl | (simp [errW_none, errW_some] <;> rfl) | (simp [*, errW_none, errW_some] <;> rfl), by repeat (first | (with_reducible first | exact HB.out | apply below_alloc | apply pw_below_drewN | apply below_drew1) | exact HB.out)⟩
            · rw [if_neg c19] at H
              have c19b0 : decide (t137 ≤ a0) = false := decide_eq_false c19
              clear c19
              exact absurd H (by simp)
        · rw [if_neg c15] at H
          have c15b0 : decide (a0 ≤ t137) = false := decide_eq_false c15
          clear c15
          exact absurd H (by simp)
    · rw [if_neg c7] at H
      have c7b0 : (t139 == a0) = false := beq_eq_false_iff_ne.mpr c7
      have c7b1 : (t139 != a0) = true := bne_iff_ne.mpr c7
      exact absurd H (by simp)
  · rw [if_neg c5] at H
    have c5b0 : (t137 == t138) = false := beq_eq_false_iff_ne.mpr c5
    have c5b1 : (t137 != t138) = true := bne_iff_ne.mpr c5
    exact absurd H (by simp)

/-- THE ONE PURE STATEMENT of carillonlaw02_StampSums: yours. -/
def carillonlaw02_StampSums.Pure : Prop := ∀ (a0 : Int) (a1 : Int), (Lit.int .i64 a0).wf = true → (Lit.int .i64 a1).wf = true → ∃ k, carillonlaw02_StampSums.f k a0 a1 = some true
theorem carillonlaw02_StampSums.walk (P : carillonlaw02_StampSums.Pure) (a0 : Int) (a1 : Int) (w : World) (w0 : (Lit.int .i64 a0).wf = true) (w1 : (Lit.int .i64 a1).wf = true) :
    Calls Try.prog 7 #[.int .i64 a0, .int .i64 a1] w fun e w' => e = .returned (.bool true) ∧ Below w.heap.size w w' := by
  obtain ⟨k, h⟩ := P a0 a1 w0 w1
  refine (carillonlaw02_StampSums.calls k a0 a1 w h).mono ?_
  rintro e w' ⟨rfl, hd⟩
  exact ⟨rfl, hd⟩

/-! ### octets_Put: function 30: by hand -/
/-- The n lowest bytes of v, the highest first. -/
def octets_Put.bytes (v : Int) : Nat → List Int
  | 0 => []
  | n + 1 => (v / 256 ^ n) % 256 :: octets_Put.bytes v n
theorem octets_Put.bytes_length (v : Int) (n : Nat) : (octets_Put.bytes v n).length = n := by
  induction n with
  | zero => rfl
  | succ n ih => simp [octets_Put.bytes, ih]
/-- What octets.Put answers: the bytes behind those that came in (n of 1 at least). -/
def octets_Put.f (l0 : List Int) (a1 : Int) (a2 : Int) : Option (List Int) :=
  if 1 ≤ a2 ∧ l0.length ≤ 140737488355320 then some (l0 ++ octets_Put.bytes a1 (mn a2 8).toNat) else none
theorem octets_Put.nat8 (a2 : Int) (h : 1 ≤ a2) : ∃ m : Nat, mn a2 8 = (m : Int) + 1 ∧ m ≤ 7 := by
  refine ⟨(mn a2 8 - 1).toNat, ?_, ?_⟩ <;> (unfold mn; split <;> omega)
/-- An append to a slice without room: what comes is new. -/
theorem octets_Put.capped {P : Program} {ops : Array Oper} {rest : List Oper} {o : Oper} {a : Act} {Q : Exit → Act → World → Prop} {w0 W : World} (base : Nat) (hgd : o.guard = none) (s x : Operand) (t e : TypeId) (z : Value) (bytes : Nat)
    (ho : o.op = .call { callee := .builtin .append, args := #[s, x], argTypes := #[t, t] })
    (ht : P.underlying t = some (.slice e)) (hinfo : (P.info? e).map (fun i => (i.zero, i.size, i.bytes)) = some (some z, 1, bytes)) (hz : z.cells.size = 1) (hb0 : 0 < bytes) (k : IntKind)
    (A : Option Addr) (xs : List Int) (y : Int) (hs : a.eval s = .slice A xs.length xs.length) (hx : a.eval x = .slice (some ⟨W.heap.size, 0, none⟩) 1 1)
    (HR : Kd.C (Kd.int k) W A xs.length xs) (HB : Below base w0 W) (hbase : base ≤ W.heap.size) (hl : (xs.length + 1) * bytes ≤ 140737488355328)
    (h : ∀ v1 w1, Kd.R (Kd.int k) e w1 base (fun _ => True) v1 (xs ++ [y]) → Below base w0 w1 → wpList P ops Q rest (a.put o.dst v1) w1) :
    wpList P ops Q (o :: rest) a (W.alloc (.cells #[.int k y] e)) := by
  obtain ⟨i0, hi, hzz⟩ := Option.map_eq_some_iff.1 hinfo
  simp only [Prod.mk.injEq] at hzz
  obtain ⟨hz0, hz1, hz2⟩ := hzz
  have hlen : xs.length + 1 ≤ 140737488355328 := Nat.le_trans (Nat.le_mul_of_pos_right _ hb0) hl
  have hrd := Kd.reads_of_C (d := (0 : Int)) HR
  have hB2 : Below base w0 (W.alloc (.cells #[.int k y] e)) := HB.alloc hbase _
  refine wpList_append_grows (W.alloc (.cells #[.int k y] e)) hgd s x t ho e i0 z 1 bytes ht hi hz0 hz1 hz2 hz (by omega) A xs.length xs.length (encs (Value.int k) xs) hs ?_ (by simp [encs_length]) ?_ ⟨W.heap.size, 0, none⟩ 1 1 [.int k y] hx rfl (World.news_of_block (cs := #[.int k y]) (t := e) (fr := (0, 0)) (heap_alloc_new W _)) (by simp [Value.oneCell']) (by omega) (by simp only [maxLen]; omega) hl ?_
  · rintro rfl
    rcases Nat.eq_zero_or_pos xs.length with h0 | h0
    · exact ⟨h0, h0⟩
    · obtain ⟨ad, e1, _⟩ := hrd.2.2 h0
      cases e1
  · rintro b rfl j u hj
    have hjl : j < xs.length := by have := (List.getElem?_eq_some_iff.1 hj).1; simpa [encs_length] using this
    obtain ⟨ad, e1, hc⟩ := hrd.2.2 (by omega)
    injection e1 with e1
    subst e1
    have h1 := hc j hjl
    have h2 : u = .int k (xs.getD j 0) := by
      simp only [encs, List.getElem?_map, List.getElem?_eq_getElem hjl, Option.map_some, Option.some.injEq] at hj
      rw [← hj, List.getD_eq_getElem?_getD, List.getElem?_eq_getElem hjl]
      rfl
    rw [h2]
    exact pw_cell_below (below_alloc (Below.refl _ _) _) h1
  · intro v1 w1 hown hg
    have hown2 : w1.ownsRow base e 1 v1 (xs ++ [y]).length (encs (Value.int k) (xs ++ [y])) := by
      have h3 : encs (Value.int k) (xs ++ [y]) = encs (Value.int k) xs ++ [.int k y] := by simp [encs]
      rw [h3, List.length_append]
      exact own_weaken hown (by simp; omega)
    exact h v1 w1 (Kd.R_of_own hown2 (fun _ _ => trivial)) (pw_below_grown hB2 none (by simp; omega) hg (by simp))
set_option maxHeartbeats 1000000 in
set_option maxRecDepth 100000 in
theorem octets_Put.calls (A0 : Option Addr) (c0 : Nat) (l0 : List Int) (a1 : Int) (a2 : Int) (r : List Int) (w : World) (hr0 : Kd.C (Kd.int .u8) w A0 l0.length l0) (hc0 : l0.length ≤ c0) (h : octets_Put.f l0 a1 a2 = some r) :
    Calls Try.prog 30 #[.slice A0 l0.length c0, .int .i64 a1, .int .i64 a2] w fun e w' => ∃ v0_ : Value, e = .returned (v0_) ∧ Kd.R (Kd.int .u8) 5 w' w.heap.size (fun _ => True) v0_ r ∧ Below w.heap.size w w' := by
  obtain ⟨m, hm, hm7⟩ : ∃ m : Nat, mn a2 8 = (m : Int) + 1 ∧ m ≤ 7 := octets_Put.nat8 a2 (by
    unfold octets_Put.f at h
    split at h
    · rename_i hh; exact hh.1
    · cases h)
  have Hm := Aside0.mk hm
  have Hl : Aside0 ((l0.length + 1) * 1 ≤ 140737488355328) := ⟨by
    unfold octets_Put.f at h
    split at h
    · rename_i hh; omega
    · cases h⟩
  have hm_ : (if 8 < a2 then 8 else a2) = (m : Int) + 1 := hm
  have hx_ : (if 0 < (m : Int) + 1 then (m : Int) + 1 else 0) = (m : Int) + 1 := if_pos (by omega)
  clear hm
  go_enter Try.func30, Try.ntmps30
  go_wp2
  refine wp_scope_jumps 0 (fun a' w' => ∃ (i : Nat) (u t8 t9 t10 t11 t12 t13 t14 t15 t16 t17 t18 t19 t20 t21 t22 t23 t24 t25 t26 t27 t28 t29 : Value) (xs : List Int), a' = { tmps := #[u, .int .i64 a1, .int .i64 a2, undef, undef, undef, .slice none 0 0, .int .i64 i, t8, t9, t10, t11, t12, t13, t14, t15, t16, t17, t18, t19, t20, t21, t22, t23, t24, t25, t26, t27, t28, t29], defers := [] } ∧ i ≤ m ∧ Aside0 (xs ++ octets_Put.bytes a1 i = l0 ++ octets_Put.bytes a1 (m + 1)) ∧ Aside0 (Kd.R (Kd.int .u8) 5 w' w.heap.size (fun _ => True) u xs) ∧ Aside0 (Below w.heap.size w w')) (fun a' _ => match a'.tmps.getD 7 undef with | .int _ q => q.toNat | _ => 0) rfl ?_ ?_
  · go_wp2
    clear hm_ hx_
    have HR := Aside0.mk hr0
    clear hr0
    go_step3
    go_wp2_with ((with_reducible refine gate_builtin (b := .append) (xs := #[.tmp 21, .tmp 27]) rfl ?_); at_builtin; refine octets_Put.capped (w0 := w) w.heap.size rfl (.tmp 21) (.tmp 27) 27 5 (.int .u8 0) 1 rfl Try.underlying27 info5 rfl (by omega) .u8 A0 l0 _ rfl rfl HR.out (Below.refl _ _) (Nat.le_refl _) ?aL ?_; (case aL => exact Hl.out); intro v1 w1 hR hB; have HR1 := Aside0.mk hR; have HB1 := Aside0.mk hB; clear hR hB)
    go_step3
    refine ⟨rfl, m, v1, _, _, _, _, _, _, _, _, _, _, _, _, _, _, _, _, _, _, _, _, _, _, l0 ++ [a1 / 256 ^ m % 256], rfl, Nat.le_refl _, ⟨by simp [octets_Put.bytes]⟩, ⟨?_⟩, HB1⟩
    have e1 : (2 : Int) ^ (8 * m) = 256 ^ m := by rw [Int.pow_mul]; rfl
    rw [← e1]
    exact HR1.out
  · rintro a' w' ⟨i, u, t8, t9, t10, t11, t12, t13, t14, t15, t16, t17, t18, t19, t20, t21, t22, t23, t24, t25, t26, t27, t28, t29, xs, rfl, him, HX, HR, HB⟩
    clear hm_ hx_ hr0
    cases i with
    | zero =>
      go_wp2
      simp only [Exit.jump]
      go_ret
      refine ⟨u, rfl, ?_, HB.out⟩
      have hx : xs = r := by
        have h1 := HX.out
        unfold octets_Put.f at h
        split at h
        · injection h with h
          rw [Hm.out] at h
          have h2 : ((m : Int) + 1).toNat = m + 1 := by omega
          rw [h2] at h
          rw [← h, ← h1]
          simp [octets_Put.bytes]
        · cases h
      rw [← hx]
      exact HR.out
    | succ i =>
      have Hlx : Aside0 ((xs.length + 1) * 1 ≤ 140737488355328) := ⟨by
        have h1 := congrArg List.length HX.out
        simp only [List.length_append, octets_Put.bytes_length] at h1
        unfold octets_Put.f at h
        split at h
        · rename_i hh; omega
        · cases h⟩
      go_wp2_with ((with_reducible refine gate_builtin (b := .append) (xs := #[.tmp 21, .tmp 27]) rfl ?_); at_builtin; refine print_append_of (w0 := w) (Value.int .u8) w.heap.size rfl (.tmp 21) (.tmp 27) 27 5 (.int .u8 0) 1 rfl Try.underlying27 info5 rfl (by omega) u xs _ rfl rfl rfl (Kd.own_of_R HR.out) HB.out (below_size HB.out) Hlx.out ?_; intro v1 w1 hown hB hg hat; have HR1 := Aside0.mk hown; have HB1 := Aside0.mk hB; clear hown hB hg hat)
      go_step3
      refine ⟨rfl, ⟨i, v1, _, _, _, _, _, _, _, _, _, _, _, _, _, _, _, _, _, _, _, _, _, _, xs ++ [a1 / 256 ^ i % 256], rfl, by omega, ⟨by rw [← HX.out]; simp [octets_Put.bytes]⟩, ⟨?_⟩, HB1⟩, ?_⟩
      · have e1 : (2 : Int) ^ (8 * i) = 256 ^ i := by rw [Int.pow_mul]; rfl
        rw [← e1]
        exact Kd.R_of_own HR1.out (fun _ _ => trivial)
      · simp


/-! ### stamp_Put: function 22 -/
def stamp_Put.f (l0 : List Int) (a1 : Int) : Option (List Int) := (stamp_May.f a1).bind fun t144 => (if t144 = true then ((octets_Put.f l0 (wrap64 (Int.tdiv a1 1000000000)) 6).bind fun t145 => ((octets_Put.f t145 (Int.tmod a1 1000000000) 4).bind fun t148 => (some t148))) else ((octets_Put.f l0 ((0 : Int) / 1000000000) 6).bind fun t151 => ((octets_Put.f t151 ((0 : Int) % 1000000000) 4).bind fun t154 => (some t154))))
set_option maxHeartbeats 8000000 in
set_option maxRecDepth 100000 in
theorem stamp_Put.calls (A0 : Option Addr) (c0 : Nat) (l0 : List Int) (a1 : Int) (r : List Int) (w : World) (hr0 : Kd.C (Kd.int .u8) w A0 l0.length l0) (hc0 : l0.length ≤ c0) (h : stamp_Put.f l0 a1 = some r) :
    Calls Try.prog 22 #[.slice A0 l0.length c0, .int .i64 a1] w fun e w' => ∃ v0_ : Value, e = .returned (v0_) ∧ Kd.R (Kd.int .u8) 5 w' w.heap.size (fun _ => True) v0_ r ∧ Below w.heap.size w w' := by
  have HR0 := Aside0.mk hr0
  have HC0 := Aside0.mk hc0
  clear hr0 hc0
  have HB := Aside0.mk (Below.refl w.heap.size w)
  have H : ((stamp_May.f a1).bind fun t144 => (if t144 = true then ((octets_Put.f l0 (wrap64 (Int.tdiv a1 1000000000)) 6).bind fun t145 => ((octets_Put.f t145 (Int.tmod a1 1000000000) 4).bind fun t148 => (some t148))) else ((octets_Put.f l0 ((0 : Int) / 1000000000) 6).bind fun t151 => ((octets_Put.f t151 ((0 : Int) % 1000000000) 4).bind fun t154 => (some t154))))) = some r := h
  clear h
  replace H := Option.bind_eq_some_iff.mp H
  obtain ⟨t144, A30, H⟩ := H
  replace H : (if t144 = true then ((octets_Put.f l0 (wrap64 (Int.tdiv a1 1000000000)) 6).bind fun t145 => ((octets_Put.f t145 (Int.tmod a1 1000000000) 4).bind fun t148 => (some t148))) else ((octets_Put.f l0 ((0 : Int) / 1000000000) 6).bind fun t151 => ((octets_Put.f t151 ((0 : Int) % 1000000000) 4).bind fun t154 => (some t154)))) = some r := H
  have A3 := Aside0.mk A30
  clear A30
  by_cases c4 : t144 = true
  · subst c4
    have H1 : ((octets_Put.f l0 (wrap64 (Int.tdiv a1 1000000000)) 6).bind fun t145 => ((octets_Put.f t145 (Int.tmod a1 1000000000) 4).bind fun t148 => (some t148))) = some r := by rw [if_pos rfl] at H; exact H
    clear H
    have H := H1
    clear H1
    replace H := Option.bind_eq_some_iff.mp H
    obtain ⟨t145, A50, H⟩ := H
    replace H : ((octets_Put.f t145 (Int.tmod a1 1000000000) 4).bind fun t148 => (some t148)) = some r := H
    have A5 := Aside0.mk A50
    clear A50
    replace H := Option.bind_eq_some_iff.mp H
    obtain ⟨t148, A60, H⟩ := H
    replace H : (some t148) = some r := H
    have A6 := Aside0.mk A60
    clear A60
    obtain rfl := Option.some.inj H
    go_enter Try.func22, Try.ntmps22
    go_wp2_with (first | ((with_reducible refine gate_callee (f := 26) rfl ?_); refine goesL_ (some 6) rfl rfl Try.func26 (by kernel_rfl) rfl #[.int .i64 a1] rfl (by (try simp only [List.map_toArray, List.map_cons, List.map_nil]); first | done | rfl | (simp only [List.length_drop, List.length_take]; rfl)) ?_; (with_reducible refine (stamp_May.calls a1 true _ A3.out).mono ?_); rintro e w' ⟨rfl, ⟨nd, rfl⟩⟩; refine ⟨_, rfl, ?_⟩) | ((with_reducible refine gate_callee (f := 30) rfl ?_); refine goesL_ (some 11) rfl rfl Try.func30 (by kernel_rfl) rfl #[.slice A0 l0.length c0, .int .i64 (wrap64 (Int.tdiv a1 1000000000)), .int .i64 6] rfl (by (try simp only [List.map_toArray, List.map_cons, List.map_nil]); first | done | rfl | (simp only [List.length_drop, List.length_take]; rfl)) ?_; (with_reducible refine (octets_Put.calls _ _ l0 (wrap64 (Int.tdiv a1 1000000000)) 6 t145 _ ?side1 ?side2 A5.out).mono ?_); (case side1 => repeat (first | exact HR0.out | (with_reducible refine Kd.C_alloc ?_ _) | (with_reducible refine Kd.C_drewN ?_ _) | (with_reducible refine Kd.C_drew ?_))); (case side2 => exact HC0.out); rintro e w7 ⟨v146, rfl, ho0, hb⟩; refine ⟨_, rfl, ?_⟩; have n0_ := Aside0.mk (Kd.R_lower ho0 (below_size (by repeat (first | (with_reducible first | exact HB.out | apply below_alloc | apply pw_below_drewN | apply below_drew1) | exact HB.out)))); have n1_ := Aside0.mk (below_step (by repeat (first | (with_reducible first | exact HB.out | apply below_alloc | apply pw_below_drewN | apply below_drew1) | exact HB.out)) hb); clear HB; have HO147 := n0_; have HB := n1_; clear n0_ n1_; (try clear hb); (try clear hb2); (try clear hk); (try clear hi); (try clear ho0); obtain ⟨Ao8, co8, eo8⟩ := Kd.R_slice HO147.out; subst eo8) | ((with_reducible refine gate_callee (f := 30) rfl ?_); refine goesL_ (some 14) rfl rfl Try.func30 (by kernel_rfl) rfl #[.slice Ao8 t145.length co8, .int .i64 (Int.tmod a1 1000000000), .int .i64 4] rfl (by (try simp only [List.map_toArray, List.map_cons, List.map_nil]); first | done | rfl | (simp only [List.length_drop, List.length_take]; rfl)) ?_; (with_reducible refine (octets_Put.calls _ _ t145 (Int.tmod a1 1000000000) 4 t148 _ ?side1 ?side2 A6.out).mono ?_); (case side1 => repeat (first | exact (Kd.R_reads' HO147.out).2.2 | (with_reducible refine Kd.C_alloc ?_ _) | (with_reducible refine Kd.C_drewN ?_ _) | (with_reducible refine Kd.C_drew ?_))); (case side2 => exact (Kd.R_reads' HO147.out).2.1); rintro e w9 ⟨v149, rfl, ho0, hb⟩; refine ⟨_, rfl, ?_⟩; have n0_ := Aside0.mk (Kd.R_elder' (by (with_reducible repeat (first | apply Kd.R_alloc | apply Kd.R_drewN | apply Kd.R_drew)); exact HO147.out) (Kd.R_base ho0) hb); have n1_ := Aside0.mk (Kd.R_lower (Kd.R_new' ho0 (Kd.R_lt (by (with_reducible repeat (first | apply Kd.R_alloc | apply Kd.R_drewN | apply Kd.R_drew)); exact HO147.out))) (below_size (by repeat (first | (with_reducible first | exact HB.out | apply below_alloc | apply pw_below_drewN | apply below_drew1) | exact HB.out)))); have n2_ := Aside0.mk (below_step (by repeat (first | (with_reducible first | exact HB.out | apply below_alloc | apply pw_below_drewN | apply below_drew1) | exact HB.out)) hb); clear HO147; clear HB; have HO147 := n0_; have HO150 := n1_; have HB := n2_; clear n0_ n1_ n2_; (try clear hb); (try clear hb2); (try clear hk); (try clear hi); (try clear ho0)))
    all_goals
      go_ret
      exact ⟨_, by first | rfl | (simp [errW_none, errW_some] <;> rfl) | (simp [*, errW_none, errW_some] <;> rfl), by (with_reducible repeat (first | apply Kd.R_alloc | apply Kd.R_drewN | apply Kd.R_drew)); exact Kd.R_mono HO150.out (fun _ hk => trivial), by repeat (first | (with_reducible first | exact HB.out | apply below_alloc | apply pw_below_drewN | apply below_drew1) | exact HB.out)⟩
  · replace c4 := Bool.eq_false_iff.mpr c4
    subst c4
    have H1 : ((octets_Put.f l0 ((0 : Int) / 1000000000) 6).bind fun t151 => ((octets_Put.f t151 ((0 : Int) % 1000000000) 4).bind fun t154 => (some t154))) = some r := by rw [if_neg (show ¬ (false = true) by decide)] at H; exact H
    clear H
    have H := H1
    clear H1
    replace H := Option.bind_eq_some_iff.mp H
    obtain ⟨t151, A100, H⟩ := H
    replace H : ((octets_Put.f t151 ((0 : Int) % 1000000000) 4).bind fun t154 => (some t154)) = some r := H
    have A10 := Aside0.mk A100
    clear A100
    replace H := Option.bind_eq_some_iff.mp H
    obtain ⟨t154, A110, H⟩ := H
    replace H : (some t154) = some r := H
    have A11 := Aside0.mk A110
    clear A110
    obtain rfl := Option.some.inj H
    go_enter Try.func22, Try.ntmps22
    go_wp2_with (first | ((with_reducible refine gate_callee (f := 26) rfl ?_); refine goesL_ (some 6) rfl rfl Try.func26 (by kernel_rfl) rfl #[.int .i64 a1] rfl (by (try simp only [List.map_toArray, List.map_cons, List.map_nil]); first | done | rfl | (simp only [List.length_drop, List.length_take]; rfl)) ?_; (with_reducible refine (stamp_May.calls a1 false _ A3.out).mono ?_); rintro e w' ⟨rfl, ⟨nd, rfl⟩⟩; refine ⟨_, rfl, ?_⟩) | ((with_reducible refine gate_callee (f := 30) rfl ?_); refine goesL_ (some 11) rfl rfl Try.func30 (by kernel_rfl) rfl #[.slice A0 l0.length c0, .int .i64 ((0 : Int) / 1000000000), .int .i64 6] rfl (by (try simp only [List.map_toArray, List.map_cons, List.map_nil]); first | done | rfl | (simp only [List.length_drop, List.length_take]; rfl)) ?_; (with_reducible refine (octets_Put.calls _ _ l0 ((0 : Int) / 1000000000) 6 t151 _ ?side1 ?side2 A10.out).mono ?_); (case side1 => repeat (first | exact HR0.out | (with_reducible refine Kd.C_alloc ?_ _) | (with_reducible refine Kd.C_drewN ?_ _) | (with_reducible refine Kd.C_drew ?_))); (case side2 => exact HC0.out); rintro e w12 ⟨v152, rfl, ho0, hb⟩; refine ⟨_, rfl, ?_⟩; have n0_ := Aside0.mk (Kd.R_lower ho0 (below_size (by repeat (first | (with_reducible first | exact HB.out | apply below_alloc | apply pw_below_drewN | apply below_drew1) | exact HB.out)))); have n1_ := Aside0.mk (below_step (by repeat (first | (with_reducible first | exact HB.out | apply below_alloc | apply pw_below_drewN | apply below_drew1) | exact HB.out)) hb); clear HB; have HO153 := n0_; have HB := n1_; clear n0_ n1_; (try clear hb); (try clear hb2); (try clear hk); (try clear hi); (try clear ho0); obtain ⟨Ao13, co13, eo13⟩ := Kd.R_slice HO153.out; subst eo13) | ((with_reducible refine gate_callee (f := 30) rfl ?_); refine goesL_ (some 14) rfl rfl Try.func30 (by kernel_rfl) rfl #[.slice Ao13 t151.length co13, .int .i64 ((0 : Int) % 1000000000), .int .i64 4] rfl (by (try simp only [List.map_toArray, List.map_cons, List.map_nil]); first | done | rfl | (simp only [List.length_drop, List.length_take]; rfl)) ?_; (with_reducible refine (octets_Put.calls _ _ t151 ((0 : Int) % 1000000000) 4 t154 _ ?side1 ?side2 A11.out).mono ?_); (case side1 => repeat (first | exact (Kd.R_reads' HO153.out).2.2 | (with_reducible refine Kd.C_alloc ?_ _) | (with_reducible refine Kd.C_drewN ?_ _) | (with_reducible refine Kd.C_drew ?_))); (case side2 => exact (Kd.R_reads' HO153.out).2.1); rintro e w14 ⟨v155, rfl, ho0, hb⟩; refine ⟨_, rfl, ?_⟩; have n0_ := Aside0.mk (Kd.R_elder' (by (with_reducible repeat (first | apply Kd.R_alloc | apply Kd.R_drewN | apply Kd.R_drew)); exact HO153.out) (Kd.R_base ho0) hb); have n1_ := Aside0.mk (Kd.R_lower (Kd.R_new' ho0 (Kd.R_lt (by (with_reducible repeat (first | apply Kd.R_alloc | apply Kd.R_drewN | apply Kd.R_drew)); exact HO153.out))) (below_size (by repeat (first | (with_reducible first | exact HB.out | apply below_alloc | apply pw_below_drewN | apply below_drew1) | exact HB.out)))); have n2_ := Aside0.mk (below_step (by repeat (first | (with_reducible first | exact HB.out | apply below_alloc | apply pw_below_drewN | apply below_drew1) | exact HB.out)) hb); clear HO153; clear HB; have HO153 := n0_; have HO156 := n1_; have HB := n2_; clear n0_ n1_ n2_; (try clear hb); (try clear hb2); (try clear hk); (try clear hi); (try clear ho0)))
    all_goals
      go_ret
      exact ⟨_, by first | rfl | (simp [errW_none, errW_some] <;> rfl) | (simp [*, errW_none, errW_some] <;> rfl), by (with_reducible repeat (first | apply Kd.R_alloc | apply Kd.R_drewN | apply Kd.R_drew)); exact Kd.R_mono HO156.out (fun _ hk => trivial), by repeat (first | (with_reducible first | exact HB.out | apply below_alloc | apply pw_below_drewN | apply below_drew1) | exact HB.out)⟩

end Go.Proofs.Yteahnnhekfkabaa.P
