/- Functions and loops of the given program as Lean functions, and that the code comes to what they say: written by this session's own program; Lean checks it. -/
import Derived.Test.YteahnnhekfkabaaPx0
namespace Go.Proofs.Yteahnnhekfkabaa.P
open Go.RowKit Go.Proofs.YteahnnhekfkabaaW.PrintWords Go.Proofs.YteahnnhekfkabaaW.PrintLast Go.Proofs.YteahnnhekfkabaaW.PrintMore
attribute [local go_sem] max2_int min2_int max_two min_two max_three min_three max_four min_four   -- for this text's walks alone
set_option linter.unusedVariables false
set_option linter.unusedSimpArgs false

/-! ### stamp_Floor: function 12 -/
def stamp_Floor.f (a0 : Int) : Option (Int) := some (a0 / 65536)
set_option maxHeartbeats 8000000 in
set_option maxRecDepth 100000 in
theorem stamp_Floor.calls (a0 : Int) (r : Int) (w : World) (h : stamp_Floor.f a0 = some r) :
    Calls Try.prog 12 #[.int .i64 a0] w fun e w' => e = .returned (.int .i64 r) ∧ Drawn0 w w' := by
  have H : (some (a0 / 65536)) = some r := h
  clear h
  obtain rfl := Option.some.inj H
  go_enter Try.func12, Try.ntmps12
  go_wp2
  all_goals
    go_ret
    exact ⟨by first | rfl | (simp; done) | (simp [*]; done), by repeat (first | exact Drawn0.refl _ | apply Drawn0.step)⟩

/-! ### stamp_shifted: function 28 -/
def stamp_shifted.f (a0 : Int) (a1 : Int) : Option (Int) := if (mx (-3) (mn a1 4)) = (-3) then (some (wrap64 (Int.tdiv (wrap64 (Int.tdiv (wrap64 (Int.tdiv a0 2)) 2)) 2))) else (if (mx (-3) (mn a1 4)) = (-2) then (some (wrap64 (Int.tdiv (wrap64 (Int.tdiv a0 2)) 2))) else (if (mx (-3) (mn a1 4)) = (-1) then (some (wrap64 (Int.tdiv a0 2))) else (if 0 ≤ (mx (-3) (mn a1 4)) then (some (wrap64 (a0 * 2 ^ (mx (-3) (mn a1 4)).toNat))) else (none))))
set_option maxHeartbeats 8000000 in
set_option maxRecDepth 100000 in
theorem stamp_shifted.calls (a0 : Int) (a1 : Int) (r : Int) (w : World) (h : stamp_shifted.f a0 a1 = some r) :
    Calls Try.prog 28 #[.int .i64 a0, .int .i64 a1] w fun e w' => e = .returned (.int .i64 r) ∧ Below w.heap.size w w' := by
  have HB := Aside0.mk (Below.refl w.heap.size w)
  have H : (if (mx (-3) (mn a1 4)) = (-3) then (some (wrap64 (Int.tdiv (wrap64 (Int.tdiv (wrap64 (Int.tdiv a0 2)) 2)) 2))) else (if (mx (-3) (mn a1 4)) = (-2) then (some (wrap64 (Int.tdiv (wrap64 (Int.tdiv a0 2)) 2))) else (if (mx (-3) (mn a1 4)) = (-1) then (some (wrap64 (Int.tdiv a0 2))) else (if 0 ≤ (mx (-3) (mn a1 4)) then (some (wrap64 (a0 * 2 ^ (mx (-3) (mn a1 4)).toNat))) else (none))))) = some r := h
  clear h
  obtain ⟨ji3, hji3⟩ : ∃ j_ : Int, (mn a1 4) = j_ := ⟨_, rfl⟩
  replace H : (if (mx (-3) (ji3)) = (-3) then (some (wrap64 (Int.tdiv (wrap64 (Int.tdiv (wrap64 (Int.tdiv a0 2)) 2)) 2))) else (if (mx (-3) (ji3)) = (-2) then (some (wrap64 (Int.tdiv (wrap64 (Int.tdiv a0 2)) 2))) else (if (mx (-3) (ji3)) = (-1) then (some (wrap64 (Int.tdiv a0 2))) else (if 0 ≤ (mx (-3) (ji3)) then (some (wrap64 (a0 * 2 ^ (mx (-3) (ji3)).toNat))) else (none))))) = some r := by first | (rw [hji3] at H; exact H) | (simp only [hji3] at H ⊢; exact H)
  (try (have hji3h : ji3 ≤ 4 := by (rw [← hji3]; unfold mn; (repeat' split) <;> omega)))
  (try (have hji3g : ji3 ≤ 64 := by omega))
  have hji3_ : (if 4 < a1 then 4 else a1) = ji3 := hji3
  obtain ⟨ji4, hji4⟩ : ∃ j_ : Int, (mx (-3) (ji3)) = j_ := ⟨_, rfl⟩
  replace H : (if (ji4) = (-3) then (some (wrap64 (Int.tdiv (wrap64 (Int.tdiv (wrap64 (Int.tdiv a0 2)) 2)) 2))) else (if (ji4) = (-2) then (some (wrap64 (Int.tdiv (wrap64 (Int.tdiv a0 2)) 2))) else (if (ji4) = (-1) then (some (wrap64 (Int.tdiv a0 2))) else (if 0 ≤ (ji4) then (some (wrap64 (a0 * 2 ^ (ji4).toNat))) else (none))))) = some r := by first | (rw [hji4] at H; exact H) | (simp only [hji4] at H ⊢; exact H)
  have hji4_ : (if (-3) < (ji3) then (ji3) else (-3)) = ji4 := hji4
  by_cases c5 : (ji4) = (-3)
  · rw [if_pos c5] at H
    have c5b0 : ((ji4) == (-3)) = true := beq_iff_eq.mpr c5
    have c5b1 : ((ji4) != (-3)) = false := bne_eq_false_iff_eq.mpr c5
    clear c5
    obtain rfl := Option.some.inj H
    go_enter Try.func28, Try.ntmps28
    go_wp2
    all_goals
      go_ret
      exact ⟨by first | rfl | (simp [errW_none, errW_some] <;> rfl) | (simp only [← hji3, ← hji4]; first | rfl | (simp [errW_none, errW_some] <;> rfl)) | (simp [*, errW_none, errW_some] <;> rfl) | (have h8_ := of_eq_true c8b0; exact congrArg (fun n : Nat => Ending.returned (.int .i64 (wrap64 (a0 * 2 ^ n)))) (by split at hji4_ <;> omega)), by repeat (first | (with_reducible first | exact HB.out | apply below_alloc | apply pw_below_drewN | apply below_drew1) | exact HB.out)⟩
  · rw [if_neg c5] at H
    have c5b0 : ((ji4) == (-3)) = false := beq_eq_false_iff_ne.mpr c5
    have c5b1 : ((ji4) != (-3)) = true := bne_iff_ne.mpr c5
    by_cases c6 : (ji4) = (-2)
    · rw [if_pos c6] at H
      have c6b0 : ((ji4) == (-2)) = true := beq_iff_eq.mpr c6
      have c6b1 : ((ji4) != (-2)) = false := bne_eq_false_iff_eq.mpr c6
      clear c6
      obtain rfl := Option.some.inj H
      go_enter Try.func28, Try.ntmps28
      go_wp2
      all_goals
        go_ret
        exact ⟨by first | rfl | (simp [errW_none, errW_some] <;> rfl) | (simp only [← hji3, ← hji4]; first | rfl | (simp [errW_none, errW_some] <;> rfl)) | (simp [*, errW_none, errW_some] <;> rfl) | (have h8_ := of_eq_true c8b0; exact congrArg (fun n : Nat => Ending.returned (.int .i64 (wrap64 (a0 * 2 ^ n)))) (by split at hji4_ <;> omega)), by repeat (first | (with_reducible first | exact HB.out | apply below_alloc | apply pw_below_drewN | apply below_drew1) | exact HB.out)⟩
    · rw [if_neg c6] at H
      have c6b0 : ((ji4) == (-2)) = false := beq_eq_false_iff_ne.mpr c6
      have c6b1 : ((ji4) != (-2)) = true := bne_iff_ne.mpr c6
      by_cases c7 : (ji4) = (-1)
      · rw [if_pos c7] at H
        have c7b0 : ((ji4) == (-1)) = true := beq_iff_eq.mpr c7
        have c7b1 : ((ji4) != (-1)) = false := bne_eq_false_iff_eq.mpr c7
        clear c7
        obtain rfl := Option.some.inj H
        go_enter Try.func28, Try.ntmps28
        go_wp2
        all_goals
          go_ret
          exact ⟨by first | rfl | (simp [errW_none, errW_some] <;> rfl) | (simp only [← hji3, ← hji4]; first | rfl | (simp [errW_none, errW_some] <;> rfl)) | (simp [*, errW_none, errW_some] <;> rfl) | (have h8_ := of_eq_true c8b0; exact congrArg (fun n : Nat => Ending.returned (.int .i64 (wrap64 (a0 * 2 ^ n)))) (by split at hji4_ <;> omega)), by repeat (first | (with_reducible first | exact HB.out | apply below_alloc | apply pw_below_drewN | apply below_drew1) | exact HB.out)⟩
      · rw [if_neg c7] at H
        have c7b0 : ((ji4) == (-1)) = false := beq_eq_false_iff_ne.mpr c7
        have c7b1 : ((ji4) != (-1)) = true := bne_iff_ne.mpr c7
        by_cases c8 : 0 ≤ (ji4)
        · rw [if_pos c8] at H
          have c8b0 := eq_true c8
          have c8b1 : decide (0 ≤ (ji4)) = true := decide_eq_true c8
          clear c8
          obtain rfl := Option.some.inj H
          go_enter Try.func28, Try.ntmps28
          go_wp2
          all_goals
            go_ret
            exact ⟨by first | rfl | (simp [errW_none, errW_some] <;> rfl) | (simp only [← hji3, ← hji4]; first | rfl | (simp [errW_none, errW_some] <;> rfl)) | (simp [*, errW_none, errW_some] <;> rfl) | (have h8_ := of_eq_true c8b0; exact congrArg (fun n : Nat => Ending.returned (.int .i64 (wrap64 (a0 * 2 ^ n)))) (by split at hji4_ <;> omega)), by repeat (first | (with_reducible first | exact HB.out | apply below_alloc | apply pw_below_drewN | apply below_drew1) | exact HB.out)⟩
        · rw [if_neg c8] at H
          exact absurd H (by simp)

/-! ### stamp_Ticks: function 15 -/
def stamp_Ticks.f (a0 : Int) : Option (Int) := (stamp_shifted.f 8 a0).bind fun t101 => (some t101)
set_option maxHeartbeats 8000000 in
set_option maxRecDepth 100000 in
theorem stamp_Ticks.calls (a0 : Int) (r : Int) (w : World) (h : stamp_Ticks.f a0 = some r) :
    Calls Try.prog 15 #[.int .i64 a0] w fun e w' => e = .returned (.int .i64 r) ∧ Below w.heap.size w w' := by
  have HB := Aside0.mk (Below.refl w.heap.size w)
  have H : ((stamp_shifted.f 8 a0).bind fun t101 => (some t101)) = some r := h
  clear h
  replace H := Option.bind_eq_some_iff.mp H
  obtain ⟨t101, A20, H⟩ := H
  replace H : (some t101) = some r := H
  have A2 := Aside0.mk A20
  clear A20
  obtain rfl := Option.some.inj H
  go_enter Try.func15, Try.ntmps15
  go_wp2_with (first | ((with_reducible refine gate_callee (f := 28) rfl ?_); refine goesL_ (some 4) rfl rfl Try.func28 (by kernel_rfl) rfl #[.int .i64 8, .int .i64 a0] rfl (by (try simp only [List.map_toArray, List.map_cons, List.map_nil]); first | done | rfl | (simp only [List.length_drop, List.length_take]; rfl)) ?_; (with_reducible refine (stamp_shifted.calls 8 a0 t101 _ A2.out).mono ?_); rintro e w3 ⟨rfl, hb⟩; refine ⟨_, rfl, ?_⟩; have n0_ := Aside0.mk (below_step (by repeat (first | (with_reducible first | exact HB.out | apply below_alloc | apply pw_below_drewN | apply below_drew1) | exact HB.out)) hb); clear HB; have HB := n0_; clear n0_; (try clear hb); (try clear hb2); (try clear hk); (try clear hi)))
  all_goals
    go_ret
    exact ⟨by first | rfl | (simp [errW_none, errW_some] <;> rfl) | (simp [*, errW_none, errW_some] <;> rfl), by repeat (first | (with_reducible first | exact HB.out | apply below_alloc | apply pw_below_drewN | apply below_drew1) | exact HB.out)⟩

/-! ### stamp_Nanos: function 16 -/
def stamp_Nanos.f (a0 : Int) : Option (Int) := (stamp_shifted.f 1000000000 a0).bind fun t102 => (some t102)
set_option maxHeartbeats 8000000 in
set_option maxRecDepth 100000 in
theorem stamp_Nanos.calls (a0 : Int) (r : Int) (w : World) (h : stamp_Nanos.f a0 = some r) :
    Calls Try.prog 16 #[.int .i64 a0] w fun e w' => e = .returned (.int .i64 r) ∧ Below w.heap.size w w' := by
  have HB := Aside0.mk (Below.refl w.heap.size w)
  have H : ((stamp_shifted.f 1000000000 a0).bind fun t102 => (some t102)) = some r := h
  clear h
  replace H := Option.bind_eq_some_iff.mp H
  obtain ⟨t102, A20, H⟩ := H
  replace H : (some t102) = some r := H
  have A2 := Aside0.mk A20
  clear A20
  obtain rfl := Option.some.inj H
  go_enter Try.func16, Try.ntmps16
  go_wp2_with (first | ((with_reducible refine gate_callee (f := 28) rfl ?_); refine goesL_ (some 4) rfl rfl Try.func28 (by kernel_rfl) rfl #[.int .i64 1000000000, .int .i64 a0] rfl (by (try simp only [List.map_toArray, List.map_cons, List.map_nil]); first | done | rfl | (simp only [List.length_drop, List.length_take]; rfl)) ?_; (with_reducible refine (stamp_shifted.calls 1000000000 a0 t102 _ A2.out).mono ?_); rintro e w3 ⟨rfl, hb⟩; refine ⟨_, rfl, ?_⟩; have n0_ := Aside0.mk (below_step (by repeat (first | (with_reducible first | exact HB.out | apply below_alloc | apply pw_below_drewN | apply below_drew1) | exact HB.out)) hb); clear HB; have HB := n0_; clear n0_; (try clear hb); (try clear hb2); (try clear hk); (try clear hi)))
  all_goals
    go_ret
    exact ⟨by first | rfl | (simp [errW_none, errW_some] <;> rfl) | (simp [*, errW_none, errW_some] <;> rfl), by repeat (first | (with_reducible first | exact HB.out | apply below_alloc | apply pw_below_drewN | apply below_drew1) | exact HB.out)⟩

/-! ### stamp_May: function 26 -/
def stamp_May.f (a0 : Int) : Option (Bool) := if a0 ≥ 0 then (some (decide (a0 ≤ 4000000000000000))) else (some false)
set_option maxHeartbeats 8000000 in
set_option maxRecDepth 100000 in
theorem stamp_May.calls (a0 : Int) (r : Bool) (w : World) (h : stamp_May.f a0 = some r) :
    Calls Try.prog 26 #[.int .i64 a0] w fun e w' => e = .returned (.bool r) ∧ Drawn0 w w' := by
  have H : (if a0 ≥ 0 then (some (decide (a0 ≤ 4000000000000000))) else (some false)) = some r := h
  clear h
  by_cases c2 : a0 ≥ 0
  · rw [if_pos c2] at H
    have c2b0 : decide (0 ≤ a0) = true := decide_eq_true c2
    clear c2
    obtain rfl := Option.some.inj H
    go_enter Try.func26, Try.ntmps26
    go_wp2
    all_goals
      go_ret
      exact ⟨by first | rfl | (simp; done) | (simp [*]; done), by repeat (first | exact Drawn0.refl _ | apply Drawn0.step)⟩
  · rw [if_neg c2] at H
    have c2b0 : decide (0 ≤ a0) = false := decide_eq_false c2
    clear c2
    obtain rfl := Option.some.inj H
    go_enter Try.func26, Try.ntmps26
    go_wp2
    all_goals
      go_ret
      exact ⟨by first | rfl | (simp; done) | (simp [*]; done), by repeat (first | exact Drawn0.refl _ | apply Drawn0.step)⟩

/-! ### carillonlaw02_awake: function 13 -/
def carillonlaw02_awake.f  : Option (Bool) := (stamp_Ticks.f (-3)).bind fun t103 => (if t103 = 1 then ((stamp_Nanos.f 1).bind fun t104 => (if t104 = 2000000000 then ((stamp_Floor.f (-1)).bind fun t105 => (if t105 = (-1) then ((stamp_May.f 0).bind fun t106 => (if t106 = true then ((stamp_May.f (-1)).bind fun t107 => (some (!t107))) else (some false))) else (some false))) else (some false))) else (some false))
set_option maxHeartbeats 8000000 in
set_option maxRecDepth 100000 in
theorem carillonlaw02_awake.calls  (r : Bool) (w : World) (h : carillonlaw02_awake.f  = some r) :
    Calls Try.prog 13 #[] w fun e w' => e = .returned (.bool r) ∧ Below w.heap.size w w' := by
  have HB := Aside0.mk (Below.refl w.heap.size w)
  have H : ((stamp_Ticks.f (-3)).bind fun t103 => (if t103 = 1 then ((stamp_Nanos.f 1).bind fun t104 => (if t104 = 2000000000 then ((stamp_Floor.f (-1)).bind fun t105 => (if t105 = (-1) then ((stamp_May.f 0).bind fun t106 => (if t106 = true then ((stamp_May.f (-1)).bind fun t107 => (some (!t107))) else (some false))) else (some false))) else (some false))) else (some false))) = some r := h
  clear h
  replace H := Option.bind_eq_some_iff.mp H
  obtain ⟨t103, A10, H⟩ := H
  replace H : (if t103 = 1 then ((stamp_Nanos.f 1).bind fun t104 => (if t104 = 2000000000 then ((stamp_Floor.f (-1)).bind fun t105 => (if t105 = (-1) then ((stamp_May.f 0).bind fun t106 => (if t106 = true then ((stamp_May.f (-1)).bind fun t107 => (some (!t107))) else (some false))) else (some false))) else (some false))) else (some false)) = some r := H
  have A1 := Aside0.mk A10
  clear A10
  by_cases c2 : t103 = 1
  · rw [if_pos c2] at H
    have c2b0 : (t103 == 1) = true := beq_iff_eq.mpr c2
    have c2b1 : (t103 != 1) = false := bne_eq_false_iff_eq.mpr c2
    clear c2
    replace H := Option.bind_eq_some_iff.mp H
    obtain ⟨t104, A30, H⟩ := H
    replace H : (if t104 = 2000000000 then ((stamp_Floor.f (-1)).bind fun t105 => (if t105 = (-1) then ((stamp_May.f 0).bind fun t106 => (if t106 = true then ((stamp_May.f (-1)).bind fun t107 => (some (!t107))) else (some false))) else (some false))) else (some false)) = some r := H
    have A3 := Aside0.mk A30
    clear A30
    by_cases c4 : t104 = 2000000000
    · rw [if_pos c4] at H
      have c4b0 : (t104 == 2000000000) = true := beq_iff_eq.mpr c4
      have c4b1 : (t104 != 2000000000) = false := bne_eq_false_iff_eq.mpr c4
      clear c4
      replace H := Option.bind_eq_some_iff.mp H
      obtain ⟨t105, A50, H⟩ := H
      replace H : (if t105 = (-1) then ((stamp_May.f 0).bind fun t106 => (if t106 = true then ((stamp_May.f (-1)).bind fun t107 => (some (!t107))) else (some false))) else (some false)) = some r := H
      have A5 := Aside0.mk A50
      clear A50
      by_cases c6 : t105 = (-1)
      · rw [if_pos c6] at H
        have c6b0 : (t105 == (-1)) = true := beq_iff_eq.mpr c6
        have c6b1 : (t105 != (-1)) = false := bne_eq_false_iff_eq.mpr c6
        clear c6
        replace H := Option.bind_eq_some_iff.mp H
        obtain ⟨t106, A70, H⟩ := H
        replace H : (if t106 = true then ((stamp_May.f (-1)).bind fun t107 => (some (!t107))) else (some false)) = some r := H
        have A7 := Aside0.mk A70
        clear A70
        by_cases c8 : t106 = true
        · subst c8
          have H1 : ((stamp_May.f (-1)).bind fun t107 => (some (!t107))) = some r := by rw [if_pos rfl] at H; exact H
          clear H
          have H := H1
          clear H1
          replace H := Option.bind_eq_some_iff.mp H
          obtain ⟨t107, A90, H⟩ := H
          replace H : (some (!t107)) = some r := H
          have A9 := Aside0.mk A90
          clear A90
          obtain rfl := Option.some.inj H
          go_enter Try.func13, Try.ntmps13
          go_wp2_with (first | ((with_reducible refine gate_callee (f := 15) rfl ?_); refine goesL_ (some 1) rfl rfl Try.func15 (by kernel_rfl) rfl #[.int .i64 (-3)] rfl (by (try simp only [List.map_toArray, List.map_cons, List.map_nil]); first | done | rfl | (simp only [List.length_drop, List.length_take]; rfl)) ?_; (with_reducible refine (stamp_Ticks.calls (-3) t103 _ A1.out).mono ?_); rintro e w10 ⟨rfl, hb⟩; refine ⟨_, rfl, ?_⟩; have n0_ := Aside0.mk (below_step (by repeat (first | (with_reducible first | exact HB.out | apply below_alloc | apply pw_below_drewN | apply below_drew1) | exact HB.out)) hb); clear HB; have HB := n0_; clear n0_; (try clear hb); (try clear hb2); (try clear hk); (try clear hi)) | (go_at_call 16; (with_reducible refine (stamp_Nanos.calls 1 t104 _ A3.out).mono ?_); rintro e w11 ⟨rfl, hb⟩; have n0_ := Aside0.mk (below_step (by repeat (first | (with_reducible first | exact HB.out | apply below_alloc | apply pw_below_drewN | apply below_drew1) | exact HB.out)) hb); clear HB; have HB := n0_; clear n0_; (try clear hb); (try clear hb2); (try clear hk); (try clear hi)) | (go_at_call 12; (with_reducible refine (stamp_Floor.calls (-1) t105 _ A5.out).mono ?_); rintro e w' ⟨rfl, ⟨nd, rfl⟩⟩) | (go_at_call 26; (with_reducible refine (stamp_May.calls 0 true _ A7.out).mono ?_); rintro e w' ⟨rfl, ⟨nd, rfl⟩⟩) | (go_at_call 26; (with_reducible refine (stamp_May.calls (-1) t107 _ A9.out).mono ?_); rintro e w' ⟨rfl, ⟨nd, rfl⟩⟩))
          all_goals
            go_ret
            exact ⟨by first | rfl | (simp [errW_none, errW_some] <;> rfl) | (simp [*, errW_none, errW_some] <;> rfl), by repeat (first | (with_reducible first | exact HB.out | apply below_alloc | apply pw_below_drewN | apply below_drew1) | exact HB.out)⟩
        · replace c8 := Bool.eq_false_iff.mpr c8
          subst c8
          have H1 : (some false) = some r := by rw [if_neg (show ¬ (false = true) by decide)] at H; exact H
          clear H
          have H := H1
          clear H1
          obtain rfl := Option.some.inj H
          go_enter Try.func13, Try.ntmps13
          go_wp2_with (first | ((with_reducible refine gate_callee (f := 15) rfl ?_); refine goesL_ (some 1) rfl rfl Try.func15 (by kernel_rfl) rfl #[.int .i64 (-3)] rfl (by (try simp only [List.map_toArray, List.map_cons, List.map_nil]); first | done | rfl | (simp only [List.length_drop, List.length_take]; rfl)) ?_; (with_reducible refine (stamp_Ticks.calls (-3) t103 _ A1.out).mono ?_); rintro e w12 ⟨rfl, hb⟩; refine ⟨_, rfl, ?_⟩; have n0_ := Aside0.mk (below_step (by repeat (first | (with_reducible first | exact HB.out | apply below_alloc | apply pw_below_drewN | apply below_drew1) | exact HB.out)) hb); clear HB; have HB := n0_; clear n0_; (try clear hb); (try clear hb2); (try clear hk); (try clear hi)) | (go_at_call 16; (with_reducible refine (stamp_Nanos.calls 1 t104 _ A3.out).mono ?_); rintro e w13 ⟨rfl, hb⟩; have n0_ := Aside0.mk (below_step (by repeat (first | (with_reducible first | exact HB.out | apply below_alloc | apply pw_below_drewN | apply below_drew1) | exact HB.out)) hb); clear HB; have HB := n0_; clear n0_; (try clear hb); (try clear hb2); (try clear hk); (try clear hi)) | (go_at_call 12; (with_reducible refine (stamp_Floor.calls (-1) t105 _ A5.out).mono ?_); rintro e w' ⟨rfl, ⟨nd, rfl⟩⟩) | (go_at_call 26; (with_reducible refine (stamp_May.calls 0 false _ A7.out).mono ?_); rintro e w' ⟨rfl, ⟨nd, rfl⟩⟩))
          all_goals
            go_ret
            exact ⟨by first | rfl | (simp [errW_none, errW_some] <;> rfl) | (simp [*, errW_none, errW_some] <;> rfl), by repeat (first | (with_reducible first | exact HB.out | apply below_alloc | apply pw_below_drewN | apply below_drew1) | exact HB.out)⟩
      · rw [if_neg c6] at H
        have c6b0 : (t105 == (-1)) = false := beq_eq_false_iff_ne.mpr c6
        have c6b1 : (t105 != (-1)) = true := bne_iff_ne.mpr c6
        obtain rfl := Option.some.inj H
        go_enter Try.func13, Try.ntmps13
        go_wp2_with (first | ((with_reducible refine gate_callee (f := 15) rfl ?_); refine goesL_ (some 1) rfl rfl Try.func15 (by kernel_rfl) rfl #[.int .i64 (-3)] rfl (by (try simp only [List.map_toArray, List.map_cons, List.map_nil]); first | done | rfl | (simp only [List.length_drop, List.length_take]; rfl)) ?_; (with_reducible refine (stamp_Ticks.calls (-3) t103 _ A1.out).mono ?_); rintro e w14 ⟨rfl, hb⟩; refine ⟨_, rfl, ?_⟩; have n0_ := Aside0.mk (below_step (by repeat (first | (with_reducible first | exact HB.out | apply below_alloc | apply pw_below_drewN | apply below_drew1) | exact HB.out)) hb); clear HB; have HB := n0_; clear n0_; (try clear hb); (try clear hb2); (try clear hk); (try clear hi)) | (go_at_call 16; (with_reducible refine (stamp_Nanos.calls 1 t104 _ A3.out).mono ?_); rintro e w15 ⟨rfl, hb⟩; have n0_ := Aside0.mk (below_step (by repeat (first | (with_reducible first | exact HB.out | apply below_alloc | apply pw_below_drewN | apply below_drew1) | exact HB.out)) hb); clear HB; have HB := n0_; clear n0_; (try clear hb); (try clear hb2); (try clear hk); (try clear hi)) | (go_at_call 12; (with_reducible refine (stamp_Floor.calls (-1) t105 _ A5.out).mono ?_); rintro e w' ⟨rfl, ⟨nd, rfl⟩⟩))
        all_goals
          go_ret
          exact ⟨by first | rfl | (simp [errW_none, errW_some] <;> rfl) | (simp [*, errW_none, errW_some] <;> rfl), by repeat (first | (with_reducible first | exact HB.out | apply below_alloc | apply pw_below_drewN | apply below_drew1) | exact HB.out)⟩
    · rw [if_neg c4] at H
      have c4b0 : (t104 == 2000000000) = false := beq_eq_false_iff_ne.mpr c4
      have c4b1 : (t104 != 2000000000) = true := bne_iff_ne.mpr c4
      obtain rfl := Option.some.inj H
      go_enter Try.func13, Try.ntmps13
      go_wp2_with (first | ((with_reducible refine gate_callee (f := 15) rfl ?_); refine goesL_ (some 1) rfl rfl Try.func15 (by kernel_rfl) rfl #[.int .i64 (-3)] rfl (by (try simp only [List.map_toArray, List.map_cons, List.map_nil]); first | done | rfl | (simp only [List.length_drop, List.length_take]; rfl)) ?_; (with_reducible refine (stamp_Ticks.calls (-3) t103 _ A1.out).mono ?_); rintro e w16 ⟨rfl, hb⟩; refine ⟨_, rfl, ?_⟩; have n0_ := Aside0.mk (below_step (by repeat (first | (with_reducible first | exact HB.out | apply below_alloc | apply pw_below_drewN | apply below_drew1) | exact HB.out)) hb); clear HB; have HB := n0_; clear n0_; (try clear hb); (try clear hb2); (try clear hk); (try clear hi)) | (go_at_call 16; (with_reducible refine (stamp_Nanos.calls 1 t104 _ A3.out).mono ?_); rintro e w17 ⟨rfl, hb⟩; have n0_ := Aside0.mk (below_step (by repeat (first | (with_reducible first | exact HB.out | apply below_alloc | apply pw_below_drewN | apply below_drew1) | exact HB.out)) hb); clear HB; have HB := n0_; clear n0_; (try clear hb); (try clear hb2); (try clear hk); (try clear hi)))
      all_goals
        go_ret
        exact ⟨by first | rfl | (simp [errW_none, errW_some] <;> rfl) | (simp [*, errW_none, errW_some] <;> rfl), by repeat (first | (with_reducible first | exact HB.out | apply below_alloc | apply pw_below_drewN | apply below_drew1) | exact HB.out)⟩
  · rw [if_neg c2] at H
    have c2b0 : (t103 == 1) = false := beq_eq_false_iff_ne.mpr c2
    have c2b1 : (t103 != 1) = true := bne_iff_ne.mpr c2
    obtain rfl := Option.some.inj H
    go_enter Try.func13, Try.ntmps13
    go_wp2_with (first | ((with_reducible refine gate_callee (f := 15) rfl ?_); refine goesL_ (some 1) rfl rfl Try.func15 (by kernel_rfl) rfl #[.int .i64 (-3)] rfl (by (try simp only [List.map_toArray, List.map_cons, List.map_nil]); first | done | rfl | (simp only [List.length_drop, List.length_take]; rfl)) ?_; (with_reducible refine (stamp_Ticks.calls (-3) t103 _ A1.out).mono ?_); rintro e w18 ⟨rfl, hb⟩; refine ⟨_, rfl, ?_⟩; have n0_ := Aside0.mk (below_step (by repeat (first | (with_reducible first | exact HB.out | apply below_alloc | apply pw_below_drewN | apply below_drew1) | exact HB.out)) hb); clear HB; have HB := n0_; clear n0_; (try clear hb); (try clear hb2); (try clear hk); (try clear hi)))
    all_goals
      go_ret
      exact ⟨by first | rfl | (simp [errW_none, errW_some] <;> rfl) | (simp [*, errW_none, errW_some] <;> rfl), by repeat (first | (with_reducible first | exact HB.out | apply below_alloc | apply pw_below_drewN | apply below_drew1) | exact HB.out)⟩

/-! ### carillonlaw02_StampFloors: function 3 -/
def carillonlaw02_StampFloors.j0 : Nat → Int → Int → Bool → Option (Bool)
  | 0, _, _, _ => none
  | k + 1, x0, x3, x12 => if x12 = true then ((carillonlaw02_awake.f).bind fun t109 => (some t109)) else (if (wrap64 (x0 - (wrap64 (x3 * 65536)))) ≥ 0 then (if (wrap64 (x0 - (wrap64 (x3 * 65536)))) < 65536 then ((carillonlaw02_awake.f).bind fun t110 => (some t110)) else (some false)) else (some false))
def carillonlaw02_StampFloors.f (k : Nat) (a0 : Int) : Option (Bool) := (stamp_Floor.f a0).bind fun t108 => (if t108 > 70368744177664 then (carillonlaw02_StampFloors.j0 k a0 t108 true) else (carillonlaw02_StampFloors.j0 k a0 t108 (decide (t108 < (-70368744177664)))))
theorem carillonlaw02_StampFloors.mono_l : ∀ k, (∀ y0 y1 y2, LeO (carillonlaw02_StampFloors.j0 k y0 y1 y2) (carillonlaw02_StampFloors.j0 (k + 1) y0 y1 y2))
  | 0 => fun _ _ _ r h => by simp [carillonlaw02_StampFloors.j0] at h
  | k + 1 => by
    have ih0 := carillonlaw02_StampFloors.mono_l k
    · intro y0 y1 y2
      unfold carillonlaw02_StampFloors.j0
      repeat' first
      | (with_reducible exact ih0 _ _ _)
      | (with_reducible exact LeO.refl _)
      | (with_reducible exact LeO.none _)
      | (with_reducible refine LeO.ite ?_ ?_)
      | (with_reducible refine LeO.bind ?_ (fun _ => ?_))
      | exact ih0 _ _ _
      | exact LeO.none _
      | refine LeO.ite ?_ ?_
      | refine LeO.bind ?_ (fun _ => ?_)
theorem carillonlaw02_StampFloors.mono : ∀ a0 k, LeO (carillonlaw02_StampFloors.f k a0) (carillonlaw02_StampFloors.f (k + 1) a0) := by
  intro a0 k
  have ih0 := carillonlaw02_StampFloors.mono_l k
  unfold carillonlaw02_StampFloors.f
  repeat' first
      | (with_reducible exact ih0 _ _ _)
      | (with_reducible exact LeO.refl _)
      | (with_reducible exact LeO.none _)
      | (with_reducible refine LeO.ite ?_ ?_)
      | (with_reducible refine LeO.bind ?_ (fun _ => ?_))
      | exact ih0 _ _ _
      | exact LeO.none _
      | refine LeO.ite ?_ ?_
      | refine LeO.bind ?_ (fun _ => ?_)
set_option maxHeartbeats 8000000 in
set_option maxRecDepth 100000 in
theorem carillonlaw02_StampFloors.calls (k : Nat) (a0 : Int) (w : World) (h : carillonlaw02_StampFloors.f k a0 = some true) :
    Calls Try.prog 3 #[.int .i64 a0] w fun e w' => e = .returned (.bool true) ∧ Below w.heap.size w w' := by
  have HB := Aside0.mk (Below.refl w.heap.size w)
  have H : ((stamp_Floor.f a0).bind fun t108 => (if t108 > 70368744177664 then (carillonlaw02_StampFloors.j0 k a0 t108 true) else (carillonlaw02_StampFloors.j0 k a0 t108 (decide (t108 < (-70368744177664)))))) = some true := h
  clear h
  replace H := Option.bind_eq_some_iff.mp H
  obtain ⟨t108, A20, H⟩ := H
  replace H : (if t108 > 70368744177664 then (carillonlaw02_StampFloors.j0 k a0 t108 true) else (carillonlaw02_StampFloors.j0 k a0 t108 (decide (t108 < (-70368744177664))))) = some true := H
  have A2 := Aside0.mk A20
  clear A20
  have HC3 := Aside0.mk H
  clear H
  go_enter Try.func3, Try.ntmps3
  go_upto_region 2 with (first | ((with_reducible refine gate_callee (f := 12) rfl ?_); refine goesL_ (some 6) rfl rfl Try.func12 (by kernel_rfl) rfl #[.int .i64 a0] rfl (by (try simp only [List.map_toArray, List.map_cons, List.map_nil]); first | done | rfl | (simp only [List.length_drop, List.length_take]; rfl)) ?_; (with_reducible refine (stamp_Floor.calls a0 t108 _ A2.out).mono ?_); rintro e w' ⟨rfl, ⟨nd, rfl⟩⟩; refine ⟨_, rfl, ?_⟩))
  (try simp only [Act.put, List.setIfInBounds_toArray, List.set_cons_zero, List.set_cons_succ])
  go_cut [12] (fun v12 wc => ∃ (kq : Nat) (x12_2 : Bool), v12 = .bool x12_2 ∧ Aside0 (carillonlaw02_StampFloors.j0 kq a0 t108 x12_2 = some true) ∧ Aside0 (kq ≤ k) ∧ Aside0 (Below w.heap.size w wc))
  case first =>
    have H := HC3.out
    clear HC3
    by_cases c4 : t108 > 70368744177664
    · rw [if_pos c4] at H
      have c4b0 : decide (70368744177664 < t108) = true := decide_eq_true c4
      clear c4
      (first | rw [c4b0] | (simp only [i64_w, i32_w]; rw [c4b0]) | skip)
      have H' := Aside0.mk H
      clear H
      go_wp2
      go_meet
      case rel => exact ⟨_, (true), (by first | rfl | (simp; done) | (simp [*]; done)), H', ⟨by first | omega | exact Nat.le_refl _⟩, ⟨by repeat (first | (with_reducible first | exact HB.out | apply below_alloc | apply pw_below_drewN | apply below_drew1) | exact HB.out)⟩⟩
    · rw [if_neg c4] at H
      have c4b0 : decide (70368744177664 < t108) = false := decide_eq_false c4
      clear c4
      (first | rw [c4b0] | (simp only [i64_w, i32_w]; rw [c4b0]) | skip)
      have H' := Aside0.mk H
      clear H
      go_wp2
      go_meet
      case rel => exact ⟨_, (decide (t108 < (-70368744177664))), (by first | rfl | (simp; done) | (simp [*]; done)), H', ⟨by first | omega | exact Nat.le_refl _⟩, ⟨by repeat (first | (with_reducible first | exact HB.out | apply below_alloc | apply pw_below_drewN | apply below_drew1) | exact HB.out)⟩⟩
  case rest =>
    clear HC3
    try clear c1
    try clear p2
    try clear c3
    try clear c4
    try clear c4b0
    obtain ⟨kq, x12_2, rfl, HA, HJ2, HB⟩ := hcut
    cases kq with
    | zero => exact absurd HA.out (by simp [carillonlaw02_StampFloors.j0])
    | succ kj2 =>
      have H := HA.out
      clear HA
      simp only [carillonlaw02_StampFloors.j0] at H
      by_cases c5 : x12_2 = true
      · subst c5
        have H1 : ((carillonlaw02_awake.f).bind fun t109 => (some t109)) = some true := by rw [if_pos rfl] at H; exact H
        clear H
        have H := H1
        clear H1
        replace H := Option.bind_eq_some_iff.mp H
        obtain ⟨t109, A60, H⟩ := H
        replace H : (some t109) = some true := H
        have A6 := Aside0.mk A60
        clear A60
        have hret_ := Aside0.mk (Option.some.inj H)
        clear H
        go_wp2_with (first | ((with_reducible refine gate_callee (f := 13) rfl ?_); refine goesL_ (some 13) rfl rfl Try.func13 (by kernel_rfl) rfl #[] rfl (by (try simp only [List.map_toArray, List.map_cons, List.map_nil]); first | done | rfl | (simp only [List.length_drop, List.length_take]; rfl)) ?_; (with_reducible refine (carillonlaw02_awake.calls  t109 _ A6.out).mono ?_); rintro e w7 ⟨rfl, hb⟩; refine ⟨_, rfl, ?_⟩; have n0_ := Aside0.mk (below_step (by repeat (first | (with_reducible first | exact HB.out | apply below_alloc | apply pw_below_drewN | apply below_drew1) | exact HB.out)) hb); clear HB; have HB := n0_; clear n0_; (try clear hb); (try clear hb2); (try clear hk); (try clear hi)))
        all_goals
          go_ret
          exact ⟨by first | exact congrArg (fun b_ => Ending.returned (.bool b_)) hret_.out | rfl | (simp [errW_none, errW_some] <;> rfl) | (simp [*, errW_none, errW_some] <;> rfl), by repeat (first | (with_reducible first | exact HB.out | apply below_alloc | apply pw_below_drewN | apply below_drew1) | exact HB.out)⟩
      · replace c5 := Bool.eq_false_iff.mpr c5
        subst c5
        have H1 : (if (wrap64 (a0 - (wrap64 (t108 * 65536)))) ≥ 0 then (if (wrap64 (a0 - (wrap64 (t108 * 65536)))) < 65536 then ((carillonlaw02_awake.f).bind fun t110 => (some t110)) else (some false)) else (some false)) = some true := by rw [if_neg (show ¬ (false = true) by decide)] at H; exact H
        clear H
        have H := H1
        clear H1
        by_cases c8 : (wrap64 (a0 - (wrap64 (t108 * 65536)))) ≥ 0
        · rw [if_pos c8] at H
          have c8b0 : decide (0 ≤ (wrap64 (a0 - (wrap64 (t108 * 65536))))) = true := decide_eq_true c8
          clear c8
          by_cases c9 : (wrap64 (a0 - (wrap64 (t108 * 65536)))) < 65536
          · rw [if_pos c9] at H
            have c9b0 : decide ((wrap64 (a0 - (wrap64 (t108 * 65536)))) < 65536) = true := decide_eq_true c9
            clear c9
            replace H := Option.bind_eq_some_iff.mp H
            obtain ⟨t110, A100, H⟩ := H
            replace H : (some t110) = some true := H
            have A10 := Aside0.mk A100
            clear A100
            have hret_ := Aside0.mk (Option.some.inj H)
            clear H
            go_wp2_with (first | (go_at_call 13; (with_reducible refine (carillonlaw02_awake.calls  t110 _ A10.out).mono ?_); rintro e w11 ⟨rfl, hb⟩; have n0_ := Aside0.mk (below_step (by repeat (first | (with_reducible first | exact HB.out | apply below_alloc | apply pw_below_drewN | apply below_drew1) | exact HB.out)) hb); clear HB; have HB := n0_; clear n0_; (try clear hb); (try clear hb2); (try clear hk); (try clear hi)))
            all_goals
              go_ret
              exact ⟨by first | exact congrArg (fun b_ => Ending.returned (.bool b_)) hret_.out | rfl | (simp [errW_none, errW_some] <;> rfl) | (simp [*, errW_none, errW_some] <;> rfl), by repeat (first | (with_reducible first | exact HB.out | apply below_alloc | apply pw_below_drewN | apply below_drew1) | exact HB.out)⟩
          · rw [if_neg c9] at H
            have c9b0 : decide ((wrap64 (a0 - (wrap64 (t108 * 65536)))) < 65536) = false := decide_eq_false c9
            clear c9
            exact absurd H (by simp)
        · rw [if_neg c8] at H
          have c8b0 : decide (0 ≤ (wrap64 (a0 - (wrap64 (t108 * 65536))))) = false := decide_eq_false c8
          clear c8
          exact absurd H (by simp)

/-- THE ONE PURE STATEMENT of carillonlaw02_StampFloors: yours. -/
def carillonlaw02_StampFloors.Pure : Prop := ∀ (a0 : Int), (Lit.int .i64 a0).wf = true → ∃ k, carillonlaw02_StampFloors.f k a0 = some true
theorem carillonlaw02_StampFloors.walk (P : carillonlaw02_StampFloors.Pure) (a0 : Int) (w : World) (w0 : (Lit.int .i64 a0).wf = true) :
    Calls Try.prog 3 #[.int .i64 a0] w fun e w' => e = .returned (.bool true) ∧ Below w.heap.size w w' := by
  obtain ⟨k, h⟩ := P a0 w0
  refine (carillonlaw02_StampFloors.calls k a0 w h).mono ?_
  rintro e w' ⟨rfl, hd⟩
  exact ⟨rfl, hd⟩

/-! ### carillonlaw00_Place: function 14 -/
def carillonlaw00_Place.f (a0 : Int) (a1 : Int) : Option (Int) := if a1 = 0 then (none) else (if (Int.tmod a0 a1) < 0 then (some (wrap64 ((Int.tmod a0 a1) + a1))) else (some (Int.tmod a0 a1)))
set_option maxHeartbeats 8000000 in
set_option maxRecDepth 100000 in
theorem carillonlaw00_Place.calls (a0 : Int) (a1 : Int) (r : Int) (w : World) (h : carillonlaw00_Place.f a0 a1 = some r) :
    Calls Try.prog 14 #[.int .i64 a0, .int .i64 a1] w fun e w' => e = .returned (.int .i64 r) ∧ Drawn0 w w' := by
  have H : (if a1 = 0 then (none) else (if (Int.tmod a0 a1) < 0 then (some (wrap64 ((Int.tmod a0 a1) + a1))) else (some (Int.tmod a0 a1)))) = some r := h
  clear h
  by_cases c3 : a1 = 0
  · rw [if_pos c3] at H
    exact absurd H (by simp)
  · rw [if_neg c3] at H
    have c3b0 : (a1 == 0) = false := beq_eq_false_iff_ne.mpr c3
    have c3b1 : (a1 != 0) = true := bne_iff_ne.mpr c3
    by_cases c4 : (Int.tmod a0 a1) < 0
    · rw [if_pos c4] at H
      have c4b0 : decide ((Int.tmod a0 a1) < 0) = true := decide_eq_true c4
      clear c4
      obtain rfl := Option.some.inj H
      go_enter Try.func14, Try.ntmps14
      go_wp2
      all_goals
        go_ret
        exact ⟨by first | rfl | (simp; done) | (simp [*]; done), by repeat (first | exact Drawn0.refl _ | apply Drawn0.step)⟩
    · rw [if_neg c4] at H
      have c4b0 : decide ((Int.tmod a0 a1) < 0) = false := decide_eq_false c4
      clear c4
      obtain rfl := Option.some.inj H
      go_enter Try.func14, Try.ntmps14
      go_wp2
      all_goals
        go_ret
        exact ⟨by first | rfl | (simp; done) | (simp [*]; done), by repeat (first | exact Drawn0.refl _ | apply Drawn0.step)⟩

/-! ### carillonlaw02_StampTwice: function 4 -/
def carillonlaw02_StampTwice.f (a0 : Int) : Option (Bool) := (carillonlaw00_Place.f a0 7).bind fun t111 => ((stamp_Ticks.f (wrap64 ((wrap64 (t111 - 3)) + 1))).bind fun t112 => ((stamp_Ticks.f (wrap64 (t111 - 3))).bind fun t113 => (if t112 = (wrap64 (2 * t113)) then ((stamp_Nanos.f (wrap64 ((wrap64 (t111 - 3)) + 1))).bind fun t114 => ((stamp_Nanos.f (wrap64 (t111 - 3))).bind fun t115 => (if t114 = (wrap64 (2 * t115)) then ((stamp_Ticks.f (wrap64 (t111 - 3))).bind fun t116 => ((stamp_Nanos.f (wrap64 (t111 - 3))).bind fun t117 => (if (wrap64 (t116 * 125000000)) = t117 then ((carillonlaw02_awake.f).bind fun t118 => (some t118)) else (some false)))) else (some false)))) else (some false))))
set_option maxHeartbeats 8000000 in
set_option maxRecDepth 100000 in
theorem carillonlaw02_StampTwice.calls (a0 : Int) (w : World) (h : carillonlaw02_StampTwice.f a0 = some true) :
    Calls Try.prog 4 #[.int .i64 a0] w fun e w' => e = .returned (.bool true) ∧ Below w.heap.size w w' := by
  have HB := Aside0.mk (Below.refl w.heap.size w)
  have H : ((carillonlaw00_Place.f a0 7).bind fun t111 => ((stamp_Ticks.f (wrap64 ((wrap64 (t111 - 3)) + 1))).bind fun t112 => ((stamp_Ticks.f (wrap64 (t111 - 3))).bind fun t113 => (if t112 = (wrap64 (2 * t113)) then ((stamp_Nanos.f (wrap64 ((wrap64 (t111 - 3)) + 1))).bind fun t114 => ((stamp_Nanos.f (wrap64 (t111 - 3))).bind fun t115 => (if t114 = (wrap64 (2 * t115)) then ((stamp_Ticks.f (wrap64 (t111 - 3))).bind fun t116 => ((stamp_Nanos.f (wrap64 (t111 - 3))).bind fun t117 => (if (wrap64 (t116 * 125000000)) = t117 then ((carillonlaw02_awake.f).bind fun t118 => (some t118)) else (some false)))) else (some false)))) else (some false))))) = some true := h
  clear h
  replace H := Option.bind_eq_some_iff.mp H
  obtain ⟨t111, A20, H⟩ := H
  replace H : ((stamp_Ticks.f (wrap64 ((wrap64 (t111 - 3)) + 1))).bind fun t112 => ((stamp_Ticks.f (wrap64 (t111 - 3))).bind fun t113 => (if t112 = (wrap64 (2 * t113)) then ((stamp_Nanos.f (wrap64 ((wrap64 (t111 - 3)) + 1))).bind fun t114 => ((stamp_Nanos.f (wrap64 (t111 - 3))).bind fun t115 => (if t114 = (wrap64 (2 * t115)) then ((stamp_Ticks.f (wrap64 (t111 - 3))).bind fun t116 => ((stamp_Nanos.f (wrap64 (t111 - 3))).bind fun t117 => (if (wrap64 (t116 * 125000000)) = t117 then ((carillonlaw02_awake.f).bind fun t118 => (some t118)) else (some false)))) else (some false)))) else (some false)))) = some true := H
  have A2 := Aside0.mk A20
  clear A20
  replace H := Option.bind_eq_some_iff.mp H
  obtain ⟨t112, A30, H⟩ := H
  replace H : ((stamp_Ticks.f (wrap64 (t111 - 3))).bind fun t113 => (if t112 = (wrap64 (2 * t113)) then ((stamp_Nanos.f (wrap64 ((wrap64 (t111 - 3)) + 1))).bind fun t114 => ((stamp_Nanos.f (wrap64 (t111 - 3))).bind fun t115 => (if t114 = (wrap64 (2 * t115)) then ((stamp_Ticks.f (wrap64 (t111 - 3))).bind fun t116 => ((stamp_Nanos.f (wrap64 (t111 - 3))).bind fun t117 => (if (wrap64 (t116 * 125000000)) = t117 then ((carillonlaw02_awake.f).bind fun t118 => (some t118)) else (some false)))) else (some false)))) else (some false))) = some true := H
  have A3 := Aside0.mk A30
  clear A30
  replace H := Option.bind_eq_some_iff.mp H
  obtain ⟨t113, A40, H⟩ := H
  replace H : (if t112 = (wrap64 (2 * t113)) then ((stamp_Nanos.f (wrap64 ((wrap64 (t111 - 3)) + 1))).bind fun t114 => ((stamp_Nanos.f (wrap64 (t111 - 3))).bind fun t115 => (if t114 = (wrap64 (2 * t115)) then ((stamp_Ticks.f (wrap64 (t111 - 3))).bind fun t116 => ((stamp_Nanos.f (wrap64 (t111 - 3))).bind fun t117 => (if (wrap64 (t116 * 125000000)) = t117 then ((carillonlaw02_awake.f).bind fun t118 => (some t118)) else (some false)))) else (some false)))) else (some false)) = some true := H
  have A4 := Aside0.mk A40
  clear A40
  by_cases c5 : t112 = (wrap64 (2 * t113))
  · rw [if_pos c5] at H
    have c5b0 : (t112 == (wrap64 (2 * t113))) = true := beq_iff_eq.mpr c5
    have c5b1 : (t112 != (wrap64 (2 * t113))) = false := bne_eq_false_iff_eq.mpr c5
    clear c5
    replace H := Option.bind_eq_some_iff.mp H
    obtain ⟨t114, A60, H⟩ := H
    replace H : ((stamp_Nanos.f (wrap64 (t111 - 3))).bind fun t115 => (if t114 = (wrap64 (2 * t115)) then ((stamp_Ticks.f (wrap64 (t111 - 3))).bind fun t116 => ((stamp_Nanos.f (wrap64 (t111 - 3))).bind fun t117 => (if (wrap64 (t116 * 125000000)) = t117 then ((carillonlaw02_awake.f).bind fun t118 => (some t118)) else (some false)))) else (some false))) = some true := H
    have A6 := Aside0.mk A60
    clear A60
    replace H := Option.bind_eq_some_iff.mp H
    obtain ⟨t115, A70, H⟩ := H
    replace H : (if t114 = (wrap64 (2 * t115)) then ((stamp_Ticks.f (wrap64 (t111 - 3))).bind fun t116 => ((stamp_Nanos.f (wrap64 (t111 - 3))).bind fun t117 => (if (wrap64 (t116 * 125000000)) = t117 then ((carillonlaw02_awake.f).bind fun t118 => (some t118)) else (some false)))) else (some false)) = some true := H
    have A7 := Aside0.mk A70
    clear A70
    by_cases c8 : t114 = (wrap64 (2 * t115))
    · rw [if_pos c8] at H
      have c8b0 : (t114 == (wrap64 (2 * t115))) = true := beq_iff_eq.mpr c8
      have c8b1 : (t114 != (wrap64 (2 * t115))) = false := bne_eq_false_iff_eq.mpr c8
      clear c8
      replace H := Option.bind_eq_some_iff.mp H
      obtain ⟨t116, A90, H⟩ := H
      replace H : ((stamp_Nanos.f (wrap64 (t111 - 3))).bind fun t117 => (if (wrap64 (t116 * 125000000)) = t117 then ((carillonlaw02_awake.f).bind fun t118 => (some t118)) else (some false))) = some true := H
      have A9 := Aside0.mk A90
      clear A90
      obtain rfl : t113 = t116 := Option.some.inj (A4.out.symm.trans A9.out)
      replace H := Option.bind_eq_some_iff.mp H
      obtain ⟨t117, A100, H⟩ := H
      replace H : (if (wrap64 (t113 * 125000000)) = t117 then ((carillonlaw02_awake.f).bind fun t118 => (some t118)) else (some false)) = some true := H
      have A10 := Aside0.mk A100
      clear A100
      obtain rfl : t115 = t117 := Option.some.inj (A7.out.symm.trans A10.out)
      by_cases c11 : (wrap64 (t113 * 125000000)) = t115
      · rw [if_pos c11] at H
        have c11b0 : ((wrap64 (t113 * 125000000)) == t115) = true := beq_iff_eq.mpr c11
        have c11b1 : ((wrap64 (t113 * 125000000)) != t115) = false := bne_eq_false_iff_eq.mpr c11
        clear c11
        replace H := Option.bind_eq_some_iff.mp H
        obtain ⟨t118, A120, H⟩ := H
        replace H : (some t118) = some true := H
        have A12 := Aside0.mk A120
        clear A120
        have hret_ := Aside0.mk (Option.some.inj H)
        clear H
        go_enter Try.func4, Try.ntmps4
        go_wp2_with (first | ((with_reducible refine gate_callee (f := 14) rfl ?_); refine goesL_ (some 5) rfl rfl Try.func14 (by kernel_rfl) rfl #[.int .i64 a0, .int .i64 7] rfl (by (try simp only [List.map_toArray, List.map_cons, List.map_nil]); first | done | rfl | (simp only [List.length_drop, List.length_take]; rfl)) ?_; (with_reducible refine (carillonlaw00_Place.calls a0 7 t111 _ A2.out).mono ?_); rintro e w' ⟨rfl, ⟨nd, rfl⟩⟩; refine ⟨_, rfl, ?_⟩) | ((with_reducible refine gate_callee (f := 15) rfl ?_); refine goesL_ (some 9) rfl rfl Try.func15 (by kernel_rfl) rfl #[.int .i64 (wrap64 ((wrap64 (t111 - 3)) + 1))] rfl (by (try simp only [List.map_toArray, List.map_cons, List.map_nil]); first | done | rfl | (simp only [List.length_drop, List.length_take]; rfl)) ?_; (with_reducible refine (stamp_Ticks.calls (wrap64 ((wrap64 (t111 - 3)) + 1)) t112 _ A3.out).mono ?_); rintro e w13 ⟨rfl, hb⟩; refine ⟨_, rfl, ?_⟩; have n0_ := Aside0.mk (below_step (by repeat (first | (with_reducible first | exact HB.out | apply below_alloc | apply pw_below_drewN | apply below_drew1) | exact HB.out)) hb); clear HB; have HB := n0_; clear n0_; (try clear hb); (try clear hb2); (try clear hk); (try clear hi)) | ((with_reducible refine gate_callee (f := 15) rfl ?_); refine goesL_ (some 11) rfl rfl Try.func15 (by kernel_rfl) rfl #[.int .i64 (wrap64 (t111 - 3))] rfl (by (try simp only [List.map_toArray, List.map_cons, List.map_nil]); first | done | rfl | (simp only [List.length_drop, List.length_take]; rfl)) ?_; (with_reducible refine (stamp_Ticks.calls (wrap64 (t111 - 3)) t113 _ A4.out).mono ?_); rintro e w14 ⟨rfl, hb⟩; refine ⟨_, rfl, ?_⟩; have n0_ := Aside0.mk (below_step (by repeat (first | (with_reducible first | exact HB.out | apply below_alloc | apply pw_below_drewN | apply below_drew1) | exact HB.out)) hb); clear HB; have HB := n0_; clear n0_; (try clear hb); (try clear hb2); (try clear hk); (try clear hi)) | (go_at_call 16; (with_reducible refine (stamp_Nanos.calls (wrap64 ((wrap64 (t111 - 3)) + 1)) t114 _ A6.out).mono ?_); rintro e w15 ⟨rfl, hb⟩; have n0_ := Aside0.mk (below_step (by repeat (first | (with_reducible first | exact HB.out | apply below_alloc | apply pw_below_drewN | apply below_drew1) | exact HB.out)) hb); clear HB; have HB := n0_; clear n0_; (try clear hb); (try clear hb2); (try clear hk); (try clear hi)) | (go_at_call 16; (with_reducible refine (stamp_Nanos.calls (wrap64 (t111 - 3)) t115 _ A7.out).mono ?_); rintro e w16 ⟨rfl, hb⟩; have n0_ := Aside0.mk (below_step (by repeat (first | (with_reducible first | exact HB.out | apply below_alloc | apply pw_below_drewN | apply below_drew1) | exact HB.out)) hb); clear HB; have HB := n0_; clear n0_; (try clear hb); (try clear hb2); (try clear hk); (try clear hi)) | (go_at_call 15; (with_reducible refine (stamp_Ticks.calls (wrap64 (t111 - 3)) t113 _ A9.out).mono ?_); rintro e w17 ⟨rfl, hb⟩; have n0_ := Aside0.mk (below_step (by repeat (first | (with_reducible first | exact HB.out | apply below_alloc | apply pw_below_drewN | apply below_drew1) | exact HB.out)) hb); clear HB; have HB := n0_; clear n0_; (try clear hb); (try clear hb2); (try clear hk); (try clear hi)) | (go_at_call 16; (with_reducible refine (stamp_Nanos.calls (wrap64 (t111 - 3)) t115 _ A10.out).mono ?_); rintro e w18 ⟨rfl, hb⟩; have n0_ := Aside0.mk (below_step (by repeat (first | (with_reducible first | exact HB.out | apply below_alloc | apply pw_below_drewN | apply below_drew1) | exact HB.out)) hb); clear HB; have HB := n0_; clear n0_; (try clear hb); (try clear hb2); (try clear hk); (try clear hi)) | (go_at_call 13; (with_reducible refine (carillonlaw02_awake.calls  t118 _ A12.out).mono ?_); rintro e w19 ⟨rfl, hb⟩; have n0_ := Aside0.mk (below_step (by repeat (first | (with_reducible first | exact HB.out | apply below_alloc | apply pw_below_drewN | apply below_drew1) | exact HB.out)) hb); clear HB; have HB := n0_; clear n0_; (try clear hb); (try clear hb2); (try clear hk); (try clear hi)))
        all_goals
          go_ret
          exact ⟨by first | exact congrArg (fun b_ => Ending.returned (.bool b_)) hret_.out | rfl | (simp [errW_none, errW_some] <;> rfl) | (simp [*, errW_none, errW_some] <;> rfl), by repeat (first | (with_reducible first | exact HB.out | apply below_alloc | apply pw_below_drewN | apply below_drew1) | exact HB.out)⟩
      · rw [if_neg c11] at H
        have c11b0 : ((wrap64 (t113 * 125000000)) == t115) = false := beq_eq_false_iff_ne.mpr c11
        have c11b1 : ((wrap64 (t113 * 125000000)) != t115) = true := bne_iff_ne.mpr c11
        exact absurd H (by simp)
    · rw [if_neg c8] at H
      have c8b0 : (t114 == (wrap64 (2 * t115))) = false := beq_eq_false_iff_ne.mpr c8
      have c8b1 : (t114 != (wrap64 (2 * t115))) = true := bne_iff_ne.mpr c8
      exact absurd H (by simp)
  · rw [if_neg c5] at H
    have c5b0 : (t112 == (wrap64 (2 * t113))) = false := beq_eq_false_iff_ne.mpr c5
    have c5b1 : (t112 != (wrap64 (2 * t113))) = true := bne_iff_ne.mpr c5
    exact absurd H (by simp)

/-- THE ONE PURE STATEMENT of carillonlaw02_StampTwice: yours. -/
def carillonlaw02_StampTwice.Pure : Prop := ∀ (a0 : Int), (Lit.int .i64 a0).wf = true → carillonlaw02_StampTwice.f a0 = some true
theorem carillonlaw02_StampTwice.walk (P : carillonlaw02_StampTwice.Pure) (a0 : Int) (w : World) (w0 : (Lit.int .i64 a0).wf = true) :
    Calls Try.prog 4 #[.int .i64 a0] w fun e w' => e = .returned (.bool true) ∧ Below w.heap.size w w' := by
  have h := P a0 w0
  refine (carillonlaw02_StampTwice.calls a0 w h).mono ?_
  rintro e w' ⟨rfl, hd⟩
  exact ⟨rfl, hd⟩

end Go.Proofs.Yteahnnhekfkabaa.P
