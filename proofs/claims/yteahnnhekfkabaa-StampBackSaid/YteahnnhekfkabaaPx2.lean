/- Functions and loops of the given program as Lean functions, and that the code comes to what they say: written by this session's own program; Lean checks it. -/
import Derived.Test.YteahnnhekfkabaaPx0
import Derived.Test.YteahnnhekfkabaaPx1
namespace Go.Proofs.Yteahnnhekfkabaa.P
open Go.RowKit Go.Proofs.YteahnnhekfkabaaW.PrintWords Go.Proofs.YteahnnhekfkabaaW.PrintLast Go.Proofs.YteahnnhekfkabaaW.PrintMore
attribute [local go_sem] max2_int min2_int max_two min_two max_three min_three max_four min_four   -- for this text's walks alone
set_option linter.unusedVariables false
set_option linter.unusedSimpArgs false

/-! ### carillonlaw02_StampTable: function 5 -/
def carillonlaw02_StampTable.l0 : Nat → Int → Int → Option (Bool)
  | 0, _, _ => none
  | k + 1, x1, x2 => if x2 ≤ 4 then ((stamp_Ticks.f x2).bind fun t119 => (if t119 = x1 then ((stamp_Nanos.f x2).bind fun t120 => (if t120 = (wrap64 (x1 * 125000000)) then (carillonlaw02_StampTable.l0 k (wrap64 (2 * x1)) (wrap64 (x2 + 1))) else (some false))) else (some false))) else ((stamp_Ticks.f (-4)).bind fun t121 => (if t121 = 1 then ((stamp_Ticks.f 5).bind fun t122 => (if t122 = 128 then ((stamp_Nanos.f (-100)).bind fun t123 => (if t123 = 125000000 then ((stamp_Nanos.f 4611686018427387904).bind fun t124 => (if t124 = 16000000000 then ((carillonlaw02_awake.f).bind fun t125 => (some t125)) else (some false))) else (some false))) else (some false))) else (some false)))
def carillonlaw02_StampTable.f (k : Nat)  : Option (Bool) := carillonlaw02_StampTable.l0 k 1 (-3)
theorem carillonlaw02_StampTable.mono_l : ∀ k, (∀ y0 y1, LeO (carillonlaw02_StampTable.l0 k y0 y1) (carillonlaw02_StampTable.l0 (k + 1) y0 y1))
  | 0 => fun _ _ r h => by simp [carillonlaw02_StampTable.l0] at h
  | k + 1 => by
    have ih0 := carillonlaw02_StampTable.mono_l k
    · intro y0 y1
      unfold carillonlaw02_StampTable.l0
      repeat' first
      | (with_reducible exact ih0 _ _)
      | (with_reducible exact LeO.refl _)
      | (with_reducible exact LeO.none _)
      | (with_reducible refine LeO.ite ?_ ?_)
      | (with_reducible refine LeO.bind ?_ (fun _ => ?_))
      | exact ih0 _ _
      | exact LeO.none _
      | refine LeO.ite ?_ ?_
      | refine LeO.bind ?_ (fun _ => ?_)
theorem carillonlaw02_StampTable.mono : ∀ k, LeO (carillonlaw02_StampTable.f k ) (carillonlaw02_StampTable.f (k + 1) ) := by
  intro  k
  have ih0 := carillonlaw02_StampTable.mono_l k
  unfold carillonlaw02_StampTable.f
  repeat' first
      | (with_reducible exact ih0 _ _)
      | (with_reducible exact LeO.refl _)
      | (with_reducible exact LeO.none _)
      | (with_reducible refine LeO.ite ?_ ?_)
      | (with_reducible refine LeO.bind ?_ (fun _ => ?_))
      | exact ih0 _ _
      | exact LeO.none _
      | refine LeO.ite ?_ ?_
      | refine LeO.bind ?_ (fun _ => ?_)
set_option maxHeartbeats 8000000 in
set_option maxRecDepth 100000 in
theorem carillonlaw02_StampTable.calls (k : Nat)  (w : World) (h : carillonlaw02_StampTable.f k  = some true) :
    Calls Try.prog 5 #[] w fun e w' => e = .returned (.bool true) ∧ Below w.heap.size w w' := by
  have HB := Aside0.mk (Below.refl w.heap.size w)
  have H : (carillonlaw02_StampTable.l0 k 1 (-3)) = some true := h
  clear h
  have H' := Aside0.mk H
  clear H
  go_enter Try.func5, Try.ntmps5
  go_wp2
  go_loopg [1, 2] k (fun kq v1 v2 w' => ∃ (x1_1 : Int) (x2_1 : Int), v1 = .int .i64 x1_1 ∧ v2 = .int .i64 x2_1 ∧ Aside0 (carillonlaw02_StampTable.l0 kq x1_1 x2_1 = some true) ∧ Aside0 (kq ≤ k) ∧ Aside0 (Below w.heap.size w w'))
  case atStart => exact ⟨(1), ((-3)), (by first | rfl | (simp; done) | (simp [*]; done)), (by first | rfl | (simp; done) | (simp [*]; done)), H', ⟨Nat.le_refl _⟩, ⟨by repeat (first | (with_reducible first | exact HB.out | apply below_alloc | apply pw_below_drewN | apply below_drew1) | exact HB.out)⟩⟩
  case round =>
    clear H'
    obtain ⟨x1_1, x2_1, rfl, rfl, HA, HK1, HB⟩ := hrel
    cases gk with
    | zero => exact absurd HA.out (by simp [carillonlaw02_StampTable.l0])
    | succ k1 =>
      have H := HA.out
      clear HA
      simp only [carillonlaw02_StampTable.l0] at H
      by_cases c1 : x2_1 ≤ 4
      · rw [if_pos c1] at H
        have c1b0 : decide (x2_1 ≤ 4) = true := decide_eq_true c1
        clear c1
        replace H := Option.bind_eq_some_iff.mp H
        obtain ⟨t119, A20, H⟩ := H
        replace H : (if t119 = x1_1 then ((stamp_Nanos.f x2_1).bind fun t120 => (if t120 = (wrap64 (x1_1 * 125000000)) then (carillonlaw02_StampTable.l0 k1 (wrap64 (2 * x1_1)) (wrap64 (x2_1 + 1))) else (some false))) else (some false)) = some true := H
        have A2 := Aside0.mk A20
        clear A20
        by_cases c3 : t119 = x1_1
        · rw [if_pos c3] at H
          have c3b0 : (t119 == x1_1) = true := beq_iff_eq.mpr c3
          have c3b1 : (t119 != x1_1) = false := bne_eq_false_iff_eq.mpr c3
          clear c3
          replace H := Option.bind_eq_some_iff.mp H
          obtain ⟨t120, A40, H⟩ := H
          replace H : (if t120 = (wrap64 (x1_1 * 125000000)) then (carillonlaw02_StampTable.l0 k1 (wrap64 (2 * x1_1)) (wrap64 (x2_1 + 1))) else (some false)) = some true := H
          have A4 := Aside0.mk A40
          clear A40
          by_cases c5 : t120 = (wrap64 (x1_1 * 125000000))
          · rw [if_pos c5] at H
            have c5b0 : (t120 == (wrap64 (x1_1 * 125000000))) = true := beq_iff_eq.mpr c5
            have c5b1 : (t120 != (wrap64 (x1_1 * 125000000))) = false := bne_eq_false_iff_eq.mpr c5
            clear c5
            have H' := Aside0.mk H
            clear H
            go_wp2_with (first | ((with_reducible refine gate_callee (f := 15) rfl ?_); refine goesL_ (some 8) rfl rfl Try.func15 (by kernel_rfl) rfl #[.int .i64 x2_1] rfl (by (try simp only [List.map_toArray, List.map_cons, List.map_nil]); first | done | rfl | (simp only [List.length_drop, List.length_take]; rfl)) ?_; (with_reducible refine (stamp_Ticks.calls x2_1 t119 _ A2.out).mono ?_); rintro e w6 ⟨rfl, hb⟩; refine ⟨_, rfl, ?_⟩; have n0_ := Aside0.mk (below_step (by repeat (first | (with_reducible first | exact HB.out | apply below_alloc | apply pw_below_drewN | apply below_drew1) | exact HB.out)) hb); clear HB; have HB := n0_; clear n0_; (try clear hb); (try clear hb2); (try clear hk); (try clear hi)) | (go_at_call 16; (with_reducible refine (stamp_Nanos.calls x2_1 t120 _ A4.out).mono ?_); rintro e w7 ⟨rfl, hb⟩; have n0_ := Aside0.mk (below_step (by repeat (first | (with_reducible first | exact HB.out | apply below_alloc | apply pw_below_drewN | apply below_drew1) | exact HB.out)) hb); clear HB; have HB := n0_; clear n0_; (try clear hb); (try clear hb2); (try clear hk); (try clear hi)))
            go_roundg k1
            case measure => have := HK1.out; omega
            case rel => exact ⟨(wrap64 (2 * x1_1)), (wrap64 (x2_1 + 1)), (by first | rfl | (simp; done) | (simp [*]; done)), (by first | rfl | (simp; done) | (simp [*]; done)), H', ⟨by have := HK1.out; omega⟩, ⟨by repeat (first | (with_reducible first | exact HB.out | apply below_alloc | apply pw_below_drewN | apply below_drew1) | exact HB.out)⟩⟩
          · rw [if_neg c5] at H
            have c5b0 : (t120 == (wrap64 (x1_1 * 125000000))) = false := beq_eq_false_iff_ne.mpr c5
            have c5b1 : (t120 != (wrap64 (x1_1 * 125000000))) = true := bne_iff_ne.mpr c5
            exact absurd H (by simp)
        · rw [if_neg c3] at H
          have c3b0 : (t119 == x1_1) = false := beq_eq_false_iff_ne.mpr c3
          have c3b1 : (t119 != x1_1) = true := bne_iff_ne.mpr c3
          exact absurd H (by simp)
      · rw [if_neg c1] at H
        have c1b0 : decide (x2_1 ≤ 4) = false := decide_eq_false c1
        clear c1
        replace H := Option.bind_eq_some_iff.mp H
        obtain ⟨t121, A80, H⟩ := H
        replace H : (if t121 = 1 then ((stamp_Ticks.f 5).bind fun t122 => (if t122 = 128 then ((stamp_Nanos.f (-100)).bind fun t123 => (if t123 = 125000000 then ((stamp_Nanos.f 4611686018427387904).bind fun t124 => (if t124 = 16000000000 then ((carillonlaw02_awake.f).bind fun t125 => (some t125)) else (some false))) else (some false))) else (some false))) else (some false)) = some true := H
        have A8 := Aside0.mk A80
        clear A80
        by_cases c9 : t121 = 1
        · rw [if_pos c9] at H
          have c9b0 : (t121 == 1) = true := beq_iff_eq.mpr c9
          have c9b1 : (t121 != 1) = false := bne_eq_false_iff_eq.mpr c9
          clear c9
          replace H := Option.bind_eq_some_iff.mp H
          obtain ⟨t122, A100, H⟩ := H
          replace H : (if t122 = 128 then ((stamp_Nanos.f (-100)).bind fun t123 => (if t123 = 125000000 then ((stamp_Nanos.f 4611686018427387904).bind fun t124 => (if t124 = 16000000000 then ((carillonlaw02_awake.f).bind fun t125 => (some t125)) else (some false))) else (some false))) else (some false)) = some true := H
          have A10 := Aside0.mk A100
          clear A100
          by_cases c11 : t122 = 128
          · rw [if_pos c11] at H
            have c11b0 : (t122 == 128) = true := beq_iff_eq.mpr c11
            have c11b1 : (t122 != 128) = false := bne_eq_false_iff_eq.mpr c11
            clear c11
            replace H := Option.bind_eq_some_iff.mp H
            obtain ⟨t123, A120, H⟩ := H
            replace H : (if t123 = 125000000 then ((stamp_Nanos.f 4611686018427387904).bind fun t124 => (if t124 = 16000000000 then ((carillonlaw02_awake.f).bind fun t125 => (some t125)) else (some false))) else (some false)) = some true := H
            have A12 := Aside0.mk A120
            clear A120
            by_cases c13 : t123 = 125000000
            · rw [if_pos c13] at H
              have c13b0 : (t123 == 125000000) = true := beq_iff_eq.mpr c13
              have c13b1 : (t123 != 125000000) = false := bne_eq_false_iff_eq.mpr c13
              clear c13
              replace H := Option.bind_eq_some_iff.mp H
              obtain ⟨t124, A140, H⟩ := H
              replace H : (if t124 = 16000000000 then ((carillonlaw02_awake.f).bind fun t125 => (some t125)) else (some false)) = some true := H
              have A14 := Aside0.mk A140
              clear A140
              by_cases c15 : t124 = 16000000000
              · rw [if_pos c15] at H
                have c15b0 : (t124 == 16000000000) = true := beq_iff_eq.mpr c15
                have c15b1 : (t124 != 16000000000) = false := bne_eq_false_iff_eq.mpr c15
                clear c15
                replace H := Option.bind_eq_some_iff.mp H
                obtain ⟨t125, A160, H⟩ := H
                replace H : (some t125) = some true := H
                have A16 := Aside0.mk A160
                clear A160
                have hret_ := Aside0.mk (Option.some.inj H)
                clear H
                go_wp2_with (first | ((with_reducible refine gate_callee (f := 15) rfl ?_); refine goesL_ (some 20) rfl rfl Try.func15 (by kernel_rfl) rfl #[.int .i64 (-4)] rfl (by (try simp only [List.map_toArray, List.map_cons, List.map_nil]); first | done | rfl | (simp only [List.length_drop, List.length_take]; rfl)) ?_; (with_reducible refine (stamp_Ticks.calls (-4) t121 _ A8.out).mono ?_); rintro e w17 ⟨rfl, hb⟩; refine ⟨_, rfl, ?_⟩; have n0_ := Aside0.mk (below_step (by repeat (first | (with_reducible first | exact HB.out | apply below_alloc | apply pw_below_drewN | apply below_drew1) | exact HB.out)) hb); clear HB; have HB := n0_; clear n0_; (try clear hb); (try clear hb2); (try clear hk); (try clear hi)) | (go_at_call 15; (with_reducible refine (stamp_Ticks.calls 5 t122 _ A10.out).mono ?_); rintro e w18 ⟨rfl, hb⟩; have n0_ := Aside0.mk (below_step (by repeat (first | (with_reducible first | exact HB.out | apply below_alloc | apply pw_below_drewN | apply below_drew1) | exact HB.out)) hb); clear HB; have HB := n0_; clear n0_; (try clear hb); (try clear hb2); (try clear hk); (try clear hi)) | (go_at_call 16; (with_reducible refine (stamp_Nanos.calls (-100) t123 _ A12.out).mono ?_); rintro e w19 ⟨rfl, hb⟩; have n0_ := Aside0.mk (below_step (by repeat (first | (with_reducible first | exact HB.out | apply below_alloc | apply pw_below_drewN | apply below_drew1) | exact HB.out)) hb); clear HB; have HB := n0_; clear n0_; (try clear hb); (try clear hb2); (try clear hk); (try clear hi)) | (go_at_call 16; (with_reducible refine (stamp_Nanos.calls 4611686018427387904 t124 _ A14.out).mono ?_); rintro e w20 ⟨rfl, hb⟩; have n0_ := Aside0.mk (below_step (by repeat (first | (with_reducible first | exact HB.out | apply below_alloc | apply pw_below_drewN | apply below_drew1) | exact HB.out)) hb); clear HB; have HB := n0_; clear n0_; (try clear hb); (try clear hb2); (try clear hk); (try clear hi)) | (go_at_call 13; (with_reducible refine (carillonlaw02_awake.calls  t125 _ A16.out).mono ?_); rintro e w21 ⟨rfl, hb⟩; have n0_ := Aside0.mk (below_step (by repeat (first | (with_reducible first | exact HB.out | apply below_alloc | apply pw_below_drewN | apply below_drew1) | exact HB.out)) hb); clear HB; have HB := n0_; clear n0_; (try clear hb); (try clear hb2); (try clear hk); (try clear hi)))
                all_goals
                  go_ret
                  exact ⟨by first | exact congrArg (fun b_ => Ending.returned (.bool b_)) hret_.out | rfl | (simp [errW_none, errW_some] <;> rfl) | (simp [*, errW_none, errW_some] <;> rfl), by repeat (first | (with_reducible first | exact HB.out | apply below_alloc | apply pw_below_drewN | apply below_drew1) | exact HB.out)⟩
              · rw [if_neg c15] at H
                have c15b0 : (t124 == 16000000000) = false := beq_eq_false_iff_ne.mpr c15
                have c15b1 : (t124 != 16000000000) = true := bne_iff_ne.mpr c15
                exact absurd H (by simp)
            · rw [if_neg c13] at H
              have c13b0 : (t123 == 125000000) = false := beq_eq_false_iff_ne.mpr c13
              have c13b1 : (t123 != 125000000) = true := bne_iff_ne.mpr c13
              exact absurd H (by simp)
          · rw [if_neg c11] at H
            have c11b0 : (t122 == 128) = false := beq_eq_false_iff_ne.mpr c11
            have c11b1 : (t122 != 128) = true := bne_iff_ne.mpr c11
            exact absurd H (by simp)
        · rw [if_neg c9] at H
          have c9b0 : (t121 == 1) = false := beq_eq_false_iff_ne.mpr c9
          have c9b1 : (t121 != 1) = true := bne_iff_ne.mpr c9
          exact absurd H (by simp)

/-- THE ONE PURE STATEMENT of carillonlaw02_StampTable: yours. -/
def carillonlaw02_StampTable.Pure : Prop := ∃ k, carillonlaw02_StampTable.f k  = some true
theorem carillonlaw02_StampTable.walk (P : carillonlaw02_StampTable.Pure)  (w : World)  :
    Calls Try.prog 5 #[] w fun e w' => e = .returned (.bool true) ∧ Below w.heap.size w w' := by
  obtain ⟨k, h⟩ := P  
  refine (carillonlaw02_StampTable.calls k  w h).mono ?_
  rintro e w' ⟨rfl, hd⟩
  exact ⟨rfl, hd⟩

/-! ### carillonref02_Floor: function 17 -/
def carillonref02_Floor.f (a0 : Int) : Option (Int) := if (Int.tmod a0 65536) < 0 then (some (wrap64 ((wrap64 (Int.tdiv a0 65536)) - 1))) else (some (wrap64 (Int.tdiv a0 65536)))
set_option maxHeartbeats 8000000 in
set_option maxRecDepth 100000 in
theorem carillonref02_Floor.calls (a0 : Int) (r : Int) (w : World) (h : carillonref02_Floor.f a0 = some r) :
    Calls Try.prog 17 #[.int .i64 a0] w fun e w' => e = .returned (.int .i64 r) ∧ Drawn0 w w' := by
  have H : (if (Int.tmod a0 65536) < 0 then (some (wrap64 ((wrap64 (Int.tdiv a0 65536)) - 1))) else (some (wrap64 (Int.tdiv a0 65536)))) = some r := h
  clear h
  by_cases c2 : (Int.tmod a0 65536) < 0
  · rw [if_pos c2] at H
    have c2b0 : decide ((Int.tmod a0 65536) < 0) = true := decide_eq_true c2
    clear c2
    obtain rfl := Option.some.inj H
    go_enter Try.func17, Try.ntmps17
    go_wp2
    all_goals
      go_ret
      exact ⟨by first | rfl | (simp; done) | (simp [*]; done), by repeat (first | exact Drawn0.refl _ | apply Drawn0.step)⟩
  · rw [if_neg c2] at H
    have c2b0 : decide ((Int.tmod a0 65536) < 0) = false := decide_eq_false c2
    clear c2
    obtain rfl := Option.some.inj H
    go_enter Try.func17, Try.ntmps17
    go_wp2
    all_goals
      go_ret
      exact ⟨by first | rfl | (simp; done) | (simp [*]; done), by repeat (first | exact Drawn0.refl _ | apply Drawn0.step)⟩

/-! ### stamp_Add: function 18 -/
def stamp_Add.j0 : Nat → Int → Int → Bool → Option (Int)
  | 0, _, _, _ => none
  | k + 1, x0, x1, x5 => if x5 = true then (some 9223372036854775807) else (if x1 < 0 then (if x0 < (wrap64 ((-9223372036854775808) - x1)) then (some (-9223372036854775808)) else (some (wrap64 (x0 + x1)))) else (some (wrap64 (x0 + x1))))
def stamp_Add.f (k : Nat) (a0 : Int) (a1 : Int) : Option (Int) := if a1 > 0 then (stamp_Add.j0 k a0 a1 (decide (a0 > (wrap64 (9223372036854775807 - a1))))) else (stamp_Add.j0 k a0 a1 false)
theorem stamp_Add.mono_l : ∀ k, (∀ y0 y1 y2, LeO (stamp_Add.j0 k y0 y1 y2) (stamp_Add.j0 (k + 1) y0 y1 y2))
  | 0 => fun _ _ _ r h => by simp [stamp_Add.j0] at h
  | k + 1 => by
    have ih0 := stamp_Add.mono_l k
    · intro y0 y1 y2
      unfold stamp_Add.j0
      repeat' first
      | (with_reducible exact ih0 _ _ _)
      | (with_reducible exact LeO.refl _)
      | (with_reducible exact LeO.none _)
      | (with_reducible refine LeO.ite ?_ ?_)
      | (with_reducible refine LeO.bind ?_ (fun _ => ?_))
      | exact ih0 _ _ _
      | exact LeO.none _
      | refine LeO.ite ?_ ?_
      | refine LeO.bind ?_ (fun _ => ?_)
theorem stamp_Add.mono : ∀ a0 a1 k, LeO (stamp_Add.f k a0 a1) (stamp_Add.f (k + 1) a0 a1) := by
  intro a0 a1 k
  have ih0 := stamp_Add.mono_l k
  unfold stamp_Add.f
  repeat' first
      | (with_reducible exact ih0 _ _ _)
      | (with_reducible exact LeO.refl _)
      | (with_reducible exact LeO.none _)
      | (with_reducible refine LeO.ite ?_ ?_)
      | (with_reducible refine LeO.bind ?_ (fun _ => ?_))
      | exact ih0 _ _ _
      | exact LeO.none _
      | refine LeO.ite ?_ ?_
      | refine LeO.bind ?_ (fun _ => ?_)
set_option maxHeartbeats 8000000 in
set_option maxRecDepth 100000 in
theorem stamp_Add.calls (k : Nat) (a0 : Int) (a1 : Int) (r : Int) (w : World) (h : stamp_Add.f k a0 a1 = some r) :
    Calls Try.prog 18 #[.int .i64 a0, .int .i64 a1] w fun e w' => e = .returned (.int .i64 r) ∧ Drawn0 w w' := by
  have H : (if a1 > 0 then (stamp_Add.j0 k a0 a1 (decide (a0 > (wrap64 (9223372036854775807 - a1))))) else (stamp_Add.j0 k a0 a1 false)) = some r := h
  clear h
  have HC3 := Aside0.mk H
  clear H
  go_enter Try.func18, Try.ntmps18
  go_upto_region 1 with (fail)
  go_cut [5] (fun v5 wc => ∃ (kq : Nat) (x5_2 : Bool), v5 = .bool x5_2 ∧ Aside0 (stamp_Add.j0 kq a0 a1 x5_2 = some r) ∧ Aside0 (kq ≤ k) ∧ Drawn0 w wc)
  case first =>
    have H := HC3.out
    clear HC3
    by_cases c4 : a1 > 0
    · rw [if_pos c4] at H
      have c4b0 : decide (0 < a1) = true := decide_eq_true c4
      clear c4
      (first | rw [c4b0] | (simp only [i64_w, i32_w]; rw [c4b0]) | skip)
      have H' := Aside0.mk H
      clear H
      go_wp2
      go_meet
      case rel => exact ⟨_, (decide (a0 > (wrap64 (9223372036854775807 - a1)))), (by first | rfl | (simp; done) | (simp [*]; done)), H', ⟨by first | omega | exact Nat.le_refl _⟩, by repeat (first | exact Drawn0.refl _ | apply Drawn0.step)⟩
    · rw [if_neg c4] at H
      have c4b0 : decide (0 < a1) = false := decide_eq_false c4
      clear c4
      (first | rw [c4b0] | (simp only [i64_w, i32_w]; rw [c4b0]) | skip)
      have H' := Aside0.mk H
      clear H
      go_wp2
      go_meet
      case rel => exact ⟨_, (false), (by first | rfl | (simp; done) | (simp [*]; done)), H', ⟨by first | omega | exact Nat.le_refl _⟩, by repeat (first | exact Drawn0.refl _ | apply Drawn0.step)⟩
  case rest =>
    clear HC3
    try clear c1
    try clear p2
    try clear c4
    try clear c4b0
    obtain ⟨kq, x5_2, rfl, HA, HJ2, ⟨mc2, rfl⟩⟩ := hcut
    cases kq with
    | zero => exact absurd HA.out (by simp [stamp_Add.j0])
    | succ kj2 =>
      have H := HA.out
      clear HA
      simp only [stamp_Add.j0] at H
      by_cases c5 : x5_2 = true
      · subst c5
        have H1 : (some 9223372036854775807) = some r := by rw [if_pos rfl] at H; exact H
        clear H
        have H := H1
        clear H1
        obtain rfl := Option.some.inj H
        go_wp2
        all_goals
          go_ret
          exact ⟨by first | rfl | (simp; done) | (simp [*]; done), by repeat (first | exact Drawn0.refl _ | apply Drawn0.step)⟩
      · replace c5 := Bool.eq_false_iff.mpr c5
        subst c5
        have H1 : (if a1 < 0 then (if a0 < (wrap64 ((-9223372036854775808) - a1)) then (some (-9223372036854775808)) else (some (wrap64 (a0 + a1)))) else (some (wrap64 (a0 + a1)))) = some r := by rw [if_neg (show ¬ (false = true) by decide)] at H; exact H
        clear H
        have H := H1
        clear H1
        by_cases c6 : a1 < 0
        · rw [if_pos c6] at H
          have c6b0 : decide (a1 < 0) = true := decide_eq_true c6
          clear c6
          by_cases c7 : a0 < (wrap64 ((-9223372036854775808) - a1))
          · rw [if_pos c7] at H
            have c7b0 : decide (a0 < (wrap64 ((-9223372036854775808) - a1))) = true := decide_eq_true c7
            clear c7
            obtain rfl := Option.some.inj H
            go_wp2
            all_goals
              go_ret
              exact ⟨by first | rfl | (simp; done) | (simp [*]; done), by repeat (first | exact Drawn0.refl _ | apply Drawn0.step)⟩
          · rw [if_neg c7] at H
            have c7b0 : decide (a0 < (wrap64 ((-9223372036854775808) - a1))) = false := decide_eq_false c7
            clear c7
            obtain rfl := Option.some.inj H
            go_wp2
            all_goals
              go_ret
              exact ⟨by first | rfl | (simp; done) | (simp [*]; done), by repeat (first | exact Drawn0.refl _ | apply Drawn0.step)⟩
        · rw [if_neg c6] at H
          have c6b0 : decide (a1 < 0) = false := decide_eq_false c6
          clear c6
          obtain rfl := Option.some.inj H
          go_wp2
          all_goals
            go_ret
            exact ⟨by first | rfl | (simp; done) | (simp [*]; done), by repeat (first | exact Drawn0.refl _ | apply Drawn0.step)⟩

/-! ### carillonref02_Add: function 19 -/
def carillonref02_Add.j0 : Nat → Int → Int → Bool → Option (Int)
  | 0, _, _, _ => none
  | k + 1, x0, x1, x12 => if x12 = true then (some 9223372036854775807) else (if x0 < 0 then (if x1 < (wrap64 ((-9223372036854775808) - x0)) then (some (-9223372036854775808)) else (some (wrap64 (x0 + x1)))) else (some (wrap64 (x0 + x1))))
def carillonref02_Add.f (k : Nat) (a0 : Int) (a1 : Int) : Option (Int) := if a0 > 0 then (carillonref02_Add.j0 k a0 a1 (decide (a1 > (wrap64 (9223372036854775807 - a0))))) else (carillonref02_Add.j0 k a0 a1 false)
theorem carillonref02_Add.mono_l : ∀ k, (∀ y0 y1 y2, LeO (carillonref02_Add.j0 k y0 y1 y2) (carillonref02_Add.j0 (k + 1) y0 y1 y2))
  | 0 => fun _ _ _ r h => by simp [carillonref02_Add.j0] at h
  | k + 1 => by
    have ih0 := carillonref02_Add.mono_l k
    · intro y0 y1 y2
      unfold carillonref02_Add.j0
      repeat' first
      | (with_reducible exact ih0 _ _ _)
      | (with_reducible exact LeO.refl _)
      | (with_reducible exact LeO.none _)
      | (with_reducible refine LeO.ite ?_ ?_)
      | (with_reducible refine LeO.bind ?_ (fun _ => ?_))
      | exact ih0 _ _ _
      | exact LeO.none _
      | refine LeO.ite ?_ ?_
      | refine LeO.bind ?_ (fun _ => ?_)
theorem carillonref02_Add.mono : ∀ a0 a1 k, LeO (carillonref02_Add.f k a0 a1) (carillonref02_Add.f (k + 1) a0 a1) := by
  intro a0 a1 k
  have ih0 := carillonref02_Add.mono_l k
  unfold carillonref02_Add.f
  repeat' first
      | (with_reducible exact ih0 _ _ _)
      | (with_reducible exact LeO.refl _)
      | (with_reducible exact LeO.none _)
      | (with_reducible refine LeO.ite ?_ ?_)
      | (with_reducible refine LeO.bind ?_ (fun _ => ?_))
      | exact ih0 _ _ _
      | exact LeO.none _
      | refine LeO.ite ?_ ?_
      | refine LeO.bind ?_ (fun _ => ?_)
set_option maxHeartbeats 8000000 in
set_option maxRecDepth 100000 in
theorem carillonref02_Add.calls (k : Nat) (a0 : Int) (a1 : Int) (r : Int) (w : World) (h : carillonref02_Add.f k a0 a1 = some r) :
    Calls Try.prog 19 #[.int .i64 a0, .int .i64 a1] w fun e w' => e = .returned (.int .i64 r) ∧ Drawn0 w w' := by
  have H : (if a0 > 0 then (carillonref02_Add.j0 k a0 a1 (decide (a1 > (wrap64 (9223372036854775807 - a0))))) else (carillonref02_Add.j0 k a0 a1 false)) = some r := h
  clear h
  have HC3 := Aside0.mk H
  clear H
  go_enter Try.func19, Try.ntmps19
  go_upto_region 1 with (fail)
  go_cut [12] (fun v12 wc => ∃ (kq : Nat) (x12_2 : Bool), v12 = .bool x12_2 ∧ Aside0 (carillonref02_Add.j0 kq a0 a1 x12_2 = some r) ∧ Aside0 (kq ≤ k) ∧ Drawn0 w wc)
  case first =>
    have H := HC3.out
    clear HC3
    by_cases c4 : a0 > 0
    · rw [if_pos c4] at H
      have c4b0 : decide (0 < a0) = true := decide_eq_true c4
      clear c4
      (first | rw [c4b0] | (simp only [i64_w, i32_w]; rw [c4b0]) | skip)
      have H' := Aside0.mk H
      clear H
      go_wp2
      go_meet
      case rel => exact ⟨_, (decide (a1 > (wrap64 (9223372036854775807 - a0)))), (by first | rfl | (simp; done) | (simp [*]; done)), H', ⟨by first | omega | exact Nat.le_refl _⟩, by repeat (first | exact Drawn0.refl _ | apply Drawn0.step)⟩
    · rw [if_neg c4] at H
      have c4b0 : decide (0 < a0) = false := decide_eq_false c4
      clear c4
      (first | rw [c4b0] | (simp only [i64_w, i32_w]; rw [c4b0]) | skip)
      have H' := Aside0.mk H
      clear H
      go_wp2
      go_meet
      case rel => exact ⟨_, (false), (by first | rfl | (simp; done) | (simp [*]; done)), H', ⟨by first | omega | exact Nat.le_refl _⟩, by repeat (first | exact Drawn0.refl _ | apply Drawn0.step)⟩
  case rest =>
    clear HC3
    try clear c1
    try clear p2
    try clear c4
    try clear c4b0
    obtain ⟨kq, x12_2, rfl, HA, HJ2, ⟨mc2, rfl⟩⟩ := hcut
    cases kq with
    | zero => exact absurd HA.out (by simp [carillonref02_Add.j0])
    | succ kj2 =>
      have H := HA.out
      clear HA
      simp only [carillonref02_Add.j0] at H
      by_cases c5 : x12_2 = true
      · subst c5
        have H1 : (some 9223372036854775807) = some r := by rw [if_pos rfl] at H; exact H
        clear H
        have H := H1
        clear H1
        obtain rfl := Option.some.inj H
        go_wp2
        all_goals
          go_ret
          exact ⟨by first | rfl | (simp; done) | (simp [*]; done), by repeat (first | exact Drawn0.refl _ | apply Drawn0.step)⟩
      · replace c5 := Bool.eq_false_iff.mpr c5
        subst c5
        have H1 : (if a0 < 0 then (if a1 < (wrap64 ((-9223372036854775808) - a0)) then (some (-9223372036854775808)) else (some (wrap64 (a0 + a1)))) else (some (wrap64 (a0 + a1)))) = some r := by rw [if_neg (show ¬ (false = true) by decide)] at H; exact H
        clear H
        have H := H1
        clear H1
        by_cases c6 : a0 < 0
        · rw [if_pos c6] at H
          have c6b0 : decide (a0 < 0) = true := decide_eq_true c6
          clear c6
          by_cases c7 : a1 < (wrap64 ((-9223372036854775808) - a0))
          · rw [if_pos c7] at H
            have c7b0 : decide (a1 < (wrap64 ((-9223372036854775808) - a0))) = true := decide_eq_true c7
            clear c7
            obtain rfl := Option.some.inj H
            go_wp2
            all_goals
              go_ret
              exact ⟨by first | rfl | (simp; done) | (simp [*]; done), by repeat (first | exact Drawn0.refl _ | apply Drawn0.step)⟩
          · rw [if_neg c7] at H
            have c7b0 : decide (a1 < (wrap64 ((-9223372036854775808) - a0))) = false := decide_eq_false c7
            clear c7
            obtain rfl := Option.some.inj H
            go_wp2
            all_goals
              go_ret
              exact ⟨by first | rfl | (simp; done) | (simp [*]; done), by repeat (first | exact Drawn0.refl _ | apply Drawn0.step)⟩
        · rw [if_neg c6] at H
          have c6b0 : decide (a0 < 0) = false := decide_eq_false c6
          clear c6
          obtain rfl := Option.some.inj H
          go_wp2
          all_goals
            go_ret
            exact ⟨by first | rfl | (simp; done) | (simp [*]; done), by repeat (first | exact Drawn0.refl _ | apply Drawn0.step)⟩

/-! ### carillonref02_log: function 29 -/
def carillonref02_log.f (a0 : Int) : Option (Int) := some ((mn (mx a0 (-3)) 4) + 3)
set_option maxHeartbeats 8000000 in
set_option maxRecDepth 100000 in
theorem carillonref02_log.calls (a0 : Int) (r : Int) (w : World) (h : carillonref02_log.f a0 = some r) :
    Calls Try.prog 29 #[.int .i64 a0] w fun e w' => e = .returned (.int .u64 r) ∧ Below w.heap.size w w' := by
  have HB := Aside0.mk (Below.refl w.heap.size w)
  have H : (some ((mn (mx a0 (-3)) 4) + 3)) = some r := h
  clear h
  obtain ⟨ji2, hji2⟩ : ∃ j_ : Int, (mx a0 (-3)) = j_ := ⟨_, rfl⟩
  replace H : (some ((mn (ji2) 4) + 3)) = some r := by first | (rw [hji2] at H; exact H) | (simp only [hji2] at H ⊢; exact H)
  have hji2_ : (if a0 < (-3) then (-3) else a0) = ji2 := hji2
  obtain ⟨ji3, hji3⟩ : ∃ j_ : Int, (mn (ji2) 4) = j_ := ⟨_, rfl⟩
  replace H : (some ((ji3) + 3)) = some r := by first | (rw [hji3] at H; exact H) | (simp only [hji3] at H ⊢; exact H)
  have hji3_ : (if 4 < (ji2) then 4 else (ji2)) = ji3 := hji3
  obtain rfl := Option.some.inj H
  go_enter Try.func29, Try.ntmps29
  go_wp2
  all_goals
    go_ret
    exact ⟨by first | rfl | (simp [errW_none, errW_some] <;> rfl) | (simp only [← hji2, ← hji3]; first | rfl | (simp [errW_none, errW_some] <;> rfl)) | (simp [*, errW_none, errW_some] <;> rfl), by repeat (first | (with_reducible first | exact HB.out | apply below_alloc | apply pw_below_drewN | apply below_drew1) | exact HB.out)⟩

/-! ### carillonref02_Ticks: function 20 -/
def carillonref02_Ticks.f (a0 : Int) : Option (Int) := (carillonref02_log.f a0).bind fun t126 => (if 0 ≤ t126 then (some (shl .i64 1 t126)) else (none))
set_option maxHeartbeats 8000000 in
set_option maxRecDepth 100000 in
theorem carillonref02_Ticks.calls (a0 : Int) (r : Int) (w : World) (h : carillonref02_Ticks.f a0 = some r) :
    Calls Try.prog 20 #[.int .i64 a0] w fun e w' => e = .returned (.int .i64 r) ∧ Below w.heap.size w w' := by
  have HB := Aside0.mk (Below.refl w.heap.size w)
  have H : ((carillonref02_log.f a0).bind fun t126 => (if 0 ≤ t126 then (some (shl .i64 1 t126)) else (none))) = some r := h
  clear h
  replace H := Option.bind_eq_some_iff.mp H
  obtain ⟨t126, A20, H⟩ := H
  replace H : (if 0 ≤ t126 then (some (shl .i64 1 t126)) else (none)) = some r := H
  have A2 := Aside0.mk A20
  clear A20
  by_cases c3 : 0 ≤ t126
  · rw [if_pos c3] at H
    have c3b0 := eq_true c3
    have c3b1 : decide (0 ≤ t126) = true := decide_eq_true c3
    clear c3
    obtain ⟨ji4, hji4⟩ : ∃ j_ : Int, (shl .i64 1 t126) = j_ := ⟨_, rfl⟩
    replace H : (some ji4) = some r := by first | (rw [hji4] at H; exact H) | (simp only [hji4] at H ⊢; exact H)
    (try rw [hji4] at A2)
    have hji4_ : (IntKind.i64.wrap (1 * 2 ^ min t126.toNat 64)) = ji4 := hji4
    have hji4z : t126 ≤ 64 → (IntKind.i64.wrap (1 * 2 ^ t126.toNat)) = ji4 := shl_small hji4
    have hji4u : (IntKind.i64.wrap (2 ^ min t126.toNat 64)) = ji4 := by have h_ := hji4_; rw [Int.one_mul] at h_; exact h_
    have hji4v : t126 ≤ 64 → (IntKind.i64.wrap (2 ^ t126.toNat)) = ji4 := fun hle_ => by have h_ := hji4z hle_; rw [Int.one_mul] at h_; exact h_
    have hji4y : (wrap64 (1 * 2 ^ min t126.toNat 64)) = ji4 := (i64_w _).symm.trans hji4_
    have hji4x : t126 ≤ 64 → (wrap64 (1 * 2 ^ t126.toNat)) = ji4 := fun h_ => (i64_w _).symm.trans (hji4z h_)
    obtain rfl := Option.some.inj H
    go_enter Try.func20, Try.ntmps20
    go_wp2_with (first | ((with_reducible refine gate_callee (f := 29) rfl ?_); refine goesL_ (some 4) rfl rfl Try.func29 (by kernel_rfl) rfl #[.int .i64 a0] rfl (by (try simp only [List.map_toArray, List.map_cons, List.map_nil]); first | done | rfl | (simp only [List.length_drop, List.length_take]; rfl)) ?_; (with_reducible refine (carillonref02_log.calls a0 t126 _ A2.out).mono ?_); rintro e w5 ⟨rfl, hb⟩; refine ⟨_, rfl, ?_⟩; have n0_ := Aside0.mk (below_step (by repeat (first | (with_reducible first | exact HB.out | apply below_alloc | apply pw_below_drewN | apply below_drew1) | exact HB.out)) hb); clear HB; have HB := n0_; clear n0_; (try clear hb); (try clear hb2); (try clear hk); (try clear hi)))
    all_goals
      go_ret
      exact ⟨by first | rfl | (simp [errW_none, errW_some] <;> rfl) | (simp only [← hji4]; first | rfl | (simp [errW_none, errW_some] <;> rfl)) | (simp [*, errW_none, errW_some] <;> rfl), by repeat (first | (with_reducible first | exact HB.out | apply below_alloc | apply pw_below_drewN | apply below_drew1) | exact HB.out)⟩
  · rw [if_neg c3] at H
    exact absurd H (by simp)

/-! ### carillonref02_Nanos: function 21 -/
def carillonref02_Nanos.f (a0 : Int) : Option (Int) := (carillonref02_log.f a0).bind fun t127 => (if 0 ≤ t127 then (some (shl .i64 125000000 t127)) else (none))
set_option maxHeartbeats 8000000 in
set_option maxRecDepth 100000 in
theorem carillonref02_Nanos.calls (a0 : Int) (r : Int) (w : World) (h : carillonref02_Nanos.f a0 = some r) :
    Calls Try.prog 21 #[.int .i64 a0] w fun e w' => e = .returned (.int .i64 r) ∧ Below w.heap.size w w' := by
  have HB := Aside0.mk (Below.refl w.heap.size w)
  have H : ((carillonref02_log.f a0).bind fun t127 => (if 0 ≤ t127 then (some (shl .i64 125000000 t127)) else (none))) = some r := h
  clear h
  replace H := Option.bind_eq_some_iff.mp H
  obtain ⟨t127, A20, H⟩ := H
  replace H : (if 0 ≤ t127 then (some (shl .i64 125000000 t127)) else (none)) = some r := H
  have A2 := Aside0.mk A20
  clear A20
  by_cases c3 : 0 ≤ t127
  · rw [if_pos c3] at H
    have c3b0 := eq_true c3
    have c3b1 : decide (0 ≤ t127) = true := decide_eq_true c3
    clear c3
    obtain ⟨ji4, hji4⟩ : ∃ j_ : Int, (shl .i64 125000000 t127) = j_ := ⟨_, rfl⟩
    replace H : (some ji4) = some r := by first | (rw [hji4] at H; exact H) | (simp only [hji4] at H ⊢; exact H)
    (try rw [hji4] at A2)
    have hji4_ : (IntKind.i64.wrap (125000000 * 2 ^ min t127.toNat 64)) = ji4 := hji4
    have hji4z : t127 ≤ 64 → (IntKind.i64.wrap (125000000 * 2 ^ t127.toNat)) = ji4 := shl_small hji4
    have hji4y : (wrap64 (125000000 * 2 ^ min t127.toNat 64)) = ji4 := (i64_w _).symm.trans hji4_
    have hji4x : t127 ≤ 64 → (wrap64 (125000000 * 2 ^ t127.toNat)) = ji4 := fun h_ => (i64_w _).symm.trans (hji4z h_)
    obtain rfl := Option.some.inj H
    go_enter Try.func21, Try.ntmps21
    go_wp2_with (first | ((with_reducible refine gate_callee (f := 29) rfl ?_); refine goesL_ (some 4) rfl rfl Try.func29 (by kernel_rfl) rfl #[.int .i64 a0] rfl (by (try simp only [List.map_toArray, List.map_cons, List.map_nil]); first | done | rfl | (simp only [List.length_drop, List.length_take]; rfl)) ?_; (with_reducible refine (carillonref02_log.calls a0 t127 _ A2.out).mono ?_); rintro e w5 ⟨rfl, hb⟩; refine ⟨_, rfl, ?_⟩; have n0_ := Aside0.mk (below_step (by repeat (first | (with_reducible first | exact HB.out | apply below_alloc | apply pw_below_drewN | apply below_drew1) | exact HB.out)) hb); clear HB; have HB := n0_; clear n0_; (try clear hb); (try clear hb2); (try clear hk); (try clear hi)))
    all_goals
      go_ret
      exact ⟨by first | rfl | (simp [errW_none, errW_some] <;> rfl) | (simp only [← hji4]; first | rfl | (simp [errW_none, errW_some] <;> rfl)) | (simp [*, errW_none, errW_some] <;> rfl), by repeat (first | (with_reducible first | exact HB.out | apply below_alloc | apply pw_below_drewN | apply below_drew1) | exact HB.out)⟩
  · rw [if_neg c3] at H
    exact absurd H (by simp)

end Go.Proofs.Yteahnnhekfkabaa.P
