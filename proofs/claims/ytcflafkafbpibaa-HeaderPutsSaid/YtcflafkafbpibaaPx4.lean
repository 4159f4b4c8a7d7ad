/- Functions and loops of the given program as Lean functions, and that the code comes to what they say: written by this session's own program; Lean checks it. -/
import Derived.Test.YtcflafkafbpibaaPx0
namespace Go.Proofs.Ytcflafkafbpibaa.P
open Go.RowKit Go.Proofs.YtcflafkafbpibaaW.PrintWords Go.Proofs.YtcflafkafbpibaaW.PrintLast Go.Proofs.YtcflafkafbpibaaW.PrintMore
attribute [local go_sem] max2_int min2_int max_two min_two max_three min_three max_four min_four   -- for this text's walks alone
set_option linter.unusedVariables false
set_option linter.unusedSimpArgs false

/-! ### carillonref06_Known: function 15 -/
def carillonref06_Known.f (a0 : Int) : Option (Bool) := if a0 ≥ 0 then (if a0 ≤ 3 then (some true) else (if a0 ≥ 8 then (some (decide (a0 ≤ 13))) else (some false))) else (if a0 ≥ 8 then (some (decide (a0 ≤ 13))) else (some false))
set_option maxHeartbeats 8000000 in
set_option maxRecDepth 100000 in
theorem carillonref06_Known.calls (a0 : Int) (r : Bool) (w : World) (h : carillonref06_Known.f a0 = some r) :
    Calls Try.prog 15 #[.int .i64 a0] w fun e w' => e = .returned (.bool r) ∧ Drawn0 w w' := by
  have H : (if a0 ≥ 0 then (if a0 ≤ 3 then (some true) else (if a0 ≥ 8 then (some (decide (a0 ≤ 13))) else (some false))) else (if a0 ≥ 8 then (some (decide (a0 ≤ 13))) else (some false))) = some r := h
  clear h
  by_cases c2 : a0 ≥ 0
  · rw [if_pos c2] at H
    have c2b0 : decide (0 ≤ a0) = true := decide_eq_true c2
    clear c2
    by_cases c3 : a0 ≤ 3
    · rw [if_pos c3] at H
      have c3b0 : decide (a0 ≤ 3) = true := decide_eq_true c3
      clear c3
      obtain rfl := Option.some.inj H
      go_enter Try.func15, Try.ntmps15
      go_wp2
      all_goals
        go_ret
        exact ⟨by first | rfl | (simp; done) | (simp [*]; done), by repeat (first | exact Drawn0.refl _ | apply Drawn0.step)⟩
    · rw [if_neg c3] at H
      have c3b0 : decide (a0 ≤ 3) = false := decide_eq_false c3
      clear c3
      by_cases c4 : a0 ≥ 8
      · rw [if_pos c4] at H
        have c4b0 : decide (8 ≤ a0) = true := decide_eq_true c4
        clear c4
        obtain rfl := Option.some.inj H
        go_enter Try.func15, Try.ntmps15
        go_wp2
        all_goals
          go_ret
          exact ⟨by first | rfl | (simp; done) | (simp [*]; done), by repeat (first | exact Drawn0.refl _ | apply Drawn0.step)⟩
      · rw [if_neg c4] at H
        have c4b0 : decide (8 ≤ a0) = false := decide_eq_false c4
        clear c4
        obtain rfl := Option.some.inj H
        go_enter Try.func15, Try.ntmps15
        go_wp2
        all_goals
          go_ret
          exact ⟨by first | rfl | (simp; done) | (simp [*]; done), by repeat (first | exact Drawn0.refl _ | apply Drawn0.step)⟩
  · rw [if_neg c2] at H
    have c2b0 : decide (0 ≤ a0) = false := decide_eq_false c2
    clear c2
    by_cases c5 : a0 ≥ 8
    · rw [if_pos c5] at H
      have c5b0 : decide (8 ≤ a0) = true := decide_eq_true c5
      clear c5
      obtain rfl := Option.some.inj H
      go_enter Try.func15, Try.ntmps15
      go_wp2
      all_goals
        go_ret
        exact ⟨by first | rfl | (simp; done) | (simp [*]; done), by repeat (first | exact Drawn0.refl _ | apply Drawn0.step)⟩
    · rw [if_neg c5] at H
      have c5b0 : decide (8 ≤ a0) = false := decide_eq_false c5
      clear c5
      obtain rfl := Option.some.inj H
      go_enter Try.func15, Try.ntmps15
      go_wp2
      all_goals
        go_ret
        exact ⟨by first | rfl | (simp; done) | (simp [*]; done), by repeat (first | exact Drawn0.refl _ | apply Drawn0.step)⟩

/-! ### carillonref05_In: function 28 -/
def carillonref05_In.f (a0 : Int) (a1 : Int) (a2 : Int) : Option (Bool) := if a0 ≥ a1 then (some (decide (a0 ≤ a2))) else (some false)
set_option maxHeartbeats 8000000 in
set_option maxRecDepth 100000 in
theorem carillonref05_In.calls (a0 : Int) (a1 : Int) (a2 : Int) (r : Bool) (w : World) (h : carillonref05_In.f a0 a1 a2 = some r) :
    Calls Try.prog 28 #[.int .i64 a0, .int .i64 a1, .int .i64 a2] w fun e w' => e = .returned (.bool r) ∧ Drawn0 w w' := by
  have H : (if a0 ≥ a1 then (some (decide (a0 ≤ a2))) else (some false)) = some r := h
  clear h
  by_cases c4 : a0 ≥ a1
  · rw [if_pos c4] at H
    have c4b0 : decide (a1 ≤ a0) = true := decide_eq_true c4
    clear c4
    obtain rfl := Option.some.inj H
    go_enter Try.func28, Try.ntmps28
    go_wp2
    all_goals
      go_ret
      exact ⟨by first | rfl | (simp; done) | (simp [*]; done), by repeat (first | exact Drawn0.refl _ | apply Drawn0.step)⟩
  · rw [if_neg c4] at H
    have c4b0 : decide (a1 ≤ a0) = false := decide_eq_false c4
    clear c4
    obtain rfl := Option.some.inj H
    go_enter Try.func28, Try.ntmps28
    go_wp2
    all_goals
      go_ret
      exact ⟨by first | rfl | (simp; done) | (simp [*]; done), by repeat (first | exact Drawn0.refl _ | apply Drawn0.step)⟩

/-! ### carillonref04_May: function 29 -/
def carillonref04_May.f (a0_0 : Int) (a0_1 : Int) : Option (Bool) := if a0_1 ≥ 0 then (some (decide (a0_1 ≤ 65535))) else (some false)
set_option maxHeartbeats 8000000 in
set_option maxRecDepth 100000 in
theorem carillonref04_May.calls (a0_0 : Int) (a0_1 : Int) (r : Bool) (w : World) (h : carillonref04_May.f a0_0 a0_1 = some r) :
    Calls Try.prog 29 #[.agg #[.int .u64 a0_0, .int .i64 a0_1]] w fun e w' => e = .returned (.bool r) ∧ Below w.heap.size w w' := by
  have hu24 := Try.underlying24
  have HB := Aside0.mk (Below.refl w.heap.size w)
  have H : (if a0_1 ≥ 0 then (some (decide (a0_1 ≤ 65535))) else (some false)) = some r := h
  clear h
  by_cases c2 : a0_1 ≥ 0
  · rw [if_pos c2] at H
    have c2b0 : decide (0 ≤ a0_1) = true := decide_eq_true c2
    clear c2
    obtain rfl := Option.some.inj H
    go_enter Try.func29, Try.ntmps29
    go_wp2_with (first | ((with_reducible refine gate_dst (N := 1) rfl ?_); refine box_event ?hg (N := 1) ?hd (cs := #[.int .u64 a0_0, .int .i64 a0_1]) (t := 24) ?hr ?_; (case hd => rfl); (case hg => rfl); (case hr => first | (go_simp; done) | (go_simp; rfl)); intro gb156 hg w3 hbox hb; have n0_ := Aside0.mk (below_step (by repeat (first | (with_reducible first | exact HB.out | apply below_alloc | apply pw_below_drewN | apply below_drew1) | exact HB.out)) hb); have n1_ := Aside0.mk (hbox); have n2_ := Aside0.mk ((by rw [hg]; exact (below_size (by repeat (first | (with_reducible first | exact HB.out | apply below_alloc | apply pw_below_drewN | apply below_drew1) | exact HB.out))) : w.heap.size ≤ gb156)); have n3_ := Aside0.mk ((by rw [hg]; exact (below_size (by repeat (first | (with_reducible first | exact HB.out | apply below_alloc | apply pw_below_drewN | apply below_drew1) | exact HB.out))) : w.heap.size ≤ gb156)); clear HB; have HB := n0_; have BK156 := n1_; have GW156 := n2_; have GE156 := n3_; clear n0_ n1_ n2_ n3_; clear hb hbox hg; have hcz4_0 : w3.cell? ⟨gb156, 0, none⟩ = some (.int .u64 a0_0) := (blk_cell BK156.out 0).trans rfl; have hcz4_1 : w3.cell? ⟨gb156, 1, none⟩ = some (.int .i64 a0_1) := (blk_cell BK156.out 1).trans rfl; have hfz4_0 := blk_frozen BK156.out 0; have hfz4_1 := blk_frozen BK156.out 1))
    all_goals
      go_ret
      exact ⟨by first | rfl | (simp [errW_none, errW_some] <;> rfl) | (simp [*, errW_none, errW_some] <;> rfl), by repeat (first | (with_reducible first | exact HB.out | apply below_alloc | apply pw_below_drewN | apply below_drew1 | refine below_set ?_ GE156.out) | exact HB.out)⟩
  · rw [if_neg c2] at H
    have c2b0 : decide (0 ≤ a0_1) = false := decide_eq_false c2
    clear c2
    obtain rfl := Option.some.inj H
    go_enter Try.func29, Try.ntmps29
    go_wp2_with (first | ((with_reducible refine gate_dst (N := 1) rfl ?_); refine box_event ?hg (N := 1) ?hd (cs := #[.int .u64 a0_0, .int .i64 a0_1]) (t := 24) ?hr ?_; (case hd => rfl); (case hg => rfl); (case hr => first | (go_simp; done) | (go_simp; rfl)); intro gb156 hg w5 hbox hb; have n0_ := Aside0.mk (below_step (by repeat (first | (with_reducible first | exact HB.out | apply below_alloc | apply pw_below_drewN | apply below_drew1) | exact HB.out)) hb); have n1_ := Aside0.mk (hbox); have n2_ := Aside0.mk ((by rw [hg]; exact (below_size (by repeat (first | (with_reducible first | exact HB.out | apply below_alloc | apply pw_below_drewN | apply below_drew1) | exact HB.out))) : w.heap.size ≤ gb156)); have n3_ := Aside0.mk ((by rw [hg]; exact (below_size (by repeat (first | (with_reducible first | exact HB.out | apply below_alloc | apply pw_below_drewN | apply below_drew1) | exact HB.out))) : w.heap.size ≤ gb156)); clear HB; have HB := n0_; have BK156 := n1_; have GW156 := n2_; have GE156 := n3_; clear n0_ n1_ n2_ n3_; clear hb hbox hg; have hcz6_0 : w5.cell? ⟨gb156, 0, none⟩ = some (.int .u64 a0_0) := (blk_cell BK156.out 0).trans rfl; have hcz6_1 : w5.cell? ⟨gb156, 1, none⟩ = some (.int .i64 a0_1) := (blk_cell BK156.out 1).trans rfl; have hfz6_0 := blk_frozen BK156.out 0; have hfz6_1 := blk_frozen BK156.out 1))
    all_goals
      go_ret
      exact ⟨by first | rfl | (simp [errW_none, errW_some] <;> rfl) | (simp [*, errW_none, errW_some] <;> rfl), by repeat (first | (with_reducible first | exact HB.out | apply below_alloc | apply pw_below_drewN | apply below_drew1 | refine below_set ?_ GE156.out) | exact HB.out)⟩

/-! ### carillonref06_Check: function 13 -/
def carillonref06_Check.f (a0_0 : Int) (a0_1 : Int) (a0_2 : Int) (a0_3 : Int) (a0_4 : Int) (a0_5 : Int) (a0_6 : Int) (a0_7 : Int) (a0_8 : Int) (a0_9 : Int) (a0_10 : Int) (a0_11 : Int) (a0_12 : Int) (a0_13 : Int) (a0_14 : Int) (a0_15 : Int) (a0_16 : Int) (a0_17 : Int) (a0_18 : Int) (a0_19 : Int) (a0_20 : Int) (a0_21 : Int) (a0_22 : Int) : Option (Bool) := (carillonref06_Known.f a0_0).bind fun t158 => (if t158 = true then ((carillonref05_In.f a0_1 0 255).bind fun t159 => (if t159 = true then ((carillonref05_In.f a0_2 0 65535).bind fun t160 => (if t160 = true then ((carillonref04_May.f a0_4 a0_5).bind fun t161 => (if t161 = true then ((carillonref05_In.f a0_6 0 65535).bind fun t162 => (if t162 = true then ((carillonref05_In.f a0_7 (-128) 127).bind fun t163 => (some t163)) else (some false))) else (some false))) else (some false))) else (some false))) else (some false))
set_option maxHeartbeats 8000000 in
set_option maxRecDepth 100000 in
theorem carillonref06_Check.calls (a0_0 : Int) (a0_1 : Int) (a0_2 : Int) (a0_3 : Int) (a0_4 : Int) (a0_5 : Int) (a0_6 : Int) (a0_7 : Int) (a0_8 : Int) (a0_9 : Int) (a0_10 : Int) (a0_11 : Int) (a0_12 : Int) (a0_13 : Int) (a0_14 : Int) (a0_15 : Int) (a0_16 : Int) (a0_17 : Int) (a0_18 : Int) (a0_19 : Int) (a0_20 : Int) (a0_21 : Int) (a0_22 : Int) (r : Bool) (w : World) (h : carillonref06_Check.f a0_0 a0_1 a0_2 a0_3 a0_4 a0_5 a0_6 a0_7 a0_8 a0_9 a0_10 a0_11 a0_12 a0_13 a0_14 a0_15 a0_16 a0_17 a0_18 a0_19 a0_20 a0_21 a0_22 = some r) :
    Calls Try.prog 13 #[.agg #[.int .i64 a0_0, .int .i64 a0_1, .int .i64 a0_2, .int .i64 a0_3, .int .u64 a0_4, .int .i64 a0_5, .int .i64 a0_6, .int .i64 a0_7, .int .i64 a0_8, .int .u64 a0_9, .int .i64 a0_10, .int .i64 a0_11, .int .i64 a0_12, .int .i64 a0_13, .int .i64 a0_14, .int .i64 a0_15, .int .i64 a0_16, .int .u64 a0_17, .int .i64 a0_18, .int .i64 a0_19, .int .i64 a0_20, .int .i64 a0_21, .int .i64 a0_22]] w fun e w' => e = .returned (.bool r) ∧ Below w.heap.size w w' := by
  have hu28 := Try.underlying28
  have hu24 := Try.underlying24
  have HB := Aside0.mk (Below.refl w.heap.size w)
  have H : ((carillonref06_Known.f a0_0).bind fun t158 => (if t158 = true then ((carillonref05_In.f a0_1 0 255).bind fun t159 => (if t159 = true then ((carillonref05_In.f a0_2 0 65535).bind fun t160 => (if t160 = true then ((carillonref04_May.f a0_4 a0_5).bind fun t161 => (if t161 = true then ((carillonref05_In.f a0_6 0 65535).bind fun t162 => (if t162 = true then ((carillonref05_In.f a0_7 (-128) 127).bind fun t163 => (some t163)) else (some false))) else (some false))) else (some false))) else (some false))) else (some false))) = some r := h
  clear h
  replace H := Option.bind_eq_some_iff.mp H
  obtain ⟨t158, A20, H⟩ := H
  replace H : (if t158 = true then ((carillonref05_In.f a0_1 0 255).bind fun t159 => (if t159 = true then ((carillonref05_In.f a0_2 0 65535).bind fun t160 => (if t160 = true then ((carillonref04_May.f a0_4 a0_5).bind fun t161 => (if t161 = true then ((carillonref05_In.f a0_6 0 65535).bind fun t162 => (if t162 = true then ((carillonref05_In.f a0_7 (-128) 127).bind fun t163 => (some t163)) else (some false))) else (some false))) else (some false))) else (some false))) else (some false)) = some r := H
  have A2 := Aside0.mk A20
  clear A20
  by_cases c3 : t158 = true
  · subst c3
    have H1 : ((carillonref05_In.f a0_1 0 255).bind fun t159 => (if t159 = true then ((carillonref05_In.f a0_2 0 65535).bind fun t160 => (if t160 = true then ((carillonref04_May.f a0_4 a0_5).bind fun t161 => (if t161 = true then ((carillonref05_In.f a0_6 0 65535).bind fun t162 => (if t162 = true then ((carillonref05_In.f a0_7 (-128) 127).bind fun t163 => (some t163)) else (some false))) else (some false))) else (some false))) else (some false))) = some r := by rw [if_pos rfl] at H; exact H
    clear H
    have H := H1
    clear H1
    replace H := Option.bind_eq_some_iff.mp H
    obtain ⟨t159, A40, H⟩ := H
    replace H : (if t159 = true then ((carillonref05_In.f a0_2 0 65535).bind fun t160 => (if t160 = true then ((carillonref04_May.f a0_4 a0_5).bind fun t161 => (if t161 = true then ((carillonref05_In.f a0_6 0 65535).bind fun t162 => (if t162 = true then ((carillonref05_In.f a0_7 (-128) 127).bind fun t163 => (some t163)) else (some false))) else (some false))) else (some false))) else (some false)) = some r := H
    have A4 := Aside0.mk A40
    clear A40
    by_cases c5 : t159 = true
    · subst c5
      have H1 : ((carillonref05_In.f a0_2 0 65535).bind fun t160 => (if t160 = true then ((carillonref04_May.f a0_4 a0_5).bind fun t161 => (if t161 = true then ((carillonref05_In.f a0_6 0 65535).bind fun t162 => (if t162 = true then ((carillonref05_In.f a0_7 (-128) 127).bind fun t163 => (some t163)) else (some false))) else (some false))) else (some false))) = some r := by rw [if_pos rfl] at H; exact H
      clear H
      have H := H1
      clear H1
      replace H := Option.bind_eq_some_iff.mp H
      obtain ⟨t160, A60, H⟩ := H
      replace H : (if t160 = true then ((carillonref04_May.f a0_4 a0_5).bind fun t161 => (if t161 = true then ((carillonref05_In.f a0_6 0 65535).bind fun t162 => (if t162 = true then ((carillonref05_In.f a0_7 (-128) 127).bind fun t163 => (some t163)) else (some false))) else (some false))) else (some false)) = some r := H
      have A6 := Aside0.mk A60
      clear A60
      by_cases c7 : t160 = true
      · subst c7
        have H1 : ((carillonref04_May.f a0_4 a0_5).bind fun t161 => (if t161 = true then ((carillonref05_In.f a0_6 0 65535).bind fun t162 => (if t162 = true then ((carillonref05_In.f a0_7 (-128) 127).bind fun t163 => (some t163)) else (some false))) else (some false))) = some r := by rw [if_pos rfl] at H; exact H
        clear H
        have H := H1
        clear H1
        replace H := Option.bind_eq_some_iff.mp H
        obtain ⟨t161, A80, H⟩ := H
        replace H : (if t161 = true then ((carillonref05_In.f a0_6 0 65535).bind fun t162 => (if t162 = true then ((carillonref05_In.f a0_7 (-128) 127).bind fun t163 => (some t163)) else (some false))) else (some false)) = some r := H
        have A8 := Aside0.mk A80
        clear A80
        by_cases c9 : t161 = true
        · subst c9
          have H1 : ((carillonref05_In.f a0_6 0 65535).bind fun t162 => (if t162 = true then ((carillonref05_In.f a0_7 (-128) 127).bind fun t163 => (some t163)) else (some false))) = some r := by rw [if_pos rfl] at H; exact H
          clear H
          have H := H1
          clear H1
          replace H := Option.bind_eq_some_iff.mp H
          obtain ⟨t162, A100, H⟩ := H
          replace H : (if t162 = true then ((carillonref05_In.f a0_7 (-128) 127).bind fun t163 => (some t163)) else (some false)) = some r := H
          have A10 := Aside0.mk A100
          clear A100
          by_cases c11 : t162 = true
          · subst c11
            have H1 : ((carillonref05_In.f a0_7 (-128) 127).bind fun t163 => (some t163)) = some r := by rw [if_pos rfl] at H; exact H
            clear H
            have H := H1
            clear H1
            replace H := Option.bind_eq_some_iff.mp H
            obtain ⟨t163, A120, H⟩ := H
            replace H : (some t163) = some r := H
            have A12 := Aside0.mk A120
            clear A120
            obtain rfl := Option.some.inj H
            go_enter Try.func13, Try.ntmps13
            go_wp2_with (first | (refine big_load (g := gb157) (t := 28) (fr := (0, 0)) (n := 23) (cs := ?_) rfl rfl Try.underlying28 (by kernel_rfl) rfl ?lg ?ln ?_; (case lg => (with_reducible repeat (first | refine blk_drewN ?_ _ | refine blk_drew ?_ | refine blk_alloc ?_ _)); exact BK157.out); (case ln => rfl)) | ((with_reducible refine gate_dst (N := 1) rfl ?_); refine box_event ?hg (N := 1) ?hd (cs := #[.int .i64 a0_0, .int .i64 a0_1, .int .i64 a0_2, .int .i64 a0_3, .int .u64 a0_4, .int .i64 a0_5, .int .i64 a0_6, .int .i64 a0_7, .int .i64 a0_8, .int .u64 a0_9, .int .i64 a0_10, .int .i64 a0_11, .int .i64 a0_12, .int .i64 a0_13, .int .i64 a0_14, .int .i64 a0_15, .int .i64 a0_16, .int .u64 a0_17, .int .i64 a0_18, .int .i64 a0_19, .int .i64 a0_20, .int .i64 a0_21, .int .i64 a0_22]) (t := 28) ?hr ?_; (case hd => rfl); (case hg => rfl); (case hr => first | (go_simp; done) | (go_simp; rfl)); intro gb157 hg w13 hbox hb; have n0_ := Aside0.mk (below_step (by repeat (first | (with_reducible first | exact HB.out | apply below_alloc | apply pw_below_drewN | apply below_drew1) | exact HB.out)) hb); have n1_ := Aside0.mk (hbox); have n2_ := Aside0.mk ((by rw [hg]; exact (below_size (by repeat (first | (with_reducible first | exact HB.out | apply below_alloc | apply pw_below_drewN | apply below_drew1) | exact HB.out))) : w.heap.size ≤ gb157)); have n3_ := Aside0.mk ((by rw [hg]; exact (below_size (by repeat (first | (with_reducible first | exact HB.out | apply below_alloc | apply pw_below_drewN | apply below_drew1) | exact HB.out))) : w.heap.size ≤ gb157)); clear HB; have HB := n0_; have BK157 := n1_; have GW157 := n2_; have GE157 := n3_; clear n0_ n1_ n2_ n3_; clear hb hbox hg; have hcz14_0 : w13.cell? ⟨gb157, 0, none⟩ = some (.int .i64 a0_0) := (blk_cell BK157.out 0).trans rfl; have hcz14_1 : w13.cell? ⟨gb157, 1, none⟩ = some (.int .i64 a0_1) := (blk_cell BK157.out 1).trans rfl; have hcz14_2 : w13.cell? ⟨gb157, 2, none⟩ = some (.int .i64 a0_2) := (blk_cell BK157.out 2).trans rfl; have hcz14_3 : w13.cell? ⟨gb157, 3, none⟩ = some (.int .i64 a0_3) := (blk_cell BK157.out 3).trans rfl; have hcz14_4 : w13.cell? ⟨gb157, 4, none⟩ = some (.int .u64 a0_4) := (blk_cell BK157.out 4).trans rfl; have hcz14_5 : w13.cell? ⟨gb157, 5, none⟩ = some (.int .i64 a0_5) := (blk_cell BK157.out 5).trans rfl; have hcz14_6 : w13.cell? ⟨gb157, 6, none⟩ = some (.int .i64 a0_6) := (blk_cell BK157.out 6).trans rfl; have hcz14_7 : w13.cell? ⟨gb157, 7, none⟩ = some (.int .i64 a0_7) := (blk_cell BK157.out 7).trans rfl; have hcz14_8 : w13.cell? ⟨gb157, 8, none⟩ = some (.int .i64 a0_8) := (blk_cell BK157.out 8).trans rfl; have hcz14_9 : w13.cell? ⟨gb157, 9, none⟩ = some (.int .u64 a0_9) := (blk_cell BK157.out 9).trans rfl; have hcz14_10 : w13.cell? ⟨gb157, 10, none⟩ = some (.int .i64 a0_10) := (blk_cell BK157.out 10).trans rfl; have hcz14_11 : w13.cell? ⟨gb157, 11, none⟩ = some (.int .i64 a0_11) := (blk_cell BK157.out 11).trans rfl; have hcz14_12 : w13.cell? ⟨gb157, 12, none⟩ = some (.int .i64 a0_12) := (blk_cell BK157.out 12).trans rfl; have hcz14_13 : w13.cell? ⟨gb157, 13, none⟩ = some (.int .i64 a0_13) := (blk_cell BK157.out 13).trans rfl; have hcz14_14 : w13.cell? ⟨gb157, 14, none⟩ = some (.int .i64 a0_14) := (blk_cell BK157.out 14).trans rfl; have hcz14_15 : w13.cell? ⟨gb157, 15, none⟩ = some (.int .i64 a0_15) := (blk_cell BK157.out 15).trans rfl; have hcz14_16 : w13.cell? ⟨gb157, 16, none⟩ = some (.int .i64 a0_16) := (blk_cell BK157.out 16).trans rfl; have hcz14_17 : w13.cell? ⟨gb157, 17, none⟩ = some (.int .u64 a0_17) := (blk_cell BK157.out 17).trans rfl; have hcz14_18 : w13.cell? ⟨gb157, 18, none⟩ = some (.int .i64 a0_18) := (blk_cell BK157.out 18).trans rfl; have hcz14_19 : w13.cell? ⟨gb157, 19, none⟩ = some (.int .i64 a0_19) := (blk_cell BK157.out 19).trans rfl; have hcz14_20 : w13.cell? ⟨gb157, 20, none⟩ = some (.int .i64 a0_20) := (blk_cell BK157.out 20).trans rfl; have hcz14_21 : w13.cell? ⟨gb157, 21, none⟩ = some (.int .i64 a0_21) := (blk_cell BK157.out 21).trans rfl; have hcz14_22 : w13.cell? ⟨gb157, 22, none⟩ = some (.int .i64 a0_22) := (blk_cell BK157.out 22).trans rfl; have hfz14_0 := blk_frozen BK157.out 0; have hfz14_1 := blk_frozen BK157.out 1; have hfz14_2 := blk_frozen BK157.out 2; have hfz14_3 := blk_frozen BK157.out 3; have hfz14_4 := blk_frozen BK157.out 4; have hfz14_5 := blk_frozen BK157.out 5; have hfz14_6 := blk_frozen BK157.out 6; have hfz14_7 := blk_frozen BK157.out 7; have hfz14_8 := blk_frozen BK157.out 8; have hfz14_9 := blk_frozen BK157.out 9; have hfz14_10 := blk_frozen BK157.out 10; have hfz14_11 := blk_frozen BK157.out 11; have hfz14_12 := blk_frozen BK157.out 12; have hfz14_13 := blk_frozen BK157.out 13; have hfz14_14 := blk_frozen BK157.out 14; have hfz14_15 := blk_frozen BK157.out 15; have hfz14_16 := blk_frozen BK157.out 16; have hfz14_17 := blk_frozen BK157.out 17; have hfz14_18 := blk_frozen BK157.out 18; have hfz14_19 := blk_frozen BK157.out 19; have hfz14_20 := blk_frozen BK157.out 20; have hfz14_21 := blk_frozen BK157.out 21; have hfz14_22 := blk_frozen BK157.out 22) | ((with_reducible refine gate_callee (f := 15) rfl ?_); refine goesL_ (some 5) rfl rfl Try.func15 (by kernel_rfl) rfl #[.int .i64 a0_0] rfl (by (try simp only [List.map_toArray, List.map_cons, List.map_nil]); first | done | rfl | (simp only [List.length_drop, List.length_take]; rfl)) ?_; (with_reducible refine (carillonref06_Known.calls a0_0 true _ A2.out).mono ?_); rintro e w' ⟨rfl, ⟨nd, rfl⟩⟩; refine ⟨_, rfl, ?_⟩) | (go_at_call 28; (with_reducible refine (carillonref05_In.calls a0_1 0 255 true _ A4.out).mono ?_); rintro e w' ⟨rfl, ⟨nd, rfl⟩⟩) | (go_at_call 28; (with_reducible refine (carillonref05_In.calls a0_2 0 65535 true _ A6.out).mono ?_); rintro e w' ⟨rfl, ⟨nd, rfl⟩⟩) | (go_at_call 29; (with_reducible refine (carillonref04_May.calls a0_4 a0_5 true _ A8.out).mono ?_); rintro e w15 ⟨rfl, hb⟩; have n0_ := Aside0.mk (blk_below (g := gb157) (o := .cells #[.int .i64 a0_0, .int .i64 a0_1, .int .i64 a0_2, .int .i64 a0_3, .int .u64 a0_4, .int .i64 a0_5, .int .i64 a0_6, .int .i64 a0_7, .int .i64 a0_8, .int .u64 a0_9, .int .i64 a0_10, .int .i64 a0_11, .int .i64 a0_12, .int .i64 a0_13, .int .i64 a0_14, .int .i64 a0_15, .int .i64 a0_16, .int .u64 a0_17, .int .i64 a0_18, .int .i64 a0_19, .int .i64 a0_20, .int .i64 a0_21, .int .i64 a0_22] 28 (0, 0)) (by (with_reducible repeat (first | refine blk_drewN ?_ _ | refine blk_drew ?_ | refine blk_alloc ?_ _)); exact BK157.out) hb); have n1_ := Aside0.mk (below_step (by repeat (first | (with_reducible first | exact HB.out | apply below_alloc | apply pw_below_drewN | apply below_drew1 | refine below_set ?_ GE157.out) | exact HB.out)) hb); clear BK157; clear HB; have BK157 := n0_; have HB := n1_; clear n0_ n1_; (try clear hb); (try clear hb2); (try clear hk); (try clear hi); have hcz16_0 : w15.cell? ⟨gb157, 0, none⟩ = some (.int .i64 a0_0) := (blk_cell BK157.out 0).trans rfl; have hcz16_1 : w15.cell? ⟨gb157, 1, none⟩ = some (.int .i64 a0_1) := (blk_cell BK157.out 1).trans rfl; have hcz16_2 : w15.cell? ⟨gb157, 2, none⟩ = some (.int .i64 a0_2) := (blk_cell BK157.out 2).trans rfl; have hcz16_3 : w15.cell? ⟨gb157, 3, none⟩ = some (.int .i64 a0_3) := (blk_cell BK157.out 3).trans rfl; have hcz16_4 : w15.cell? ⟨gb157, 4, none⟩ = some (.int .u64 a0_4) := (blk_cell BK157.out 4).trans rfl; have hcz16_5 : w15.cell? ⟨gb157, 5, none⟩ = some (.int .i64 a0_5) := (blk_cell BK157.out 5).trans rfl; have hcz16_6 : w15.cell? ⟨gb157, 6, none⟩ = some (.int .i64 a0_6) := (blk_cell BK157.out 6).trans rfl; have hcz16_7 : w15.cell? ⟨gb157, 7, none⟩ = some (.int .i64 a0_7) := (blk_cell BK157.out 7).trans rfl; have hcz16_8 : w15.cell? ⟨gb157, 8, none⟩ = some (.int .i64 a0_8) := (blk_cell BK157.out 8).trans rfl; have hcz16_9 : w15.cell? ⟨gb157, 9, none⟩ = some (.int .u64 a0_9) := (blk_cell BK157.out 9).trans rfl; have hcz16_10 : w15.cell? ⟨gb157, 10, none⟩ = some (.int .i64 a0_10) := (blk_cell BK157.out 10).trans rfl; have hcz16_11 : w15.cell? ⟨gb157, 11, none⟩ = some (.int .i64 a0_11) := (blk_cell BK157.out 11).trans rfl; have hcz16_12 : w15.cell? ⟨gb157, 12, none⟩ = some (.int .i64 a0_12) := (blk_cell BK157.out 12).trans rfl; have hcz16_13 : w15.cell? ⟨gb157, 13, none⟩ = some (.int .i64 a0_13) := (blk_cell BK157.out 13).trans rfl; have hcz16_14 : w15.cell? ⟨gb157, 14, none⟩ = some (.int .i64 a0_14) := (blk_cell BK157.out 14).trans rfl; have hcz16_15 : w15.cell? ⟨gb157, 15, none⟩ = some (.int .i64 a0_15) := (blk_cell BK157.out 15).trans rfl; have hcz16_16 : w15.cell? ⟨gb157, 16, none⟩ = some (.int .i64 a0_16) := (blk_cell BK157.out 16).trans rfl; have hcz16_17 : w15.cell? ⟨gb157, 17, none⟩ = some (.int .u64 a0_17) := (blk_cell BK157.out 17).trans rfl; have hcz16_18 : w15.cell? ⟨gb157, 18, none⟩ = some (.int .i64 a0_18) := (blk_cell BK157.out 18).trans rfl; have hcz16_19 : w15.cell? ⟨gb157, 19, none⟩ = some (.int .i64 a0_19) := (blk_cell BK157.out 19).trans rfl; have hcz16_20 : w15.cell? ⟨gb157, 20, none⟩ = some (.int .i64 a0_20) := (blk_cell BK157.out 20).trans rfl; have hcz16_21 : w15.cell? ⟨gb157, 21, none⟩ = some (.int .i64 a0_21) := (blk_cell BK157.out 21).trans rfl; have hcz16_22 : w15.cell? ⟨gb157, 22, none⟩ = some (.int .i64 a0_22) := (blk_cell BK157.out 22).trans rfl; have hfz16_0 := blk_frozen BK157.out 0; have hfz16_1 := blk_frozen BK157.out 1; have hfz16_2 := blk_frozen BK157.out 2; have hfz16_3 := blk_frozen BK157.out 3; have hfz16_4 := blk_frozen BK157.out 4; have hfz16_5 := blk_frozen BK157.out 5; have hfz16_6 := blk_frozen BK157.out 6; have hfz16_7 := blk_frozen BK157.out 7; have hfz16_8 := blk_frozen BK157.out 8; have hfz16_9 := blk_frozen BK157.out 9; have hfz16_10 := blk_frozen BK157.out 10; have hfz16_11 := blk_frozen BK157.out 11; have hfz16_12 := blk_frozen BK157.out 12; have hfz16_13 := blk_frozen BK157.out 13; have hfz16_14 := blk_frozen BK157.out 14; have hfz16_15 := blk_frozen BK157.out 15; have hfz16_16 := blk_frozen BK157.out 16; have hfz16_17 := blk_frozen BK157.out 17; have hfz16_18 := blk_frozen BK157.out 18; have hfz16_19 := blk_frozen BK157.out 19; have hfz16_20 := blk_frozen BK157.out 20; have hfz16_21 := blk_frozen BK157.out 21; have hfz16_22 := blk_frozen BK157.out 22) | (go_at_call 28; (with_reducible refine (carillonref05_In.calls a0_6 0 65535 true _ A10.out).mono ?_); rintro e w' ⟨rfl, ⟨nd, rfl⟩⟩) | (go_at_call 28; (with_reducible refine (carillonref05_In.calls a0_7 (-128) 127 t163 _ A12.out).mono ?_); rintro e w' ⟨rfl, ⟨nd, rfl⟩⟩))
            all_goals
              go_ret
              exact ⟨by first | rfl | (simp [errW_none, errW_some] <;> rfl) | (simp [*, errW_none, errW_some] <;> rfl), by repeat (first | (with_reducible first | exact HB.out | apply below_alloc | apply pw_below_drewN | apply below_drew1 | refine below_set ?_ GE157.out) | exact HB.out)⟩
          · replace c11 := Bool.eq_false_iff.mpr c11
            subst c11
            have H1 : (some false) = some r := by rw [if_neg (show ¬ (false = true) by decide)] at H; exact H
            clear H
            have H := H1
            clear H1
            obtain rfl := Option.some.inj H
            go_enter Try.func13, Try.ntmps13
            go_wp2_with (first | (refine big_load (g := gb157) (t := 28) (fr := (0, 0)) (n := 23) (cs := ?_) rfl rfl Try.underlying28 (by kernel_rfl) rfl ?lg ?ln ?_; (case lg => (with_reducible repeat (first | refine blk_drewN ?_ _ | refine blk_drew ?_ | refine blk_alloc ?_ _)); exact BK157.out); (case ln => rfl)) | ((with_reducible refine gate_dst (N := 1) rfl ?_); refine box_event ?hg (N := 1) ?hd (cs := #[.int .i64 a0_0, .int .i64 a0_1, .int .i64 a0_2, .int .i64 a0_3, .int .u64 a0_4, .int .i64 a0_5, .int .i64 a0_6, .int .i64 a0_7, .int .i64 a0_8, .int .u64 a0_9, .int .i64 a0_10, .int .i64 a0_11, .int .i64 a0_12, .int .i64 a0_13, .int .i64 a0_14, .int .i64 a0_15, .int .i64 a0_16, .int .u64 a0_17, .int .i64 a0_18, .int .i64 a0_19, .int .i64 a0_20, .int .i64 a0_21, .int .i64 a0_22]) (t := 28) ?hr ?_; (case hd => rfl); (case hg => rfl); (case hr => first | (go_simp; done) | (go_simp; rfl)); intro gb157 hg w17 hbox hb; have n0_ := Aside0.mk (below_step (by repeat (first | (with_reducible first | exact HB.out | apply below_alloc | apply pw_below_drewN | apply below_drew1) | exact HB.out)) hb); have n1_ := Aside0.mk (hbox); have n2_ := Aside0.mk ((by rw [hg]; exact (below_size (by repeat (first | (with_reducible first | exact HB.out | apply below_alloc | apply pw_below_drewN | apply below_drew1) | exact HB.out))) : w.heap.size ≤ gb157)); have n3_ := Aside0.mk ((by rw [hg]; exact (below_size (by repeat (first | (with_reducible first | exact HB.out | apply below_alloc | apply pw_below_drewN | apply below_drew1) | exact HB.out))) : w.heap.size ≤ gb157)); clear HB; have HB := n0_; have BK157 := n1_; have GW157 := n2_; have GE157 := n3_; clear n0_ n1_ n2_ n3_; clear hb hbox hg; have hcz18_0 : w17.cell? ⟨gb157, 0, none⟩ = some (.int .i64 a0_0) := (blk_cell BK157.out 0).trans rfl; have hcz18_1 : w17.cell? ⟨gb157, 1, none⟩ = some (.int .i64 a0_1) := (blk_cell BK157.out 1).trans rfl; have hcz18_2 : w17.cell? ⟨gb157, 2, none⟩ = some (.int .i64 a0_2) := (blk_cell BK157.out 2).trans rfl; have hcz18_3 : w17.cell? ⟨gb157, 3, none⟩ = some (.int .i64 a0_3) := (blk_cell BK157.out 3).trans rfl; have hcz18_4 : w17.cell? ⟨gb157, 4, none⟩ = some (.int .u64 a0_4) := (blk_cell BK157.out 4).trans rfl; have hcz18_5 : w17.cell? ⟨gb157, 5, none⟩ = some (.int .i64 a0_5) := (blk_cell BK157.out 5).trans rfl; have hcz18_6 : w17.cell? ⟨gb157, 6, none⟩ = some (.int .i64 a0_6) := (blk_cell BK157.out 6).trans rfl; have hcz18_7 : w17.cell? ⟨gb157, 7, none⟩ = some (.int .i64 a0_7) := (blk_cell BK157.out 7).trans rfl; have hcz18_8 : w17.cell? ⟨gb157, 8, none⟩ = some (.int .i64 a0_8) := (blk_cell BK157.out 8).trans rfl; have hcz18_9 : w17.cell? ⟨gb157, 9, none⟩ = some (.int .u64 a0_9) := (blk_cell BK157.out 9).trans rfl; have hcz18_10 : w17.cell? ⟨gb157, 10, none⟩ = some (.int .i64 a0_10) := (blk_cell BK157.out 10).trans rfl; have hcz18_11 : w17.cell? ⟨gb157, 11, none⟩ = some (.int .i64 a0_11) := (blk_cell BK157.out 11).trans rfl; have hcz18_12 : w17.cell? ⟨gb157, 12, none⟩ = some (.int .i64 a0_12) := (blk_cell BK157.out 12).trans rfl; have hcz18_13 : w17.cell? ⟨gb157, 13, none⟩ = some (.int .i64 a0_13) := (blk_cell BK157.out 13).trans rfl; have hcz18_14 : w17.cell? ⟨gb157, 14, none⟩ = some (.int .i64 a0_14) := (blk_cell BK157.out 14).trans rfl; have hcz18_15 : w17.cell? ⟨gb157, 15, none⟩ = some (.int .i64 a0_15) := (blk_cell BK157.out 15).trans rfl; have hcz18_16 : w17.cell? ⟨gb157, 16, none⟩ = some (.int .i64 a0_16) := (blk_cell BK157.out 16).trans rfl; have hcz18_17 : w17.cell? ⟨gb157, 17, none⟩ = some (.int .u64 a0_17) := (blk_cell BK157.out 17).trans rfl; have hcz18_18 : w17.cell? ⟨gb157, 18, none⟩ = some (.int .i64 a0_18) := (blk_cell BK157.out 18).trans rfl; have hcz18_19 : w17.cell? ⟨gb157, 19, none⟩ = some (.int .i64 a0_19) := (blk_cell BK157.out 19).trans rfl; have hcz18_20 : w17.cell? ⟨gb157, 20, none⟩ = some (.int .i64 a0_20) := (blk_cell BK157.out 20).trans rfl; have hcz18_21 : w17.cell? ⟨gb157, 21, none⟩ = some (.int .i64 a0_21) := (blk_cell BK157.out 21).trans rfl; have hcz18_22 : w17.cell? ⟨gb157, 22, none⟩ = some (.int .i64 a0_22) := (blk_cell BK157.out 22).trans rfl; have hfz18_0 := blk_frozen BK157.out 0; have hfz18_1 := blk_frozen BK157.out 1; have hfz18_2 := blk_frozen BK157.out 2; have hfz18_3 := blk_frozen BK157.out 3; have hfz18_4 := blk_frozen BK157.out 4; have hfz18_5 := blk_frozen BK157.out 5; have hfz18_6 := blk_frozen BK157.out 6; have hfz18_7 := blk_frozen BK157.out 7; have hfz18_8 := blk_frozen BK157.out 8; have hfz18_9 := blk_frozen BK157.out 9; have hfz18_10 := blk_frozen BK157.out 10; have hfz18_11 := blk_frozen BK157.out 11; have hfz18_12 := blk_frozen BK157.out 12; have hfz18_13 := blk_frozen BK157.out 13; have hfz18_14 := blk_frozen BK157.out 14; have hfz18_15 := blk_frozen BK157.out 15; have hfz18_16 := blk_frozen BK157.out 16; have hfz18_17 := blk_frozen BK157.out 17; have hfz18_18 := blk_frozen BK157.out 18; have hfz18_19 := blk_frozen BK157.out 19; have hfz18_20 := blk_frozen BK157.out 20; have hfz18_21 := blk_frozen BK157.out 21; have hfz18_22 := blk_frozen BK157.out 22) | ((with_reducible refine gate_callee (f := 15) rfl ?_); refine goesL_ (some 5) rfl rfl Try.func15 (by kernel_rfl) rfl #[.int .i64 a0_0] rfl (by (try simp only [List.map_toArray, List.map_cons, List.map_nil]); first | done | rfl | (simp only [List.length_drop, List.length_take]; rfl)) ?_; (with_reducible refine (carillonref06_Known.calls a0_0 true _ A2.out).mono ?_); rintro e w' ⟨rfl, ⟨nd, rfl⟩⟩; refine ⟨_, rfl, ?_⟩) | (go_at_call 28; (with_reducible refine (carillonref05_In.calls a0_1 0 255 true _ A4.out).mono ?_); rintro e w' ⟨rfl, ⟨nd, rfl⟩⟩) | (go_at_call 28; (with_reducible refine (carillonref05_In.calls a0_2 0 65535 true _ A6.out).mono ?_); rintro e w' ⟨rfl, ⟨nd, rfl⟩⟩) | (go_at_call 29; (with_reducible refine (carillonref04_May.calls a0_4 a0_5 true _ A8.out).mono ?_); rintro e w19 ⟨rfl, hb⟩; have n0_ := Aside0.mk (blk_below (g := gb157) (o := .cells #[.int .i64 a0_0, .int .i64 a0_1, .int .i64 a0_2, .int .i64 a0_3, .int .u64 a0_4, .int .i64 a0_5, .int .i64 a0_6, .int .i64 a0_7, .int .i64 a0_8, .int .u64 a0_9, .int .i64 a0_10, .int .i64 a0_11, .int .i64 a0_12, .int .i64 a0_13, .int .i64 a0_14, .int .i64 a0_15, .int .i64 a0_16, .int .u64 a0_17, .int .i64 a0_18, .int .i64 a0_19, .int .i64 a0_20, .int .i64 a0_21, .int .i64 a0_22] 28 (0, 0)) (by (with_reducible repeat (first | refine blk_drewN ?_ _ | refine blk_drew ?_ | refine blk_alloc ?_ _)); exact BK157.out) hb); have n1_ := Aside0.mk (below_step (by repeat (first | (with_reducible first | exact HB.out | apply below_alloc | apply pw_below_drewN | apply below_drew1 | refine below_set ?_ GE157.out) | exact HB.out)) hb); clear BK157; clear HB; have BK157 := n0_; have HB := n1_; clear n0_ n1_; (try clear hb); (try clear hb2); (try clear hk); (try clear hi); have hcz20_0 : w19.cell? ⟨gb157, 0, none⟩ = some (.int .i64 a0_0) := (blk_cell BK157.out 0).trans rfl; have hcz20_1 : w19.cell? ⟨gb157, 1, none⟩ = some (.int .i64 a0_1) := (blk_cell BK157.out 1).trans rfl; have hcz20_2 : w19.cell? ⟨gb157, 2, none⟩ = some (.int .i64 a0_2) := (blk_cell BK157.out 2).trans rfl; have hcz20_3 : w19.cell? ⟨gb157, 3, none⟩ = some (.int .i64 a0_3) := (blk_cell BK157.out 3).trans rfl; have hcz20_4 : w19.cell? ⟨gb157, 4, none⟩ = some (.int .u64 a0_4) := (blk_cell BK157.out 4).trans rfl; have hcz20_5 : w19.cell? ⟨gb157, 5, none⟩ = some (.int .i64 a0_5) := (blk_cell BK157.out 5).trans rfl; have hcz20_6 : w19.cell? ⟨gb157, 6, none⟩ = some (.int .i64 a0_6) := (blk_cell BK157.out 6).trans rfl; have hcz20_7 : w19.cell? ⟨gb157, 7, none⟩ = some (.int .i64 a0_7) := (blk_cell BK157.out 7).trans rfl; have hcz20_8 : w19.cell? ⟨gb157, 8, none⟩ = some (.int .i64 a0_8) := (blk_cell BK157.out 8).trans rfl; have hcz20_9 : w19.cell? ⟨gb157, 9, none⟩ = some (.int .u64 a0_9) := (blk_cell BK157.out 9).trans rfl; have hcz20_10 : w19.cell? ⟨gb157, 10, none⟩ = some (.int .i64 a0_10) := (blk_cell BK157.out 10).trans rfl; have hcz20_11 : w19.cell? ⟨gb157, 11, none⟩ = some (.int .i64 a0_11) := (blk_cell BK157.out 11).trans rfl; have hcz20_12 : w19.cell? ⟨gb157, 12, none⟩ = some (.int .i64 a0_12) := (blk_cell BK157.out 12).trans rfl; have hcz20_13 : w19.cell? ⟨gb157, 13, none⟩ = some (.int .i64 a0_13) := (blk_cell BK157.out 13).trans rfl; have hcz20_14 : w19.cell? ⟨gb157, 14, none⟩ = some (.int .i64 a0_14) := (blk_cell BK157.out 14).trans rfl; have hcz20_15 : w19.cell? ⟨gb157, 15, none⟩ = some (.int .i64 a0_15) := (blk_cell BK157.out 15).trans rfl; have hcz20_16 : w19.cell? ⟨gb157, 16, none⟩ = some (.int .i64 a0_16) := (blk_cell BK157.out 16).trans rfl; have hcz20_17 : w19.cell? ⟨gb157, 17, none⟩ = some (.int .u64 a0_17) := (blk_cell BK157.out 17).trans rfl; have hcz20_18 : w19.cell? ⟨gb157, 18, none⟩ = some (.int .i64 a0_18) := (blk_cell BK157.out 18).trans rfl; have hcz20_19 : w19.cell? ⟨gb157, 19, none⟩ = some (.int .i64 a0_19) := (blk_cell BK157.out 19).trans rfl; have hcz20_20 : w19.cell? ⟨gb157, 20, none⟩ = some (.int .i64 a0_20) := (blk_cell BK157.out 20).trans rfl; have hcz20_21 : w19.cell? ⟨gb157, 21, none⟩ = some (.int .i64 a0_21) := (blk_cell BK157.out 21).trans rfl; have hcz20_22 : w19.cell? ⟨gb157, 22, none⟩ = some (.int .i64 a0_22) := (blk_cell BK157.out 22).trans rfl; have hfz20_0 := blk_frozen BK157.out 0; have hfz20_1 := blk_frozen BK157.out 1; have hfz20_2 := blk_frozen BK157.out 2; have hfz20_3 := blk_frozen BK157.out 3; have hfz20_4 := blk_frozen BK157.out 4; have hfz20_5 := blk_frozen BK157.out 5; have hfz20_6 := blk_frozen BK157.out 6; have hfz20_7 := blk_frozen BK157.out 7; have hfz20_8 := blk_frozen BK157.out 8; have hfz20_9 := blk_frozen BK157.out 9; have hfz20_10 := blk_frozen BK157.out 10; have hfz20_11 := blk_frozen BK157.out 11; have hfz20_12 := blk_frozen BK157.out 12; have hfz20_13 := blk_frozen BK157.out 13; have hfz20_14 := blk_frozen BK157.out 14; have hfz20_15 := blk_frozen BK157.out 15; have hfz20_16 := blk_frozen BK157.out 16; have hfz20_17 := blk_frozen BK157.out 17; have hfz20_18 := blk_frozen BK157.out 18; have hfz20_19 := blk_frozen BK157.out 19; have hfz20_20 := blk_frozen BK157.out 20; have hfz20_21 := blk_frozen BK157.out 21; have hfz20_22 := blk_frozen BK157.out 22) | (go_at_call 28; (with_reducible refine (carillonref05_In.calls a0_6 0 65535 false _ A10.out).mono ?_); rintro e w' ⟨rfl, ⟨nd, rfl⟩⟩))
            all_goals
              go_ret
              exact ⟨by first | rfl | (simp [errW_none, errW_some] <;> rfl) | (simp [*, errW_none, errW_some] <;> rfl), by repeat (first | (with_reducible first | exact HB.out | apply below_alloc | apply pw_below_drewN | apply below_drew1 | refine below_set ?_ GE157.out) | exact HB.out)⟩
        · replace c9 := Bool.eq_false_iff.mpr c9
          subst c9
          have H1 : (some false) = some r := by rw [if_neg (show ¬ (false = true) by decide)] at H; exact H
          clear H
          have H := H1
          clear H1
          obtain rfl := Option.some.inj H
          go_enter Try.func13, Try.ntmps13
          go_wp2_with (first | (refine big_load (g := gb157) (t := 28) (fr := (0, 0)) (n := 23) (cs := ?_) rfl rfl Try.underlying28 (by kernel_rfl) rfl ?lg ?ln ?_; (case lg => (with_reducible repeat (first | refine blk_drewN ?_ _ | refine blk_drew ?_ | refine blk_alloc ?_ _)); exact BK157.out); (case ln => rfl)) | ((with_reducible refine gate_dst (N := 1) rfl ?_); refine box_event ?hg (N := 1) ?hd (cs := #[.int .i64 a0_0, .int .i64 a0_1, .int .i64 a0_2, .int .i64 a0_3, .int .u64 a0_4, .int .i64 a0_5, .int .i64 a0_6, .int .i64 a0_7, .int .i64 a0_8, .int .u64 a0_9, .int .i64 a0_10, .int .i64 a0_11, .int .i64 a0_12, .int .i64 a0_13, .int .i64 a0_14, .int .i64 a0_15, .int .i64 a0_16, .int .u64 a0_17, .int .i64 a0_18, .int .i64 a0_19, .int .i64 a0_20, .int .i64 a0_21, .int .i64 a0_22]) (t := 28) ?hr ?_; (case hd => rfl); (case hg => rfl); (case hr => first | (go_simp; done) | (go_simp; rfl)); intro gb157 hg w21 hbox hb; have n0_ := Aside0.mk (below_step (by repeat (first | (with_reducible first | exact HB.out | apply below_alloc | apply pw_below_drewN | apply below_drew1) | exact HB.out)) hb); have n1_ := Aside0.mk (hbox); have n2_ := Aside0.mk ((by rw [hg]; exact (below_size (by repeat (first | (with_reducible first | exact HB.out | apply below_alloc | apply pw_below_drewN | apply below_drew1) | exact HB.out))) : w.heap.size ≤ gb157)); have n3_ := Aside0.mk ((by rw [hg]; exact (below_size (by repeat (first | (with_reducible first | exact HB.out | apply below_alloc | apply pw_below_drewN | apply below_drew1) | exact HB.out))) : w.heap.size ≤ gb157)); clear HB; have HB := n0_; have BK157 := n1_; have GW157 := n2_; have GE157 := n3_; clear n0_ n1_ n2_ n3_; clear hb hbox hg; have hcz22_0 : w21.cell? ⟨gb157, 0, none⟩ = some (.int .i64 a0_0) := (blk_cell BK157.out 0).trans rfl; have hcz22_1 : w21.cell? ⟨gb157, 1, none⟩ = some (.int .i64 a0_1) := (blk_cell BK157.out 1).trans rfl; have hcz22_2 : w21.cell? ⟨gb157, 2, none⟩ = some (.int .i64 a0_2) := (blk_cell BK157.out 2).trans rfl; have hcz22_3 : w21.cell? ⟨gb157, 3, none⟩ = some (.int .i64 a0_3) := (blk_cell BK157.out 3).trans rfl; have hcz22_4 : w21.cell? ⟨gb157, 4, none⟩ = some (.int .u64 a0_4) := (blk_cell BK157.out 4).trans rfl; have hcz22_5 : w21.cell? ⟨gb157, 5, none⟩ = some (.int .i64 a0_5) := (blk_cell BK157.out 5).trans rfl; have hcz22_6 : w21.cell? ⟨gb157, 6, none⟩ = some (.int .i64 a0_6) := (blk_cell BK157.out 6).trans rfl; have hcz22_7 : w21.cell? ⟨gb157, 7, none⟩ = some (.int .i64 a0_7) := (blk_cell BK157.out 7).trans rfl; have hcz22_8 : w21.cell? ⟨gb157, 8, none⟩ = some (.int .i64 a0_8) := (blk_cell BK157.out 8).trans rfl; have hcz22_9 : w21.cell? ⟨gb157, 9, none⟩ = some (.int .u64 a0_9) := (blk_cell BK157.out 9).trans rfl; have hcz22_10 : w21.cell? ⟨gb157, 10, none⟩ = some (.int .i64 a0_10) := (blk_cell BK157.out 10).trans rfl; have hcz22_11 : w21.cell? ⟨gb157, 11, none⟩ = some (.int .i64 a0_11) := (blk_cell BK157.out 11).trans rfl; have hcz22_12 : w21.cell? ⟨gb157, 12, none⟩ = some (.int .i64 a0_12) := (blk_cell BK157.out 12).trans rfl; have hcz22_13 : w21.cell? ⟨gb157, 13, none⟩ = some (.int .i64 a0_13) := (blk_cell BK157.out 13).trans rfl; have hcz22_14 : w21.cell? ⟨gb157, 14, none⟩ = some (.int .i64 a0_14) := (blk_cell BK157.out 14).trans rfl; have hcz22_15 : w21.cell? ⟨gb157, 15, none⟩ = some (.int .i64 a0_15) := (blk_cell BK157.out 15).trans rfl; have hcz22_16 : w21.cell? ⟨gb157, 16, none⟩ = some (.int .i64 a0_16) := (blk_cell BK157.out 16).trans rfl; have hcz22_17 : w21.cell? ⟨gb157, 17, none⟩ = some (.int .u64 a0_17) := (blk_cell BK157.out 17).trans rfl; have hcz22_18 : w21.cell? ⟨gb157, 18, none⟩ = some (.int .i64 a0_18) := (blk_cell BK157.out 18).trans rfl; have hcz22_19 : w21.cell? ⟨gb157, 19, none⟩ = some (.int .i64 a0_19) := (blk_cell BK157.out 19).trans rfl; have hcz22_20 : w21.cell? ⟨gb157, 20, none⟩ = some (.int .i64 a0_20) := (blk_cell BK157.out 20).trans rfl; have hcz22_21 : w21.cell? ⟨gb157, 21, none⟩ = some (.int .i64 a0_21) := (blk_cell BK157.out 21).trans rfl; have hcz22_22 : w21.cell? ⟨gb157, 22, none⟩ = some (.int .i64 a0_22) := (blk_cell BK157.out 22).trans rfl; have hfz22_0 := blk_frozen BK157.out 0; have hfz22_1 := blk_frozen BK157.out 1; have hfz22_2 := blk_frozen BK157.out 2; have hfz22_3 := blk_frozen BK157.out 3; have hfz22_4 := blk_frozen BK157.out 4; have hfz22_5 := blk_frozen BK157.out 5; have hfz22_6 := blk_frozen BK157.out 6; have hfz22_7 := blk_frozen BK157.out 7; have hfz22_8 := blk_frozen BK157.out 8; have hfz22_9 := blk_frozen BK157.out 9; have hfz22_10 := blk_frozen BK157.out 10; have hfz22_11 := blk_frozen BK157.out 11; have hfz22_12 := blk_frozen BK157.out 12; have hfz22_13 := blk_frozen BK157.out 13; have hfz22_14 := blk_frozen BK157.out 14; have hfz22_15 := blk_frozen BK157.out 15; have hfz22_16 := blk_frozen BK157.out 16; have hfz22_17 := blk_frozen BK157.out 17; have hfz22_18 := blk_frozen BK157.out 18; have hfz22_19 := blk_frozen BK157.out 19; have hfz22_20 := blk_frozen BK157.out 20; have hfz22_21 := blk_frozen BK157.out 21; have hfz22_22 := blk_frozen BK157.out 22) | ((with_reducible refine gate_callee (f := 15) rfl ?_); refine goesL_ (some 5) rfl rfl Try.func15 (by kernel_rfl) rfl #[.int .i64 a0_0] rfl (by (try simp only [List.map_toArray, List.map_cons, List.map_nil]); first | done | rfl | (simp only [List.length_drop, List.length_take]; rfl)) ?_; (with_reducible refine (carillonref06_Known.calls a0_0 true _ A2.out).mono ?_); rintro e w' ⟨rfl, ⟨nd, rfl⟩⟩; refine ⟨_, rfl, ?_⟩) | (go_at_call 28; (with_reducible refine (carillonref05_In.calls a0_1 0 255 true _ A4.out).mono ?_); rintro e w' ⟨rfl, ⟨nd, rfl⟩⟩) | (go_at_call 28; (with_reducible refine (carillonref05_In.calls a0_2 0 65535 true _ A6.out).mono ?_); rintro e w' ⟨rfl, ⟨nd, rfl⟩⟩) | (go_at_call 29; (with_reducible refine (carillonref04_May.calls a0_4 a0_5 false _ A8.out).mono ?_); rintro e w23 ⟨rfl, hb⟩; have n0_ := Aside0.mk (blk_below (g := gb157) (o := .cells #[.int .i64 a0_0, .int .i64 a0_1, .int .i64 a0_2, .int .i64 a0_3, .int .u64 a0_4, .int .i64 a0_5, .int .i64 a0_6, .int .i64 a0_7, .int .i64 a0_8, .int .u64 a0_9, .int .i64 a0_10, .int .i64 a0_11, .int .i64 a0_12, .int .i64 a0_13, .int .i64 a0_14, .int .i64 a0_15, .int .i64 a0_16, .int .u64 a0_17, .int .i64 a0_18, .int .i64 a0_19, .int .i64 a0_20, .int .i64 a0_21, .int .i64 a0_22] 28 (0, 0)) (by (with_reducible repeat (first | refine blk_drewN ?_ _ | refine blk_drew ?_ | refine blk_alloc ?_ _)); exact BK157.out) hb); have n1_ := Aside0.mk (below_step (by repeat (first | (with_reducible first | exact HB.out | apply below_alloc | apply pw_below_drewN | apply below_drew1 | refine below_set ?_ GE157.out) | exact HB.out)) hb); clear BK157; clear HB; have BK157 := n0_; have HB := n1_; clear n0_ n1_; (try clear hb); (try clear hb2); (try clear hk); (try clear hi)))
          all_goals
            go_ret
            exact ⟨by first | rfl | (simp [errW_none, errW_some] <;> rfl) | (simp [*, errW_none, errW_some] <;> rfl), by repeat (first | (with_reducible first | exact HB.out | apply below_alloc | apply pw_below_drewN | apply below_drew1 | refine below_set ?_ GE157.out) | exact HB.out)⟩
      · replace c7 := Bool.eq_false_iff.mpr c7
        subst c7
        have H1 : (some false) = some r := by rw [if_neg (show ¬ (false = true) by decide)] at H; exact H
        clear H
        have H := H1
        clear H1
        obtain rfl := Option.some.inj H
        go_enter Try.func13, Try.ntmps13
        go_wp2_with (first | (refine big_load (g := gb157) (t := 28) (fr := (0, 0)) (n := 23) (cs := ?_) rfl rfl Try.underlying28 (by kernel_rfl) rfl ?lg ?ln ?_; (case lg => (with_reducible repeat (first | refine blk_drewN ?_ _ | refine blk_drew ?_ | refine blk_alloc ?_ _)); exact BK157.out); (case ln => rfl)) | ((with_reducible refine gate_dst (N := 1) rfl ?_); refine box_event ?hg (N := 1) ?hd (cs := #[.int .i64 a0_0, .int .i64 a0_1, .int .i64 a0_2, .int .i64 a0_3, .int .u64 a0_4, .int .i64 a0_5, .int .i64 a0_6, .int .i64 a0_7, .int .i64 a0_8, .int .u64 a0_9, .int .i64 a0_10, .int .i64 a0_11, .int .i64 a0_12, .int .i64 a0_13, .int .i64 a0_14, .int .i64 a0_15, .int .i64 a0_16, .int .u64 a0_17, .int .i64 a0_18, .int .i64 a0_19, .int .i64 a0_20, .int .i64 a0_21, .int .i64 a0_22]) (t := 28) ?hr ?_; (case hd => rfl); (case hg => rfl); (case hr => first | (go_simp; done) | (go_simp; rfl)); intro gb157 hg w24 hbox hb; have n0_ := Aside0.mk (below_step (by repeat (first | (with_reducible first | exact HB.out | apply below_alloc | apply pw_below_drewN | apply below_drew1) | exact HB.out)) hb); have n1_ := Aside0.mk (hbox); have n2_ := Aside0.mk ((by rw [hg]; exact (below_size (by repeat (first | (with_reducible first | exact HB.out | apply below_alloc | apply pw_below_drewN | apply below_drew1) | exact HB.out))) : w.heap.size ≤ gb157)); have n3_ := Aside0.mk ((by rw [hg]; exact (below_size (by repeat (first | (with_reducible first | exact HB.out | apply below_alloc | apply pw_below_drewN | apply below_drew1) | exact HB.out))) : w.heap.size ≤ gb157)); clear HB; have HB := n0_; have BK157 := n1_; have GW157 := n2_; have GE157 := n3_; clear n0_ n1_ n2_ n3_; clear hb hbox hg; have hcz25_0 : w24.cell? ⟨gb157, 0, none⟩ = some (.int .i64 a0_0) := (blk_cell BK157.out 0).trans rfl; have hcz25_1 : w24.cell? ⟨gb157, 1, none⟩ = some (.int .i64 a0_1) := (blk_cell BK157.out 1).trans rfl; have hcz25_2 : w24.cell? ⟨gb157, 2, none⟩ = some (.int .i64 a0_2) := (blk_cell BK157.out 2).trans rfl; have hcz25_3 : w24.cell? ⟨gb157, 3, none⟩ = some (.int .i64 a0_3) := (blk_cell BK157.out 3).trans rfl; have hcz25_4 : w24.cell? ⟨gb157, 4, none⟩ = some (.int .u64 a0_4) := (blk_cell BK157.out 4).trans rfl; have hcz25_5 : w24.cell? ⟨gb157, 5, none⟩ = some (.int .i64 a0_5) := (blk_cell BK157.out 5).trans rfl; have hcz25_6 : w24.cell? ⟨gb157, 6, none⟩ = some (.int .i64 a0_6) := (blk_cell BK157.out 6).trans rfl; have hcz25_7 : w24.cell? ⟨gb157, 7, none⟩ = some (.int .i64 a0_7) := (blk_cell BK157.out 7).trans rfl; have hcz25_8 : w24.cell? ⟨gb157, 8, none⟩ = some (.int .i64 a0_8) := (blk_cell BK157.out 8).trans rfl; have hcz25_9 : w24.cell? ⟨gb157, 9, none⟩ = some (.int .u64 a0_9) := (blk_cell BK157.out 9).trans rfl; have hcz25_10 : w24.cell? ⟨gb157, 10, none⟩ = some (.int .i64 a0_10) := (blk_cell BK157.out 10).trans rfl; have hcz25_11 : w24.cell? ⟨gb157, 11, none⟩ = some (.int .i64 a0_11) := (blk_cell BK157.out 11).trans rfl; have hcz25_12 : w24.cell? ⟨gb157, 12, none⟩ = some (.int .i64 a0_12) := (blk_cell BK157.out 12).trans rfl; have hcz25_13 : w24.cell? ⟨gb157, 13, none⟩ = some (.int .i64 a0_13) := (blk_cell BK157.out 13).trans rfl; have hcz25_14 : w24.cell? ⟨gb157, 14, none⟩ = some (.int .i64 a0_14) := (blk_cell BK157.out 14).trans rfl; have hcz25_15 : w24.cell? ⟨gb157, 15, none⟩ = some (.int .i64 a0_15) := (blk_cell BK157.out 15).trans rfl; have hcz25_16 : w24.cell? ⟨gb157, 16, none⟩ = some (.int .i64 a0_16) := (blk_cell BK157.out 16).trans rfl; have hcz25_17 : w24.cell? ⟨gb157, 17, none⟩ = some (.int .u64 a0_17) := (blk_cell BK157.out 17).trans rfl; have hcz25_18 : w24.cell? ⟨gb157, 18, none⟩ = some (.int .i64 a0_18) := (blk_cell BK157.out 18).trans rfl; have hcz25_19 : w24.cell? ⟨gb157, 19, none⟩ = some (.int .i64 a0_19) := (blk_cell BK157.out 19).trans rfl; have hcz25_20 : w24.cell? ⟨gb157, 20, none⟩ = some (.int .i64 a0_20) := (blk_cell BK157.out 20).trans rfl; have hcz25_21 : w24.cell? ⟨gb157, 21, none⟩ = some (.int .i64 a0_21) := (blk_cell BK157.out 21).trans rfl; have hcz25_22 : w24.cell? ⟨gb157, 22, none⟩ = some (.int .i64 a0_22) := (blk_cell BK157.out 22).trans rfl; have hfz25_0 := blk_frozen BK157.out 0; have hfz25_1 := blk_frozen BK157.out 1; have hfz25_2 := blk_frozen BK157.out 2; have hfz25_3 := blk_frozen BK157.out 3; have hfz25_4 := blk_frozen BK157.out 4; have hfz25_5 := blk_frozen BK157.out 5; have hfz25_6 := blk_frozen BK157.out 6; have hfz25_7 := blk_frozen BK157.out 7; have hfz25_8 := blk_frozen BK157.out 8; have hfz25_9 := blk_frozen BK157.out 9; have hfz25_10 := blk_frozen BK157.out 10; have hfz25_11 := blk_frozen BK157.out 11; have hfz25_12 := blk_frozen BK157.out 12; have hfz25_13 := blk_frozen BK157.out 13; have hfz25_14 := blk_frozen BK157.out 14; have hfz25_15 := blk_frozen BK157.out 15; have hfz25_16 := blk_frozen BK157.out 16; have hfz25_17 := blk_frozen BK157.out 17; have hfz25_18 := blk_frozen BK157.out 18; have hfz25_19 := blk_frozen BK157.out 19; have hfz25_20 := blk_frozen BK157.out 20; have hfz25_21 := blk_frozen BK157.out 21; have hfz25_22 := blk_frozen BK157.out 22) | ((with_reducible refine gate_callee (f := 15) rfl ?_); refine goesL_ (some 5) rfl rfl Try.func15 (by kernel_rfl) rfl #[.int .i64 a0_0] rfl (by (try simp only [List.map_toArray, List.map_cons, List.map_nil]); first | done | rfl | (simp only [List.length_drop, List.length_take]; rfl)) ?_; (with_reducible refine (carillonref06_Known.calls a0_0 true _ A2.out).mono ?_); rintro e w' ⟨rfl, ⟨nd, rfl⟩⟩; refine ⟨_, rfl, ?_⟩) | (go_at_call 28; (with_reducible refine (carillonref05_In.calls a0_1 0 255 true _ A4.out).mono ?_); rintro e w' ⟨rfl, ⟨nd, rfl⟩⟩) | (go_at_call 28; (with_reducible refine (carillonref05_In.calls a0_2 0 65535 false _ A6.out).mono ?_); rintro e w' ⟨rfl, ⟨nd, rfl⟩⟩))
        all_goals
          go_ret
          exact ⟨by first | rfl | (simp [errW_none, errW_some] <;> rfl) | (simp [*, errW_none, errW_some] <;> rfl), by repeat (first | (with_reducible first | exact HB.out | apply below_alloc | apply pw_below_drewN | apply below_drew1 | refine below_set ?_ GE157.out) | exact HB.out)⟩
    · replace c5 := Bool.eq_false_iff.mpr c5
      subst c5
      have H1 : (some false) = some r := by rw [if_neg (show ¬ (false = true) by decide)] at H; exact H
      clear H
      have H := H1
      clear H1
      obtain rfl := Option.some.inj H
      go_enter Try.func13, Try.ntmps13
      go_wp2_with (first | (refine big_load (g := gb157) (t := 28) (fr := (0, 0)) (n := 23) (cs := ?_) rfl rfl Try.underlying28 (by kernel_rfl) rfl ?lg ?ln ?_; (case lg => (with_reducible repeat (first | refine blk_drewN ?_ _ | refine blk_drew ?_ | refine blk_alloc ?_ _)); exact BK157.out); (case ln => rfl)) | ((with_reducible refine gate_dst (N := 1) rfl ?_); refine box_event ?hg (N := 1) ?hd (cs := #[.int .i64 a0_0, .int .i64 a0_1, .int .i64 a0_2, .int .i64 a0_3, .int .u64 a0_4, .int .i64 a0_5, .int .i64 a0_6, .int .i64 a0_7, .int .i64 a0_8, .int .u64 a0_9, .int .i64 a0_10, .int .i64 a0_11, .int .i64 a0_12, .int .i64 a0_13, .int .i64 a0_14, .int .i64 a0_15, .int .i64 a0_16, .int .u64 a0_17, .int .i64 a0_18, .int .i64 a0_19, .int .i64 a0_20, .int .i64 a0_21, .int .i64 a0_22]) (t := 28) ?hr ?_; (case hd => rfl); (case hg => rfl); (case hr => first | (go_simp; done) | (go_simp; rfl)); intro gb157 hg w26 hbox hb; have n0_ := Aside0.mk (below_step (by repeat (first | (with_reducible first | exact HB.out | apply below_alloc | apply pw_below_drewN | apply below_drew1) | exact HB.out)) hb); have n1_ := Aside0.mk (hbox); have n2_ := Aside0.mk ((by rw [hg]; exact (below_size (by repeat (first | (with_reducible first | exact HB.out | apply below_alloc | apply pw_below_drewN | apply below_drew1) | exact HB.out))) : w.heap.size ≤ gb157)); have n3_ := Aside0.mk ((by rw [hg]; exact (below_size (by repeat (first | (with_reducible first | exact HB.out | apply below_alloc | apply pw_below_drewN | apply below_drew1) | exact HB.out))) : w.heap.size ≤ gb157)); clear HB; have HB := n0_; have BK157 := n1_; have GW157 := n2_; have GE157 := n3_; clear n0_ n1_ n2_ n3_; clear hb hbox hg; have hcz27_0 : w26.cell? ⟨gb157, 0, none⟩ = some (.int .i64 a0_0) := (blk_cell BK157.out 0).trans rfl; have hcz27_1 : w26.cell? ⟨gb157, 1, none⟩ = some (.int .i64 a0_1) := (blk_cell BK157.out 1).trans rfl; have hcz27_2 : w26.cell? ⟨gb157, 2, none⟩ = some (.int .i64 a0_2) := (blk_cell BK157.out 2).trans rfl; have hcz27_3 : w26.cell? ⟨gb157, 3, none⟩ = some (.int .i64 a0_3) := (blk_cell BK157.out 3).trans rfl; have hcz27_4 : w26.cell? ⟨gb157, 4, none⟩ = some (.int .u64 a0_4) := (blk_cell BK157.out 4).trans rfl; have hcz27_5 : w26.cell? ⟨gb157, 5, none⟩ = some (.int .i64 a0_5) := (blk_cell BK157.out 5).trans rfl; have hcz27_6 : w26.cell? ⟨gb157, 6, none⟩ = some (.int .i64 a0_6) := (blk_cell BK157.out 6).trans rfl; have hcz27_7 : w26.cell? ⟨gb157, 7, none⟩ = some (.int .i64 a0_7) := (blk_cell BK157.out 7).trans rfl; have hcz27_8 : w26.cell? ⟨gb157, 8, none⟩ = some (.int .i64 a0_8) := (blk_cell BK157.out 8).trans rfl; have hcz27_9 : w26.cell? ⟨gb157, 9, none⟩ = some (.int .u64 a0_9) := (blk_cell BK157.out 9).trans rfl; have hcz27_10 : w26.cell? ⟨gb157, 10, none⟩ = some (.int .i64 a0_10) := (blk_cell BK157.out 10).trans rfl; have hcz27_11 : w26.cell? ⟨gb157, 11, none⟩ = some (.int .i64 a0_11) := (blk_cell BK157.out 11).trans rfl; have hcz27_12 : w26.cell? ⟨gb157, 12, none⟩ = some (.int .i64 a0_12) := (blk_cell BK157.out 12).trans rfl; have hcz27_13 : w26.cell? ⟨gb157, 13, none⟩ = some (.int .i64 a0_13) := (blk_cell BK157.out 13).trans rfl; have hcz27_14 : w26.cell? ⟨gb157, 14, none⟩ = some (.int .i64 a0_14) := (blk_cell BK157.out 14).trans rfl; have hcz27_15 : w26.cell? ⟨gb157, 15, none⟩ = some (.int .i64 a0_15) := (blk_cell BK157.out 15).trans rfl; have hcz27_16 : w26.cell? ⟨gb157, 16, none⟩ = some (.int .i64 a0_16) := (blk_cell BK157.out 16).trans rfl; have hcz27_17 : w26.cell? ⟨gb157, 17, none⟩ = some (.int .u64 a0_17) := (blk_cell BK157.out 17).trans rfl; have hcz27_18 : w26.cell? ⟨gb157, 18, none⟩ = some (.int .i64 a0_18) := (blk_cell BK157.out 18).trans rfl; have hcz27_19 : w26.cell? ⟨gb157, 19, none⟩ = some (.int .i64 a0_19) := (blk_cell BK157.out 19).trans rfl; have hcz27_20 : w26.cell? ⟨gb157, 20, none⟩ = some (.int .i64 a0_20) := (blk_cell BK157.out 20).trans rfl; have hcz27_21 : w26.cell? ⟨gb157, 21, none⟩ = some (.int .i64 a0_21) := (blk_cell BK157.out 21).trans rfl; have hcz27_22 : w26.cell? ⟨gb157, 22, none⟩ = some (.int .i64 a0_22) := (blk_cell BK157.out 22).trans rfl; have hfz27_0 := blk_frozen BK157.out 0; have hfz27_1 := blk_frozen BK157.out 1; have hfz27_2 := blk_frozen BK157.out 2; have hfz27_3 := blk_frozen BK157.out 3; have hfz27_4 := blk_frozen BK157.out 4; have hfz27_5 := blk_frozen BK157.out 5; have hfz27_6 := blk_frozen BK157.out 6; have hfz27_7 := blk_frozen BK157.out 7; have hfz27_8 := blk_frozen BK157.out 8; have hfz27_9 := blk_frozen BK157.out 9; have hfz27_10 := blk_frozen BK157.out 10; have hfz27_11 := blk_frozen BK157.out 11; have hfz27_12 := blk_frozen BK157.out 12; have hfz27_13 := blk_frozen BK157.out 13; have hfz27_14 := blk_frozen BK157.out 14; have hfz27_15 := blk_frozen BK157.out 15; have hfz27_16 := blk_frozen BK157.out 16; have hfz27_17 := blk_frozen BK157.out 17; have hfz27_18 := blk_frozen BK157.out 18; have hfz27_19 := blk_frozen BK157.out 19; have hfz27_20 := blk_frozen BK157.out 20; have hfz27_21 := blk_frozen BK157.out 21; have hfz27_22 := blk_frozen BK157.out 22) | ((with_reducible refine gate_callee (f := 15) rfl ?_); refine goesL_ (some 5) rfl rfl Try.func15 (by kernel_rfl) rfl #[.int .i64 a0_0] rfl (by (try simp only [List.map_toArray, List.map_cons, List.map_nil]); first | done | rfl | (simp only [List.length_drop, List.length_take]; rfl)) ?_; (with_reducible refine (carillonref06_Known.calls a0_0 true _ A2.out).mono ?_); rintro e w' ⟨rfl, ⟨nd, rfl⟩⟩; refine ⟨_, rfl, ?_⟩) | (go_at_call 28; (with_reducible refine (carillonref05_In.calls a0_1 0 255 false _ A4.out).mono ?_); rintro e w' ⟨rfl, ⟨nd, rfl⟩⟩))
      all_goals
        go_ret
        exact ⟨by first | rfl | (simp [errW_none, errW_some] <;> rfl) | (simp [*, errW_none, errW_some] <;> rfl), by repeat (first | (with_reducible first | exact HB.out | apply below_alloc | apply pw_below_drewN | apply below_drew1 | refine below_set ?_ GE157.out) | exact HB.out)⟩
  · replace c3 := Bool.eq_false_iff.mpr c3
    subst c3
    have H1 : (some false) = some r := by rw [if_neg (show ¬ (false = true) by decide)] at H; exact H
    clear H
    have H := H1
    clear H1
    obtain rfl := Option.some.inj H
    go_enter Try.func13, Try.ntmps13
    go_wp2_with (first | (refine big_load (g := gb157) (t := 28) (fr := (0, 0)) (n := 23) (cs := ?_) rfl rfl Try.underlying28 (by kernel_rfl) rfl ?lg ?ln ?_; (case lg => (with_reducible repeat (first | refine blk_drewN ?_ _ | refine blk_drew ?_ | refine blk_alloc ?_ _)); exact BK157.out); (case ln => rfl)) | ((with_reducible refine gate_dst (N := 1) rfl ?_); refine box_event ?hg (N := 1) ?hd (cs := #[.int .i64 a0_0, .int .i64 a0_1, .int .i64 a0_2, .int .i64 a0_3, .int .u64 a0_4, .int .i64 a0_5, .int .i64 a0_6, .int .i64 a0_7, .int .i64 a0_8, .int .u64 a0_9, .int .i64 a0_10, .int .i64 a0_11, .int .i64 a0_12, .int .i64 a0_13, .int .i64 a0_14, .int .i64 a0_15, .int .i64 a0_16, .int .u64 a0_17, .int .i64 a0_18, .int .i64 a0_19, .int .i64 a0_20, .int .i64 a0_21, .int .i64 a0_22]) (t := 28) ?hr ?_; (case hd => rfl); (case hg => rfl); (case hr => first | (go_simp; done) | (go_simp; rfl)); intro gb157 hg w28 hbox hb; have n0_ := Aside0.mk (below_step (by repeat (first | (with_reducible first | exact HB.out | apply below_alloc | apply pw_below_drewN | apply below_drew1) | exact HB.out)) hb); have n1_ := Aside0.mk (hbox); have n2_ := Aside0.mk ((by rw [hg]; exact (below_size (by repeat (first | (with_reducible first | exact HB.out | apply below_alloc | apply pw_below_drewN | apply below_drew1) | exact HB.out))) : w.heap.size ≤ gb157)); have n3_ := Aside0.mk ((by rw [hg]; exact (below_size (by repeat (first | (with_reducible first | exact HB.out | apply below_alloc | apply pw_below_drewN | apply below_drew1) | exact HB.out))) : w.heap.size ≤ gb157)); clear HB; have HB := n0_; have BK157 := n1_; have GW157 := n2_; have GE157 := n3_; clear n0_ n1_ n2_ n3_; clear hb hbox hg; have hcz29_0 : w28.cell? ⟨gb157, 0, none⟩ = some (.int .i64 a0_0) := (blk_cell BK157.out 0).trans rfl; have hcz29_1 : w28.cell? ⟨gb157, 1, none⟩ = some (.int .i64 a0_1) := (blk_cell BK157.out 1).trans rfl; have hcz29_2 : w28.cell? ⟨gb157, 2, none⟩ = some (.int .i64 a0_2) := (blk_cell BK157.out 2).trans rfl; have hcz29_3 : w28.cell? ⟨gb157, 3, none⟩ = some (.int .i64 a0_3) := (blk_cell BK157.out 3).trans rfl; have hcz29_4 : w28.cell? ⟨gb157, 4, none⟩ = some (.int .u64 a0_4) := (blk_cell BK157.out 4).trans rfl; have hcz29_5 : w28.cell? ⟨gb157, 5, none⟩ = some (.int .i64 a0_5) := (blk_cell BK157.out 5).trans rfl; have hcz29_6 : w28.cell? ⟨gb157, 6, none⟩ = some (.int .i64 a0_6) := (blk_cell BK157.out 6).trans rfl; have hcz29_7 : w28.cell? ⟨gb157, 7, none⟩ = some (.int .i64 a0_7) := (blk_cell BK157.out 7).trans rfl; have hcz29_8 : w28.cell? ⟨gb157, 8, none⟩ = some (.int .i64 a0_8) := (blk_cell BK157.out 8).trans rfl; have hcz29_9 : w28.cell? ⟨gb157, 9, none⟩ = some (.int .u64 a0_9) := (blk_cell BK157.out 9).trans rfl; have hcz29_10 : w28.cell? ⟨gb157, 10, none⟩ = some (.int .i64 a0_10) := (blk_cell BK157.out 10).trans rfl; have hcz29_11 : w28.cell? ⟨gb157, 11, none⟩ = some (.int .i64 a0_11) := (blk_cell BK157.out 11).trans rfl; have hcz29_12 : w28.cell? ⟨gb157, 12, none⟩ = some (.int .i64 a0_12) := (blk_cell BK157.out 12).trans rfl; have hcz29_13 : w28.cell? ⟨gb157, 13, none⟩ = some (.int .i64 a0_13) := (blk_cell BK157.out 13).trans rfl; have hcz29_14 : w28.cell? ⟨gb157, 14, none⟩ = some (.int .i64 a0_14) := (blk_cell BK157.out 14).trans rfl; have hcz29_15 : w28.cell? ⟨gb157, 15, none⟩ = some (.int .i64 a0_15) := (blk_cell BK157.out 15).trans rfl; have hcz29_16 : w28.cell? ⟨gb157, 16, none⟩ = some (.int .i64 a0_16) := (blk_cell BK157.out 16).trans rfl; have hcz29_17 : w28.cell? ⟨gb157, 17, none⟩ = some (.int .u64 a0_17) := (blk_cell BK157.out 17).trans rfl; have hcz29_18 : w28.cell? ⟨gb157, 18, none⟩ = some (.int .i64 a0_18) := (blk_cell BK157.out 18).trans rfl; have hcz29_19 : w28.cell? ⟨gb157, 19, none⟩ = some (.int .i64 a0_19) := (blk_cell BK157.out 19).trans rfl; have hcz29_20 : w28.cell? ⟨gb157, 20, none⟩ = some (.int .i64 a0_20) := (blk_cell BK157.out 20).trans rfl; have hcz29_21 : w28.cell? ⟨gb157, 21, none⟩ = some (.int .i64 a0_21) := (blk_cell BK157.out 21).trans rfl; have hcz29_22 : w28.cell? ⟨gb157, 22, none⟩ = some (.int .i64 a0_22) := (blk_cell BK157.out 22).trans rfl; have hfz29_0 := blk_frozen BK157.out 0; have hfz29_1 := blk_frozen BK157.out 1; have hfz29_2 := blk_frozen BK157.out 2; have hfz29_3 := blk_frozen BK157.out 3; have hfz29_4 := blk_frozen BK157.out 4; have hfz29_5 := blk_frozen BK157.out 5; have hfz29_6 := blk_frozen BK157.out 6; have hfz29_7 := blk_frozen BK157.out 7; have hfz29_8 := blk_frozen BK157.out 8; have hfz29_9 := blk_frozen BK157.out 9; have hfz29_10 := blk_frozen BK157.out 10; have hfz29_11 := blk_frozen BK157.out 11; have hfz29_12 := blk_frozen BK157.out 12; have hfz29_13 := blk_frozen BK157.out 13; have hfz29_14 := blk_frozen BK157.out 14; have hfz29_15 := blk_frozen BK157.out 15; have hfz29_16 := blk_frozen BK157.out 16; have hfz29_17 := blk_frozen BK157.out 17; have hfz29_18 := blk_frozen BK157.out 18; have hfz29_19 := blk_frozen BK157.out 19; have hfz29_20 := blk_frozen BK157.out 20; have hfz29_21 := blk_frozen BK157.out 21; have hfz29_22 := blk_frozen BK157.out 22) | ((with_reducible refine gate_callee (f := 15) rfl ?_); refine goesL_ (some 5) rfl rfl Try.func15 (by kernel_rfl) rfl #[.int .i64 a0_0] rfl (by (try simp only [List.map_toArray, List.map_cons, List.map_nil]); first | done | rfl | (simp only [List.length_drop, List.length_take]; rfl)) ?_; (with_reducible refine (carillonref06_Known.calls a0_0 false _ A2.out).mono ?_); rintro e w' ⟨rfl, ⟨nd, rfl⟩⟩; refine ⟨_, rfl, ?_⟩))
    all_goals
      go_ret
      exact ⟨by first | rfl | (simp [errW_none, errW_some] <;> rfl) | (simp [*, errW_none, errW_some] <;> rfl), by repeat (first | (with_reducible first | exact HB.out | apply below_alloc | apply pw_below_drewN | apply below_drew1 | refine below_set ?_ GE157.out) | exact HB.out)⟩

/-! ### carillonref01_Put: function 25 -/
def carillonref01_Put.l0 : Nat → List Int → Int → Int → Option (List Int)
  | 0, _, _, _ => none
  | k + 1, x5, x6, x7 => if x7 ≥ 0 then (if 0 ≤ x7 then (if x7 < (x5.length : Int) then (carillonref01_Put.l0 k (x5.set (x7 : Int).toNat ((Int.tmod x6 256) % 256)) (IntKind.u64.wrap (Int.tdiv x6 256)) (wrap64 (x7 - 1))) else (none)) else (none)) else (some x5)
def carillonref01_Put.f (k : Nat) (a0 : Int) (a1 : Int) : Option (List Int) := if 0 ≤ (mn (mx a1 0) 8) then (if (mn (mx a1 0) 8 : Int).toNat ≤ 281474976710656 then (carillonref01_Put.l0 k (List.replicate (mn (mx a1 0) 8 : Int).toNat 0) (IntKind.u64.wrap (a0)) ((mn (mx a1 0) 8) - 1)) else (none)) else (none)
theorem carillonref01_Put.mono_l : ∀ k, (∀ y0 y1 y2, LeO (carillonref01_Put.l0 k y0 y1 y2) (carillonref01_Put.l0 (k + 1) y0 y1 y2))
  | 0 => fun _ _ _ r h => by simp [carillonref01_Put.l0] at h
  | k + 1 => by
    have ih0 := carillonref01_Put.mono_l k
    · intro y0 y1 y2
      unfold carillonref01_Put.l0
      repeat' first
      | (with_reducible exact ih0 _ _ _)
      | (with_reducible exact LeO.refl _)
      | (with_reducible exact LeO.none _)
      | (with_reducible refine LeO.ite ?_ ?_)
      | (with_reducible refine LeO.bind ?_ (fun _ => ?_))
      | exact ih0 _ _ _
      | exact LeO.none _
      | refine LeO.ite ?_ ?_
      | refine LeO.bind ?_ (fun _ => ?_)
theorem carillonref01_Put.mono : ∀ a0 a1 k, LeO (carillonref01_Put.f k a0 a1) (carillonref01_Put.f (k + 1) a0 a1) := by
  intro a0 a1 k
  have ih0 := carillonref01_Put.mono_l k
  unfold carillonref01_Put.f
  repeat' first
      | (with_reducible exact ih0 _ _ _)
      | (with_reducible exact LeO.refl _)
      | (with_reducible exact LeO.none _)
      | (with_reducible refine LeO.ite ?_ ?_)
      | (with_reducible refine LeO.bind ?_ (fun _ => ?_))
      | exact ih0 _ _ _
      | exact LeO.none _
      | refine LeO.ite ?_ ?_
      | refine LeO.bind ?_ (fun _ => ?_)
set_option maxHeartbeats 8000000 in
set_option maxRecDepth 100000 in
theorem carillonref01_Put.calls (k : Nat) (a0 : Int) (a1 : Int) (r : List Int) (w : World) (h : carillonref01_Put.f k a0 a1 = some r) :
    Calls Try.prog 25 #[.int .i64 a0, .int .i64 a1] w fun e w' => ∃ v0_ : Value, e = .returned (v0_) ∧ Kd.R (Kd.int .u8) 5 w' w.heap.size (fun _ => True) v0_ r ∧ Below w.heap.size w w' := by
  have HB := Aside0.mk (Below.refl w.heap.size w)
  have H : (if 0 ≤ (mn (mx a1 0) 8) then (if (mn (mx a1 0) 8 : Int).toNat ≤ 281474976710656 then (carillonref01_Put.l0 k (List.replicate (mn (mx a1 0) 8 : Int).toNat 0) (IntKind.u64.wrap (a0)) ((mn (mx a1 0) 8) - 1)) else (none)) else (none)) = some r := h
  clear h
  obtain ⟨ji3, hji3⟩ : ∃ j_ : Int, (mx a1 0) = j_ := ⟨_, rfl⟩
  replace H : (if 0 ≤ (mn (ji3) 8) then (if (mn (ji3) 8 : Int).toNat ≤ 281474976710656 then (carillonref01_Put.l0 k (List.replicate (mn (ji3) 8 : Int).toNat 0) (IntKind.u64.wrap (a0)) ((mn (ji3) 8) - 1)) else (none)) else (none)) = some r := by first | (rw [hji3] at H; exact H) | (simp only [hji3] at H ⊢; exact H)
  (try (have hji3l : 0 ≤ ji3 := by (rw [← hji3]; unfold mx; (repeat' split) <;> omega)))
  (try (have hji3m : 0 ≤ ji3 := by omega))
  have hji3_ : (if a1 < 0 then 0 else a1) = ji3 := hji3
  obtain ⟨ji4, hji4⟩ : ∃ j_ : Int, (mn (ji3) 8) = j_ := ⟨_, rfl⟩
  replace H : (if 0 ≤ (ji4) then (if (ji4 : Int).toNat ≤ 281474976710656 then (carillonref01_Put.l0 k (List.replicate (ji4 : Int).toNat 0) (IntKind.u64.wrap (a0)) ((ji4) - 1)) else (none)) else (none)) = some r := by first | (rw [hji4] at H; exact H) | (simp only [hji4] at H ⊢; exact H)
  have hji4_ : (if 8 < (ji3) then 8 else (ji3)) = ji4 := hji4
  by_cases c5 : 0 ≤ (ji4)
  · rw [if_pos c5] at H
    have c5b0 := eq_true c5
    have c5b1 : decide (0 ≤ (ji4)) = true := decide_eq_true c5
    clear c5
    by_cases c6 : (ji4 : Int).toNat ≤ 281474976710656
    · rw [if_pos c6] at H
      have c6b0 := eq_true c6
      have c6b1 : decide ((ji4 : Int).toNat ≤ 281474976710656) = true := decide_eq_true c6
      clear c6
      obtain ⟨y164, hy164⟩ : ∃ y_ : List Int, y_ = (List.replicate (ji4 : Int).toNat 0) := ⟨_, rfl⟩
      replace H : (carillonref01_Put.l0 k y164 (IntKind.u64.wrap (a0)) ((ji4) - 1)) = some r := by first | (rw [hy164]; with_reducible exact H) | (have H2_ := (Option.bind_some _ _).symm.trans H; rw [hy164]; with_reducible exact H2_) | (have H2_ := (Option.bind_some _ _).symm.trans H; with_reducible exact H2_) | with_reducible exact H | (rw [hy164]; exact H) | exact H
      have Ny164 := Aside0.mk hy164
      clear hy164
      have H' := Aside0.mk H
      clear H
      go_enter Try.func25, Try.ntmps25
      go_wp2_with (first | ((with_reducible refine gate_dst (N := 12) rfl ?_); refine Kd.R_make (Kd.int .u8) _ 5 rfl (N := 12) rfl 29 _ _ rfl ji4 rfl rfl Try.underlying29 (.int .u8 0) 1 info5 rfl (by decide) (by omega) 0 (ok := fun _ => True) (okp := fun _ => True) rfl (fun _ hk => hk) trivial (of_decide_eq_true (by first | (with_reducible assumption) | assumption)) (Nat.le_trans (Nat.mul_le_mul_right _ (of_decide_eq_true (by first | (with_reducible assumption) | assumption) : ji4.toNat ≤ 281474976710656)) (by omega)) (Below.refl _ _) (Nat.le_refl _) ?_; intro v165 w7 ho8 hb hg_ hnew_; clear hg_ hnew_; (first | rw [← Ny164.out] at ho8 | (simp only [Int.reduceToNat] at ho8; rw [← Ny164.out] at ho8)); have n0_ := Aside0.mk (Kd.R_lower ho8 (below_size (by repeat (first | (with_reducible first | exact HB.out | apply below_alloc | apply pw_below_drewN | apply below_drew1) | exact HB.out)))); have n1_ := Aside0.mk (below_step (by repeat (first | (with_reducible first | exact HB.out | apply below_alloc | apply pw_below_drewN | apply below_drew1) | exact HB.out)) hb); clear HB; have HO166 := n0_; have HB := n1_; clear n0_ n1_; clear hb ho8))
      go_loopg [6, 7] k (fun kq v6 v7 w' => ∃ (x5_1 : List Int) (x6_1 : Int) (x7_1 : Int), v6 = .int .u64 x6_1 ∧ v7 = .int .i64 x7_1 ∧ Aside0 (carillonref01_Put.l0 kq x5_1 x6_1 x7_1 = some r) ∧ Aside0 (kq ≤ k) ∧ Aside0 (Kd.R (Kd.int .u8) 5 w' w.heap.size (fun _ => True) v165 x5_1) ∧ Aside0 (Below w.heap.size w w'))
      case atStart => exact ⟨(y164), (IntKind.u64.wrap (a0)), ((ji4) - 1), (by first | rfl | (simp; done) | (simp [*]; done)), (by first | rfl | (simp; done) | (simp only [← hji4] <;> (first | rfl | simp)) | (simp [*]; done)), H', ⟨Nat.le_refl _⟩, ⟨by (with_reducible repeat (first | apply Kd.R_alloc | apply Kd.R_drewN | apply Kd.R_drew)); exact HO166.out⟩, ⟨by repeat (first | (with_reducible first | exact HB.out | apply below_alloc | apply pw_below_drewN | apply below_drew1) | exact HB.out)⟩⟩
      case round =>
        clear H'
        try clear c2
        try clear p2
        try clear c5
        try clear c5b0
        try clear c5b1
        try clear c6
        try clear c6b0
        try clear c6b1
        obtain ⟨x5_1, x6_1, x7_1, rfl, rfl, HA, HK1, HO_5, HB⟩ := hrel
        cases gk with
        | zero => exact absurd HA.out (by simp [carillonref01_Put.l0])
        | succ k1 =>
          have H := HA.out
          clear HA
          simp only [carillonref01_Put.l0] at H
          by_cases c9 : x7_1 ≥ 0
          · rw [if_pos c9] at H
            have c9b0 : decide (0 ≤ x7_1) = true := decide_eq_true c9
            clear c9
            by_cases c10 : 0 ≤ x7_1
            · rw [if_pos c10] at H
              have c10b0 : decide (0 ≤ x7_1) = true := decide_eq_true c10
              clear c10
              by_cases c11 : x7_1 < (x5_1.length : Int)
              · rw [if_pos c11] at H
                have c11b0 : decide (x7_1 < (x5_1.length : Int)) = true := decide_eq_true c11
                clear c11
                obtain ⟨y167, hy167⟩ : ∃ y_ : List Int, y_ = (x5_1.set (x7_1 : Int).toNat ((Int.tmod x6_1 256) % 256)) := ⟨_, rfl⟩
                replace H : (carillonref01_Put.l0 k1 y167 (IntKind.u64.wrap (Int.tdiv x6_1 256)) (wrap64 (x7_1 - 1))) = some r := by first | (rw [hy167]; with_reducible exact H) | (have H2_ := (Option.bind_some _ _).symm.trans H; rw [hy167]; with_reducible exact H2_) | (have H2_ := (Option.bind_some _ _).symm.trans H; with_reducible exact H2_) | with_reducible exact H | (rw [hy167]; exact H) | exact H
                have Ny167 := Aside0.mk hy167
                clear hy167
                have H' := Aside0.mk H
                clear H
                have p12 : 0 ≤ (x7_1 : Int) := of_decide_eq_true (by first | (with_reducible assumption) | assumption)
                have q12 : (x7_1 : Int) < ((x5_1.length : Int) : Int) := of_decide_eq_true (by first | (with_reducible assumption) | assumption)
                obtain ⟨go12, co12, eo12, gb12, gl12, cl12, HG12⟩ := Kd.R_form HO_5.out (by omega)
                (first | cases eo12 | (injection eo12 with ea_ en_ ec_; (first | subst ea_ | (injection ea_ with ea_; subst ea_)); subst ec_; clear en_))
                have GB12 := Aside0.mk gb12
                have GG12 := Aside0.mk HG12
                clear gb12 gl12 HG12
                obtain ⟨hx12_0, hf12_0⟩ := Kd.R_celln 0 HO_5.out (x7_1 : Int) p12 q12
                replace p12 := eq_true p12
                replace q12 := eq_true q12
                have HP13 := Kd.R_putg HO_5.out (x7_1 : Int) ((Int.tmod x6_1 256) % 256)
                go_wp2_with (first | ((with_reducible refine gate_store (t := 5) (p := 26) rfl ?_); refine store_event (t := 5) (p := 26) (v := ?vo_w14) (w1 := (wr.setCell ⟨go12, (x7_1 : Int).toNat, none⟩ (.int .u8 ((Int.tmod x6_1 256) % 256)))) ?hg ?ho ?hn ?hr ?_; (case ho => rfl); (case hg => rfl); (case hn => rfl); (case hr => first | (go_simp; done) | (go_simp; rfl)); intro w14 hw; have hg : wr.grownBy w14 (some go12) := (by rw [hw]; exact HP13.2); have hp_ : Kd.R (Kd.int .u8) 5 w14 w.heap.size (fun _ => True) (.slice (some ⟨go12, 0, none⟩) x5_1.length co12) y167 := (by rw [hw, Ny167.out]; exact HP13.1); clear HP13; have n0_ := Aside0.mk (hp_); have n1_ := Aside0.mk ((by rw [hw]; exact below_set (HB.out) GB12.out : Below w.heap.size w w14)); clear HO_5; clear HB; have HO_5 := n0_; have HB := n1_; clear n0_ n1_; clear hg hw hp_))
                go_roundg k1
                case measure => have := HK1.out; omega
                case rel => exact ⟨(y167), (IntKind.u64.wrap (Int.tdiv x6_1 256)), (wrap64 (x7_1 - 1)), (by first | rfl | (simp; done) | (simp [*]; done)), (by first | rfl | (simp; done) | (simp [*]; done)), H', ⟨by have := HK1.out; omega⟩, ⟨by (with_reducible repeat (first | apply Kd.R_alloc | apply Kd.R_drewN | apply Kd.R_drew)); exact HO_5.out⟩, ⟨by repeat (first | (with_reducible first | exact HB.out | apply below_alloc | apply pw_below_drewN | apply below_drew1) | exact HB.out)⟩⟩
              · rw [if_neg c11] at H
                exact absurd H (by simp)
            · rw [if_neg c10] at H
              exact absurd H (by simp)
          · rw [if_neg c9] at H
            have c9b0 : decide (0 ≤ x7_1) = false := decide_eq_false c9
            clear c9
            obtain rfl := Option.some.inj H
            go_wp2
            all_goals
              go_ret
              exact ⟨_, by first | rfl | (simp [errW_none, errW_some] <;> rfl) | (simp only [← hji3, ← hji4]; first | rfl | (simp [errW_none, errW_some] <;> rfl)) | (simp [*, errW_none, errW_some] <;> rfl), by (with_reducible repeat (first | apply Kd.R_alloc | apply Kd.R_drewN | apply Kd.R_drew)); exact HO_5.out, by repeat (first | (with_reducible first | exact HB.out | apply below_alloc | apply pw_below_drewN | apply below_drew1) | exact HB.out)⟩
    · rw [if_neg c6] at H
      exact absurd H (by simp)
  · rw [if_neg c5] at H
    exact absurd H (by simp)

/-! ### carillonref01_PutId: function 37 -/
def carillonref01_PutId.f (k : Nat) (a0 : Int) : Option (List Int) := (carillonref01_Put.f k (wrap64 (a0)) 8).bind fun t168 => (some t168)
theorem carillonref01_PutId.mono : ∀ a0 k, LeO (carillonref01_PutId.f k a0) (carillonref01_PutId.f (k + 1) a0) := by
  intro a0 k
  unfold carillonref01_PutId.f
  repeat' first
      | (with_reducible exact carillonref01_Put.mono _ _ _)
      | (with_reducible exact LeO.refl _)
      | (with_reducible exact LeO.none _)
      | (with_reducible refine LeO.ite ?_ ?_)
      | (with_reducible refine LeO.bind ?_ (fun _ => ?_))
      | exact carillonref01_Put.mono _ _ _
      | exact LeO.none _
      | refine LeO.ite ?_ ?_
      | refine LeO.bind ?_ (fun _ => ?_)
set_option maxHeartbeats 8000000 in
set_option maxRecDepth 100000 in
theorem carillonref01_PutId.calls (k : Nat) (a0 : Int) (r : List Int) (w : World) (h : carillonref01_PutId.f k a0 = some r) :
    Calls Try.prog 37 #[.int .u64 a0] w fun e w' => ∃ v0_ : Value, e = .returned (v0_) ∧ Kd.R (Kd.int .u8) 5 w' w.heap.size (fun _ => True) v0_ r ∧ Below w.heap.size w w' := by
  have HB := Aside0.mk (Below.refl w.heap.size w)
  have H : ((carillonref01_Put.f k (wrap64 (a0)) 8).bind fun t168 => (some t168)) = some r := h
  clear h
  replace H := Option.bind_eq_some_iff.mp H
  obtain ⟨t168, A20, H⟩ := H
  replace H : (some t168) = some r := H
  have A2 := Aside0.mk A20
  clear A20
  obtain rfl := Option.some.inj H
  go_enter Try.func37, Try.ntmps37
  go_wp2_with (first | ((with_reducible refine gate_callee (f := 25) rfl ?_); refine goesL_ (some 5) rfl rfl Try.func25 (by kernel_rfl) rfl #[.int .i64 (wrap64 (a0)), .int .i64 8] rfl (by (try simp only [List.map_toArray, List.map_cons, List.map_nil]); first | done | rfl | (simp only [List.length_drop, List.length_take]; rfl)) ?_; (with_reducible refine (carillonref01_Put.calls k (wrap64 (a0)) 8 t168 _ A2.out).mono ?_); rintro e w3 ⟨v169, rfl, ho0, hb⟩; refine ⟨_, rfl, ?_⟩; have n0_ := Aside0.mk (Kd.R_lower ho0 (below_size (by repeat (first | (with_reducible first | exact HB.out | apply below_alloc | apply pw_below_drewN | apply below_drew1) | exact HB.out)))); have n1_ := Aside0.mk (below_step (by repeat (first | (with_reducible first | exact HB.out | apply below_alloc | apply pw_below_drewN | apply below_drew1) | exact HB.out)) hb); clear HB; have HO170 := n0_; have HB := n1_; clear n0_ n1_; (try clear hb); (try clear hb2); (try clear hk); (try clear hi); (try clear ho0)))
  all_goals
    go_ret
    exact ⟨_, by first | rfl | (simp [errW_none, errW_some] <;> rfl) | (simp [*, errW_none, errW_some] <;> rfl), by (with_reducible repeat (first | apply Kd.R_alloc | apply Kd.R_drewN | apply Kd.R_drew)); exact HO170.out, by repeat (first | (with_reducible first | exact HB.out | apply below_alloc | apply pw_below_drewN | apply below_drew1) | exact HB.out)⟩

end Go.Proofs.Ytcflafkafbpibaa.P
