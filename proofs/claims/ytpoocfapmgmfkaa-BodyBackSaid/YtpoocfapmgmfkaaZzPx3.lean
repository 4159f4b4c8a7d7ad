/- Functions and loops of the given program as Lean functions, and that the code comes to what they say: written by this session's own program; Lean checks it. -/
import Derived.Test.YtpoocfapmgmfkaaZzPx0
namespace Go.Proofs.Ytpoocfapmgmfkaa.P
open Go.RowKit Go.Proofs.YtpoocfapmgmfkaaW.PrintWords Go.Proofs.YtpoocfapmgmfkaaW.PrintLast Go.Proofs.YtpoocfapmgmfkaaW.PrintMore
attribute [local go_sem] max2_int min2_int max_two min_two max_three min_three max_four min_four   -- for this text's walks alone
set_option linter.unusedVariables false
set_option linter.unusedSimpArgs false
/-! ### ident_May: function 40 -/
def ident_May.f (a0_0 : Int) (a0_1 : Int) : Option (Bool) := if a0_1 ≥ 0 then (some (decide (a0_1 ≤ 65535))) else (some false)
set_option maxHeartbeats 8000000 in
set_option maxRecDepth 100000 in
theorem ident_May.calls (a0_0 : Int) (a0_1 : Int) (r : Bool) (w : World) (h : ident_May.f a0_0 a0_1 = some r) :
    Calls Try.prog 40 #[.agg #[.int .u64 a0_0, .int .i64 a0_1]] w fun e w' => e = .returned (.bool r) ∧ Below w.heap.size w w' := by
  have hu25 := Try.underlying25
  have HB := Aside0.mk (Below.refl w.heap.size w)
  have H : (if a0_1 ≥ 0 then (some (decide (a0_1 ≤ 65535))) else (some false)) = some r := h
  clear h
  by_cases c2 : a0_1 ≥ 0
  · rw [if_pos c2] at H
    have c2b0 : decide (0 ≤ a0_1) = true := decide_eq_true c2
    clear c2
    obtain rfl := Option.some.inj H
    go_enter Try.func40, Try.ntmps40
    go_wp2_with (first | ((with_reducible refine gate_dst (N := 1) rfl ?_); refine box_event ?hg (N := 1) ?hd (cs := #[.int .u64 a0_0, .int .i64 a0_1]) (t := 25) ?hr ?_; (case hd => rfl); (case hg => rfl); (case hr => first | (go_simp; done) | (go_simp; rfl)); intro gb113 hg w3 hbox hb; have n0_ := Aside0.mk (below_step (by repeat (first | (with_reducible first | exact HB.out | apply below_alloc | apply pw_below_drewN | apply below_drew1) | exact HB.out)) hb); have n1_ := Aside0.mk (hbox); have n2_ := Aside0.mk ((by rw [hg]; exact (below_size (by repeat (first | (with_reducible first | exact HB.out | apply below_alloc | apply pw_below_drewN | apply below_drew1) | exact HB.out))) : w.heap.size ≤ gb113)); have n3_ := Aside0.mk ((by rw [hg]; exact (below_size (by repeat (first | (with_reducible first | exact HB.out | apply below_alloc | apply pw_below_drewN | apply below_drew1) | exact HB.out))) : w.heap.size ≤ gb113)); clear HB; have HB := n0_; have BK113 := n1_; have GW113 := n2_; have GE113 := n3_; clear n0_ n1_ n2_ n3_; clear hb hbox hg; have hcz4_0 : w3.cell? ⟨gb113, 0, none⟩ = some (.int .u64 a0_0) := (blk_cell BK113.out 0).trans rfl; have hcz4_1 : w3.cell? ⟨gb113, 1, none⟩ = some (.int .i64 a0_1) := (blk_cell BK113.out 1).trans rfl; have hfz4_0 := blk_frozen BK113.out 0; have hfz4_1 := blk_frozen BK113.out 1))
    all_goals
      go_ret
      exact ⟨by first | rfl | (simp [errW_none, errW_some] <;> rfl) | (simp [*, errW_none, errW_some] <;> rfl), by repeat (first | (with_reducible first | exact HB.out | apply below_alloc | apply pw_below_drewN | apply below_drew1 | refine below_set ?_ GE113.out) | exact HB.out)⟩
  · rw [if_neg c2] at H
    have c2b0 : decide (0 ≤ a0_1) = false := decide_eq_false c2
    clear c2
    obtain rfl := Option.some.inj H
    go_enter Try.func40, Try.ntmps40
    go_wp2_with (first | ((with_reducible refine gate_dst (N := 1) rfl ?_); refine box_event ?hg (N := 1) ?hd (cs := #[.int .u64 a0_0, .int .i64 a0_1]) (t := 25) ?hr ?_; (case hd => rfl); (case hg => rfl); (case hr => first | (go_simp; done) | (go_simp; rfl)); intro gb113 hg w5 hbox hb; have n0_ := Aside0.mk (below_step (by repeat (first | (with_reducible first | exact HB.out | apply below_alloc | apply pw_below_drewN | apply below_drew1) | exact HB.out)) hb); have n1_ := Aside0.mk (hbox); have n2_ := Aside0.mk ((by rw [hg]; exact (below_size (by repeat (first | (with_reducible first | exact HB.out | apply below_alloc | apply pw_below_drewN | apply below_drew1) | exact HB.out))) : w.heap.size ≤ gb113)); have n3_ := Aside0.mk ((by rw [hg]; exact (below_size (by repeat (first | (with_reducible first | exact HB.out | apply below_alloc | apply pw_below_drewN | apply below_drew1) | exact HB.out))) : w.heap.size ≤ gb113)); clear HB; have HB := n0_; have BK113 := n1_; have GW113 := n2_; have GE113 := n3_; clear n0_ n1_ n2_ n3_; clear hb hbox hg; have hcz6_0 : w5.cell? ⟨gb113, 0, none⟩ = some (.int .u64 a0_0) := (blk_cell BK113.out 0).trans rfl; have hcz6_1 : w5.cell? ⟨gb113, 1, none⟩ = some (.int .i64 a0_1) := (blk_cell BK113.out 1).trans rfl; have hfz6_0 := blk_frozen BK113.out 0; have hfz6_1 := blk_frozen BK113.out 1))
    all_goals
      go_ret
      exact ⟨by first | rfl | (simp [errW_none, errW_some] <;> rfl) | (simp [*, errW_none, errW_some] <;> rfl), by repeat (first | (with_reducible first | exact HB.out | apply below_alloc | apply pw_below_drewN | apply below_drew1 | refine below_set ?_ GE113.out) | exact HB.out)⟩
/-! ### header_Known: function 50 -/
def header_Known.j0 : Nat → Int → Bool → Option (Bool)
  | 0, _, _ => none
  | k + 1, x3, x4 => if x4 = true then (some true) else (if x3 = 8 then (some true) else (if x3 = 9 then (some true) else (if x3 = 10 then (some true) else (if x3 = 11 then (some true) else (if x3 = 12 then (some true) else (if x3 = 13 then (some true) else (some false)))))))
def header_Known.f (k : Nat) (a0 : Int) : Option (Bool) := if a0 = 0 then (header_Known.j0 k a0 (a0 == 0)) else (if a0 = 1 then (header_Known.j0 k a0 (a0 == 1)) else (if a0 = 2 then (header_Known.j0 k a0 (a0 == 2)) else (header_Known.j0 k a0 (a0 == 3))))
set_option maxHeartbeats 8000000 in
set_option maxRecDepth 100000 in
theorem header_Known.calls (k : Nat) (a0 : Int) (r : Bool) (w : World) (h : header_Known.f k a0 = some r) :
    Calls Try.prog 50 #[.int .i64 a0] w fun e w' => e = .returned (.bool r) ∧ Drawn0 w w' := by
  have H : (if a0 = 0 then (header_Known.j0 k a0 (a0 == 0)) else (if a0 = 1 then (header_Known.j0 k a0 (a0 == 1)) else (if a0 = 2 then (header_Known.j0 k a0 (a0 == 2)) else (header_Known.j0 k a0 (a0 == 3))))) = some r := h
  clear h
  have HC2 := Aside0.mk H
  clear H
  go_enter Try.func50, Try.ntmps50
  go_upto_if 4 with (fail)
  go_cut [4] (fun v4 wc => ∃ (kq : Nat) (x4_1 : Bool), v4 = .bool x4_1 ∧ Aside0 (header_Known.j0 kq a0 x4_1 = some r) ∧ Aside0 (kq ≤ k) ∧ Drawn0 w wc)
  case first =>
    have H := HC2.out
    clear HC2
    by_cases c3 : a0 = 0
    · rw [if_pos c3] at H
      have c3b0 : (a0 == 0) = true := beq_iff_eq.mpr c3
      have c3b1 : (a0 != 0) = false := bne_eq_false_iff_eq.mpr c3
      clear c3
      (first | rw [c3b0] | (simp only [i64_w, i32_w]; rw [c3b0]) | skip)
      have H' := Aside0.mk H
      clear H
      go_wp2
      go_meet
      case rel => exact ⟨_, ((a0 == 0)), (by first | rfl | (simp; done) | (simp [*]; done)), H', ⟨by first | omega | exact Nat.le_refl _⟩, by repeat (first | exact Drawn0.refl _ | apply Drawn0.step)⟩
    · rw [if_neg c3] at H
      have c3b0 : (a0 == 0) = false := beq_eq_false_iff_ne.mpr c3
      have c3b1 : (a0 != 0) = true := bne_iff_ne.mpr c3
      (first | rw [c3b0] | (simp only [i64_w, i32_w]; rw [c3b0]) | skip)
      by_cases c4 : a0 = 1
      · rw [if_pos c4] at H
        have c4b0 : (a0 == 1) = true := beq_iff_eq.mpr c4
        have c4b1 : (a0 != 1) = false := bne_eq_false_iff_eq.mpr c4
        clear c4
        have H' := Aside0.mk H
        clear H
        go_wp2
        go_meet
        case rel => exact ⟨_, ((a0 == 1)), (by first | rfl | (simp; done) | (simp [*]; done)), H', ⟨by first | omega | exact Nat.le_refl _⟩, by repeat (first | exact Drawn0.refl _ | apply Drawn0.step)⟩
      · rw [if_neg c4] at H
        have c4b0 : (a0 == 1) = false := beq_eq_false_iff_ne.mpr c4
        have c4b1 : (a0 != 1) = true := bne_iff_ne.mpr c4
        by_cases c5 : a0 = 2
        · rw [if_pos c5] at H
          have c5b0 : (a0 == 2) = true := beq_iff_eq.mpr c5
          have c5b1 : (a0 != 2) = false := bne_eq_false_iff_eq.mpr c5
          clear c5
          have H' := Aside0.mk H
          clear H
          go_wp2
          go_meet
          case rel => exact ⟨_, ((a0 == 2)), (by first | rfl | (simp; done) | (simp [*]; done)), H', ⟨by first | omega | exact Nat.le_refl _⟩, by repeat (first | exact Drawn0.refl _ | apply Drawn0.step)⟩
        · rw [if_neg c5] at H
          have c5b0 : (a0 == 2) = false := beq_eq_false_iff_ne.mpr c5
          have c5b1 : (a0 != 2) = true := bne_iff_ne.mpr c5
          have H' := Aside0.mk H
          clear H
          go_wp2
          go_meet
          case rel => exact ⟨_, ((a0 == 3)), (by first | rfl | (simp; done) | (simp [*]; done)), H', ⟨by first | omega | exact Nat.le_refl _⟩, by repeat (first | exact Drawn0.refl _ | apply Drawn0.step)⟩
  case rest =>
    clear HC2
    try clear p2
    try clear c3
    try clear c3b0
    try clear c3b1
    try clear c4
    try clear c4b0
    try clear c4b1
    try clear c5
    try clear c5b0
    try clear c5b1
    obtain ⟨kq, x4_1, rfl, HA, HJ1, ⟨mc1, rfl⟩⟩ := hcut
    cases kq with
    | zero => exact absurd HA.out (by simp [header_Known.j0])
    | succ kj1 =>
      have H := HA.out
      clear HA
      simp only [header_Known.j0] at H
      by_cases c6 : x4_1 = true
      · subst c6
        have H1 : (some true) = some r := by rw [if_pos rfl] at H; exact H
        clear H
        have H := H1
        clear H1
        obtain rfl := Option.some.inj H
        go_wp2
        all_goals
          go_ret
          exact ⟨by first | rfl | (simp; done) | (simp [*]; done), by repeat (first | exact Drawn0.refl _ | apply Drawn0.step)⟩
      · replace c6 := Bool.eq_false_iff.mpr c6
        subst c6
        have H1 : (if a0 = 8 then (some true) else (if a0 = 9 then (some true) else (if a0 = 10 then (some true) else (if a0 = 11 then (some true) else (if a0 = 12 then (some true) else (if a0 = 13 then (some true) else (some false))))))) = some r := by rw [if_neg (show ¬ (false = true) by decide)] at H; exact H
        clear H
        have H := H1
        clear H1
        by_cases c7 : a0 = 8
        · rw [if_pos c7] at H
          have c7b0 : (a0 == 8) = true := beq_iff_eq.mpr c7
          have c7b1 : (a0 != 8) = false := bne_eq_false_iff_eq.mpr c7
          clear c7
          obtain rfl := Option.some.inj H
          go_wp2
          all_goals
            go_ret
            exact ⟨by first | rfl | (simp; done) | (simp [*]; done), by repeat (first | exact Drawn0.refl _ | apply Drawn0.step)⟩
        · rw [if_neg c7] at H
          have c7b0 : (a0 == 8) = false := beq_eq_false_iff_ne.mpr c7
          have c7b1 : (a0 != 8) = true := bne_iff_ne.mpr c7
          by_cases c8 : a0 = 9
          · rw [if_pos c8] at H
            have c8b0 : (a0 == 9) = true := beq_iff_eq.mpr c8
            have c8b1 : (a0 != 9) = false := bne_eq_false_iff_eq.mpr c8
            clear c8
            obtain rfl := Option.some.inj H
            go_wp2
            all_goals
              go_ret
              exact ⟨by first | rfl | (simp; done) | (simp [*]; done), by repeat (first | exact Drawn0.refl _ | apply Drawn0.step)⟩
          · rw [if_neg c8] at H
            have c8b0 : (a0 == 9) = false := beq_eq_false_iff_ne.mpr c8
            have c8b1 : (a0 != 9) = true := bne_iff_ne.mpr c8
            by_cases c9 : a0 = 10
            · rw [if_pos c9] at H
              have c9b0 : (a0 == 10) = true := beq_iff_eq.mpr c9
              have c9b1 : (a0 != 10) = false := bne_eq_false_iff_eq.mpr c9
              clear c9
              obtain rfl := Option.some.inj H
              go_wp2
              all_goals
                go_ret
                exact ⟨by first | rfl | (simp; done) | (simp [*]; done), by repeat (first | exact Drawn0.refl _ | apply Drawn0.step)⟩
            · rw [if_neg c9] at H
              have c9b0 : (a0 == 10) = false := beq_eq_false_iff_ne.mpr c9
              have c9b1 : (a0 != 10) = true := bne_iff_ne.mpr c9
              by_cases c10 : a0 = 11
              · rw [if_pos c10] at H
                have c10b0 : (a0 == 11) = true := beq_iff_eq.mpr c10
                have c10b1 : (a0 != 11) = false := bne_eq_false_iff_eq.mpr c10
                clear c10
                obtain rfl := Option.some.inj H
                go_wp2
                all_goals
                  go_ret
                  exact ⟨by first | rfl | (simp; done) | (simp [*]; done), by repeat (first | exact Drawn0.refl _ | apply Drawn0.step)⟩
              · rw [if_neg c10] at H
                have c10b0 : (a0 == 11) = false := beq_eq_false_iff_ne.mpr c10
                have c10b1 : (a0 != 11) = true := bne_iff_ne.mpr c10
                by_cases c11 : a0 = 12
                · rw [if_pos c11] at H
                  have c11b0 : (a0 == 12) = true := beq_iff_eq.mpr c11
                  have c11b1 : (a0 != 12) = false := bne_eq_false_iff_eq.mpr c11
                  clear c11
                  obtain rfl := Option.some.inj H
                  go_wp2
                  all_goals
                    go_ret
                    exact ⟨by first | rfl | (simp; done) | (simp [*]; done), by repeat (first | exact Drawn0.refl _ | apply Drawn0.step)⟩
                · rw [if_neg c11] at H
                  have c11b0 : (a0 == 12) = false := beq_eq_false_iff_ne.mpr c11
                  have c11b1 : (a0 != 12) = true := bne_iff_ne.mpr c11
                  by_cases c12 : a0 = 13
                  · rw [if_pos c12] at H
                    have c12b0 : (a0 == 13) = true := beq_iff_eq.mpr c12
                    have c12b1 : (a0 != 13) = false := bne_eq_false_iff_eq.mpr c12
                    clear c12
                    obtain rfl := Option.some.inj H
                    go_wp2
                    all_goals
                      go_ret
                      exact ⟨by first | rfl | (simp; done) | (simp [*]; done), by repeat (first | exact Drawn0.refl _ | apply Drawn0.step)⟩
                  · rw [if_neg c12] at H
                    have c12b0 : (a0 == 13) = false := beq_eq_false_iff_ne.mpr c12
                    have c12b1 : (a0 != 13) = true := bne_iff_ne.mpr c12
                    obtain rfl := Option.some.inj H
                    go_wp2
                    all_goals
                      go_ret
                      exact ⟨by first | rfl | (simp; done) | (simp [*]; done), by repeat (first | exact Drawn0.refl _ | apply Drawn0.step)⟩
/-! ### header_in: function 51 -/
def header_in.f (a0 : Int) (a1 : Int) (a2 : Int) : Option (Bool) := if a0 ≥ a1 then (some (decide (a0 ≤ a2))) else (some false)
set_option maxHeartbeats 8000000 in
set_option maxRecDepth 100000 in
theorem header_in.calls (a0 : Int) (a1 : Int) (a2 : Int) (r : Bool) (w : World) (h : header_in.f a0 a1 a2 = some r) :
    Calls Try.prog 51 #[.int .i64 a0, .int .i64 a1, .int .i64 a2] w fun e w' => e = .returned (.bool r) ∧ Drawn0 w w' := by
  have H : (if a0 ≥ a1 then (some (decide (a0 ≤ a2))) else (some false)) = some r := h
  clear h
  by_cases c4 : a0 ≥ a1
  · rw [if_pos c4] at H
    have c4b0 : decide (a1 ≤ a0) = true := decide_eq_true c4
    clear c4
    obtain rfl := Option.some.inj H
    go_enter Try.func51, Try.ntmps51
    go_wp2
    all_goals
      go_ret
      exact ⟨by first | rfl | (simp; done) | (simp [*]; done), by repeat (first | exact Drawn0.refl _ | apply Drawn0.step)⟩
  · rw [if_neg c4] at H
    have c4b0 : decide (a1 ≤ a0) = false := decide_eq_false c4
    clear c4
    obtain rfl := Option.some.inj H
    go_enter Try.func51, Try.ntmps51
    go_wp2
    all_goals
      go_ret
      exact ⟨by first | rfl | (simp; done) | (simp [*]; done), by repeat (first | exact Drawn0.refl _ | apply Drawn0.step)⟩
/-! ### header_Check: function 37 -/
def header_Check.f (k : Nat) (a0_0 : Int) (a0_1 : Int) (a0_2 : Int) (a0_3 : Int) (a0_4 : Int) (a0_5 : Int) (a0_6 : Int) (a0_7 : Int) (a0_8 : Int) (a0_9 : Int) (a0_10 : Int) (a0_11 : Int) (a0_12 : Int) (a0_13 : Int) (a0_14 : Int) (a0_15 : Int) (a0_16 : Int) (a0_17 : Int) (a0_18 : Int) (a0_19 : Int) (a0_20 : Int) (a0_21 : Int) (a0_22 : Int) : Option (Bool) := (header_Known.f k a0_0).bind fun t115 => (if t115 = true then ((header_in.f a0_1 0 255).bind fun t116 => (if t116 = true then ((header_in.f a0_2 0 65535).bind fun t117 => (if t117 = true then ((ident_May.f a0_4 a0_5).bind fun t118 => (if t118 = true then ((header_in.f a0_6 0 65535).bind fun t119 => (if t119 = true then ((header_in.f a0_7 (-128) 127).bind fun t120 => (some t120)) else (some false))) else (some false))) else (some false))) else (some false))) else (some false))
set_option maxHeartbeats 8000000 in
set_option maxRecDepth 100000 in
theorem header_Check.calls (k : Nat) (a0_0 : Int) (a0_1 : Int) (a0_2 : Int) (a0_3 : Int) (a0_4 : Int) (a0_5 : Int) (a0_6 : Int) (a0_7 : Int) (a0_8 : Int) (a0_9 : Int) (a0_10 : Int) (a0_11 : Int) (a0_12 : Int) (a0_13 : Int) (a0_14 : Int) (a0_15 : Int) (a0_16 : Int) (a0_17 : Int) (a0_18 : Int) (a0_19 : Int) (a0_20 : Int) (a0_21 : Int) (a0_22 : Int) (r : Bool) (w : World) (h : header_Check.f k a0_0 a0_1 a0_2 a0_3 a0_4 a0_5 a0_6 a0_7 a0_8 a0_9 a0_10 a0_11 a0_12 a0_13 a0_14 a0_15 a0_16 a0_17 a0_18 a0_19 a0_20 a0_21 a0_22 = some r) :
    Calls Try.prog 37 #[.agg #[.int .i64 a0_0, .int .i64 a0_1, .int .i64 a0_2, .int .i64 a0_3, .int .u64 a0_4, .int .i64 a0_5, .int .i64 a0_6, .int .i64 a0_7, .int .i64 a0_8, .int .u64 a0_9, .int .i64 a0_10, .int .i64 a0_11, .int .i64 a0_12, .int .i64 a0_13, .int .i64 a0_14, .int .i64 a0_15, .int .i64 a0_16, .int .u64 a0_17, .int .i64 a0_18, .int .i64 a0_19, .int .i64 a0_20, .int .i64 a0_21, .int .i64 a0_22]] w fun e w' => e = .returned (.bool r) ∧ Below w.heap.size w w' := by
  have hu29 := Try.underlying29
  have hu25 := Try.underlying25
  have HB := Aside0.mk (Below.refl w.heap.size w)
  have H : ((header_Known.f k a0_0).bind fun t115 => (if t115 = true then ((header_in.f a0_1 0 255).bind fun t116 => (if t116 = true then ((header_in.f a0_2 0 65535).bind fun t117 => (if t117 = true then ((ident_May.f a0_4 a0_5).bind fun t118 => (if t118 = true then ((header_in.f a0_6 0 65535).bind fun t119 => (if t119 = true then ((header_in.f a0_7 (-128) 127).bind fun t120 => (some t120)) else (some false))) else (some false))) else (some false))) else (some false))) else (some false))) = some r := h
  clear h
  replace H := Option.bind_eq_some_iff.mp H
  obtain ⟨t115, A20, H⟩ := H
  replace H : (if t115 = true then ((header_in.f a0_1 0 255).bind fun t116 => (if t116 = true then ((header_in.f a0_2 0 65535).bind fun t117 => (if t117 = true then ((ident_May.f a0_4 a0_5).bind fun t118 => (if t118 = true then ((header_in.f a0_6 0 65535).bind fun t119 => (if t119 = true then ((header_in.f a0_7 (-128) 127).bind fun t120 => (some t120)) else (some false))) else (some false))) else (some false))) else (some false))) else (some false)) = some r := H
  have A2 := Aside0.mk A20
  clear A20
  by_cases c3 : t115 = true
  · subst c3
    have H1 : ((header_in.f a0_1 0 255).bind fun t116 => (if t116 = true then ((header_in.f a0_2 0 65535).bind fun t117 => (if t117 = true then ((ident_May.f a0_4 a0_5).bind fun t118 => (if t118 = true then ((header_in.f a0_6 0 65535).bind fun t119 => (if t119 = true then ((header_in.f a0_7 (-128) 127).bind fun t120 => (some t120)) else (some false))) else (some false))) else (some false))) else (some false))) = some r := by rw [if_pos rfl] at H; exact H
    clear H
    have H := H1
    clear H1
    replace H := Option.bind_eq_some_iff.mp H
    obtain ⟨t116, A40, H⟩ := H
    replace H : (if t116 = true then ((header_in.f a0_2 0 65535).bind fun t117 => (if t117 = true then ((ident_May.f a0_4 a0_5).bind fun t118 => (if t118 = true then ((header_in.f a0_6 0 65535).bind fun t119 => (if t119 = true then ((header_in.f a0_7 (-128) 127).bind fun t120 => (some t120)) else (some false))) else (some false))) else (some false))) else (some false)) = some r := H
    have A4 := Aside0.mk A40
    clear A40
    by_cases c5 : t116 = true
    · subst c5
      have H1 : ((header_in.f a0_2 0 65535).bind fun t117 => (if t117 = true then ((ident_May.f a0_4 a0_5).bind fun t118 => (if t118 = true then ((header_in.f a0_6 0 65535).bind fun t119 => (if t119 = true then ((header_in.f a0_7 (-128) 127).bind fun t120 => (some t120)) else (some false))) else (some false))) else (some false))) = some r := by rw [if_pos rfl] at H; exact H
      clear H
      have H := H1
      clear H1
      replace H := Option.bind_eq_some_iff.mp H
      obtain ⟨t117, A60, H⟩ := H
      replace H : (if t117 = true then ((ident_May.f a0_4 a0_5).bind fun t118 => (if t118 = true then ((header_in.f a0_6 0 65535).bind fun t119 => (if t119 = true then ((header_in.f a0_7 (-128) 127).bind fun t120 => (some t120)) else (some false))) else (some false))) else (some false)) = some r := H
      have A6 := Aside0.mk A60
      clear A60
      by_cases c7 : t117 = true
      · subst c7
        have H1 : ((ident_May.f a0_4 a0_5).bind fun t118 => (if t118 = true then ((header_in.f a0_6 0 65535).bind fun t119 => (if t119 = true then ((header_in.f a0_7 (-128) 127).bind fun t120 => (some t120)) else (some false))) else (some false))) = some r := by rw [if_pos rfl] at H; exact H
        clear H
        have H := H1
        clear H1
        replace H := Option.bind_eq_some_iff.mp H
        obtain ⟨t118, A80, H⟩ := H
        replace H : (if t118 = true then ((header_in.f a0_6 0 65535).bind fun t119 => (if t119 = true then ((header_in.f a0_7 (-128) 127).bind fun t120 => (some t120)) else (some false))) else (some false)) = some r := H
        have A8 := Aside0.mk A80
        clear A80
        by_cases c9 : t118 = true
        · subst c9
          have H1 : ((header_in.f a0_6 0 65535).bind fun t119 => (if t119 = true then ((header_in.f a0_7 (-128) 127).bind fun t120 => (some t120)) else (some false))) = some r := by rw [if_pos rfl] at H; exact H
          clear H
          have H := H1
          clear H1
          replace H := Option.bind_eq_some_iff.mp H
          obtain ⟨t119, A100, H⟩ := H
          replace H : (if t119 = true then ((header_in.f a0_7 (-128) 127).bind fun t120 => (some t120)) else (some false)) = some r := H
          have A10 := Aside0.mk A100
          clear A100
          by_cases c11 : t119 = true
          · subst c11
            have H1 : ((header_in.f a0_7 (-128) 127).bind fun t120 => (some t120)) = some r := by rw [if_pos rfl] at H; exact H
            clear H
            have H := H1
            clear H1
            replace H := Option.bind_eq_some_iff.mp H
            obtain ⟨t120, A120, H⟩ := H
            replace H : (some t120) = some r := H
            have A12 := Aside0.mk A120
            clear A120
            obtain rfl := Option.some.inj H
            go_enter Try.func37, Try.ntmps37
            go_wp2_with (first | (refine big_load (g := gb114) (t := 29) (fr := (0, 0)) (n := 23) (cs := ?_) rfl rfl Try.underlying29 (by kernel_rfl) rfl ?lg ?ln ?_; (case lg => (with_reducible repeat (first | refine blk_drewN ?_ _ | refine blk_drew ?_ | refine blk_alloc ?_ _)); exact BK114.out); (case ln => rfl)) | ((with_reducible refine gate_dst (N := 1) rfl ?_); refine box_event ?hg (N := 1) ?hd (cs := #[.int .i64 a0_0, .int .i64 a0_1, .int .i64 a0_2, .int .i64 a0_3, .int .u64 a0_4, .int .i64 a0_5, .int .i64 a0_6, .int .i64 a0_7, .int .i64 a0_8, .int .u64 a0_9, .int .i64 a0_10, .int .i64 a0_11, .int .i64 a0_12, .int .i64 a0_13, .int .i64 a0_14, .int .i64 a0_15, .int .i64 a0_16, .int .u64 a0_17, .int .i64 a0_18, .int .i64 a0_19, .int .i64 a0_20, .int .i64 a0_21, .int .i64 a0_22]) (t := 29) ?hr ?_; (case hd => rfl); (case hg => rfl); (case hr => first | (go_simp; done) | (go_simp; rfl)); intro gb114 hg w13 hbox hb; have n0_ := Aside0.mk (below_step (by repeat (first | (with_reducible first | exact HB.out | apply below_alloc | apply pw_below_drewN | apply below_drew1) | exact HB.out)) hb); have n1_ := Aside0.mk (hbox); have n2_ := Aside0.mk ((by rw [hg]; exact (below_size (by repeat (first | (with_reducible first | exact HB.out | apply below_alloc | apply pw_below_drewN | apply below_drew1) | exact HB.out))) : w.heap.size ≤ gb114)); have n3_ := Aside0.mk ((by rw [hg]; exact (below_size (by repeat (first | (with_reducible first | exact HB.out | apply below_alloc | apply pw_below_drewN | apply below_drew1) | exact HB.out))) : w.heap.size ≤ gb114)); clear HB; have HB := n0_; have BK114 := n1_; have GW114 := n2_; have GE114 := n3_; clear n0_ n1_ n2_ n3_; clear hb hbox hg; have hcz14_0 : w13.cell? ⟨gb114, 0, none⟩ = some (.int .i64 a0_0) := (blk_cell BK114.out 0).trans rfl; have hcz14_1 : w13.cell? ⟨gb114, 1, none⟩ = some (.int .i64 a0_1) := (blk_cell BK114.out 1).trans rfl; have hcz14_2 : w13.cell? ⟨gb114, 2, none⟩ = some (.int .i64 a0_2) := (blk_cell BK114.out 2).trans rfl; have hcz14_3 : w13.cell? ⟨gb114, 3, none⟩ = some (.int .i64 a0_3) := (blk_cell BK114.out 3).trans rfl; have hcz14_4 : w13.cell? ⟨gb114, 4, none⟩ = some (.int .u64 a0_4) := (blk_cell BK114.out 4).trans rfl; have hcz14_5 : w13.cell? ⟨gb114, 5, none⟩ = some (.int .i64 a0_5) := (blk_cell BK114.out 5).trans rfl; have hcz14_6 : w13.cell? ⟨gb114, 6, none⟩ = some (.int .i64 a0_6) := (blk_cell BK114.out 6).trans rfl; have hcz14_7 : w13.cell? ⟨gb114, 7, none⟩ = some (.int .i64 a0_7) := (blk_cell BK114.out 7).trans rfl; have hcz14_8 : w13.cell? ⟨gb114, 8, none⟩ = some (.int .i64 a0_8) := (blk_cell BK114.out 8).trans rfl; have hcz14_9 : w13.cell? ⟨gb114, 9, none⟩ = some (.int .u64 a0_9) := (blk_cell BK114.out 9).trans rfl; have hcz14_10 : w13.cell? ⟨gb114, 10, none⟩ = some (.int .i64 a0_10) := (blk_cell BK114.out 10).trans rfl; have hcz14_11 : w13.cell? ⟨gb114, 11, none⟩ = some (.int .i64 a0_11) := (blk_cell BK114.out 11).trans rfl; have hcz14_12 : w13.cell? ⟨gb114, 12, none⟩ = some (.int .i64 a0_12) := (blk_cell BK114.out 12).trans rfl; have hcz14_13 : w13.cell? ⟨gb114, 13, none⟩ = some (.int .i64 a0_13) := (blk_cell BK114.out 13).trans rfl; have hcz14_14 : w13.cell? ⟨gb114, 14, none⟩ = some (.int .i64 a0_14) := (blk_cell BK114.out 14).trans rfl; have hcz14_15 : w13.cell? ⟨gb114, 15, none⟩ = some (.int .i64 a0_15) := (blk_cell BK114.out 15).trans rfl; have hcz14_16 : w13.cell? ⟨gb114, 16, none⟩ = some (.int .i64 a0_16) := (blk_cell BK114.out 16).trans rfl; have hcz14_17 : w13.cell? ⟨gb114, 17, none⟩ = some (.int .u64 a0_17) := (blk_cell BK114.out 17).trans rfl; have hcz14_18 : w13.cell? ⟨gb114, 18, none⟩ = some (.int .i64 a0_18) := (blk_cell BK114.out 18).trans rfl; have hcz14_19 : w13.cell? ⟨gb114, 19, none⟩ = some (.int .i64 a0_19) := (blk_cell BK114.out 19).trans rfl; have hcz14_20 : w13.cell? ⟨gb114, 20, none⟩ = some (.int .i64 a0_20) := (blk_cell BK114.out 20).trans rfl; have hcz14_21 : w13.cell? ⟨gb114, 21, none⟩ = some (.int .i64 a0_21) := (blk_cell BK114.out 21).trans rfl; have hcz14_22 : w13.cell? ⟨gb114, 22, none⟩ = some (.int .i64 a0_22) := (blk_cell BK114.out 22).trans rfl; have hfz14_0 := blk_frozen BK114.out 0; have hfz14_1 := blk_frozen BK114.out 1; have hfz14_2 := blk_frozen BK114.out 2; have hfz14_3 := blk_frozen BK114.out 3; have hfz14_4 := blk_frozen BK114.out 4; have hfz14_5 := blk_frozen BK114.out 5; have hfz14_6 := blk_frozen BK114.out 6; have hfz14_7 := blk_frozen BK114.out 7; have hfz14_8 := blk_frozen BK114.out 8; have hfz14_9 := blk_frozen BK114.out 9; have hfz14_10 := blk_frozen BK114.out 10; have hfz14_11 := blk_frozen BK114.out 11; have hfz14_12 := blk_frozen BK114.out 12; have hfz14_13 := blk_frozen BK114.out 13; have hfz14_14 := blk_frozen BK114.out 14; have hfz14_15 := blk_frozen BK114.out 15; have hfz14_16 := blk_frozen BK114.out 16; have hfz14_17 := blk_frozen BK114.out 17; have hfz14_18 := blk_frozen BK114.out 18; have hfz14_19 := blk_frozen BK114.out 19; have hfz14_20 := blk_frozen BK114.out 20; have hfz14_21 := blk_frozen BK114.out 21; have hfz14_22 := blk_frozen BK114.out 22) | ((with_reducible refine gate_callee (f := 50) rfl ?_); refine goesL_ (some 5) rfl rfl Try.func50 (by kernel_rfl) rfl #[.int .i64 a0_0] rfl (by (try simp only [List.map_toArray, List.map_cons, List.map_nil]); first | done | rfl | (simp only [List.length_drop, List.length_take]; rfl)) ?_; (with_reducible refine (header_Known.calls k a0_0 true _ A2.out).mono ?_); rintro e w' ⟨rfl, ⟨nd, rfl⟩⟩; refine ⟨_, rfl, ?_⟩) | (go_at_call 51; (with_reducible refine (header_in.calls a0_1 0 255 true _ A4.out).mono ?_); rintro e w' ⟨rfl, ⟨nd, rfl⟩⟩) | (go_at_call 51; (with_reducible refine (header_in.calls a0_2 0 65535 true _ A6.out).mono ?_); rintro e w' ⟨rfl, ⟨nd, rfl⟩⟩) | (go_at_call 40; (with_reducible refine (ident_May.calls a0_4 a0_5 true _ A8.out).mono ?_); rintro e w15 ⟨rfl, hb⟩; have n0_ := Aside0.mk (blk_below (g := gb114) (o := .cells #[.int .i64 a0_0, .int .i64 a0_1, .int .i64 a0_2, .int .i64 a0_3, .int .u64 a0_4, .int .i64 a0_5, .int .i64 a0_6, .int .i64 a0_7, .int .i64 a0_8, .int .u64 a0_9, .int .i64 a0_10, .int .i64 a0_11, .int .i64 a0_12, .int .i64 a0_13, .int .i64 a0_14, .int .i64 a0_15, .int .i64 a0_16, .int .u64 a0_17, .int .i64 a0_18, .int .i64 a0_19, .int .i64 a0_20, .int .i64 a0_21, .int .i64 a0_22] 29 (0, 0)) (by (with_reducible repeat (first | refine blk_drewN ?_ _ | refine blk_drew ?_ | refine blk_alloc ?_ _)); exact BK114.out) hb); have n1_ := Aside0.mk (below_step (by repeat (first | (with_reducible first | exact HB.out | apply below_alloc | apply pw_below_drewN | apply below_drew1 | refine below_set ?_ GE114.out) | exact HB.out)) hb); clear BK114; clear HB; have BK114 := n0_; have HB := n1_; clear n0_ n1_; (try clear hb); (try clear hb2); (try clear hk); (try clear hi); have hcz16_0 : w15.cell? ⟨gb114, 0, none⟩ = some (.int .i64 a0_0) := (blk_cell BK114.out 0).trans rfl; have hcz16_1 : w15.cell? ⟨gb114, 1, none⟩ = some (.int .i64 a0_1) := (blk_cell BK114.out 1).trans rfl; have hcz16_2 : w15.cell? ⟨gb114, 2, none⟩ = some (.int .i64 a0_2) := (blk_cell BK114.out 2).trans rfl; have hcz16_3 : w15.cell? ⟨gb114, 3, none⟩ = some (.int .i64 a0_3) := (blk_cell BK114.out 3).trans rfl; have hcz16_4 : w15.cell? ⟨gb114, 4, none⟩ = some (.int .u64 a0_4) := (blk_cell BK114.out 4).trans rfl; have hcz16_5 : w15.cell? ⟨gb114, 5, none⟩ = some (.int .i64 a0_5) := (blk_cell BK114.out 5).trans rfl; have hcz16_6 : w15.cell? ⟨gb114, 6, none⟩ = some (.int .i64 a0_6) := (blk_cell BK114.out 6).trans rfl; have hcz16_7 : w15.cell? ⟨gb114, 7, none⟩ = some (.int .i64 a0_7) := (blk_cell BK114.out 7).trans rfl; have hcz16_8 : w15.cell? ⟨gb114, 8, none⟩ = some (.int .i64 a0_8) := (blk_cell BK114.out 8).trans rfl; have hcz16_9 : w15.cell? ⟨gb114, 9, none⟩ = some (.int .u64 a0_9) := (blk_cell BK114.out 9).trans rfl; have hcz16_10 : w15.cell? ⟨gb114, 10, none⟩ = some (.int .i64 a0_10) := (blk_cell BK114.out 10).trans rfl; have hcz16_11 : w15.cell? ⟨gb114, 11, none⟩ = some (.int .i64 a0_11) := (blk_cell BK114.out 11).trans rfl; have hcz16_12 : w15.cell? ⟨gb114, 12, none⟩ = some (.int .i64 a0_12) := (blk_cell BK114.out 12).trans rfl; have hcz16_13 : w15.cell? ⟨gb114, 13, none⟩ = some (.int .i64 a0_13) := (blk_cell BK114.out 13).trans rfl; have hcz16_14 : w15.cell? ⟨gb114, 14, none⟩ = some (.int .i64 a0_14) := (blk_cell BK114.out 14).trans rfl; have hcz16_15 : w15.cell? ⟨gb114, 15, none⟩ = some (.int .i64 a0_15) := (blk_cell BK114.out 15).trans rfl; have hcz16_16 : w15.cell? ⟨gb114, 16, none⟩ = some (.int .i64 a0_16) := (blk_cell BK114.out 16).trans rfl; have hcz16_17 : w15.cell? ⟨gb114, 17, none⟩ = some (.int .u64 a0_17) := (blk_cell BK114.out 17).trans rfl; have hcz16_18 : w15.cell? ⟨gb114, 18, none⟩ = some (.int .i64 a0_18) := (blk_cell BK114.out 18).trans rfl; have hcz16_19 : w15.cell? ⟨gb114, 19, none⟩ = some (.int .i64 a0_19) := (blk_cell BK114.out 19).trans rfl; have hcz16_20 : w15.cell? ⟨gb114, 20, none⟩ = some (.int .i64 a0_20) := (blk_cell BK114.out 20).trans rfl; have hcz16_21 : w15.cell? ⟨gb114, 21, none⟩ = some (.int .i64 a0_21) := (blk_cell BK114.out 21).trans rfl; have hcz16_22 : w15.cell? ⟨gb114, 22, none⟩ = some (.int .i64 a0_22) := (blk_cell BK114.out 22).trans rfl; have hfz16_0 := blk_frozen BK114.out 0; have hfz16_1 := blk_frozen BK114.out 1; have hfz16_2 := blk_frozen BK114.out 2; have hfz16_3 := blk_frozen BK114.out 3; have hfz16_4 := blk_frozen BK114.out 4; have hfz16_5 := blk_frozen BK114.out 5; have hfz16_6 := blk_frozen BK114.out 6; have hfz16_7 := blk_frozen BK114.out 7; have hfz16_8 := blk_frozen BK114.out 8; have hfz16_9 := blk_frozen BK114.out 9; have hfz16_10 := blk_frozen BK114.out 10; have hfz16_11 := blk_frozen BK114.out 11; have hfz16_12 := blk_frozen BK114.out 12; have hfz16_13 := blk_frozen BK114.out 13; have hfz16_14 := blk_frozen BK114.out 14; have hfz16_15 := blk_frozen BK114.out 15; have hfz16_16 := blk_frozen BK114.out 16; have hfz16_17 := blk_frozen BK114.out 17; have hfz16_18 := blk_frozen BK114.out 18; have hfz16_19 := blk_frozen BK114.out 19; have hfz16_20 := blk_frozen BK114.out 20; have hfz16_21 := blk_frozen BK114.out 21; have hfz16_22 := blk_frozen BK114.out 22) | (go_at_call 51; (with_reducible refine (header_in.calls a0_6 0 65535 true _ A10.out).mono ?_); rintro e w' ⟨rfl, ⟨nd, rfl⟩⟩) | (go_at_call 51; (with_reducible refine (header_in.calls a0_7 (-128) 127 t120 _ A12.out).mono ?_); rintro e w' ⟨rfl, ⟨nd, rfl⟩⟩))
            all_goals
              go_ret
              exact ⟨by first | rfl | (simp [errW_none, errW_some] <;> rfl) | (simp [*, errW_none, errW_some] <;> rfl), by repeat (first | (with_reducible first | exact HB.out | apply below_alloc | apply pw_below_drewN | apply below_drew1 | refine below_set ?_ GE114.out) | exact HB.out)⟩
          · replace c11 := Bool.eq_false_iff.mpr c11
            subst c11
            have H1 : (some false) = some r := by rw [if_neg (show ¬ (false = true) by decide)] at H; exact H
            clear H
            have H := H1
            clear H1
            obtain rfl := Option.some.inj H
            go_enter Try.func37, Try.ntmps37
            go_wp2_with (first | (refine big_load (g := gb114) (t := 29) (fr := (0, 0)) (n := 23) (cs := ?_) rfl rfl Try.underlying29 (by kernel_rfl) rfl ?lg ?ln ?_; (case lg => (with_reducible repeat (first | refine blk_drewN ?_ _ | refine blk_drew ?_ | refine blk_alloc ?_ _)); exact BK114.out); (case ln => rfl)) | ((with_reducible refine gate_dst (N := 1) rfl ?_); refine box_event ?hg (N := 1) ?hd (cs := #[.int .i64 a0_0, .int .i64 a0_1, .int .i64 a0_2, .int .i64 a0_3, .int .u64 a0_4, .int .i64 a0_5, .int .i64 a0_6, .int .i64 a0_7, .int .i64 a0_8, .int .u64 a0_9, .int .i64 a0_10, .int .i64 a0_11, .int .i64 a0_12, .int .i64 a0_13, .int .i64 a0_14, .int .i64 a0_15, .int .i64 a0_16, .int .u64 a0_17, .int .i64 a0_18, .int .i64 a0_19, .int .i64 a0_20, .int .i64 a0_21, .int .i64 a0_22]) (t := 29) ?hr ?_; (case hd => rfl); (case hg => rfl); (case hr => first | (go_simp; done) | (go_simp; rfl)); intro gb114 hg w17 hbox hb; have n0_ := Aside0.mk (below_step (by repeat (first | (with_reducible first | exact HB.out | apply below_alloc | apply pw_below_drewN | apply below_drew1) | exact HB.out)) hb); have n1_ := Aside0.mk (hbox); have n2_ := Aside0.mk ((by rw [hg]; exact (below_size (by repeat (first | (with_reducible first | exact HB.out | apply below_alloc | apply pw_below_drewN | apply below_drew1) | exact HB.out))) : w.heap.size ≤ gb114)); have n3_ := Aside0.mk ((by rw [hg]; exact (below_size (by repeat (first | (with_reducible first | exact HB.out | apply below_alloc | apply pw_below_drewN | apply below_drew1) | exact HB.out))) : w.heap.size ≤ gb114)); clear HB; have HB := n0_; have BK114 := n1_; have GW114 := n2_; have GE114 := n3_; clear n0_ n1_ n2_ n3_; clear hb hbox hg; have hcz18_0 : w17.cell? ⟨gb114, 0, none⟩ = some (.int .i64 a0_0) := (blk_cell BK114.out 0).trans rfl; have hcz18_1 : w17.cell? ⟨gb114, 1, none⟩ = some (.int .i64 a0_1) := (blk_cell BK114.out 1).trans rfl; have hcz18_2 : w17.cell? ⟨gb114, 2, none⟩ = some (.int .i64 a0_2) := (blk_cell BK114.out 2).trans rfl; have hcz18_3 : w17.cell? ⟨gb114, 3, none⟩ = some (.int .i64 a0_3) := (blk_cell BK114.out 3).trans rfl; have hcz18_4 : w17.cell? ⟨gb114, 4, none⟩ = some (.int .u64 a0_4) := (blk_cell BK114.out 4).trans rfl; have hcz18_5 : w17.cell? ⟨gb114, 5, none⟩ = some (.int .i64 a0_5) := (blk_cell BK114.out 5).trans rfl; have hcz18_6 : w17.cell? ⟨gb114, 6, none⟩ = some (.int .i64 a0_6) := (blk_cell BK114.out 6).trans rfl; have hcz18_7 : w17.cell? ⟨gb114, 7, none⟩ = some (.int .i64 a0_7) := (blk_cell BK114.out 7).trans rfl; have hcz18_8 : w17.cell? ⟨gb114, 8, none⟩ = some (.int .i64 a0_8) := (blk_cell BK114.out 8).trans rfl; have hcz18_9 : w17.cell? ⟨gb114, 9, none⟩ = some (.int .u64 a0_9) := (blk_cell BK114.out 9).trans rfl; have hcz18_10 : w17.cell? ⟨gb114, 10, none⟩ = some (.int .i64 a0_10) := (blk_cell BK114.out 10).trans rfl; have hcz18_11 : w17.cell? ⟨gb114, 11, none⟩ = some (.int .i64 a0_11) := (blk_cell BK114.out 11).trans rfl; have hcz18_12 : w17.cell? ⟨gb114, 12, none⟩ = some (.int .i64 a0_12) := (blk_cell BK114.out 12).trans rfl; have hcz18_13 : w17.cell? ⟨gb114, 13, none⟩ = some (.int .i64 a0_13) := (blk_cell BK114.out 13).trans rfl; have hcz18_14 : w17.cell? ⟨gb114, 14, none⟩ = some (.int .i64 a0_14) := (blk_cell BK114.out 14).trans rfl; have hcz18_15 : w17.cell? ⟨gb114, 15, none⟩ = some (.int .i64 a0_15) := (blk_cell BK114.out 15).trans rfl; have hcz18_16 : w17.cell? ⟨gb114, 16, none⟩ = some (.int .i64 a0_16) := (blk_cell BK114.out 16).trans rfl; have hcz18_17 : w17.cell? ⟨gb114, 17, none⟩ = some (.int .u64 a0_17) := (blk_cell BK114.out 17).trans rfl; have hcz18_18 : w17.cell? ⟨gb114, 18, none⟩ = some (.int .i64 a0_18) := (blk_cell BK114.out 18).trans rfl; have hcz18_19 : w17.cell? ⟨gb114, 19, none⟩ = some (.int .i64 a0_19) := (blk_cell BK114.out 19).trans rfl; have hcz18_20 : w17.cell? ⟨gb114, 20, none⟩ = some (.int .i64 a0_20) := (blk_cell BK114.out 20).trans rfl; have hcz18_21 : w17.cell? ⟨gb114, 21, none⟩ = some (.int .i64 a0_21) := (blk_cell BK114.out 21).trans rfl; have hcz18_22 : w17.cell? ⟨gb114, 22, none⟩ = some (.int .i64 a0_22) := (blk_cell BK114.out 22).trans rfl; have hfz18_0 := blk_frozen BK114.out 0; have hfz18_1 := blk_frozen BK114.out 1; have hfz18_2 := blk_frozen BK114.out 2; have hfz18_3 := blk_frozen BK114.out 3; have hfz18_4 := blk_frozen BK114.out 4; have hfz18_5 := blk_frozen BK114.out 5; have hfz18_6 := blk_frozen BK114.out 6; have hfz18_7 := blk_frozen BK114.out 7; have hfz18_8 := blk_frozen BK114.out 8; have hfz18_9 := blk_frozen BK114.out 9; have hfz18_10 := blk_frozen BK114.out 10; have hfz18_11 := blk_frozen BK114.out 11; have hfz18_12 := blk_frozen BK114.out 12; have hfz18_13 := blk_frozen BK114.out 13; have hfz18_14 := blk_frozen BK114.out 14; have hfz18_15 := blk_frozen BK114.out 15; have hfz18_16 := blk_frozen BK114.out 16; have hfz18_17 := blk_frozen BK114.out 17; have hfz18_18 := blk_frozen BK114.out 18; have hfz18_19 := blk_frozen BK114.out 19; have hfz18_20 := blk_frozen BK114.out 20; have hfz18_21 := blk_frozen BK114.out 21; have hfz18_22 := blk_frozen BK114.out 22) | ((with_reducible refine gate_callee (f := 50) rfl ?_); refine goesL_ (some 5) rfl rfl Try.func50 (by kernel_rfl) rfl #[.int .i64 a0_0] rfl (by (try simp only [List.map_toArray, List.map_cons, List.map_nil]); first | done | rfl | (simp only [List.length_drop, List.length_take]; rfl)) ?_; (with_reducible refine (header_Known.calls k a0_0 true _ A2.out).mono ?_); rintro e w' ⟨rfl, ⟨nd, rfl⟩⟩; refine ⟨_, rfl, ?_⟩) | (go_at_call 51; (with_reducible refine (header_in.calls a0_1 0 255 true _ A4.out).mono ?_); rintro e w' ⟨rfl, ⟨nd, rfl⟩⟩) | (go_at_call 51; (with_reducible refine (header_in.calls a0_2 0 65535 true _ A6.out).mono ?_); rintro e w' ⟨rfl, ⟨nd, rfl⟩⟩) | (go_at_call 40; (with_reducible refine (ident_May.calls a0_4 a0_5 true _ A8.out).mono ?_); rintro e w19 ⟨rfl, hb⟩; have n0_ := Aside0.mk (blk_below (g := gb114) (o := .cells #[.int .i64 a0_0, .int .i64 a0_1, .int .i64 a0_2, .int .i64 a0_3, .int .u64 a0_4, .int .i64 a0_5, .int .i64 a0_6, .int .i64 a0_7, .int .i64 a0_8, .int .u64 a0_9, .int .i64 a0_10, .int .i64 a0_11, .int .i64 a0_12, .int .i64 a0_13, .int .i64 a0_14, .int .i64 a0_15, .int .i64 a0_16, .int .u64 a0_17, .int .i64 a0_18, .int .i64 a0_19, .int .i64 a0_20, .int .i64 a0_21, .int .i64 a0_22] 29 (0, 0)) (by (with_reducible repeat (first | refine blk_drewN ?_ _ | refine blk_drew ?_ | refine blk_alloc ?_ _)); exact BK114.out) hb); have n1_ := Aside0.mk (below_step (by repeat (first | (with_reducible first | exact HB.out | apply below_alloc | apply pw_below_drewN | apply below_drew1 | refine below_set ?_ GE114.out) | exact HB.out)) hb); clear BK114; clear HB; have BK114 := n0_; have HB := n1_; clear n0_ n1_; (try clear hb); (try clear hb2); (try clear hk); (try clear hi); have hcz20_0 : w19.cell? ⟨gb114, 0, none⟩ = some (.int .i64 a0_0) := (blk_cell BK114.out 0).trans rfl; have hcz20_1 : w19.cell? ⟨gb114, 1, none⟩ = some (.int .i64 a0_1) := (blk_cell BK114.out 1).trans rfl; have hcz20_2 : w19.cell? ⟨gb114, 2, none⟩ = some (.int .i64 a0_2) := (blk_cell BK114.out 2).trans rfl; have hcz20_3 : w19.cell? ⟨gb114, 3, none⟩ = some (.int .i64 a0_3) := (blk_cell BK114.out 3).trans rfl; have hcz20_4 : w19.cell? ⟨gb114, 4, none⟩ = some (.int .u64 a0_4) := (blk_cell BK114.out 4).trans rfl; have hcz20_5 : w19.cell? ⟨gb114, 5, none⟩ = some (.int .i64 a0_5) := (blk_cell BK114.out 5).trans rfl; have hcz20_6 : w19.cell? ⟨gb114, 6, none⟩ = some (.int .i64 a0_6) := (blk_cell BK114.out 6).trans rfl; have hcz20_7 : w19.cell? ⟨gb114, 7, none⟩ = some (.int .i64 a0_7) := (blk_cell BK114.out 7).trans rfl; have hcz20_8 : w19.cell? ⟨gb114, 8, none⟩ = some (.int .i64 a0_8) := (blk_cell BK114.out 8).trans rfl; have hcz20_9 : w19.cell? ⟨gb114, 9, none⟩ = some (.int .u64 a0_9) := (blk_cell BK114.out 9).trans rfl; have hcz20_10 : w19.cell? ⟨gb114, 10, none⟩ = some (.int .i64 a0_10) := (blk_cell BK114.out 10).trans rfl; have hcz20_11 : w19.cell? ⟨gb114, 11, none⟩ = some (.int .i64 a0_11) := (blk_cell BK114.out 11).trans rfl; have hcz20_12 : w19.cell? ⟨gb114, 12, none⟩ = some (.int .i64 a0_12) := (blk_cell BK114.out 12).trans rfl; have hcz20_13 : w19.cell? ⟨gb114, 13, none⟩ = some (.int .i64 a0_13) := (blk_cell BK114.out 13).trans rfl; have hcz20_14 : w19.cell? ⟨gb114, 14, none⟩ = some (.int .i64 a0_14) := (blk_cell BK114.out 14).trans rfl; have hcz20_15 : w19.cell? ⟨gb114, 15, none⟩ = some (.int .i64 a0_15) := (blk_cell BK114.out 15).trans rfl; have hcz20_16 : w19.cell? ⟨gb114, 16, none⟩ = some (.int .i64 a0_16) := (blk_cell BK114.out 16).trans rfl; have hcz20_17 : w19.cell? ⟨gb114, 17, none⟩ = some (.int .u64 a0_17) := (blk_cell BK114.out 17).trans rfl; have hcz20_18 : w19.cell? ⟨gb114, 18, none⟩ = some (.int .i64 a0_18) := (blk_cell BK114.out 18).trans rfl; have hcz20_19 : w19.cell? ⟨gb114, 19, none⟩ = some (.int .i64 a0_19) := (blk_cell BK114.out 19).trans rfl; have hcz20_20 : w19.cell? ⟨gb114, 20, none⟩ = some (.int .i64 a0_20) := (blk_cell BK114.out 20).trans rfl; have hcz20_21 : w19.cell? ⟨gb114, 21, none⟩ = some (.int .i64 a0_21) := (blk_cell BK114.out 21).trans rfl; have hcz20_22 : w19.cell? ⟨gb114, 22, none⟩ = some (.int .i64 a0_22) := (blk_cell BK114.out 22).trans rfl; have hfz20_0 := blk_frozen BK114.out 0; have hfz20_1 := blk_frozen BK114.out 1; have hfz20_2 := blk_frozen BK114.out 2; have hfz20_3 := blk_frozen BK114.out 3; have hfz20_4 := blk_frozen BK114.out 4; have hfz20_5 := blk_frozen BK114.out 5; have hfz20_6 := blk_frozen BK114.out 6; have hfz20_7 := blk_frozen BK114.out 7; have hfz20_8 := blk_frozen BK114.out 8; have hfz20_9 := blk_frozen BK114.out 9; have hfz20_10 := blk_frozen BK114.out 10; have hfz20_11 := blk_frozen BK114.out 11; have hfz20_12 := blk_frozen BK114.out 12; have hfz20_13 := blk_frozen BK114.out 13; have hfz20_14 := blk_frozen BK114.out 14; have hfz20_15 := blk_frozen BK114.out 15; have hfz20_16 := blk_frozen BK114.out 16; have hfz20_17 := blk_frozen BK114.out 17; have hfz20_18 := blk_frozen BK114.out 18; have hfz20_19 := blk_frozen BK114.out 19; have hfz20_20 := blk_frozen BK114.out 20; have hfz20_21 := blk_frozen BK114.out 21; have hfz20_22 := blk_frozen BK114.out 22) | (go_at_call 51; (with_reducible refine (header_in.calls a0_6 0 65535 false _ A10.out).mono ?_); rintro e w' ⟨rfl, ⟨nd, rfl⟩⟩))
            all_goals
              go_ret
              exact ⟨by first | rfl | (simp [errW_none, errW_some] <;> rfl) | (simp [*, errW_none, errW_some] <;> rfl), by repeat (first | (with_reducible first | exact HB.out | apply below_alloc | apply pw_below_drewN | apply below_drew1 | refine below_set ?_ GE114.out) | exact HB.out)⟩
        · replace c9 := Bool.eq_false_iff.mpr c9
          subst c9
          have H1 : (some false) = some r := by rw [if_neg (show ¬ (false = true) by decide)] at H; exact H
          clear H
          have H := H1
          clear H1
          obtain rfl := Option.some.inj H
          go_enter Try.func37, Try.ntmps37
          go_wp2_with (first | (refine big_load (g := gb114) (t := 29) (fr := (0, 0)) (n := 23) (cs := ?_) rfl rfl Try.underlying29 (by kernel_rfl) rfl ?lg ?ln ?_; (case lg => (with_reducible repeat (first | refine blk_drewN ?_ _ | refine blk_drew ?_ | refine blk_alloc ?_ _)); exact BK114.out); (case ln => rfl)) | ((with_reducible refine gate_dst (N := 1) rfl ?_); refine box_event ?hg (N := 1) ?hd (cs := #[.int .i64 a0_0, .int .i64 a0_1, .int .i64 a0_2, .int .i64 a0_3, .int .u64 a0_4, .int .i64 a0_5, .int .i64 a0_6, .int .i64 a0_7, .int .i64 a0_8, .int .u64 a0_9, .int .i64 a0_10, .int .i64 a0_11, .int .i64 a0_12, .int .i64 a0_13, .int .i64 a0_14, .int .i64 a0_15, .int .i64 a0_16, .int .u64 a0_17, .int .i64 a0_18, .int .i64 a0_19, .int .i64 a0_20, .int .i64 a0_21, .int .i64 a0_22]) (t := 29) ?hr ?_; (case hd => rfl); (case hg => rfl); (case hr => first | (go_simp; done) | (go_simp; rfl)); intro gb114 hg w21 hbox hb; have n0_ := Aside0.mk (below_step (by repeat (first | (with_reducible first | exact HB.out | apply below_alloc | apply pw_below_drewN | apply below_drew1) | exact HB.out)) hb); have n1_ := Aside0.mk (hbox); have n2_ := Aside0.mk ((by rw [hg]; exact (below_size (by repeat (first | (with_reducible first | exact HB.out | apply below_alloc | apply pw_below_drewN | apply below_drew1) | exact HB.out))) : w.heap.size ≤ gb114)); have n3_ := Aside0.mk ((by rw [hg]; exact (below_size (by repeat (first | (with_reducible first | exact HB.out | apply below_alloc | apply pw_below_drewN | apply below_drew1) | exact HB.out))) : w.heap.size ≤ gb114)); clear HB; have HB := n0_; have BK114 := n1_; have GW114 := n2_; have GE114 := n3_; clear n0_ n1_ n2_ n3_; clear hb hbox hg; have hcz22_0 : w21.cell? ⟨gb114, 0, none⟩ = some (.int .i64 a0_0) := (blk_cell BK114.out 0).trans rfl; have hcz22_1 : w21.cell? ⟨gb114, 1, none⟩ = some (.int .i64 a0_1) := (blk_cell BK114.out 1).trans rfl; have hcz22_2 : w21.cell? ⟨gb114, 2, none⟩ = some (.int .i64 a0_2) := (blk_cell BK114.out 2).trans rfl; have hcz22_3 : w21.cell? ⟨gb114, 3, none⟩ = some (.int .i64 a0_3) := (blk_cell BK114.out 3).trans rfl; have hcz22_4 : w21.cell? ⟨gb114, 4, none⟩ = some (.int .u64 a0_4) := (blk_cell BK114.out 4).trans rfl; have hcz22_5 : w21.cell? ⟨gb114, 5, none⟩ = some (.int .i64 a0_5) := (blk_cell BK114.out 5).trans rfl; have hcz22_6 : w21.cell? ⟨gb114, 6, none⟩ = some (.int .i64 a0_6) := (blk_cell BK114.out 6).trans rfl; have hcz22_7 : w21.cell? ⟨gb114, 7, none⟩ = some (.int .i64 a0_7) := (blk_cell BK114.out 7).trans rfl; have hcz22_8 : w21.cell? ⟨gb114, 8, none⟩ = some (.int .i64 a0_8) := (blk_cell BK114.out 8).trans rfl; have hcz22_9 : w21.cell? ⟨gb114, 9, none⟩ = some (.int .u64 a0_9) := (blk_cell BK114.out 9).trans rfl; have hcz22_10 : w21.cell? ⟨gb114, 10, none⟩ = some (.int .i64 a0_10) := (blk_cell BK114.out 10).trans rfl; have hcz22_11 : w21.cell? ⟨gb114, 11, none⟩ = some (.int .i64 a0_11) := (blk_cell BK114.out 11).trans rfl; have hcz22_12 : w21.cell? ⟨gb114, 12, none⟩ = some (.int .i64 a0_12) := (blk_cell BK114.out 12).trans rfl; have hcz22_13 : w21.cell? ⟨gb114, 13, none⟩ = some (.int .i64 a0_13) := (blk_cell BK114.out 13).trans rfl; have hcz22_14 : w21.cell? ⟨gb114, 14, none⟩ = some (.int .i64 a0_14) := (blk_cell BK114.out 14).trans rfl; have hcz22_15 : w21.cell? ⟨gb114, 15, none⟩ = some (.int .i64 a0_15) := (blk_cell BK114.out 15).trans rfl; have hcz22_16 : w21.cell? ⟨gb114, 16, none⟩ = some (.int .i64 a0_16) := (blk_cell BK114.out 16).trans rfl; have hcz22_17 : w21.cell? ⟨gb114, 17, none⟩ = some (.int .u64 a0_17) := (blk_cell BK114.out 17).trans rfl; have hcz22_18 : w21.cell? ⟨gb114, 18, none⟩ = some (.int .i64 a0_18) := (blk_cell BK114.out 18).trans rfl; have hcz22_19 : w21.cell? ⟨gb114, 19, none⟩ = some (.int .i64 a0_19) := (blk_cell BK114.out 19).trans rfl; have hcz22_20 : w21.cell? ⟨gb114, 20, none⟩ = some (.int .i64 a0_20) := (blk_cell BK114.out 20).trans rfl; have hcz22_21 : w21.cell? ⟨gb114, 21, none⟩ = some (.int .i64 a0_21) := (blk_cell BK114.out 21).trans rfl; have hcz22_22 : w21.cell? ⟨gb114, 22, none⟩ = some (.int .i64 a0_22) := (blk_cell BK114.out 22).trans rfl; have hfz22_0 := blk_frozen BK114.out 0; have hfz22_1 := blk_frozen BK114.out 1; have hfz22_2 := blk_frozen BK114.out 2; have hfz22_3 := blk_frozen BK114.out 3; have hfz22_4 := blk_frozen BK114.out 4; have hfz22_5 := blk_frozen BK114.out 5; have hfz22_6 := blk_frozen BK114.out 6; have hfz22_7 := blk_frozen BK114.out 7; have hfz22_8 := blk_frozen BK114.out 8; have hfz22_9 := blk_frozen BK114.out 9; have hfz22_10 := blk_frozen BK114.out 10; have hfz22_11 := blk_frozen BK114.out 11; have hfz22_12 := blk_frozen BK114.out 12; have hfz22_13 := blk_frozen BK114.out 13; have hfz22_14 := blk_frozen BK114.out 14; have hfz22_15 := blk_frozen BK114.out 15; have hfz22_16 := blk_frozen BK114.out 16; have hfz22_17 := blk_frozen BK114.out 17; have hfz22_18 := blk_frozen BK114.out 18; have hfz22_19 := blk_frozen BK114.out 19; have hfz22_20 := blk_frozen BK114.out 20; have hfz22_21 := blk_frozen BK114.out 21; have hfz22_22 := blk_frozen BK114.out 22) | ((with_reducible refine gate_callee (f := 50) rfl ?_); refine goesL_ (some 5) rfl rfl Try.func50 (by kernel_rfl) rfl #[.int .i64 a0_0] rfl (by (try simp only [List.map_toArray, List.map_cons, List.map_nil]); first | done | rfl | (simp only [List.length_drop, List.length_take]; rfl)) ?_; (with_reducible refine (header_Known.calls k a0_0 true _ A2.out).mono ?_); rintro e w' ⟨rfl, ⟨nd, rfl⟩⟩; refine ⟨_, rfl, ?_⟩) | (go_at_call 51; (with_reducible refine (header_in.calls a0_1 0 255 true _ A4.out).mono ?_); rintro e w' ⟨rfl, ⟨nd, rfl⟩⟩) | (go_at_call 51; (with_reducible refine (header_in.calls a0_2 0 65535 true _ A6.out).mono ?_); rintro e w' ⟨rfl, ⟨nd, rfl⟩⟩) | (go_at_call 40; (with_reducible refine (ident_May.calls a0_4 a0_5 false _ A8.out).mono ?_); rintro e w23 ⟨rfl, hb⟩; have n0_ := Aside0.mk (blk_below (g := gb114) (o := .cells #[.int .i64 a0_0, .int .i64 a0_1, .int .i64 a0_2, .int .i64 a0_3, .int .u64 a0_4, .int .i64 a0_5, .int .i64 a0_6, .int .i64 a0_7, .int .i64 a0_8, .int .u64 a0_9, .int .i64 a0_10, .int .i64 a0_11, .int .i64 a0_12, .int .i64 a0_13, .int .i64 a0_14, .int .i64 a0_15, .int .i64 a0_16, .int .u64 a0_17, .int .i64 a0_18, .int .i64 a0_19, .int .i64 a0_20, .int .i64 a0_21, .int .i64 a0_22] 29 (0, 0)) (by (with_reducible repeat (first | refine blk_drewN ?_ _ | refine blk_drew ?_ | refine blk_alloc ?_ _)); exact BK114.out) hb); have n1_ := Aside0.mk (below_step (by repeat (first | (with_reducible first | exact HB.out | apply below_alloc | apply pw_below_drewN | apply below_drew1 | refine below_set ?_ GE114.out) | exact HB.out)) hb); clear BK114; clear HB; have BK114 := n0_; have HB := n1_; clear n0_ n1_; (try clear hb); (try clear hb2); (try clear hk); (try clear hi)))
          all_goals
            go_ret
            exact ⟨by first | rfl | (simp [errW_none, errW_some] <;> rfl) | (simp [*, errW_none, errW_some] <;> rfl), by repeat (first | (with_reducible first | exact HB.out | apply below_alloc | apply pw_below_drewN | apply below_drew1 | refine below_set ?_ GE114.out) | exact HB.out)⟩
      · replace c7 := Bool.eq_false_iff.mpr c7
        subst c7
        have H1 : (some false) = some r := by rw [if_neg (show ¬ (false = true) by decide)] at H; exact H
        clear H
        have H := H1
        clear H1
        obtain rfl := Option.some.inj H
        go_enter Try.func37, Try.ntmps37
        go_wp2_with (first | (refine big_load (g := gb114) (t := 29) (fr := (0, 0)) (n := 23) (cs := ?_) rfl rfl Try.underlying29 (by kernel_rfl) rfl ?lg ?ln ?_; (case lg => (with_reducible repeat (first | refine blk_drewN ?_ _ | refine blk_drew ?_ | refine blk_alloc ?_ _)); exact BK114.out); (case ln => rfl)) | ((with_reducible refine gate_dst (N := 1) rfl ?_); refine box_event ?hg (N := 1) ?hd (cs := #[.int .i64 a0_0, .int .i64 a0_1, .int .i64 a0_2, .int .i64 a0_3, .int .u64 a0_4, .int .i64 a0_5, .int .i64 a0_6, .int .i64 a0_7, .int .i64 a0_8, .int .u64 a0_9, .int .i64 a0_10, .int .i64 a0_11, .int .i64 a0_12, .int .i64 a0_13, .int .i64 a0_14, .int .i64 a0_15, .int .i64 a0_16, .int .u64 a0_17, .int .i64 a0_18, .int .i64 a0_19, .int .i64 a0_20, .int .i64 a0_21, .int .i64 a0_22]) (t := 29) ?hr ?_; (case hd => rfl); (case hg => rfl); (case hr => first | (go_simp; done) | (go_simp; rfl)); intro gb114 hg w24 hbox hb; have n0_ := Aside0.mk (below_step (by repeat (first | (with_reducible first | exact HB.out | apply below_alloc | apply pw_below_drewN | apply below_drew1) | exact HB.out)) hb); have n1_ := Aside0.mk (hbox); have n2_ := Aside0.mk ((by rw [hg]; exact (below_size (by repeat (first | (with_reducible first | exact HB.out | apply below_alloc | apply pw_below_drewN | apply below_drew1) | exact HB.out))) : w.heap.size ≤ gb114)); have n3_ := Aside0.mk ((by rw [hg]; exact (below_size (by repeat (first | (with_reducible first | exact HB.out | apply below_alloc | apply pw_below_drewN | apply below_drew1) | exact HB.out))) : w.heap.size ≤ gb114)); clear HB; have HB := n0_; have BK114 := n1_; have GW114 := n2_; have GE114 := n3_; clear n0_ n1_ n2_ n3_; clear hb hbox hg; have hcz25_0 : w24.cell? ⟨gb114, 0, none⟩ = some (.int .i64 a0_0) := (blk_cell BK114.out 0).trans rfl; have hcz25_1 : w24.cell? ⟨gb114, 1, none⟩ = some (.int .i64 a0_1) := (blk_cell BK114.out 1).trans rfl; have hcz25_2 : w24.cell? ⟨gb114, 2, none⟩ = some (.int .i64 a0_2) := (blk_cell BK114.out 2).trans rfl; have hcz25_3 : w24.cell? ⟨gb114, 3, none⟩ = some (.int .i64 a0_3) := (blk_cell BK114.out 3).trans rfl; have hcz25_4 : w24.cell? ⟨gb114, 4, none⟩ = some (.int .u64 a0_4) := (blk_cell BK114.out 4).trans rfl; have hcz25_5 : w24.cell? ⟨gb114, 5, none⟩ = some (.int .i64 a0_5) := (blk_cell BK114.out 5).trans rfl; have hcz25_6 : w24.cell? ⟨gb114, 6, none⟩ = some (.int .i64 a0_6) := (blk_cell BK114.out 6).trans rfl; have hcz25_7 : w24.cell? ⟨gb114, 7, none⟩ = some (.int .i64 a0_7) := (blk_cell BK114.out 7).trans rfl; have hcz25_8 : w24.cell? ⟨gb114, 8, none⟩ = some (.int .i64 a0_8) := (blk_cell BK114.out 8).trans rfl; have hcz25_9 : w24.cell? ⟨gb114, 9, none⟩ = some (.int .u64 a0_9) := (blk_cell BK114.out 9).trans rfl; have hcz25_10 : w24.cell? ⟨gb114, 10, none⟩ = some (.int .i64 a0_10) := (blk_cell BK114.out 10).trans rfl; have hcz25_11 : w24.cell? ⟨gb114, 11, none⟩ = some (.int .i64 a0_11) := (blk_cell BK114.out 11).trans rfl; have hcz25_12 : w24.cell? ⟨gb114, 12, none⟩ = some (.int .i64 a0_12) := (blk_cell BK114.out 12).trans rfl; have hcz25_13 : w24.cell? ⟨gb114, 13, none⟩ = some (.int .i64 a0_13) := (blk_cell BK114.out 13).trans rfl; have hcz25_14 : w24.cell? ⟨gb114, 14, none⟩ = some (.int .i64 a0_14) := (blk_cell BK114.out 14).trans rfl; have hcz25_15 : w24.cell? ⟨gb114, 15, none⟩ = some (.int .i64 a0_15) := (blk_cell BK114.out 15).trans rfl; have hcz25_16 : w24.cell? ⟨gb114, 16, none⟩ = some (.int .i64 a0_16) := (blk_cell BK114.out 16).trans rfl; have hcz25_17 : w24.cell? ⟨gb114, 17, none⟩ = some (.int .u64 a0_17) := (blk_cell BK114.out 17).trans rfl; have hcz25_18 : w24.cell? ⟨gb114, 18, none⟩ = some (.int .i64 a0_18) := (blk_cell BK114.out 18).trans rfl; have hcz25_19 : w24.cell? ⟨gb114, 19, none⟩ = some (.int .i64 a0_19) := (blk_cell BK114.out 19).trans rfl; have hcz25_20 : w24.cell? ⟨gb114, 20, none⟩ = some (.int .i64 a0_20) := (blk_cell BK114.out 20).trans rfl; have hcz25_21 : w24.cell? ⟨gb114, 21, none⟩ = some (.int .i64 a0_21) := (blk_cell BK114.out 21).trans rfl; have hcz25_22 : w24.cell? ⟨gb114, 22, none⟩ = some (.int .i64 a0_22) := (blk_cell BK114.out 22).trans rfl; have hfz25_0 := blk_frozen BK114.out 0; have hfz25_1 := blk_frozen BK114.out 1; have hfz25_2 := blk_frozen BK114.out 2; have hfz25_3 := blk_frozen BK114.out 3; have hfz25_4 := blk_frozen BK114.out 4; have hfz25_5 := blk_frozen BK114.out 5; have hfz25_6 := blk_frozen BK114.out 6; have hfz25_7 := blk_frozen BK114.out 7; have hfz25_8 := blk_frozen BK114.out 8; have hfz25_9 := blk_frozen BK114.out 9; have hfz25_10 := blk_frozen BK114.out 10; have hfz25_11 := blk_frozen BK114.out 11; have hfz25_12 := blk_frozen BK114.out 12; have hfz25_13 := blk_frozen BK114.out 13; have hfz25_14 := blk_frozen BK114.out 14; have hfz25_15 := blk_frozen BK114.out 15; have hfz25_16 := blk_frozen BK114.out 16; have hfz25_17 := blk_frozen BK114.out 17; have hfz25_18 := blk_frozen BK114.out 18; have hfz25_19 := blk_frozen BK114.out 19; have hfz25_20 := blk_frozen BK114.out 20; have hfz25_21 := blk_frozen BK114.out 21; have hfz25_22 := blk_frozen BK114.out 22) | ((with_reducible refine gate_callee (f := 50) rfl ?_); refine goesL_ (some 5) rfl rfl Try.func50 (by kernel_rfl) rfl #[.int .i64 a0_0] rfl (by (try simp only [List.map_toArray, List.map_cons, List.map_nil]); first | done | rfl | (simp only [List.length_drop, List.length_take]; rfl)) ?_; (with_reducible refine (header_Known.calls k a0_0 true _ A2.out).mono ?_); rintro e w' ⟨rfl, ⟨nd, rfl⟩⟩; refine ⟨_, rfl, ?_⟩) | (go_at_call 51; (with_reducible refine (header_in.calls a0_1 0 255 true _ A4.out).mono ?_); rintro e w' ⟨rfl, ⟨nd, rfl⟩⟩) | (go_at_call 51; (with_reducible refine (header_in.calls a0_2 0 65535 false _ A6.out).mono ?_); rintro e w' ⟨rfl, ⟨nd, rfl⟩⟩))
        all_goals
          go_ret
          exact ⟨by first | rfl | (simp [errW_none, errW_some] <;> rfl) | (simp [*, errW_none, errW_some] <;> rfl), by repeat (first | (with_reducible first | exact HB.out | apply below_alloc | apply pw_below_drewN | apply below_drew1 | refine below_set ?_ GE114.out) | exact HB.out)⟩
    · replace c5 := Bool.eq_false_iff.mpr c5
      subst c5
      have H1 : (some false) = some r := by rw [if_neg (show ¬ (false = true) by decide)] at H; exact H
      clear H
      have H := H1
      clear H1
      obtain rfl := Option.some.inj H
      go_enter Try.func37, Try.ntmps37
      go_wp2_with (first | (refine big_load (g := gb114) (t := 29) (fr := (0, 0)) (n := 23) (cs := ?_) rfl rfl Try.underlying29 (by kernel_rfl) rfl ?lg ?ln ?_; (case lg => (with_reducible repeat (first | refine blk_drewN ?_ _ | refine blk_drew ?_ | refine blk_alloc ?_ _)); exact BK114.out); (case ln => rfl)) | ((with_reducible refine gate_dst (N := 1) rfl ?_); refine box_event ?hg (N := 1) ?hd (cs := #[.int .i64 a0_0, .int .i64 a0_1, .int .i64 a0_2, .int .i64 a0_3, .int .u64 a0_4, .int .i64 a0_5, .int .i64 a0_6, .int .i64 a0_7, .int .i64 a0_8, .int .u64 a0_9, .int .i64 a0_10, .int .i64 a0_11, .int .i64 a0_12, .int .i64 a0_13, .int .i64 a0_14, .int .i64 a0_15, .int .i64 a0_16, .int .u64 a0_17, .int .i64 a0_18, .int .i64 a0_19, .int .i64 a0_20, .int .i64 a0_21, .int .i64 a0_22]) (t := 29) ?hr ?_; (case hd => rfl); (case hg => rfl); (case hr => first | (go_simp; done) | (go_simp; rfl)); intro gb114 hg w26 hbox hb; have n0_ := Aside0.mk (below_step (by repeat (first | (with_reducible first | exact HB.out | apply below_alloc | apply pw_below_drewN | apply below_drew1) | exact HB.out)) hb); have n1_ := Aside0.mk (hbox); have n2_ := Aside0.mk ((by rw [hg]; exact (below_size (by repeat (first | (with_reducible first | exact HB.out | apply below_alloc | apply pw_below_drewN | apply below_drew1) | exact HB.out))) : w.heap.size ≤ gb114)); have n3_ := Aside0.mk ((by rw [hg]; exact (below_size (by repeat (first | (with_reducible first | exact HB.out | apply below_alloc | apply pw_below_drewN | apply below_drew1) | exact HB.out))) : w.heap.size ≤ gb114)); clear HB; have HB := n0_; have BK114 := n1_; have GW114 := n2_; have GE114 := n3_; clear n0_ n1_ n2_ n3_; clear hb hbox hg; have hcz27_0 : w26.cell? ⟨gb114, 0, none⟩ = some (.int .i64 a0_0) := (blk_cell BK114.out 0).trans rfl; have hcz27_1 : w26.cell? ⟨gb114, 1, none⟩ = some (.int .i64 a0_1) := (blk_cell BK114.out 1).trans rfl; have hcz27_2 : w26.cell? ⟨gb114, 2, none⟩ = some (.int .i64 a0_2) := (blk_cell BK114.out 2).trans rfl; have hcz27_3 : w26.cell? ⟨gb114, 3, none⟩ = some (.int .i64 a0_3) := (blk_cell BK114.out 3).trans rfl; have hcz27_4 : w26.cell? ⟨gb114, 4, none⟩ = some (.int .u64 a0_4) := (blk_cell BK114.out 4).trans rfl; have hcz27_5 : w26.cell? ⟨gb114, 5, none⟩ = some (.int .i64 a0_5) := (blk_cell BK114.out 5).trans rfl; have hcz27_6 : w26.cell? ⟨gb114, 6, none⟩ = some (.int .i64 a0_6) := (blk_cell BK114.out 6).trans rfl; have hcz27_7 : w26.cell? ⟨gb114, 7, none⟩ = some (.int .i64 a0_7) := (blk_cell BK114.out 7).trans rfl; have hcz27_8 : w26.cell? ⟨gb114, 8, none⟩ = some (.int .i64 a0_8) := (blk_cell BK114.out 8).trans rfl; have hcz27_9 : w26.cell? ⟨gb114, 9, none⟩ = some (.int .u64 a0_9) := (blk_cell BK114.out 9).trans rfl; have hcz27_10 : w26.cell? ⟨gb114, 10, none⟩ = some (.int .i64 a0_10) := (blk_cell BK114.out 10).trans rfl; have hcz27_11 : w26.cell? ⟨gb114, 11, none⟩ = some (.int .i64 a0_11) := (blk_cell BK114.out 11).trans rfl; have hcz27_12 : w26.cell? ⟨gb114, 12, none⟩ = some (.int .i64 a0_12) := (blk_cell BK114.out 12).trans rfl; have hcz27_13 : w26.cell? ⟨gb114, 13, none⟩ = some (.int .i64 a0_13) := (blk_cell BK114.out 13).trans rfl; have hcz27_14 : w26.cell? ⟨gb114, 14, none⟩ = some (.int .i64 a0_14) := (blk_cell BK114.out 14).trans rfl; have hcz27_15 : w26.cell? ⟨gb114, 15, none⟩ = some (.int .i64 a0_15) := (blk_cell BK114.out 15).trans rfl; have hcz27_16 : w26.cell? ⟨gb114, 16, none⟩ = some (.int .i64 a0_16) := (blk_cell BK114.out 16).trans rfl; have hcz27_17 : w26.cell? ⟨gb114, 17, none⟩ = some (.int .u64 a0_17) := (blk_cell BK114.out 17).trans rfl; have hcz27_18 : w26.cell? ⟨gb114, 18, none⟩ = some (.int .i64 a0_18) := (blk_cell BK114.out 18).trans rfl; have hcz27_19 : w26.cell? ⟨gb114, 19, none⟩ = some (.int .i64 a0_19) := (blk_cell BK114.out 19).trans rfl; have hcz27_20 : w26.cell? ⟨gb114, 20, none⟩ = some (.int .i64 a0_20) := (blk_cell BK114.out 20).trans rfl; have hcz27_21 : w26.cell? ⟨gb114, 21, none⟩ = some (.int .i64 a0_21) := (blk_cell BK114.out 21).trans rfl; have hcz27_22 : w26.cell? ⟨gb114, 22, none⟩ = some (.int .i64 a0_22) := (blk_cell BK114.out 22).trans rfl; have hfz27_0 := blk_frozen BK114.out 0; have hfz27_1 := blk_frozen BK114.out 1; have hfz27_2 := blk_frozen BK114.out 2; have hfz27_3 := blk_frozen BK114.out 3; have hfz27_4 := blk_frozen BK114.out 4; have hfz27_5 := blk_frozen BK114.out 5; have hfz27_6 := blk_frozen BK114.out 6; have hfz27_7 := blk_frozen BK114.out 7; have hfz27_8 := blk_frozen BK114.out 8; have hfz27_9 := blk_frozen BK114.out 9; have hfz27_10 := blk_frozen BK114.out 10; have hfz27_11 := blk_frozen BK114.out 11; have hfz27_12 := blk_frozen BK114.out 12; have hfz27_13 := blk_frozen BK114.out 13; have hfz27_14 := blk_frozen BK114.out 14; have hfz27_15 := blk_frozen BK114.out 15; have hfz27_16 := blk_frozen BK114.out 16; have hfz27_17 := blk_frozen BK114.out 17; have hfz27_18 := blk_frozen BK114.out 18; have hfz27_19 := blk_frozen BK114.out 19; have hfz27_20 := blk_frozen BK114.out 20; have hfz27_21 := blk_frozen BK114.out 21; have hfz27_22 := blk_frozen BK114.out 22) | ((with_reducible refine gate_callee (f := 50) rfl ?_); refine goesL_ (some 5) rfl rfl Try.func50 (by kernel_rfl) rfl #[.int .i64 a0_0] rfl (by (try simp only [List.map_toArray, List.map_cons, List.map_nil]); first | done | rfl | (simp only [List.length_drop, List.length_take]; rfl)) ?_; (with_reducible refine (header_Known.calls k a0_0 true _ A2.out).mono ?_); rintro e w' ⟨rfl, ⟨nd, rfl⟩⟩; refine ⟨_, rfl, ?_⟩) | (go_at_call 51; (with_reducible refine (header_in.calls a0_1 0 255 false _ A4.out).mono ?_); rintro e w' ⟨rfl, ⟨nd, rfl⟩⟩))
      all_goals
        go_ret
        exact ⟨by first | rfl | (simp [errW_none, errW_some] <;> rfl) | (simp [*, errW_none, errW_some] <;> rfl), by repeat (first | (with_reducible first | exact HB.out | apply below_alloc | apply pw_below_drewN | apply below_drew1 | refine below_set ?_ GE114.out) | exact HB.out)⟩
  · replace c3 := Bool.eq_false_iff.mpr c3
    subst c3
    have H1 : (some false) = some r := by rw [if_neg (show ¬ (false = true) by decide)] at H; exact H
    clear H
    have H := H1
    clear H1
    obtain rfl := Option.some.inj H
    go_enter Try.func37, Try.ntmps37
    go_wp2_with (first | (refine big_load (g := gb114) (t := 29) (fr := (0, 0)) (n := 23) (cs := ?_) rfl rfl Try.underlying29 (by kernel_rfl) rfl ?lg ?ln ?_; (case lg => (with_reducible repeat (first | refine blk_drewN ?_ _ | refine blk_drew ?_ | refine blk_alloc ?_ _)); exact BK114.out); (case ln => rfl)) | ((with_reducible refine gate_dst (N := 1) rfl ?_); refine box_event ?hg (N := 1) ?hd (cs := #[.int .i64 a0_0, .int .i64 a0_1, .int .i64 a0_2, .int .i64 a0_3, .int .u64 a0_4, .int .i64 a0_5, .int .i64 a0_6, .int .i64 a0_7, .int .i64 a0_8, .int .u64 a0_9, .int .i64 a0_10, .int .i64 a0_11, .int .i64 a0_12, .int .i64 a0_13, .int .i64 a0_14, .int .i64 a0_15, .int .i64 a0_16, .int .u64 a0_17, .int .i64 a0_18, .int .i64 a0_19, .int .i64 a0_20, .int .i64 a0_21, .int .i64 a0_22]) (t := 29) ?hr ?_; (case hd => rfl); (case hg => rfl); (case hr => first | (go_simp; done) | (go_simp; rfl)); intro gb114 hg w28 hbox hb; have n0_ := Aside0.mk (below_step (by repeat (first | (with_reducible first | exact HB.out | apply below_alloc | apply pw_below_drewN | apply below_drew1) | exact HB.out)) hb); have n1_ := Aside0.mk (hbox); have n2_ := Aside0.mk ((by rw [hg]; exact (below_size (by repeat (first | (with_reducible first | exact HB.out | apply below_alloc | apply pw_below_drewN | apply below_drew1) | exact HB.out))) : w.heap.size ≤ gb114)); have n3_ := Aside0.mk ((by rw [hg]; exact (below_size (by repeat (first | (with_reducible first | exact HB.out | apply below_alloc | apply pw_below_drewN | apply below_drew1) | exact HB.out))) : w.heap.size ≤ gb114)); clear HB; have HB := n0_; have BK114 := n1_; have GW114 := n2_; have GE114 := n3_; clear n0_ n1_ n2_ n3_; clear hb hbox hg; have hcz29_0 : w28.cell? ⟨gb114, 0, none⟩ = some (.int .i64 a0_0) := (blk_cell BK114.out 0).trans rfl; have hcz29_1 : w28.cell? ⟨gb114, 1, none⟩ = some (.int .i64 a0_1) := (blk_cell BK114.out 1).trans rfl; have hcz29_2 : w28.cell? ⟨gb114, 2, none⟩ = some (.int .i64 a0_2) := (blk_cell BK114.out 2).trans rfl; have hcz29_3 : w28.cell? ⟨gb114, 3, none⟩ = some (.int .i64 a0_3) := (blk_cell BK114.out 3).trans rfl; have hcz29_4 : w28.cell? ⟨gb114, 4, none⟩ = some (.int .u64 a0_4) := (blk_cell BK114.out 4).trans rfl; have hcz29_5 : w28.cell? ⟨gb114, 5, none⟩ = some (.int .i64 a0_5) := (blk_cell BK114.out 5).trans rfl; have hcz29_6 : w28.cell? ⟨gb114, 6, none⟩ = some (.int .i64 a0_6) := (blk_cell BK114.out 6).trans rfl; have hcz29_7 : w28.cell? ⟨gb114, 7, none⟩ = some (.int .i64 a0_7) := (blk_cell BK114.out 7).trans rfl; have hcz29_8 : w28.cell? ⟨gb114, 8, none⟩ = some (.int .i64 a0_8) := (blk_cell BK114.out 8).trans rfl; have hcz29_9 : w28.cell? ⟨gb114, 9, none⟩ = some (.int .u64 a0_9) := (blk_cell BK114.out 9).trans rfl; have hcz29_10 : w28.cell? ⟨gb114, 10, none⟩ = some (.int .i64 a0_10) := (blk_cell BK114.out 10).trans rfl; have hcz29_11 : w28.cell? ⟨gb114, 11, none⟩ = some (.int .i64 a0_11) := (blk_cell BK114.out 11).trans rfl; have hcz29_12 : w28.cell? ⟨gb114, 12, none⟩ = some (.int .i64 a0_12) := (blk_cell BK114.out 12).trans rfl; have hcz29_13 : w28.cell? ⟨gb114, 13, none⟩ = some (.int .i64 a0_13) := (blk_cell BK114.out 13).trans rfl; have hcz29_14 : w28.cell? ⟨gb114, 14, none⟩ = some (.int .i64 a0_14) := (blk_cell BK114.out 14).trans rfl; have hcz29_15 : w28.cell? ⟨gb114, 15, none⟩ = some (.int .i64 a0_15) := (blk_cell BK114.out 15).trans rfl; have hcz29_16 : w28.cell? ⟨gb114, 16, none⟩ = some (.int .i64 a0_16) := (blk_cell BK114.out 16).trans rfl; have hcz29_17 : w28.cell? ⟨gb114, 17, none⟩ = some (.int .u64 a0_17) := (blk_cell BK114.out 17).trans rfl; have hcz29_18 : w28.cell? ⟨gb114, 18, none⟩ = some (.int .i64 a0_18) := (blk_cell BK114.out 18).trans rfl; have hcz29_19 : w28.cell? ⟨gb114, 19, none⟩ = some (.int .i64 a0_19) := (blk_cell BK114.out 19).trans rfl; have hcz29_20 : w28.cell? ⟨gb114, 20, none⟩ = some (.int .i64 a0_20) := (blk_cell BK114.out 20).trans rfl; have hcz29_21 : w28.cell? ⟨gb114, 21, none⟩ = some (.int .i64 a0_21) := (blk_cell BK114.out 21).trans rfl; have hcz29_22 : w28.cell? ⟨gb114, 22, none⟩ = some (.int .i64 a0_22) := (blk_cell BK114.out 22).trans rfl; have hfz29_0 := blk_frozen BK114.out 0; have hfz29_1 := blk_frozen BK114.out 1; have hfz29_2 := blk_frozen BK114.out 2; have hfz29_3 := blk_frozen BK114.out 3; have hfz29_4 := blk_frozen BK114.out 4; have hfz29_5 := blk_frozen BK114.out 5; have hfz29_6 := blk_frozen BK114.out 6; have hfz29_7 := blk_frozen BK114.out 7; have hfz29_8 := blk_frozen BK114.out 8; have hfz29_9 := blk_frozen BK114.out 9; have hfz29_10 := blk_frozen BK114.out 10; have hfz29_11 := blk_frozen BK114.out 11; have hfz29_12 := blk_frozen BK114.out 12; have hfz29_13 := blk_frozen BK114.out 13; have hfz29_14 := blk_frozen BK114.out 14; have hfz29_15 := blk_frozen BK114.out 15; have hfz29_16 := blk_frozen BK114.out 16; have hfz29_17 := blk_frozen BK114.out 17; have hfz29_18 := blk_frozen BK114.out 18; have hfz29_19 := blk_frozen BK114.out 19; have hfz29_20 := blk_frozen BK114.out 20; have hfz29_21 := blk_frozen BK114.out 21; have hfz29_22 := blk_frozen BK114.out 22) | ((with_reducible refine gate_callee (f := 50) rfl ?_); refine goesL_ (some 5) rfl rfl Try.func50 (by kernel_rfl) rfl #[.int .i64 a0_0] rfl (by (try simp only [List.map_toArray, List.map_cons, List.map_nil]); first | done | rfl | (simp only [List.length_drop, List.length_take]; rfl)) ?_; (with_reducible refine (header_Known.calls k a0_0 false _ A2.out).mono ?_); rintro e w' ⟨rfl, ⟨nd, rfl⟩⟩; refine ⟨_, rfl, ?_⟩))
    all_goals
      go_ret
      exact ⟨by first | rfl | (simp [errW_none, errW_some] <;> rfl) | (simp [*, errW_none, errW_some] <;> rfl), by repeat (first | (with_reducible first | exact HB.out | apply below_alloc | apply pw_below_drewN | apply below_drew1 | refine below_set ?_ GE114.out) | exact HB.out)⟩
/-! ### body_stamped: function 19 -/
def body_stamped.f (a0 : Int) : Option (Bool) := if a0 = 12 then (some false) else (some (a0 != 13))
set_option maxHeartbeats 8000000 in
set_option maxRecDepth 100000 in
theorem body_stamped.calls (a0 : Int) (r : Bool) (w : World) (h : body_stamped.f a0 = some r) :
    Calls Try.prog 19 #[.int .i64 a0] w fun e w' => e = .returned (.bool r) ∧ Drawn0 w w' := by
  have H : (if a0 = 12 then (some false) else (some (a0 != 13))) = some r := h
  clear h
  by_cases c2 : a0 = 12
  · rw [if_pos c2] at H
    have c2b0 : (a0 == 12) = true := beq_iff_eq.mpr c2
    have c2b1 : (a0 != 12) = false := bne_eq_false_iff_eq.mpr c2
    clear c2
    obtain rfl := Option.some.inj H
    go_enter Try.func19, Try.ntmps19
    go_wp2
    all_goals
      go_ret
      exact ⟨by first | rfl | (simp; done) | (simp [*]; done), by repeat (first | exact Drawn0.refl _ | apply Drawn0.step)⟩
  · rw [if_neg c2] at H
    have c2b0 : (a0 == 12) = false := beq_eq_false_iff_ne.mpr c2
    have c2b1 : (a0 != 12) = true := bne_iff_ne.mpr c2
    obtain rfl := Option.some.inj H
    go_enter Try.func19, Try.ntmps19
    go_wp2
    all_goals
      go_ret
      exact ⟨by first | rfl | (simp; done) | (simp [*]; done), by repeat (first | exact Drawn0.refl _ | apply Drawn0.step)⟩
/-! ### body_targeted: function 21 -/
def body_targeted.f (a0 : Int) : Option (Bool) := if a0 = 9 then (some true) else (if a0 = 3 then (some true) else (if a0 = 10 then (some true) else (if a0 = 12 then (some true) else (if a0 = 13 then (some true) else (some false)))))
set_option maxHeartbeats 8000000 in
set_option maxRecDepth 100000 in
theorem body_targeted.calls (a0 : Int) (r : Bool) (w : World) (h : body_targeted.f a0 = some r) :
    Calls Try.prog 21 #[.int .i64 a0] w fun e w' => e = .returned (.bool r) ∧ Drawn0 w w' := by
  have H : (if a0 = 9 then (some true) else (if a0 = 3 then (some true) else (if a0 = 10 then (some true) else (if a0 = 12 then (some true) else (if a0 = 13 then (some true) else (some false)))))) = some r := h
  clear h
  by_cases c2 : a0 = 9
  · rw [if_pos c2] at H
    have c2b0 : (a0 == 9) = true := beq_iff_eq.mpr c2
    have c2b1 : (a0 != 9) = false := bne_eq_false_iff_eq.mpr c2
    clear c2
    obtain rfl := Option.some.inj H
    go_enter Try.func21, Try.ntmps21
    go_wp2
    all_goals
      go_ret
      exact ⟨by first | rfl | (simp; done) | (simp [*]; done), by repeat (first | exact Drawn0.refl _ | apply Drawn0.step)⟩
  · rw [if_neg c2] at H
    have c2b0 : (a0 == 9) = false := beq_eq_false_iff_ne.mpr c2
    have c2b1 : (a0 != 9) = true := bne_iff_ne.mpr c2
    by_cases c3 : a0 = 3
    · rw [if_pos c3] at H
      have c3b0 : (a0 == 3) = true := beq_iff_eq.mpr c3
      have c3b1 : (a0 != 3) = false := bne_eq_false_iff_eq.mpr c3
      clear c3
      obtain rfl := Option.some.inj H
      go_enter Try.func21, Try.ntmps21
      go_wp2
      all_goals
        go_ret
        exact ⟨by first | rfl | (simp; done) | (simp [*]; done), by repeat (first | exact Drawn0.refl _ | apply Drawn0.step)⟩
    · rw [if_neg c3] at H
      have c3b0 : (a0 == 3) = false := beq_eq_false_iff_ne.mpr c3
      have c3b1 : (a0 != 3) = true := bne_iff_ne.mpr c3
      by_cases c4 : a0 = 10
      · rw [if_pos c4] at H
        have c4b0 : (a0 == 10) = true := beq_iff_eq.mpr c4
        have c4b1 : (a0 != 10) = false := bne_eq_false_iff_eq.mpr c4
        clear c4
        obtain rfl := Option.some.inj H
        go_enter Try.func21, Try.ntmps21
        go_wp2
        all_goals
          go_ret
          exact ⟨by first | rfl | (simp; done) | (simp [*]; done), by repeat (first | exact Drawn0.refl _ | apply Drawn0.step)⟩
      · rw [if_neg c4] at H
        have c4b0 : (a0 == 10) = false := beq_eq_false_iff_ne.mpr c4
        have c4b1 : (a0 != 10) = true := bne_iff_ne.mpr c4
        by_cases c5 : a0 = 12
        · rw [if_pos c5] at H
          have c5b0 : (a0 == 12) = true := beq_iff_eq.mpr c5
          have c5b1 : (a0 != 12) = false := bne_eq_false_iff_eq.mpr c5
          clear c5
          obtain rfl := Option.some.inj H
          go_enter Try.func21, Try.ntmps21
          go_wp2
          all_goals
            go_ret
            exact ⟨by first | rfl | (simp; done) | (simp [*]; done), by repeat (first | exact Drawn0.refl _ | apply Drawn0.step)⟩
        · rw [if_neg c5] at H
          have c5b0 : (a0 == 12) = false := beq_eq_false_iff_ne.mpr c5
          have c5b1 : (a0 != 12) = true := bne_iff_ne.mpr c5
          by_cases c6 : a0 = 13
          · rw [if_pos c6] at H
            have c6b0 : (a0 == 13) = true := beq_iff_eq.mpr c6
            have c6b1 : (a0 != 13) = false := bne_eq_false_iff_eq.mpr c6
            clear c6
            obtain rfl := Option.some.inj H
            go_enter Try.func21, Try.ntmps21
            go_wp2
            all_goals
              go_ret
              exact ⟨by first | rfl | (simp; done) | (simp [*]; done), by repeat (first | exact Drawn0.refl _ | apply Drawn0.step)⟩
          · rw [if_neg c6] at H
            have c6b0 : (a0 == 13) = false := beq_eq_false_iff_ne.mpr c6
            have c6b1 : (a0 != 13) = true := bne_iff_ne.mpr c6
            obtain rfl := Option.some.inj H
            go_enter Try.func21, Try.ntmps21
            go_wp2
            all_goals
              go_ret
              exact ⟨by first | rfl | (simp; done) | (simp [*]; done), by repeat (first | exact Drawn0.refl _ | apply Drawn0.step)⟩
/-! ### body_own: function 38: by our own printer -/
def body_own.j3 (k : Nat) (x3_2_0 x3_2_1 x3_2_2 x3_2_3 x3_2_4 x3_2_5 x3_2_6 x3_2_7 x3_2_8 x3_2_9 x3_2_10 x3_2_11 x3_2_12 x3_2_13 x3_2_14 x3_2_15 x3_2_16 x3_2_17 x3_2_18 x3_2_19 x3_2_20 x3_2_21 x3_2_22 x3_3_0 x3_3_1 x3_3_2 x3_3_3 x3_3_4 x3_3_5 x3_3_6 x3_3_7 x3_3_8 x3_3_9 x3_3_10 x3_3_11 x3_3_12 x3_3_13 x3_3_14 x3_3_15 x3_3_16 x3_3_17 x3_3_18 x3_3_19 x3_3_20 x3_3_21 x3_3_22 : Int) : Option (Int × Int × Int × Int × Int × Int × Int × Int × Int × Int × Int × Int × Int × Int × Int × Int × Int × Int × Int × Int × Int × Int × Int) := some (x3_3_0, x3_3_1, x3_3_2, x3_3_3, x3_3_4, x3_3_5, x3_3_6, x3_3_7, x3_3_8, x3_3_9, x3_3_10, x3_3_11, x3_3_12, x3_3_13, x3_3_14, x3_3_15, x3_3_16, x3_3_17, x3_3_18, x3_3_19, x3_3_20, x3_3_21, x3_3_22)
def body_own.j2 (k : Nat) (x2_1_0 x2_1_1 x2_1_2 x2_1_3 x2_1_4 x2_1_5 x2_1_6 x2_1_7 x2_1_8 x2_1_9 x2_1_10 x2_1_11 x2_1_12 x2_1_13 x2_1_14 x2_1_15 x2_1_16 x2_1_17 x2_1_18 x2_1_19 x2_1_20 x2_1_21 x2_1_22 x2_2_0 x2_2_1 x2_2_2 x2_2_3 x2_2_4 x2_2_5 x2_2_6 x2_2_7 x2_2_8 x2_2_9 x2_2_10 x2_2_11 x2_2_12 x2_2_13 x2_2_14 x2_2_15 x2_2_16 x2_2_17 x2_2_18 x2_2_19 x2_2_20 x2_2_21 x2_2_22 x2_3_0 x2_3_1 x2_3_2 x2_3_3 x2_3_4 x2_3_5 x2_3_6 x2_3_7 x2_3_8 x2_3_9 x2_3_10 x2_3_11 x2_3_12 x2_3_13 x2_3_14 x2_3_15 x2_3_16 x2_3_17 x2_3_18 x2_3_19 x2_3_20 x2_3_21 x2_3_22 : Int) : Option (Int × Int × Int × Int × Int × Int × Int × Int × Int × Int × Int × Int × Int × Int × Int × Int × Int × Int × Int × Int × Int × Int × Int) := if x2_1_0 = 11 then (body_own.j3 k x2_2_0 x2_2_1 x2_2_2 x2_2_3 x2_2_4 x2_2_5 x2_2_6 x2_2_7 x2_2_8 x2_2_9 x2_2_10 x2_2_11 x2_2_12 x2_2_13 x2_2_14 x2_2_15 x2_2_16 x2_2_17 x2_2_18 x2_2_19 x2_2_20 x2_2_21 x2_2_22 x2_3_0 x2_3_1 x2_3_2 x2_3_3 x2_3_4 x2_3_5 x2_3_6 x2_3_7 x2_3_8 x2_3_9 x2_3_10 x2_1_11 x2_1_12 x2_1_13 x2_1_14 x2_1_15 x2_1_16 x2_1_17 x2_1_18 x2_1_19 x2_3_20 x2_3_21 x2_3_22) else (if x2_1_0 = 13 then (body_own.j3 k x2_2_0 x2_2_1 x2_2_2 x2_2_3 x2_2_4 x2_2_5 x2_2_6 x2_2_7 x2_2_8 x2_2_9 x2_2_10 x2_2_11 x2_2_12 x2_2_13 x2_2_14 x2_2_15 x2_2_16 x2_2_17 x2_2_18 x2_2_19 x2_2_20 x2_2_21 x2_2_22 x2_3_0 x2_3_1 x2_3_2 x2_3_3 x2_3_4 x2_3_5 x2_3_6 x2_3_7 x2_3_8 x2_3_9 x2_3_10 x2_3_11 x2_3_12 x2_3_13 x2_3_14 x2_3_15 x2_3_16 x2_3_17 x2_3_18 x2_3_19 x2_1_20 x2_1_21 x2_1_22) else (body_own.j3 k x2_2_0 x2_2_1 x2_2_2 x2_2_3 x2_2_4 x2_2_5 x2_2_6 x2_2_7 x2_2_8 x2_2_9 x2_2_10 x2_2_11 x2_2_12 x2_2_13 x2_2_14 x2_2_15 x2_2_16 x2_2_17 x2_2_18 x2_2_19 x2_2_20 x2_2_21 x2_2_22 x2_3_0 x2_3_1 x2_3_2 x2_3_3 x2_3_4 x2_3_5 x2_3_6 x2_3_7 x2_3_8 x2_3_9 x2_3_10 x2_3_11 x2_3_12 x2_3_13 x2_3_14 x2_3_15 x2_3_16 x2_3_17 x2_3_18 x2_3_19 x2_3_20 x2_3_21 x2_3_22))
def body_own.j1 (k : Nat) (x1_1_0 x1_1_1 x1_1_2 x1_1_3 x1_1_4 x1_1_5 x1_1_6 x1_1_7 x1_1_8 x1_1_9 x1_1_10 x1_1_11 x1_1_12 x1_1_13 x1_1_14 x1_1_15 x1_1_16 x1_1_17 x1_1_18 x1_1_19 x1_1_20 x1_1_21 x1_1_22 x1_2_0 x1_2_1 x1_2_2 x1_2_3 x1_2_4 x1_2_5 x1_2_6 x1_2_7 x1_2_8 x1_2_9 x1_2_10 x1_2_11 x1_2_12 x1_2_13 x1_2_14 x1_2_15 x1_2_16 x1_2_17 x1_2_18 x1_2_19 x1_2_20 x1_2_21 x1_2_22 x1_3_0 x1_3_1 x1_3_2 x1_3_3 x1_3_4 x1_3_5 x1_3_6 x1_3_7 x1_3_8 x1_3_9 x1_3_10 x1_3_11 x1_3_12 x1_3_13 x1_3_14 x1_3_15 x1_3_16 x1_3_17 x1_3_18 x1_3_19 x1_3_20 x1_3_21 x1_3_22 : Int) : Option (Int × Int × Int × Int × Int × Int × Int × Int × Int × Int × Int × Int × Int × Int × Int × Int × Int × Int × Int × Int × Int × Int × Int) := (body_targeted.f x1_1_0).bind fun t1003 => (if t1003 = true then (body_own.j2 k x1_1_0 x1_1_1 x1_1_2 x1_1_3 x1_1_4 x1_1_5 x1_1_6 x1_1_7 x1_1_8 x1_1_9 x1_1_10 x1_1_11 x1_1_12 x1_1_13 x1_1_14 x1_1_15 x1_1_16 x1_1_17 x1_1_18 x1_1_19 x1_1_20 x1_1_21 x1_1_22 x1_2_0 x1_2_1 x1_2_2 x1_2_3 x1_2_4 x1_2_5 x1_2_6 x1_2_7 x1_2_8 x1_2_9 x1_2_10 x1_2_11 x1_2_12 x1_2_13 x1_2_14 x1_2_15 x1_2_16 x1_2_17 x1_2_18 x1_2_19 x1_2_20 x1_2_21 x1_2_22 x1_3_0 x1_3_1 x1_3_2 x1_3_3 x1_3_4 x1_3_5 x1_3_6 x1_3_7 x1_3_8 x1_1_9 x1_1_10 x1_3_11 x1_3_12 x1_3_13 x1_3_14 x1_3_15 x1_3_16 x1_3_17 x1_3_18 x1_3_19 x1_3_20 x1_3_21 x1_3_22) else (body_own.j2 k x1_1_0 x1_1_1 x1_1_2 x1_1_3 x1_1_4 x1_1_5 x1_1_6 x1_1_7 x1_1_8 x1_1_9 x1_1_10 x1_1_11 x1_1_12 x1_1_13 x1_1_14 x1_1_15 x1_1_16 x1_1_17 x1_1_18 x1_1_19 x1_1_20 x1_1_21 x1_1_22 x1_2_0 x1_2_1 x1_2_2 x1_2_3 x1_2_4 x1_2_5 x1_2_6 x1_2_7 x1_2_8 x1_2_9 x1_2_10 x1_2_11 x1_2_12 x1_2_13 x1_2_14 x1_2_15 x1_2_16 x1_2_17 x1_2_18 x1_2_19 x1_2_20 x1_2_21 x1_2_22 x1_3_0 x1_3_1 x1_3_2 x1_3_3 x1_3_4 x1_3_5 x1_3_6 x1_3_7 x1_3_8 x1_3_9 x1_3_10 x1_3_11 x1_3_12 x1_3_13 x1_3_14 x1_3_15 x1_3_16 x1_3_17 x1_3_18 x1_3_19 x1_3_20 x1_3_21 x1_3_22))
def body_own.f (k : Nat) (a0_0 a0_1 a0_2 a0_3 a0_4 a0_5 a0_6 a0_7 a0_8 a0_9 a0_10 a0_11 a0_12 a0_13 a0_14 a0_15 a0_16 a0_17 a0_18 a0_19 a0_20 a0_21 a0_22 : Int) : Option (Int × Int × Int × Int × Int × Int × Int × Int × Int × Int × Int × Int × Int × Int × Int × Int × Int × Int × Int × Int × Int × Int × Int) := (body_stamped.f a0_0).bind fun t18 => (if t18 = true then (body_own.j1 k a0_0 a0_1 a0_2 a0_3 a0_4 a0_5 a0_6 a0_7 a0_8 a0_9 a0_10 a0_11 a0_12 a0_13 a0_14 a0_15 a0_16 a0_17 a0_18 a0_19 a0_20 a0_21 a0_22 0 0 0 0 0 0 0 0 0 0 0 0 0 0 0 0 0 0 0 0 0 0 0 a0_0 a0_1 a0_2 a0_3 a0_4 a0_5 a0_6 a0_7 a0_8 0 0 0 0 0 0 0 0 0 0 0 0 0 0) else (body_own.j1 k a0_0 a0_1 a0_2 a0_3 a0_4 a0_5 a0_6 a0_7 a0_8 a0_9 a0_10 a0_11 a0_12 a0_13 a0_14 a0_15 a0_16 a0_17 a0_18 a0_19 a0_20 a0_21 a0_22 0 0 0 0 0 0 0 0 0 0 0 0 0 0 0 0 0 0 0 0 0 0 0 a0_0 a0_1 a0_2 a0_3 a0_4 a0_5 a0_6 a0_7 0 0 0 0 0 0 0 0 0 0 0 0 0 0 0))
abbrev body_own.v0 (x0 x1 x2 x3 x4 x5 x6 x7 x8 x9 x10 x11 x12 x13 x14 x15 x16 x17 x18 x19 x20 x21 x22 : Int) : Value := .agg #[.int .i64 x0, .int .i64 x1, .int .i64 x2, .int .i64 x3, .int .u64 x4, .int .i64 x5, .int .i64 x6, .int .i64 x7, .int .i64 x8, .int .u64 x9, .int .i64 x10, .int .i64 x11, .int .i64 x12, .int .i64 x13, .int .i64 x14, .int .i64 x15, .int .i64 x16, .int .u64 x17, .int .i64 x18, .int .i64 x19, .int .i64 x20, .int .i64 x21, .int .i64 x22]
abbrev body_own.c1 (x0 x1 x2 x3 x4 x5 x6 x7 x8 x9 x10 x11 x12 x13 x14 x15 x16 x17 x18 x19 x20 x21 x22 : Int) : Array Value := #[.int .i64 x0, .int .i64 x1, .int .i64 x2, .int .i64 x3, .int .u64 x4, .int .i64 x5, .int .i64 x6, .int .i64 x7, .int .i64 x8, .int .u64 x9, .int .i64 x10, .int .i64 x11, .int .i64 x12, .int .i64 x13, .int .i64 x14, .int .i64 x15, .int .i64 x16, .int .u64 x17, .int .i64 x18, .int .i64 x19, .int .i64 x20, .int .i64 x21, .int .i64 x22]
open Go.Proofs.Ytpoocfapmgmfkaa.E in
set_option maxHeartbeats 60000000 in
set_option maxRecDepth 100000 in
theorem body_own.calls (k : Nat) (a0_0 a0_1 a0_2 a0_3 a0_4 a0_5 a0_6 a0_7 a0_8 a0_9 a0_10 a0_11 a0_12 a0_13 a0_14 a0_15 a0_16 a0_17 a0_18 a0_19 a0_20 a0_21 a0_22 r1 r2 r3 r4 r5 r6 r7 r8 r9 r10 r11 r12 r13 r14 r15 r16 r17 r18 r19 r20 r21 r22 r23 : Int) (w : World) (h : body_own.f k a0_0 a0_1 a0_2 a0_3 a0_4 a0_5 a0_6 a0_7 a0_8 a0_9 a0_10 a0_11 a0_12 a0_13 a0_14 a0_15 a0_16 a0_17 a0_18 a0_19 a0_20 a0_21 a0_22 = some (r1, r2, r3, r4, r5, r6, r7, r8, r9, r10, r11, r12, r13, r14, r15, r16, r17, r18, r19, r20, r21, r22, r23)) :
    Calls Try.prog 38 #[.agg #[.int .i64 a0_0, .int .i64 a0_1, .int .i64 a0_2, .int .i64 a0_3, .int .u64 a0_4, .int .i64 a0_5, .int .i64 a0_6, .int .i64 a0_7, .int .i64 a0_8, .int .u64 a0_9, .int .i64 a0_10, .int .i64 a0_11, .int .i64 a0_12, .int .i64 a0_13, .int .i64 a0_14, .int .i64 a0_15, .int .i64 a0_16, .int .u64 a0_17, .int .i64 a0_18, .int .i64 a0_19, .int .i64 a0_20, .int .i64 a0_21, .int .i64 a0_22]] w fun e w' => e = .returned (.agg #[.int .i64 r1, .int .i64 r2, .int .i64 r3, .int .i64 r4, .int .u64 r5, .int .i64 r6, .int .i64 r7, .int .i64 r8, .int .i64 r9, .int .u64 r10, .int .i64 r11, .int .i64 r12, .int .i64 r13, .int .i64 r14, .int .i64 r15, .int .i64 r16, .int .i64 r17, .int .u64 r18, .int .i64 r19, .int .i64 r20, .int .i64 r21, .int .i64 r22, .int .i64 r23]) ∧ Below w.heap.size w w' := by
  have H := h
  clear h
  unfold body_own.f at H
  refine calls_of_wp (fn := Try.f38) (by kernel_rfl) rfl ?_
  have hS := St.enter #[(body_own.v0 a0_0 a0_1 a0_2 a0_3 a0_4 a0_5 a0_6 a0_7 a0_8 a0_9 a0_10 a0_11 a0_12 a0_13 a0_14 a0_15 a0_16 a0_17 a0_18 a0_19 a0_20 a0_21 a0_22)] 68 (by simp) [(0, (body_own.v0 a0_0 a0_1 a0_2 a0_3 a0_4 a0_5 a0_6 a0_7 a0_8 a0_9 a0_10 a0_11 a0_12 a0_13 a0_14 a0_15 a0_16 a0_17 a0_18 a0_19 a0_20 a0_21 a0_22))] (by simp)
  have HB0 := Below.refl w.heap.size w
  refine wp_seq_k (fun K1 hK1 => ?_)
  refine reg_seq_tail 1 (N := 68) (bs := [(0, (body_own.v0 a0_0 a0_1 a0_2 a0_3 a0_4 a0_5 a0_6 a0_7 a0_8 a0_9 a0_10 a0_11 a0_12 a0_13 a0_14 a0_15 a0_16 a0_17 a0_18 a0_19 a0_20 a0_21 a0_22))]) (I := fun x => Below w.heap.size w x) (ps := [IsB (body_own.c1 a0_0 a0_1 a0_2 a0_3 a0_4 a0_5 a0_6 a0_7 a0_8 a0_9 a0_10 a0_11 a0_12 a0_13 a0_14 a0_15 a0_16 a0_17 a0_18 a0_19 a0_20 a0_21 a0_22) 29 w.heap.size]) (by kernel_rfl) ?_ ?_ rfl hS HB0 ?_ ?_
  · exact fun x y hI hb => below_step hI hb
  · exact .cons (Stays.b _ _ _) (.nil)
  · refine .on rfl (fun a w hS hI hp => does_var (x_box rfl (congrArg Value.cells (hS.get 0 rfl))) (hI).size) ?_
    exact .nil
  clear hS
  intro at2 w3 hS hI hp
  have hBw3_w := hI
  replace hS := hS.nil
  obtain ⟨g4, hv1, hgeg4, hbxg4⟩ := (show IsB _ 29 _ (sl _ 1) _ from hp 0 (by decide))
  have hBw3_w3 := Below.refl w3.heap.size w3
  have hS := hS.cons hv1
  clear hp hI hv1
  show wpList _ _ _ [_] _ _
  refine list_step rfl (R := fun v w' => Below _ _ w' ∧ (IsB (body_own.c1 0 0 0 0 0 0 0 0 0 0 0 0 0 0 0 0 0 0 0 0 0 0 0) 29 w3.heap.size) v w') (does_var (x_alloc rfl (by kernel_rfl)) (hBw3_w3).size) ?_
  rintro vw5 w5 ⟨hb, he⟩
  have hBw5_w := below_step hBw3_w hb
  have hBw5_w3 := below_step hBw3_w3 hb
  have hBw5_w5 := Below.refl w5.heap.size w5
  obtain ⟨g6, rfl, hgeg6, hbxg6⟩ := he
  have hne7 : g6 ≠ g4 := Nat.ne_of_gt (Nat.lt_of_lt_of_le (blk_lt ((hBw3_w3.block g4 (blk_lt hbxg4)).trans hbxg4)) hgeg6)
  refine hS.next (v := .pointer (some ⟨g6, 0, none⟩)) (d := 2) rfl (by decide) (by rfl) ?_
  clear hS
  intro at8 hS
  refine wpList_nil ?_
  refine hK1 _ _ ?_
  (try clear hK1 K1)
  refine wp_seq_k (fun K9 hK9 => ?_)
  refine reg_seq_tail 16 (N := 68) (bs := [(2, .pointer (some ⟨g6, 0, none⟩)), (1, .pointer (some ⟨g4, 0, none⟩))]) (I := fun x => Below w.heap.size w x ∧ Below w3.heap.size w3 x ∧ Below w5.heap.size w5 x) (ps := [VP g4 0, VI a0_0, VP g4 1, VI a0_1, VP g4 2, VI a0_2, VP g4 3, VI a0_3, VP g4 4, IsV (.agg #[.int .u64 a0_4, .int .i64 a0_5]), VP g4 6, VI a0_6, VP g4 7, VI a0_7, IsV ((body_own.v0 a0_0 a0_1 a0_2 a0_3 a0_4 a0_5 a0_6 a0_7 0 0 0 0 0 0 0 0 0 0 0 0 0 0 0)), IsB (body_own.c1 0 0 0 0 0 0 0 0 0 0 0 0 0 0 0 0 0 0 0 0 0 0 0) 29 w5.heap.size]) (by kernel_rfl) ?_ ?_ rfl hS ⟨hBw5_w, hBw5_w3, hBw5_w5⟩ ?_ ?_
  · exact fun x y hI hb => ⟨below_step hI.1 hb, below_step hI.2.1 hb, below_step hI.2.2 hb⟩
  · exact .v (.v (.v (.v (.v (.v (.v (.v (.v (.v (.v (.v (.v (.v (.v (.cons (Stays.b _ _ _) (.nil))))))))))))))))
  · refine .on rfl (fun a w hS hI hp => does_val (x_fieldE (b := 0) rfl (hS.get 1 rfl) Try.underlying29 rfl rfl (by kernel_rfl)) rfl) ?_
    refine .on rfl (fun a w hS hI hp => does_val (x_load1 (d := .int .i64) rfl (hp.V 0 rfl rfl) (by kernel_rfl) rfl ((blk_cell (((hI.2.1).block g4 (blk_lt hbxg4)).trans hbxg4) 0).trans rfl)) rfl) ?_
    refine .on rfl (fun a w hS hI hp => does_val (x_fieldE (b := 0) rfl (hS.get 1 rfl) Try.underlying29 rfl rfl (by kernel_rfl)) rfl) ?_
    refine .on rfl (fun a w hS hI hp => does_val (x_load1 (d := .int .i64) rfl (hp.V 2 rfl rfl) (by kernel_rfl) rfl ((blk_cell (((hI.2.1).block g4 (blk_lt hbxg4)).trans hbxg4) 1).trans rfl)) rfl) ?_
    refine .on rfl (fun a w hS hI hp => does_val (x_fieldE (b := 0) rfl (hS.get 1 rfl) Try.underlying29 rfl rfl (by kernel_rfl)) rfl) ?_
    refine .on rfl (fun a w hS hI hp => does_val (x_load1 (d := .int .i64) rfl (hp.V 4 rfl rfl) (by kernel_rfl) rfl ((blk_cell (((hI.2.1).block g4 (blk_lt hbxg4)).trans hbxg4) 2).trans rfl)) rfl) ?_
    refine .on rfl (fun a w hS hI hp => does_val (x_fieldE (b := 0) rfl (hS.get 1 rfl) Try.underlying29 rfl rfl (by kernel_rfl)) rfl) ?_
    refine .on rfl (fun a w hS hI hp => does_val (x_load1 (d := .int .i64) rfl (hp.V 6 rfl rfl) (by kernel_rfl) rfl ((blk_cell (((hI.2.1).block g4 (blk_lt hbxg4)).trans hbxg4) 3).trans rfl)) rfl) ?_
    refine .on rfl (fun a w hS hI hp => does_val (x_fieldE (b := 0) rfl (hS.get 1 rfl) Try.underlying29 rfl rfl (by kernel_rfl)) rfl) ?_
    refine .on rfl (fun a w hS hI hp => does_loadmid (cs := [.int .u64 a0_4, .int .i64 a0_5]) rfl (hp.V 8 rfl rfl) (((hI.2.1).block g4 (blk_lt hbxg4)).trans hbxg4) rfl Try.underlying25 rfl (by kernel_rfl) rfl) ?_
    refine .on rfl (fun a w hS hI hp => does_val (x_fieldE (b := 0) rfl (hS.get 1 rfl) Try.underlying29 rfl rfl (by kernel_rfl)) rfl) ?_
    refine .on rfl (fun a w hS hI hp => does_val (x_load1 (d := .int .i64) rfl (hp.V 10 rfl rfl) (by kernel_rfl) rfl ((blk_cell (((hI.2.1).block g4 (blk_lt hbxg4)).trans hbxg4) 6).trans rfl)) rfl) ?_
    refine .on rfl (fun a w hS hI hp => does_val (x_fieldE (b := 0) rfl (hS.get 1 rfl) Try.underlying29 rfl rfl (by kernel_rfl)) rfl) ?_
    refine .on rfl (fun a w hS hI hp => does_val (x_load1 (d := .int .i64) rfl (hp.V 12 rfl rfl) (by kernel_rfl) rfl ((blk_cell (((hI.2.1).block g4 (blk_lt hbxg4)).trans hbxg4) 7).trans rfl)) rfl) ?_
    refine .on rfl (fun a w hS hI hp => does_val (x_build (vs := [(0, .int .i64 a0_0), (1, .int .i64 a0_1), (2, .int .i64 a0_2), (3, .int .i64 a0_3), (4, .agg #[.int .u64 a0_4, .int .i64 a0_5]), (5, .int .i64 a0_6), (6, .int .i64 a0_7)]) rfl (by rw [Array.toList_map]; exact (show [(0, a.eval (.tmp 5)), (1, a.eval (.tmp 7)), (2, a.eval (.tmp 9)), (3, a.eval (.tmp 11)), (4, a.eval (.tmp 13)), (5, a.eval (.tmp 15)), (6, a.eval (.tmp 17))] = _ from (li_cons (hp.V 1 rfl rfl) (li_cons (hp.V 3 rfl rfl) (li_cons (hp.V 5 rfl rfl) (li_cons (hp.V 7 rfl rfl) (li_cons (hp.V 9 rfl rfl) (li_cons (hp.V 11 rfl rfl) (li_cons (hp.V 13 rfl rfl) rfl))))))))) (by kernel_rfl)) rfl) ?_
    refine .on rfl (fun a w hS hI hp => does_var (x_alloc rfl (by kernel_rfl)) (hI.2.2).size) ?_
    exact .nil
  clear hS
  intro at10 w11 hS hI hp
  have hBw11_w := hI.1
  have hBw11_w3 := hI.2.1
  have hBw11_w5 := hI.2.2
  have hv18 : sl _ 18 = (body_own.v0 a0_0 a0_1 a0_2 a0_3 a0_4 a0_5 a0_6 a0_7 0 0 0 0 0 0 0 0 0 0 0 0 0 0 0) := hp 14 (by decide)
  obtain ⟨g12, hv3, hgeg12, hbxg12⟩ := (show IsB _ 29 _ (sl _ 3) _ from hp 15 (by decide))
  have hne13 : g12 ≠ g4 := Nat.ne_of_gt (Nat.lt_of_lt_of_le (blk_lt ((hBw5_w3.block g4 (blk_lt hbxg4)).trans hbxg4)) hgeg12)
  have hne14 : g12 ≠ g6 := Nat.ne_of_gt (Nat.lt_of_lt_of_le (blk_lt ((hBw5_w5.block g6 (blk_lt hbxg6)).trans hbxg6)) hgeg12)
  have hBw11_w11 := Below.refl w11.heap.size w11
  have hS := hS.cons hv18
  have hS := hS.cons hv3
  clear hp hI hv18 hv3
  show wpList _ _ _ [_] _ _
  refine list_step rfl (does_storeAll (g := g12) (cs := (body_own.c1 a0_0 a0_1 a0_2 a0_3 a0_4 a0_5 a0_6 a0_7 0 0 0 0 0 0 0 0 0 0 0 0 0 0 0)) rfl (hS.get 0 rfl) (hS.get 1 rfl) ((hBw11_w11.block g12 (blk_lt hbxg12)).trans hbxg12) (by kernel_rfl) (by kernel_rfl) (by kernel_rfl)) ?_
  rintro vw15 w15 ⟨rfl, hbxw15, hT⟩
  have hBw15_w := hT.below hBw11_w (Nat.le_trans (hBw5_w).size hgeg12) (hBw11_w).size
  have hBw15_w3 := hT.below hBw11_w3 (Nat.le_trans (hBw5_w3).size hgeg12) (hBw11_w3).size
  have hBw15_w5 := hT.below hBw11_w5 hgeg12 (hBw11_w5).size
  have hBw15_w15 := Below.refl w15.heap.size w15
  clear hT
  refine wpList_nil ?_
  refine hK9 _ _ ?_
  (try clear hK9 K9)
  refine wp_seq_k (fun K16 hK16 => ?_)
  have J1 : ∀ (aL1 : Act) (wL1 : World) (x1_1_0 x1_1_1 x1_1_2 x1_1_3 x1_1_4 x1_1_5 x1_1_6 x1_1_7 x1_1_8 x1_1_9 x1_1_10 x1_1_11 x1_1_12 x1_1_13 x1_1_14 x1_1_15 x1_1_16 x1_1_17 x1_1_18 x1_1_19 x1_1_20 x1_1_21 x1_1_22 : Int) (gL1_1 : Nat) (x1_2_0 x1_2_1 x1_2_2 x1_2_3 x1_2_4 x1_2_5 x1_2_6 x1_2_7 x1_2_8 x1_2_9 x1_2_10 x1_2_11 x1_2_12 x1_2_13 x1_2_14 x1_2_15 x1_2_16 x1_2_17 x1_2_18 x1_2_19 x1_2_20 x1_2_21 x1_2_22 : Int) (gL1_2 : Nat) (x1_3_0 x1_3_1 x1_3_2 x1_3_3 x1_3_4 x1_3_5 x1_3_6 x1_3_7 x1_3_8 x1_3_9 x1_3_10 x1_3_11 x1_3_12 x1_3_13 x1_3_14 x1_3_15 x1_3_16 x1_3_17 x1_3_18 x1_3_19 x1_3_20 x1_3_21 x1_3_22 : Int) (gL1_3 : Nat), body_own.j1 k x1_1_0 x1_1_1 x1_1_2 x1_1_3 x1_1_4 x1_1_5 x1_1_6 x1_1_7 x1_1_8 x1_1_9 x1_1_10 x1_1_11 x1_1_12 x1_1_13 x1_1_14 x1_1_15 x1_1_16 x1_1_17 x1_1_18 x1_1_19 x1_1_20 x1_1_21 x1_1_22 x1_2_0 x1_2_1 x1_2_2 x1_2_3 x1_2_4 x1_2_5 x1_2_6 x1_2_7 x1_2_8 x1_2_9 x1_2_10 x1_2_11 x1_2_12 x1_2_13 x1_2_14 x1_2_15 x1_2_16 x1_2_17 x1_2_18 x1_2_19 x1_2_20 x1_2_21 x1_2_22 x1_3_0 x1_3_1 x1_3_2 x1_3_3 x1_3_4 x1_3_5 x1_3_6 x1_3_7 x1_3_8 x1_3_9 x1_3_10 x1_3_11 x1_3_12 x1_3_13 x1_3_14 x1_3_15 x1_3_16 x1_3_17 x1_3_18 x1_3_19 x1_3_20 x1_3_21 x1_3_22 = some (r1, r2, r3, r4, r5, r6, r7, r8, r9, r10, r11, r12, r13, r14, r15, r16, r17, r18, r19, r20, r21, r22, r23) → St 68 [(1, .pointer (some ⟨gL1_1, 0, none⟩)), (2, .pointer (some ⟨gL1_2, 0, none⟩)), (3, .pointer (some ⟨gL1_3, 0, none⟩))] aL1 → Below w.heap.size w wL1 → w.heap.size ≤ gL1_1 → wL1.heap[gL1_1]? = some (.cells (body_own.c1 x1_1_0 x1_1_1 x1_1_2 x1_1_3 x1_1_4 x1_1_5 x1_1_6 x1_1_7 x1_1_8 x1_1_9 x1_1_10 x1_1_11 x1_1_12 x1_1_13 x1_1_14 x1_1_15 x1_1_16 x1_1_17 x1_1_18 x1_1_19 x1_1_20 x1_1_21 x1_1_22) 29 (0, 0)) → w.heap.size ≤ gL1_2 → wL1.heap[gL1_2]? = some (.cells (body_own.c1 x1_2_0 x1_2_1 x1_2_2 x1_2_3 x1_2_4 x1_2_5 x1_2_6 x1_2_7 x1_2_8 x1_2_9 x1_2_10 x1_2_11 x1_2_12 x1_2_13 x1_2_14 x1_2_15 x1_2_16 x1_2_17 x1_2_18 x1_2_19 x1_2_20 x1_2_21 x1_2_22) 29 (0, 0)) → w.heap.size ≤ gL1_3 → wL1.heap[gL1_3]? = some (.cells (body_own.c1 x1_3_0 x1_3_1 x1_3_2 x1_3_3 x1_3_4 x1_3_5 x1_3_6 x1_3_7 x1_3_8 x1_3_9 x1_3_10 x1_3_11 x1_3_12 x1_3_13 x1_3_14 x1_3_15 x1_3_16 x1_3_17 x1_3_18 x1_3_19 x1_3_20 x1_3_21 x1_3_22) 29 (0, 0)) → gL1_2 ≠ gL1_1 → gL1_3 ≠ gL1_1 → gL1_3 ≠ gL1_2 → K16 aL1 wL1 := by
    intro aL1 wL1 x1_1_0 x1_1_1 x1_1_2 x1_1_3 x1_1_4 x1_1_5 x1_1_6 x1_1_7 x1_1_8 x1_1_9 x1_1_10 x1_1_11 x1_1_12 x1_1_13 x1_1_14 x1_1_15 x1_1_16 x1_1_17 x1_1_18 x1_1_19 x1_1_20 x1_1_21 x1_1_22 gL1_1 x1_2_0 x1_2_1 x1_2_2 x1_2_3 x1_2_4 x1_2_5 x1_2_6 x1_2_7 x1_2_8 x1_2_9 x1_2_10 x1_2_11 x1_2_12 x1_2_13 x1_2_14 x1_2_15 x1_2_16 x1_2_17 x1_2_18 x1_2_19 x1_2_20 x1_2_21 x1_2_22 gL1_2 x1_3_0 x1_3_1 x1_3_2 x1_3_3 x1_3_4 x1_3_5 x1_3_6 x1_3_7 x1_3_8 x1_3_9 x1_3_10 x1_3_11 x1_3_12 x1_3_13 x1_3_14 x1_3_15 x1_3_16 x1_3_17 x1_3_18 x1_3_19 x1_3_20 x1_3_21 x1_3_22 gL1_3 H hS hBwL1_w hgeLgL1_1 hbxLgL1_1 hgeLgL1_2 hbxLgL1_2 hgeLgL1_3 hbxLgL1_3 hneL1_2_1 hneL1_3_1 hneL1_3_2
    unfold body_own.j1 at H
    (try dsimp only at H)
    have hBwL1_wL1 := Below.refl wL1.heap.size wL1
    refine hK16 _ _ ?_
    (try clear hK16 K16)
    refine wp_seq_k (fun K1001 hK1001 => ?_)
    have J2 : ∀ (aL2 : Act) (wL2 : World) (x2_1_0 x2_1_1 x2_1_2 x2_1_3 x2_1_4 x2_1_5 x2_1_6 x2_1_7 x2_1_8 x2_1_9 x2_1_10 x2_1_11 x2_1_12 x2_1_13 x2_1_14 x2_1_15 x2_1_16 x2_1_17 x2_1_18 x2_1_19 x2_1_20 x2_1_21 x2_1_22 : Int) (gL2_1 : Nat) (x2_2_0 x2_2_1 x2_2_2 x2_2_3 x2_2_4 x2_2_5 x2_2_6 x2_2_7 x2_2_8 x2_2_9 x2_2_10 x2_2_11 x2_2_12 x2_2_13 x2_2_14 x2_2_15 x2_2_16 x2_2_17 x2_2_18 x2_2_19 x2_2_20 x2_2_21 x2_2_22 : Int) (gL2_2 : Nat) (x2_3_0 x2_3_1 x2_3_2 x2_3_3 x2_3_4 x2_3_5 x2_3_6 x2_3_7 x2_3_8 x2_3_9 x2_3_10 x2_3_11 x2_3_12 x2_3_13 x2_3_14 x2_3_15 x2_3_16 x2_3_17 x2_3_18 x2_3_19 x2_3_20 x2_3_21 x2_3_22 : Int) (gL2_3 : Nat), body_own.j2 k x2_1_0 x2_1_1 x2_1_2 x2_1_3 x2_1_4 x2_1_5 x2_1_6 x2_1_7 x2_1_8 x2_1_9 x2_1_10 x2_1_11 x2_1_12 x2_1_13 x2_1_14 x2_1_15 x2_1_16 x2_1_17 x2_1_18 x2_1_19 x2_1_20 x2_1_21 x2_1_22 x2_2_0 x2_2_1 x2_2_2 x2_2_3 x2_2_4 x2_2_5 x2_2_6 x2_2_7 x2_2_8 x2_2_9 x2_2_10 x2_2_11 x2_2_12 x2_2_13 x2_2_14 x2_2_15 x2_2_16 x2_2_17 x2_2_18 x2_2_19 x2_2_20 x2_2_21 x2_2_22 x2_3_0 x2_3_1 x2_3_2 x2_3_3 x2_3_4 x2_3_5 x2_3_6 x2_3_7 x2_3_8 x2_3_9 x2_3_10 x2_3_11 x2_3_12 x2_3_13 x2_3_14 x2_3_15 x2_3_16 x2_3_17 x2_3_18 x2_3_19 x2_3_20 x2_3_21 x2_3_22 = some (r1, r2, r3, r4, r5, r6, r7, r8, r9, r10, r11, r12, r13, r14, r15, r16, r17, r18, r19, r20, r21, r22, r23) → St 68 [(1, .pointer (some ⟨gL2_1, 0, none⟩)), (2, .pointer (some ⟨gL2_2, 0, none⟩)), (3, .pointer (some ⟨gL2_3, 0, none⟩))] aL2 → Below w.heap.size w wL2 → w.heap.size ≤ gL2_1 → wL2.heap[gL2_1]? = some (.cells (body_own.c1 x2_1_0 x2_1_1 x2_1_2 x2_1_3 x2_1_4 x2_1_5 x2_1_6 x2_1_7 x2_1_8 x2_1_9 x2_1_10 x2_1_11 x2_1_12 x2_1_13 x2_1_14 x2_1_15 x2_1_16 x2_1_17 x2_1_18 x2_1_19 x2_1_20 x2_1_21 x2_1_22) 29 (0, 0)) → w.heap.size ≤ gL2_2 → wL2.heap[gL2_2]? = some (.cells (body_own.c1 x2_2_0 x2_2_1 x2_2_2 x2_2_3 x2_2_4 x2_2_5 x2_2_6 x2_2_7 x2_2_8 x2_2_9 x2_2_10 x2_2_11 x2_2_12 x2_2_13 x2_2_14 x2_2_15 x2_2_16 x2_2_17 x2_2_18 x2_2_19 x2_2_20 x2_2_21 x2_2_22) 29 (0, 0)) → w.heap.size ≤ gL2_3 → wL2.heap[gL2_3]? = some (.cells (body_own.c1 x2_3_0 x2_3_1 x2_3_2 x2_3_3 x2_3_4 x2_3_5 x2_3_6 x2_3_7 x2_3_8 x2_3_9 x2_3_10 x2_3_11 x2_3_12 x2_3_13 x2_3_14 x2_3_15 x2_3_16 x2_3_17 x2_3_18 x2_3_19 x2_3_20 x2_3_21 x2_3_22) 29 (0, 0)) → gL2_2 ≠ gL2_1 → gL2_3 ≠ gL2_1 → gL2_3 ≠ gL2_2 → K1001 aL2 wL2 := by
      intro aL2 wL2 x2_1_0 x2_1_1 x2_1_2 x2_1_3 x2_1_4 x2_1_5 x2_1_6 x2_1_7 x2_1_8 x2_1_9 x2_1_10 x2_1_11 x2_1_12 x2_1_13 x2_1_14 x2_1_15 x2_1_16 x2_1_17 x2_1_18 x2_1_19 x2_1_20 x2_1_21 x2_1_22 gL2_1 x2_2_0 x2_2_1 x2_2_2 x2_2_3 x2_2_4 x2_2_5 x2_2_6 x2_2_7 x2_2_8 x2_2_9 x2_2_10 x2_2_11 x2_2_12 x2_2_13 x2_2_14 x2_2_15 x2_2_16 x2_2_17 x2_2_18 x2_2_19 x2_2_20 x2_2_21 x2_2_22 gL2_2 x2_3_0 x2_3_1 x2_3_2 x2_3_3 x2_3_4 x2_3_5 x2_3_6 x2_3_7 x2_3_8 x2_3_9 x2_3_10 x2_3_11 x2_3_12 x2_3_13 x2_3_14 x2_3_15 x2_3_16 x2_3_17 x2_3_18 x2_3_19 x2_3_20 x2_3_21 x2_3_22 gL2_3 H hS hBwL2_w hgeLgL2_1 hbxLgL2_1 hgeLgL2_2 hbxLgL2_2 hgeLgL2_3 hbxLgL2_3 hneL2_2_1 hneL2_3_1 hneL2_3_2
      unfold body_own.j2 at H
      (try dsimp only at H)
      have hBwL2_wL2 := Below.refl wL2.heap.size wL2
      refine hK1001 _ _ ?_
      (try clear hK1001 K1001)
      refine wp_seq_k (fun K2001 hK2001 => ?_)
      have J3 : ∀ (aL3 : Act) (wL3 : World) (x3_2_0 x3_2_1 x3_2_2 x3_2_3 x3_2_4 x3_2_5 x3_2_6 x3_2_7 x3_2_8 x3_2_9 x3_2_10 x3_2_11 x3_2_12 x3_2_13 x3_2_14 x3_2_15 x3_2_16 x3_2_17 x3_2_18 x3_2_19 x3_2_20 x3_2_21 x3_2_22 : Int) (gL3_2 : Nat) (x3_3_0 x3_3_1 x3_3_2 x3_3_3 x3_3_4 x3_3_5 x3_3_6 x3_3_7 x3_3_8 x3_3_9 x3_3_10 x3_3_11 x3_3_12 x3_3_13 x3_3_14 x3_3_15 x3_3_16 x3_3_17 x3_3_18 x3_3_19 x3_3_20 x3_3_21 x3_3_22 : Int) (gL3_3 : Nat), body_own.j3 k x3_2_0 x3_2_1 x3_2_2 x3_2_3 x3_2_4 x3_2_5 x3_2_6 x3_2_7 x3_2_8 x3_2_9 x3_2_10 x3_2_11 x3_2_12 x3_2_13 x3_2_14 x3_2_15 x3_2_16 x3_2_17 x3_2_18 x3_2_19 x3_2_20 x3_2_21 x3_2_22 x3_3_0 x3_3_1 x3_3_2 x3_3_3 x3_3_4 x3_3_5 x3_3_6 x3_3_7 x3_3_8 x3_3_9 x3_3_10 x3_3_11 x3_3_12 x3_3_13 x3_3_14 x3_3_15 x3_3_16 x3_3_17 x3_3_18 x3_3_19 x3_3_20 x3_3_21 x3_3_22 = some (r1, r2, r3, r4, r5, r6, r7, r8, r9, r10, r11, r12, r13, r14, r15, r16, r17, r18, r19, r20, r21, r22, r23) → St 68 [(2, .pointer (some ⟨gL3_2, 0, none⟩)), (3, .pointer (some ⟨gL3_3, 0, none⟩))] aL3 → Below w.heap.size w wL3 → w.heap.size ≤ gL3_2 → wL3.heap[gL3_2]? = some (.cells (body_own.c1 x3_2_0 x3_2_1 x3_2_2 x3_2_3 x3_2_4 x3_2_5 x3_2_6 x3_2_7 x3_2_8 x3_2_9 x3_2_10 x3_2_11 x3_2_12 x3_2_13 x3_2_14 x3_2_15 x3_2_16 x3_2_17 x3_2_18 x3_2_19 x3_2_20 x3_2_21 x3_2_22) 29 (0, 0)) → w.heap.size ≤ gL3_3 → wL3.heap[gL3_3]? = some (.cells (body_own.c1 x3_3_0 x3_3_1 x3_3_2 x3_3_3 x3_3_4 x3_3_5 x3_3_6 x3_3_7 x3_3_8 x3_3_9 x3_3_10 x3_3_11 x3_3_12 x3_3_13 x3_3_14 x3_3_15 x3_3_16 x3_3_17 x3_3_18 x3_3_19 x3_3_20 x3_3_21 x3_3_22) 29 (0, 0)) → gL3_3 ≠ gL3_2 → K2001 aL3 wL3 := by
        intro aL3 wL3 x3_2_0 x3_2_1 x3_2_2 x3_2_3 x3_2_4 x3_2_5 x3_2_6 x3_2_7 x3_2_8 x3_2_9 x3_2_10 x3_2_11 x3_2_12 x3_2_13 x3_2_14 x3_2_15 x3_2_16 x3_2_17 x3_2_18 x3_2_19 x3_2_20 x3_2_21 x3_2_22 gL3_2 x3_3_0 x3_3_1 x3_3_2 x3_3_3 x3_3_4 x3_3_5 x3_3_6 x3_3_7 x3_3_8 x3_3_9 x3_3_10 x3_3_11 x3_3_12 x3_3_13 x3_3_14 x3_3_15 x3_3_16 x3_3_17 x3_3_18 x3_3_19 x3_3_20 x3_3_21 x3_3_22 gL3_3 H hS hBwL3_w hgeLgL3_2 hbxLgL3_2 hgeLgL3_3 hbxLgL3_3 hneL3_3_2
        unfold body_own.j3 at H
        (try dsimp only at H)
        simp only [Option.some.injEq, Prod.mk.injEq] at H
        obtain ⟨rfl, rfl, rfl, rfl, rfl, rfl, rfl, rfl, rfl, rfl, rfl, rfl, rfl, rfl, rfl, rfl, rfl, rfl, rfl, rfl, rfl, rfl, rfl⟩ := H
        have hBwL3_wL3 := Below.refl wL3.heap.size wL3
        refine hK2001 _ _ ?_
        (try clear hK2001 K2001)
        refine wp_seq_k (fun K3001 hK3001 => ?_)
        refine reg_seq_tail 1 (N := 68) (bs := [(2, .pointer (some ⟨gL3_2, 0, none⟩)), (3, .pointer (some ⟨gL3_3, 0, none⟩))]) (I := fun x => Below w.heap.size w x ∧ Below wL3.heap.size wL3 x) (ps := [IsV ((body_own.v0 x3_3_0 x3_3_1 x3_3_2 x3_3_3 x3_3_4 x3_3_5 x3_3_6 x3_3_7 x3_3_8 x3_3_9 x3_3_10 x3_3_11 x3_3_12 x3_3_13 x3_3_14 x3_3_15 x3_3_16 x3_3_17 x3_3_18 x3_3_19 x3_3_20 x3_3_21 x3_3_22))]) (by kernel_rfl) ?_ ?_ rfl hS ⟨hBwL3_w, hBwL3_wL3⟩ ?_ ?_
        · exact fun x y hI hb => ⟨below_step hI.1 hb, below_step hI.2 hb⟩
        · exact .v (.nil)
        · refine .on rfl (fun a w hS hI hp => does_loadrow rfl (hS.get 1 rfl) (((hI.2).block gL3_3 (blk_lt hbxLgL3_3)).trans hbxLgL3_3) Try.underlying29 rfl (by kernel_rfl) rfl) ?_
          exact .nil
        clear hS
        intro at3002 w3003 hS hI hp
        have hBw3003_w := hI.1
        have hBw3003_wL3 := hI.2
        replace hS := (hS.nil).cons (hS.get 0 rfl)
        have hv67 : sl _ 67 = (body_own.v0 x3_3_0 x3_3_1 x3_3_2 x3_3_3 x3_3_4 x3_3_5 x3_3_6 x3_3_7 x3_3_8 x3_3_9 x3_3_10 x3_3_11 x3_3_12 x3_3_13 x3_3_14 x3_3_15 x3_3_16 x3_3_17 x3_3_18 x3_3_19 x3_3_20 x3_3_21 x3_3_22) := hp 0 (by decide)
        have hBw3003_w3003 := Below.refl w3003.heap.size w3003
        have hS := hS.cons hv67
        clear hp hI hv67
        show wpList _ _ _ [_] _ _
        refine list_step rfl (does_storeAll (g := gL3_2) (cs := (body_own.c1 x3_3_0 x3_3_1 x3_3_2 x3_3_3 x3_3_4 x3_3_5 x3_3_6 x3_3_7 x3_3_8 x3_3_9 x3_3_10 x3_3_11 x3_3_12 x3_3_13 x3_3_14 x3_3_15 x3_3_16 x3_3_17 x3_3_18 x3_3_19 x3_3_20 x3_3_21 x3_3_22)) rfl (hS.get 1 rfl) (hS.get 0 rfl) ((hBw3003_wL3.block gL3_2 (blk_lt hbxLgL3_2)).trans hbxLgL3_2) (by kernel_rfl) (by kernel_rfl) (by kernel_rfl)) ?_
        rintro vw3004 w3004 ⟨rfl, hbxw3004, hT⟩
        have hn3005 := hT.blk ((hBw3003_wL3.block gL3_3 (blk_lt hbxLgL3_3)).trans hbxLgL3_3) hneL3_3_2
        have hBw3004_w := hT.below hBw3003_w hgeLgL3_2 (hBw3003_w).size
        have hBw3004_w3004 := Below.refl w3004.heap.size w3004
        clear hT
        refine wpList_nil ?_
        refine hK3001 _ _ ?_
        (try clear hK3001 K3001)
        refine wp_ret ?_
        (try simp only [Exit.then, Exit.inBlock, Exit.jump, Exit.noGoto])
        exact bodyPost_ret (v := (body_own.v0 x3_3_0 x3_3_1 x3_3_2 x3_3_3 x3_3_4 x3_3_5 x3_3_6 x3_3_7 x3_3_8 x3_3_9 x3_3_10 x3_3_11 x3_3_12 x3_3_13 x3_3_14 x3_3_15 x3_3_16 x3_3_17 x3_3_18 x3_3_19 x3_3_20 x3_3_21 x3_3_22)) (results_single rfl (Vals.cell gL3_2 29 (body_own.c1 x3_3_0 x3_3_1 x3_3_2 x3_3_3 x3_3_4 x3_3_5 x3_3_6 x3_3_7 x3_3_8 x3_3_9 x3_3_10 x3_3_11 x3_3_12 x3_3_13 x3_3_14 x3_3_15 x3_3_16 x3_3_17 x3_3_18 x3_3_19 x3_3_20 x3_3_21 x3_3_22) (0, 0) _ (hS.get 1 rfl) ((hBw3004_w3004.block gL3_2 (blk_lt hbxw3004)).trans hbxw3004) Try.underlying29 rfl (by kernel_rfl) .nil)) hS.nodef ⟨rfl, hBw3004_w⟩
      by_cases c1 : x2_1_0 = 11
      rotate_left
      · rw [if_neg c1] at H
        by_cases c2 : x2_1_0 = 13
        rotate_left
        · rw [if_neg c2] at H
          refine wp_seq_k (fun K2002 hK2002 => ?_)
          refine reg_seq (N := 68) (bs := [(1, .pointer (some ⟨gL2_1, 0, none⟩)), (2, .pointer (some ⟨gL2_2, 0, none⟩)), (3, .pointer (some ⟨gL2_3, 0, none⟩))]) (I := fun x => Below w.heap.size w x ∧ Below wL2.heap.size wL2 x) (ps := [VP gL2_1 0, VI x2_1_0]) (by kernel_rfl) ?_ ?_ rfl hS ⟨hBwL2_w, hBwL2_wL2⟩ ?_ ?_
          · exact fun x y hI hb => ⟨below_step hI.1 hb, below_step hI.2 hb⟩
          · exact .v (.v (.nil))
          · refine .on rfl (fun a w hS hI hp => does_val (x_fieldE (b := 0) rfl (hS.get 0 rfl) Try.underlying29 rfl rfl (by kernel_rfl)) rfl) ?_
            refine .on rfl (fun a w hS hI hp => does_val (x_load1 (d := .int .i64) rfl (hp.V 0 rfl rfl) (by kernel_rfl) rfl ((blk_cell (((hI.2).block gL2_1 (blk_lt hbxLgL2_1)).trans hbxLgL2_1) 0).trans rfl)) rfl) ?_
            exact .nil
          clear hS
          intro at2003 w2004 hS hI hp
          have hBw2004_w := hI.1
          have hBw2004_wL2 := hI.2
          have hv32 : sl _ 32 = .int .i64 x2_1_0 := hp 1 (by decide)
          have hBw2004_w2004 := Below.refl w2004.heap.size w2004
          have hS := hS.cons hv32
          clear hp hI hv32
          refine hK2002 _ _ ?_
          (try clear hK2002 K2002)
          refine wp_block ?_
          refine wp_seq_k (fun K2005 hK2005 => ?_)
          refine reg_seq (N := 68) (bs := [(32, .int .i64 x2_1_0), (1, .pointer (some ⟨gL2_1, 0, none⟩)), (2, .pointer (some ⟨gL2_2, 0, none⟩)), (3, .pointer (some ⟨gL2_3, 0, none⟩))]) (I := fun x => Below w.heap.size w x ∧ Below wL2.heap.size wL2 x ∧ Below w2004.heap.size w2004 x) (ps := [VB (decide (x2_1_0 = 11)), VB (decide (x2_1_0 = 11))]) (by kernel_rfl) ?_ ?_ rfl hS ⟨hBw2004_w, hBw2004_wL2, hBw2004_w2004⟩ ?_ ?_
          · exact fun x y hI hb => ⟨below_step hI.1 hb, below_step hI.2.1 hb, below_step hI.2.2 hb⟩
          · exact .v (.v (.nil))
          · refine .on rfl (fun a w hS hI hp => does_val (x_bin rfl (hS.get 0 rfl) (rfl) (b_eql _ _ _ _ _ _)) rfl) ?_
            refine .asg 0 rfl rfl rfl rfl ?_
            exact .nil
          clear hS
          intro at2006 w2007 hS hI hp
          have hBw2007_w := hI.1
          have hBw2007_wL2 := hI.2.1
          have hBw2007_w2004 := hI.2.2
          have hv33 : sl _ 33 = .bool (decide (x2_1_0 = 11)) := hp 1 (by decide)
          have hBw2007_w2007 := Below.refl w2007.heap.size w2007
          have hS := hS.cons hv33
          clear hp hI hv33
          refine hK2005 _ _ ?_
          (try clear hK2005 K2005)
          refine wp_cond_false ((hS.get 0 rfl).trans (bF (decide_eq_false c1))) ?_
          refine wp_seq_k (fun K2008 hK2008 => ?_)
          refine reg_seq (N := 68) (bs := [(33, .bool (decide (x2_1_0 = 11))), (32, .int .i64 x2_1_0), (1, .pointer (some ⟨gL2_1, 0, none⟩)), (2, .pointer (some ⟨gL2_2, 0, none⟩)), (3, .pointer (some ⟨gL2_3, 0, none⟩))]) (I := fun x => Below w.heap.size w x ∧ Below wL2.heap.size wL2 x ∧ Below w2007.heap.size w2007 x) (ps := [VB (decide (x2_1_0 = 13)), VB (decide (x2_1_0 = 13))]) (by kernel_rfl) ?_ ?_ rfl hS ⟨hBw2007_w, hBw2007_wL2, hBw2007_w2007⟩ ?_ ?_
          · exact fun x y hI hb => ⟨below_step hI.1 hb, below_step hI.2.1 hb, below_step hI.2.2 hb⟩
          · exact .v (.v (.nil))
          · refine .on rfl (fun a w hS hI hp => does_val (x_bin rfl (hS.get 1 rfl) (rfl) (b_eql _ _ _ _ _ _)) rfl) ?_
            refine .asg 0 rfl rfl rfl rfl ?_
            exact .nil
          clear hS
          intro at2009 w2010 hS hI hp
          have hBw2010_w := hI.1
          have hBw2010_wL2 := hI.2.1
          have hBw2010_w2007 := hI.2.2
          replace hS := (((hS.nil).cons (hS.get 4 rfl)).cons (hS.get 3 rfl)).cons (hS.get 2 rfl)
          have hv56 : sl _ 56 = .bool (decide (x2_1_0 = 13)) := hp 1 (by decide)
          have hBw2010_w2010 := Below.refl w2010.heap.size w2010
          have hS := hS.cons hv56
          clear hp hI hv56
          refine hK2008 _ _ ?_
          (try clear hK2008 K2008)
          refine wp_cond_false ((hS.get 0 rfl).trans (bF (decide_eq_false c2))) ?_
          refine wp_skip ?_
          replace hS := ((hS.nil).cons (hS.get 3 rfl)).cons (hS.get 2 rfl)
          (try simp only [Exit.then, Exit.inBlock])
          exact J3 _ _ x2_2_0 x2_2_1 x2_2_2 x2_2_3 x2_2_4 x2_2_5 x2_2_6 x2_2_7 x2_2_8 x2_2_9 x2_2_10 x2_2_11 x2_2_12 x2_2_13 x2_2_14 x2_2_15 x2_2_16 x2_2_17 x2_2_18 x2_2_19 x2_2_20 x2_2_21 x2_2_22 gL2_2 x2_3_0 x2_3_1 x2_3_2 x2_3_3 x2_3_4 x2_3_5 x2_3_6 x2_3_7 x2_3_8 x2_3_9 x2_3_10 x2_3_11 x2_3_12 x2_3_13 x2_3_14 x2_3_15 x2_3_16 x2_3_17 x2_3_18 x2_3_19 x2_3_20 x2_3_21 x2_3_22 gL2_3 H hS hBw2010_w hgeLgL2_2 ((hBw2010_wL2.block gL2_2 (blk_lt hbxLgL2_2)).trans hbxLgL2_2) hgeLgL2_3 ((hBw2010_wL2.block gL2_3 (blk_lt hbxLgL2_3)).trans hbxLgL2_3) hneL2_3_2
        rw [if_pos c2] at H
        refine wp_seq_k (fun K2002 hK2002 => ?_)
        refine reg_seq (N := 68) (bs := [(1, .pointer (some ⟨gL2_1, 0, none⟩)), (2, .pointer (some ⟨gL2_2, 0, none⟩)), (3, .pointer (some ⟨gL2_3, 0, none⟩))]) (I := fun x => Below w.heap.size w x ∧ Below wL2.heap.size wL2 x) (ps := [VP gL2_1 0, VI x2_1_0]) (by kernel_rfl) ?_ ?_ rfl hS ⟨hBwL2_w, hBwL2_wL2⟩ ?_ ?_
        · exact fun x y hI hb => ⟨below_step hI.1 hb, below_step hI.2 hb⟩
        · exact .v (.v (.nil))
        · refine .on rfl (fun a w hS hI hp => does_val (x_fieldE (b := 0) rfl (hS.get 0 rfl) Try.underlying29 rfl rfl (by kernel_rfl)) rfl) ?_
          refine .on rfl (fun a w hS hI hp => does_val (x_load1 (d := .int .i64) rfl (hp.V 0 rfl rfl) (by kernel_rfl) rfl ((blk_cell (((hI.2).block gL2_1 (blk_lt hbxLgL2_1)).trans hbxLgL2_1) 0).trans rfl)) rfl) ?_
          exact .nil
        clear hS
        intro at2003 w2004 hS hI hp
        have hBw2004_w := hI.1
        have hBw2004_wL2 := hI.2
        have hv32 : sl _ 32 = .int .i64 x2_1_0 := hp 1 (by decide)
        have hBw2004_w2004 := Below.refl w2004.heap.size w2004
        have hS := hS.cons hv32
        clear hp hI hv32
        refine hK2002 _ _ ?_
        (try clear hK2002 K2002)
        refine wp_block ?_
        refine wp_seq_k (fun K2005 hK2005 => ?_)
        refine reg_seq (N := 68) (bs := [(32, .int .i64 x2_1_0), (1, .pointer (some ⟨gL2_1, 0, none⟩)), (2, .pointer (some ⟨gL2_2, 0, none⟩)), (3, .pointer (some ⟨gL2_3, 0, none⟩))]) (I := fun x => Below w.heap.size w x ∧ Below wL2.heap.size wL2 x ∧ Below w2004.heap.size w2004 x) (ps := [VB (decide (x2_1_0 = 11)), VB (decide (x2_1_0 = 11))]) (by kernel_rfl) ?_ ?_ rfl hS ⟨hBw2004_w, hBw2004_wL2, hBw2004_w2004⟩ ?_ ?_
        · exact fun x y hI hb => ⟨below_step hI.1 hb, below_step hI.2.1 hb, below_step hI.2.2 hb⟩
        · exact .v (.v (.nil))
        · refine .on rfl (fun a w hS hI hp => does_val (x_bin rfl (hS.get 0 rfl) (rfl) (b_eql _ _ _ _ _ _)) rfl) ?_
          refine .asg 0 rfl rfl rfl rfl ?_
          exact .nil
        clear hS
        intro at2006 w2007 hS hI hp
        have hBw2007_w := hI.1
        have hBw2007_wL2 := hI.2.1
        have hBw2007_w2004 := hI.2.2
        have hv33 : sl _ 33 = .bool (decide (x2_1_0 = 11)) := hp 1 (by decide)
        have hBw2007_w2007 := Below.refl w2007.heap.size w2007
        have hS := hS.cons hv33
        clear hp hI hv33
        refine hK2005 _ _ ?_
        (try clear hK2005 K2005)
        refine wp_cond_false ((hS.get 0 rfl).trans (bF (decide_eq_false c1))) ?_
        refine wp_seq_k (fun K2008 hK2008 => ?_)
        refine reg_seq (N := 68) (bs := [(33, .bool (decide (x2_1_0 = 11))), (32, .int .i64 x2_1_0), (1, .pointer (some ⟨gL2_1, 0, none⟩)), (2, .pointer (some ⟨gL2_2, 0, none⟩)), (3, .pointer (some ⟨gL2_3, 0, none⟩))]) (I := fun x => Below w.heap.size w x ∧ Below wL2.heap.size wL2 x ∧ Below w2007.heap.size w2007 x) (ps := [VB (decide (x2_1_0 = 13)), VB (decide (x2_1_0 = 13))]) (by kernel_rfl) ?_ ?_ rfl hS ⟨hBw2007_w, hBw2007_wL2, hBw2007_w2007⟩ ?_ ?_
        · exact fun x y hI hb => ⟨below_step hI.1 hb, below_step hI.2.1 hb, below_step hI.2.2 hb⟩
        · exact .v (.v (.nil))
        · refine .on rfl (fun a w hS hI hp => does_val (x_bin rfl (hS.get 1 rfl) (rfl) (b_eql _ _ _ _ _ _)) rfl) ?_
          refine .asg 0 rfl rfl rfl rfl ?_
          exact .nil
        clear hS
        intro at2009 w2010 hS hI hp
        have hBw2010_w := hI.1
        have hBw2010_wL2 := hI.2.1
        have hBw2010_w2007 := hI.2.2
        replace hS := (((hS.nil).cons (hS.get 4 rfl)).cons (hS.get 3 rfl)).cons (hS.get 2 rfl)
        have hv56 : sl _ 56 = .bool (decide (x2_1_0 = 13)) := hp 1 (by decide)
        have hBw2010_w2010 := Below.refl w2010.heap.size w2010
        have hS := hS.cons hv56
        clear hp hI hv56
        refine hK2008 _ _ ?_
        (try clear hK2008 K2008)
        refine wp_cond_true ((hS.get 0 rfl).trans (bT (decide_eq_true c2))) ?_
        refine reg_float (N := 68) (bs := [(56, .bool (decide (x2_1_0 = 13))), (1, .pointer (some ⟨gL2_1, 0, none⟩)), (2, .pointer (some ⟨gL2_2, 0, none⟩)), (3, .pointer (some ⟨gL2_3, 0, none⟩))]) (I := fun x => Below w.heap.size w x ∧ Below wL2.heap.size wL2 x ∧ Below w2010.heap.size w2010 x) (C := fun x => x.heap[gL2_1]? = some (.cells (body_own.c1 x2_1_0 x2_1_1 x2_1_2 x2_1_3 x2_1_4 x2_1_5 x2_1_6 x2_1_7 x2_1_8 x2_1_9 x2_1_10 x2_1_11 x2_1_12 x2_1_13 x2_1_14 x2_1_15 x2_1_16 x2_1_17 x2_1_18 x2_1_19 x2_1_20 x2_1_21 x2_1_22) 29 (0, 0))) [true, true, true, true, true, true, true, false, false, false, false, false] [.pointer (some ⟨gL2_1, 20, none⟩), .int .i64 x2_1_20, .pointer (some ⟨gL2_1, 21, none⟩), .int .i64 x2_1_21, .pointer (some ⟨gL2_1, 22, none⟩), .int .i64 x2_1_22, .pointer (some ⟨gL2_3, 20, none⟩), undef, undef, undef, undef, undef] [0, 1, 0, 4, 0, 16, 3, 67, 207, 463, 1023, 2047] (by kernel_rfl) (by kernel_rfl) rfl ?_ ?_ hS ⟨hBw2010_w, hBw2010_wL2, hBw2010_w2010⟩ ?_ ?_
        · exact fun x y hI hb => ⟨below_step hI.1 hb, below_step hI.2.1 hb, below_step hI.2.2 hb⟩
        · exact fun x hI => ((hI.2.1.block gL2_1 (blk_lt hbxLgL2_1)).trans hbxLgL2_1)
        · intro a hS hp
          refine .g (fun w hC => GRun.on rfl (x_fieldE (b := 0) rfl (hS.get 1 rfl) Try.underlying29 rfl rfl (by kernel_rfl))) ?_
          refine .g (fun w hC => GRun.on rfl (x_load1 (d := .int .i64) rfl ((hp.get 0 rfl rfl rfl)) (by kernel_rfl) rfl ((blk_cell ((((Below.refl _ _)).block gL2_1 (blk_lt hC)).trans hC) 20).trans rfl))) ?_
          refine .g (fun w hC => GRun.on rfl (x_fieldE (b := 0) rfl (hS.get 1 rfl) Try.underlying29 rfl rfl (by kernel_rfl))) ?_
          refine .g (fun w hC => GRun.on rfl (x_load1 (d := .int .i64) rfl ((hp.get 2 rfl rfl rfl)) (by kernel_rfl) rfl ((blk_cell ((((Below.refl _ _)).block gL2_1 (blk_lt hC)).trans hC) 21).trans rfl))) ?_
          refine .g (fun w hC => GRun.on rfl (x_fieldE (b := 0) rfl (hS.get 1 rfl) Try.underlying29 rfl rfl (by kernel_rfl))) ?_
          refine .g (fun w hC => GRun.on rfl (x_load1 (d := .int .i64) rfl ((hp.get 4 rfl rfl rfl)) (by kernel_rfl) rfl ((blk_cell ((((Below.refl _ _)).block gL2_1 (blk_lt hC)).trans hC) 22).trans rfl))) ?_
          refine .g (fun w hC => GRun.on rfl (x_fieldE (b := 0) rfl (hS.get 3 rfl) Try.underlying29 rfl rfl (by kernel_rfl))) ?_
          iterate 5 refine .t ?_
          exact .nil
        clear hS
        intro at2011 w2012 hS hp hI
        have hBw2012_w := hI.1
        have hBw2012_wL2 := hI.2.1
        have hBw2012_w2010 := hI.2.2
        have hBw2012_w2012 := Below.refl w2012.heap.size w2012
        have hS := hS.cons (show sl _ 59 = .int .i64 x2_1_20 from hp.get 1 rfl rfl rfl)
        have hS := hS.cons (show sl _ 61 = .int .i64 x2_1_21 from hp.get 3 rfl rfl rfl)
        have hS := hS.cons (show sl _ 63 = .int .i64 x2_1_22 from hp.get 5 rfl rfl rfl)
        have hS := hS.cons (show sl _ 64 = .pointer (some ⟨gL2_3, 20, none⟩) from hp.get 6 rfl rfl rfl)
        clear hp hI
        show ListC _ _ _ _ [_, _, _, _, _] _ _
        refine lc_step rfl (does_store (g := gL2_3) (off := 20) (v := .int .i64 x2_1_20) (new := (body_own.c1 x2_3_0 x2_3_1 x2_3_2 x2_3_3 x2_3_4 x2_3_5 x2_3_6 x2_3_7 x2_3_8 x2_3_9 x2_3_10 x2_3_11 x2_3_12 x2_3_13 x2_3_14 x2_3_15 x2_3_16 x2_3_17 x2_3_18 x2_3_19 x2_1_20 x2_3_21 x2_3_22)) rfl (hS.get 0 rfl) (hS.get 3 rfl) ((hBw2012_wL2.block gL2_3 (blk_lt hbxLgL2_3)).trans hbxLgL2_3) (by kernel_rfl) (by kernel_rfl) (by kernel_rfl) (by kernel_rfl)) ?_
        rintro vw2013 w2013 ⟨rfl, hbxw2013, hT⟩
        have hn2014 := hT.blk ((hBw2012_wL2.block gL2_1 (blk_lt hbxLgL2_1)).trans hbxLgL2_1) (Ne.symm hneL2_3_1)
        have hn2015 := hT.blk ((hBw2012_wL2.block gL2_2 (blk_lt hbxLgL2_2)).trans hbxLgL2_2) (Ne.symm hneL2_3_2)
        have hBw2013_w := hT.below hBw2012_w hgeLgL2_3 (hBw2012_w).size
        have hBw2013_w2013 := Below.refl w2013.heap.size w2013
        clear hT
        refine ⟨((hBw2013_w2013.block gL2_1 (blk_lt hn2014)).trans hn2014), ?_⟩
        refine lc_step rfl (R := fun v w' => Below _ _ w' ∧ (VP gL2_3 21) v w') (does_val (x_fieldE (b := 0) rfl (hS.get 7 rfl) Try.underlying29 rfl rfl (by kernel_rfl)) rfl) ?_
        rintro vw2016 w2016 ⟨hb, he⟩
        have hBw2016_w := below_step hBw2013_w hb
        have hBw2016_w2013 := below_step hBw2013_w2013 hb
        have hBw2016_w2016 := Below.refl w2016.heap.size w2016
        obtain rfl : vw2016 = .pointer (some ⟨gL2_3, 21, none⟩) := he
        refine ⟨((hBw2016_w2013.block gL2_1 (blk_lt hn2014)).trans hn2014), ?_⟩
        refine hS.nextC (v := .pointer (some ⟨gL2_3, 21, none⟩)) (d := 65) rfl (by decide) (by rfl) ?_
        clear hS
        intro at2017 hS
        refine lc_step rfl (does_store (g := gL2_3) (off := 21) (v := .int .i64 x2_1_21) (new := (body_own.c1 x2_3_0 x2_3_1 x2_3_2 x2_3_3 x2_3_4 x2_3_5 x2_3_6 x2_3_7 x2_3_8 x2_3_9 x2_3_10 x2_3_11 x2_3_12 x2_3_13 x2_3_14 x2_3_15 x2_3_16 x2_3_17 x2_3_18 x2_3_19 x2_1_20 x2_1_21 x2_3_22)) rfl (hS.get 0 rfl) (hS.get 3 rfl) ((hBw2016_w2013.block gL2_3 (blk_lt hbxw2013)).trans hbxw2013) (by kernel_rfl) (by kernel_rfl) (by kernel_rfl) (by kernel_rfl)) ?_
        rintro vw2018 w2018 ⟨rfl, hbxw2018, hT⟩
        have hn2019 := hT.blk ((hBw2016_w2013.block gL2_1 (blk_lt hn2014)).trans hn2014) (Ne.symm hneL2_3_1)
        have hn2020 := hT.blk ((hBw2016_w2013.block gL2_2 (blk_lt hn2015)).trans hn2015) (Ne.symm hneL2_3_2)
        have hBw2018_w := hT.below hBw2016_w hgeLgL2_3 (hBw2016_w).size
        have hBw2018_w2018 := Below.refl w2018.heap.size w2018
        clear hT
        refine ⟨((hBw2018_w2018.block gL2_1 (blk_lt hn2019)).trans hn2019), ?_⟩
        refine lc_step rfl (R := fun v w' => Below _ _ w' ∧ (VP gL2_3 22) v w') (does_val (x_fieldE (b := 0) rfl (hS.get 8 rfl) Try.underlying29 rfl rfl (by kernel_rfl)) rfl) ?_
        rintro vw2021 w2021 ⟨hb, he⟩
        have hBw2021_w := below_step hBw2018_w hb
        have hBw2021_w2018 := below_step hBw2018_w2018 hb
        have hBw2021_w2021 := Below.refl w2021.heap.size w2021
        obtain rfl : vw2021 = .pointer (some ⟨gL2_3, 22, none⟩) := he
        refine ⟨((hBw2021_w2018.block gL2_1 (blk_lt hn2019)).trans hn2019), ?_⟩
        refine hS.nextC (v := .pointer (some ⟨gL2_3, 22, none⟩)) (d := 66) rfl (by decide) (by rfl) ?_
        clear hS
        intro at2022 hS
        refine lc_step rfl (does_store (g := gL2_3) (off := 22) (v := .int .i64 x2_1_22) (new := (body_own.c1 x2_3_0 x2_3_1 x2_3_2 x2_3_3 x2_3_4 x2_3_5 x2_3_6 x2_3_7 x2_3_8 x2_3_9 x2_3_10 x2_3_11 x2_3_12 x2_3_13 x2_3_14 x2_3_15 x2_3_16 x2_3_17 x2_3_18 x2_3_19 x2_1_20 x2_1_21 x2_1_22)) rfl (hS.get 0 rfl) (hS.get 3 rfl) ((hBw2021_w2018.block gL2_3 (blk_lt hbxw2018)).trans hbxw2018) (by kernel_rfl) (by kernel_rfl) (by kernel_rfl) (by kernel_rfl)) ?_
        rintro vw2023 w2023 ⟨rfl, hbxw2023, hT⟩
        have hn2024 := hT.blk ((hBw2021_w2018.block gL2_1 (blk_lt hn2019)).trans hn2019) (Ne.symm hneL2_3_1)
        have hn2025 := hT.blk ((hBw2021_w2018.block gL2_2 (blk_lt hn2020)).trans hn2020) (Ne.symm hneL2_3_2)
        have hBw2023_w := hT.below hBw2021_w hgeLgL2_3 (hBw2021_w).size
        have hBw2023_w2023 := Below.refl w2023.heap.size w2023
        clear hT
        refine ⟨((hBw2023_w2023.block gL2_1 (blk_lt hn2024)).trans hn2024), ?_⟩
        refine lc_nil ?_
        replace hS := ((hS.nil).cons (hS.get 9 rfl)).cons (hS.get 8 rfl)
        (try simp only [Exit.then, Exit.inBlock])
        exact J3 _ _ x2_2_0 x2_2_1 x2_2_2 x2_2_3 x2_2_4 x2_2_5 x2_2_6 x2_2_7 x2_2_8 x2_2_9 x2_2_10 x2_2_11 x2_2_12 x2_2_13 x2_2_14 x2_2_15 x2_2_16 x2_2_17 x2_2_18 x2_2_19 x2_2_20 x2_2_21 x2_2_22 gL2_2 x2_3_0 x2_3_1 x2_3_2 x2_3_3 x2_3_4 x2_3_5 x2_3_6 x2_3_7 x2_3_8 x2_3_9 x2_3_10 x2_3_11 x2_3_12 x2_3_13 x2_3_14 x2_3_15 x2_3_16 x2_3_17 x2_3_18 x2_3_19 x2_1_20 x2_1_21 x2_1_22 gL2_3 H hS hBw2023_w hgeLgL2_2 ((hBw2023_w2023.block gL2_2 (blk_lt hn2025)).trans hn2025) hgeLgL2_3 ((hBw2023_w2023.block gL2_3 (blk_lt hbxw2023)).trans hbxw2023) hneL2_3_2
      rw [if_pos c1] at H
      refine wp_seq_k (fun K2002 hK2002 => ?_)
      refine reg_seq (N := 68) (bs := [(1, .pointer (some ⟨gL2_1, 0, none⟩)), (2, .pointer (some ⟨gL2_2, 0, none⟩)), (3, .pointer (some ⟨gL2_3, 0, none⟩))]) (I := fun x => Below w.heap.size w x ∧ Below wL2.heap.size wL2 x) (ps := [VP gL2_1 0, VI x2_1_0]) (by kernel_rfl) ?_ ?_ rfl hS ⟨hBwL2_w, hBwL2_wL2⟩ ?_ ?_
      · exact fun x y hI hb => ⟨below_step hI.1 hb, below_step hI.2 hb⟩
      · exact .v (.v (.nil))
      · refine .on rfl (fun a w hS hI hp => does_val (x_fieldE (b := 0) rfl (hS.get 0 rfl) Try.underlying29 rfl rfl (by kernel_rfl)) rfl) ?_
        refine .on rfl (fun a w hS hI hp => does_val (x_load1 (d := .int .i64) rfl (hp.V 0 rfl rfl) (by kernel_rfl) rfl ((blk_cell (((hI.2).block gL2_1 (blk_lt hbxLgL2_1)).trans hbxLgL2_1) 0).trans rfl)) rfl) ?_
        exact .nil
      clear hS
      intro at2003 w2004 hS hI hp
      have hBw2004_w := hI.1
      have hBw2004_wL2 := hI.2
      have hv32 : sl _ 32 = .int .i64 x2_1_0 := hp 1 (by decide)
      have hBw2004_w2004 := Below.refl w2004.heap.size w2004
      have hS := hS.cons hv32
      clear hp hI hv32
      refine hK2002 _ _ ?_
      (try clear hK2002 K2002)
      refine wp_block ?_
      refine wp_seq_k (fun K2005 hK2005 => ?_)
      refine reg_seq (N := 68) (bs := [(32, .int .i64 x2_1_0), (1, .pointer (some ⟨gL2_1, 0, none⟩)), (2, .pointer (some ⟨gL2_2, 0, none⟩)), (3, .pointer (some ⟨gL2_3, 0, none⟩))]) (I := fun x => Below w.heap.size w x ∧ Below wL2.heap.size wL2 x ∧ Below w2004.heap.size w2004 x) (ps := [VB (decide (x2_1_0 = 11)), VB (decide (x2_1_0 = 11))]) (by kernel_rfl) ?_ ?_ rfl hS ⟨hBw2004_w, hBw2004_wL2, hBw2004_w2004⟩ ?_ ?_
      · exact fun x y hI hb => ⟨below_step hI.1 hb, below_step hI.2.1 hb, below_step hI.2.2 hb⟩
      · exact .v (.v (.nil))
      · refine .on rfl (fun a w hS hI hp => does_val (x_bin rfl (hS.get 0 rfl) (rfl) (b_eql _ _ _ _ _ _)) rfl) ?_
        refine .asg 0 rfl rfl rfl rfl ?_
        exact .nil
      clear hS
      intro at2006 w2007 hS hI hp
      have hBw2007_w := hI.1
      have hBw2007_wL2 := hI.2.1
      have hBw2007_w2004 := hI.2.2
      have hv33 : sl _ 33 = .bool (decide (x2_1_0 = 11)) := hp 1 (by decide)
      have hBw2007_w2007 := Below.refl w2007.heap.size w2007
      have hS := hS.cons hv33
      clear hp hI hv33
      refine hK2005 _ _ ?_
      (try clear hK2005 K2005)
      refine wp_cond_true ((hS.get 0 rfl).trans (bT (decide_eq_true c1))) ?_
      refine wp_seq_k (fun K2008 hK2008 => ?_)
      refine reg_float (N := 68) (bs := [(33, .bool (decide (x2_1_0 = 11))), (32, .int .i64 x2_1_0), (1, .pointer (some ⟨gL2_1, 0, none⟩)), (2, .pointer (some ⟨gL2_2, 0, none⟩)), (3, .pointer (some ⟨gL2_3, 0, none⟩))]) (I := fun x => Below w.heap.size w x ∧ Below wL2.heap.size wL2 x ∧ Below w2007.heap.size w2007 x) (C := fun x => x.heap[gL2_1]? = some (.cells (body_own.c1 x2_1_0 x2_1_1 x2_1_2 x2_1_3 x2_1_4 x2_1_5 x2_1_6 x2_1_7 x2_1_8 x2_1_9 x2_1_10 x2_1_11 x2_1_12 x2_1_13 x2_1_14 x2_1_15 x2_1_16 x2_1_17 x2_1_18 x2_1_19 x2_1_20 x2_1_21 x2_1_22) 29 (0, 0))) [true, true, true, true, true, true, true, true, true, false, false, false, false, false, false, false] [.pointer (some ⟨gL2_1, 11, none⟩), .int .i64 x2_1_11, .pointer (some ⟨gL2_1, 12, none⟩), .int .i64 x2_1_12, .pointer (some ⟨gL2_1, 13, none⟩), .agg #[.int .i64 x2_1_13, .int .i64 x2_1_14, .int .i64 x2_1_15], .pointer (some ⟨gL2_1, 16, none⟩), .int .i64 x2_1_16, .pointer (some ⟨gL2_3, 11, none⟩), undef, undef, undef, undef, undef, undef, undef] [0, 1, 0, 4, 0, 16, 0, 64, 3, 259, 783, 1807, 3903, 7999, 16383, 32767] (by kernel_rfl) (by kernel_rfl) rfl ?_ ?_ hS ⟨hBw2007_w, hBw2007_wL2, hBw2007_w2007⟩ ?_ ?_
      · exact fun x y hI hb => ⟨below_step hI.1 hb, below_step hI.2.1 hb, below_step hI.2.2 hb⟩
      · exact fun x hI => ((hI.2.1.block gL2_1 (blk_lt hbxLgL2_1)).trans hbxLgL2_1)
      · intro a hS hp
        refine .g (fun w hC => GRun.on rfl (x_fieldE (b := 0) rfl (hS.get 2 rfl) Try.underlying29 rfl rfl (by kernel_rfl))) ?_
        refine .g (fun w hC => GRun.on rfl (x_load1 (d := .int .i64) rfl ((hp.get 0 rfl rfl rfl)) (by kernel_rfl) rfl ((blk_cell ((((Below.refl _ _)).block gL2_1 (blk_lt hC)).trans hC) 11).trans rfl))) ?_
        refine .g (fun w hC => GRun.on rfl (x_fieldE (b := 0) rfl (hS.get 2 rfl) Try.underlying29 rfl rfl (by kernel_rfl))) ?_
        refine .g (fun w hC => GRun.on rfl (x_load1 (d := .int .i64) rfl ((hp.get 2 rfl rfl rfl)) (by kernel_rfl) rfl ((blk_cell ((((Below.refl _ _)).block gL2_1 (blk_lt hC)).trans hC) 12).trans rfl))) ?_
        refine .g (fun w hC => GRun.on rfl (x_fieldE (b := 0) rfl (hS.get 2 rfl) Try.underlying29 rfl rfl (by kernel_rfl))) ?_
        refine .g (fun w hC => GRun.on rfl (x_loadmid (cs := [.int .i64 x2_1_13, .int .i64 x2_1_14, .int .i64 x2_1_15]) rfl ((hp.get 4 rfl rfl rfl)) ((((Below.refl _ _)).block gL2_1 (blk_lt hC)).trans hC) rfl Try.underlying27 rfl (by kernel_rfl))) ?_
        refine .g (fun w hC => GRun.on rfl (x_fieldE (b := 0) rfl (hS.get 2 rfl) Try.underlying29 rfl rfl (by kernel_rfl))) ?_
        refine .g (fun w hC => GRun.on rfl (x_load1 (d := .int .i64) rfl ((hp.get 6 rfl rfl rfl)) (by kernel_rfl) rfl ((blk_cell ((((Below.refl _ _)).block gL2_1 (blk_lt hC)).trans hC) 16).trans rfl))) ?_
        refine .g (fun w hC => GRun.on rfl (x_fieldE (b := 0) rfl (hS.get 4 rfl) Try.underlying29 rfl rfl (by kernel_rfl))) ?_
        iterate 7 refine .t ?_
        exact .nil
      clear hS
      intro at2009 w2010 hS hp hI
      have hBw2010_w := hI.1
      have hBw2010_wL2 := hI.2.1
      have hBw2010_w2007 := hI.2.2
      have hBw2010_w2010 := Below.refl w2010.heap.size w2010
      have hS := hS.cons (show sl _ 36 = .int .i64 x2_1_11 from hp.get 1 rfl rfl rfl)
      have hS := hS.cons (show sl _ 38 = .int .i64 x2_1_12 from hp.get 3 rfl rfl rfl)
      have hS := hS.cons (show sl _ 40 = .agg #[.int .i64 x2_1_13, .int .i64 x2_1_14, .int .i64 x2_1_15] from hp.get 5 rfl rfl rfl)
      have hS := hS.cons (show sl _ 42 = .int .i64 x2_1_16 from hp.get 7 rfl rfl rfl)
      have hS := hS.cons (show sl _ 43 = .pointer (some ⟨gL2_3, 11, none⟩) from hp.get 8 rfl rfl rfl)
      clear hp hI
      show ListC _ _ _ _ [_, _, _, _, _, _, _] _ _
      refine lc_step rfl (does_store (g := gL2_3) (off := 11) (v := .int .i64 x2_1_11) (new := (body_own.c1 x2_3_0 x2_3_1 x2_3_2 x2_3_3 x2_3_4 x2_3_5 x2_3_6 x2_3_7 x2_3_8 x2_3_9 x2_3_10 x2_1_11 x2_3_12 x2_3_13 x2_3_14 x2_3_15 x2_3_16 x2_3_17 x2_3_18 x2_3_19 x2_3_20 x2_3_21 x2_3_22)) rfl (hS.get 0 rfl) (hS.get 4 rfl) ((hBw2010_wL2.block gL2_3 (blk_lt hbxLgL2_3)).trans hbxLgL2_3) (by kernel_rfl) (by kernel_rfl) (by kernel_rfl) (by kernel_rfl)) ?_
      rintro vw2011 w2011 ⟨rfl, hbxw2011, hT⟩
      have hn2012 := hT.blk ((hBw2010_wL2.block gL2_1 (blk_lt hbxLgL2_1)).trans hbxLgL2_1) (Ne.symm hneL2_3_1)
      have hn2013 := hT.blk ((hBw2010_wL2.block gL2_2 (blk_lt hbxLgL2_2)).trans hbxLgL2_2) (Ne.symm hneL2_3_2)
      have hBw2011_w := hT.below hBw2010_w hgeLgL2_3 (hBw2010_w).size
      have hBw2011_w2011 := Below.refl w2011.heap.size w2011
      clear hT
      refine ⟨((hBw2011_w2011.block gL2_1 (blk_lt hn2012)).trans hn2012), ?_⟩
      refine lc_step rfl (R := fun v w' => Below _ _ w' ∧ (VP gL2_3 12) v w') (does_val (x_fieldE (b := 0) rfl (hS.get 9 rfl) Try.underlying29 rfl rfl (by kernel_rfl)) rfl) ?_
      rintro vw2014 w2014 ⟨hb, he⟩
      have hBw2014_w := below_step hBw2011_w hb
      have hBw2014_w2011 := below_step hBw2011_w2011 hb
      have hBw2014_w2014 := Below.refl w2014.heap.size w2014
      obtain rfl : vw2014 = .pointer (some ⟨gL2_3, 12, none⟩) := he
      refine ⟨((hBw2014_w2011.block gL2_1 (blk_lt hn2012)).trans hn2012), ?_⟩
      refine hS.nextC (v := .pointer (some ⟨gL2_3, 12, none⟩)) (d := 44) rfl (by decide) (by rfl) ?_
      clear hS
      intro at2015 hS
      refine lc_step rfl (does_store (g := gL2_3) (off := 12) (v := .int .i64 x2_1_12) (new := (body_own.c1 x2_3_0 x2_3_1 x2_3_2 x2_3_3 x2_3_4 x2_3_5 x2_3_6 x2_3_7 x2_3_8 x2_3_9 x2_3_10 x2_1_11 x2_1_12 x2_3_13 x2_3_14 x2_3_15 x2_3_16 x2_3_17 x2_3_18 x2_3_19 x2_3_20 x2_3_21 x2_3_22)) rfl (hS.get 0 rfl) (hS.get 4 rfl) ((hBw2014_w2011.block gL2_3 (blk_lt hbxw2011)).trans hbxw2011) (by kernel_rfl) (by kernel_rfl) (by kernel_rfl) (by kernel_rfl)) ?_
      rintro vw2016 w2016 ⟨rfl, hbxw2016, hT⟩
      have hn2017 := hT.blk ((hBw2014_w2011.block gL2_1 (blk_lt hn2012)).trans hn2012) (Ne.symm hneL2_3_1)
      have hn2018 := hT.blk ((hBw2014_w2011.block gL2_2 (blk_lt hn2013)).trans hn2013) (Ne.symm hneL2_3_2)
      have hBw2016_w := hT.below hBw2014_w hgeLgL2_3 (hBw2014_w).size
      have hBw2016_w2016 := Below.refl w2016.heap.size w2016
      clear hT
      refine ⟨((hBw2016_w2016.block gL2_1 (blk_lt hn2017)).trans hn2017), ?_⟩
      refine lc_step rfl (R := fun v w' => Below _ _ w' ∧ (VP gL2_3 13) v w') (does_val (x_fieldE (b := 0) rfl (hS.get 10 rfl) Try.underlying29 rfl rfl (by kernel_rfl)) rfl) ?_
      rintro vw2019 w2019 ⟨hb, he⟩
      have hBw2019_w := below_step hBw2016_w hb
      have hBw2019_w2016 := below_step hBw2016_w2016 hb
      have hBw2019_w2019 := Below.refl w2019.heap.size w2019
      obtain rfl : vw2019 = .pointer (some ⟨gL2_3, 13, none⟩) := he
      refine ⟨((hBw2019_w2016.block gL2_1 (blk_lt hn2017)).trans hn2017), ?_⟩
      refine hS.nextC (v := .pointer (some ⟨gL2_3, 13, none⟩)) (d := 45) rfl (by decide) (by rfl) ?_
      clear hS
      intro at2020 hS
      refine lc_step rfl (does_store (g := gL2_3) (off := 13) (v := .agg #[.int .i64 x2_1_13, .int .i64 x2_1_14, .int .i64 x2_1_15]) (new := (body_own.c1 x2_3_0 x2_3_1 x2_3_2 x2_3_3 x2_3_4 x2_3_5 x2_3_6 x2_3_7 x2_3_8 x2_3_9 x2_3_10 x2_1_11 x2_1_12 x2_1_13 x2_1_14 x2_1_15 x2_3_16 x2_3_17 x2_3_18 x2_3_19 x2_3_20 x2_3_21 x2_3_22)) rfl (hS.get 0 rfl) (hS.get 4 rfl) ((hBw2019_w2016.block gL2_3 (blk_lt hbxw2016)).trans hbxw2016) (by kernel_rfl) (by kernel_rfl) (by kernel_rfl) (by kernel_rfl)) ?_
      rintro vw2021 w2021 ⟨rfl, hbxw2021, hT⟩
      have hn2022 := hT.blk ((hBw2019_w2016.block gL2_1 (blk_lt hn2017)).trans hn2017) (Ne.symm hneL2_3_1)
      have hn2023 := hT.blk ((hBw2019_w2016.block gL2_2 (blk_lt hn2018)).trans hn2018) (Ne.symm hneL2_3_2)
      have hBw2021_w := hT.below hBw2019_w hgeLgL2_3 (hBw2019_w).size
      have hBw2021_w2021 := Below.refl w2021.heap.size w2021
      clear hT
      refine ⟨((hBw2021_w2021.block gL2_1 (blk_lt hn2022)).trans hn2022), ?_⟩
      refine lc_step rfl (R := fun v w' => Below _ _ w' ∧ (VP gL2_3 16) v w') (does_val (x_fieldE (b := 0) rfl (hS.get 11 rfl) Try.underlying29 rfl rfl (by kernel_rfl)) rfl) ?_
      rintro vw2024 w2024 ⟨hb, he⟩
      have hBw2024_w := below_step hBw2021_w hb
      have hBw2024_w2021 := below_step hBw2021_w2021 hb
      have hBw2024_w2024 := Below.refl w2024.heap.size w2024
      obtain rfl : vw2024 = .pointer (some ⟨gL2_3, 16, none⟩) := he
      refine ⟨((hBw2024_w2021.block gL2_1 (blk_lt hn2022)).trans hn2022), ?_⟩
      refine hS.nextC (v := .pointer (some ⟨gL2_3, 16, none⟩)) (d := 46) rfl (by decide) (by rfl) ?_
      clear hS
      intro at2025 hS
      refine lc_step rfl (does_store (g := gL2_3) (off := 16) (v := .int .i64 x2_1_16) (new := (body_own.c1 x2_3_0 x2_3_1 x2_3_2 x2_3_3 x2_3_4 x2_3_5 x2_3_6 x2_3_7 x2_3_8 x2_3_9 x2_3_10 x2_1_11 x2_1_12 x2_1_13 x2_1_14 x2_1_15 x2_1_16 x2_3_17 x2_3_18 x2_3_19 x2_3_20 x2_3_21 x2_3_22)) rfl (hS.get 0 rfl) (hS.get 4 rfl) ((hBw2024_w2021.block gL2_3 (blk_lt hbxw2021)).trans hbxw2021) (by kernel_rfl) (by kernel_rfl) (by kernel_rfl) (by kernel_rfl)) ?_
      rintro vw2026 w2026 ⟨rfl, hbxw2026, hT⟩
      have hn2027 := hT.blk ((hBw2024_w2021.block gL2_1 (blk_lt hn2022)).trans hn2022) (Ne.symm hneL2_3_1)
      have hn2028 := hT.blk ((hBw2024_w2021.block gL2_2 (blk_lt hn2023)).trans hn2023) (Ne.symm hneL2_3_2)
      have hBw2026_w := hT.below hBw2024_w hgeLgL2_3 (hBw2024_w).size
      have hBw2026_w2026 := Below.refl w2026.heap.size w2026
      clear hT
      refine ⟨((hBw2026_w2026.block gL2_1 (blk_lt hn2027)).trans hn2027), ?_⟩
      refine lc_nil ?_
      refine hK2008 _ _ ?_
      (try clear hK2008 K2008)
      refine reg_float (N := 68) (bs := [(46, .pointer (some ⟨gL2_3, 16, none⟩)), (45, .pointer (some ⟨gL2_3, 13, none⟩)), (44, .pointer (some ⟨gL2_3, 12, none⟩)), (43, .pointer (some ⟨gL2_3, 11, none⟩)), (42, .int .i64 x2_1_16), (40, .agg #[.int .i64 x2_1_13, .int .i64 x2_1_14, .int .i64 x2_1_15]), (38, .int .i64 x2_1_12), (36, .int .i64 x2_1_11), (33, .bool (decide (x2_1_0 = 11))), (32, .int .i64 x2_1_0), (1, .pointer (some ⟨gL2_1, 0, none⟩)), (2, .pointer (some ⟨gL2_2, 0, none⟩)), (3, .pointer (some ⟨gL2_3, 0, none⟩))]) (I := fun x => Below w.heap.size w x ∧ Below w2026.heap.size w2026 x) (C := fun x => x.heap[gL2_1]? = some (.cells (body_own.c1 x2_1_0 x2_1_1 x2_1_2 x2_1_3 x2_1_4 x2_1_5 x2_1_6 x2_1_7 x2_1_8 x2_1_9 x2_1_10 x2_1_11 x2_1_12 x2_1_13 x2_1_14 x2_1_15 x2_1_16 x2_1_17 x2_1_18 x2_1_19 x2_1_20 x2_1_21 x2_1_22) 29 (0, 0))) [true, true, true, true, true, true, true, false, false, false, false, false] [.pointer (some ⟨gL2_1, 17, none⟩), .int .u64 x2_1_17, .pointer (some ⟨gL2_1, 18, none⟩), .int .i64 x2_1_18, .pointer (some ⟨gL2_1, 19, none⟩), .int .i64 x2_1_19, .pointer (some ⟨gL2_3, 17, none⟩), undef, undef, undef, undef, undef] [0, 1, 0, 4, 0, 16, 3, 67, 207, 463, 1023, 2047] (by kernel_rfl) (by kernel_rfl) rfl ?_ ?_ hS ⟨hBw2026_w, hBw2026_w2026⟩ ?_ ?_
      · exact fun x y hI hb => ⟨below_step hI.1 hb, below_step hI.2 hb⟩
      · exact fun x hI => ((hI.2.block gL2_1 (blk_lt hn2027)).trans hn2027)
      · intro a hS hp
        refine .g (fun w hC => GRun.on rfl (x_fieldE (b := 0) rfl (hS.get 10 rfl) Try.underlying29 rfl rfl (by kernel_rfl))) ?_
        refine .g (fun w hC => GRun.on rfl (x_load1 (d := .int .u64) rfl ((hp.get 0 rfl rfl rfl)) (by kernel_rfl) rfl ((blk_cell ((((Below.refl _ _)).block gL2_1 (blk_lt hC)).trans hC) 17).trans rfl))) ?_
        refine .g (fun w hC => GRun.on rfl (x_fieldE (b := 0) rfl (hS.get 10 rfl) Try.underlying29 rfl rfl (by kernel_rfl))) ?_
        refine .g (fun w hC => GRun.on rfl (x_load1 (d := .int .i64) rfl ((hp.get 2 rfl rfl rfl)) (by kernel_rfl) rfl ((blk_cell ((((Below.refl _ _)).block gL2_1 (blk_lt hC)).trans hC) 18).trans rfl))) ?_
        refine .g (fun w hC => GRun.on rfl (x_fieldE (b := 0) rfl (hS.get 10 rfl) Try.underlying29 rfl rfl (by kernel_rfl))) ?_
        refine .g (fun w hC => GRun.on rfl (x_load1 (d := .int .i64) rfl ((hp.get 4 rfl rfl rfl)) (by kernel_rfl) rfl ((blk_cell ((((Below.refl _ _)).block gL2_1 (blk_lt hC)).trans hC) 19).trans rfl))) ?_
        refine .g (fun w hC => GRun.on rfl (x_fieldE (b := 0) rfl (hS.get 12 rfl) Try.underlying29 rfl rfl (by kernel_rfl))) ?_
        iterate 5 refine .t ?_
        exact .nil
      clear hS
      intro at2029 w2030 hS hp hI
      have hBw2030_w := hI.1
      have hBw2030_w2026 := hI.2
      have hBw2030_w2030 := Below.refl w2030.heap.size w2030
      have hS := hS.cons (show sl _ 48 = .int .u64 x2_1_17 from hp.get 1 rfl rfl rfl)
      have hS := hS.cons (show sl _ 50 = .int .i64 x2_1_18 from hp.get 3 rfl rfl rfl)
      have hS := hS.cons (show sl _ 52 = .int .i64 x2_1_19 from hp.get 5 rfl rfl rfl)
      have hS := hS.cons (show sl _ 53 = .pointer (some ⟨gL2_3, 17, none⟩) from hp.get 6 rfl rfl rfl)
      clear hp hI
      show ListC _ _ _ _ [_, _, _, _, _] _ _
      refine lc_step rfl (does_store (g := gL2_3) (off := 17) (v := .int .u64 x2_1_17) (new := (body_own.c1 x2_3_0 x2_3_1 x2_3_2 x2_3_3 x2_3_4 x2_3_5 x2_3_6 x2_3_7 x2_3_8 x2_3_9 x2_3_10 x2_1_11 x2_1_12 x2_1_13 x2_1_14 x2_1_15 x2_1_16 x2_1_17 x2_3_18 x2_3_19 x2_3_20 x2_3_21 x2_3_22)) rfl (hS.get 0 rfl) (hS.get 3 rfl) ((hBw2030_w2026.block gL2_3 (blk_lt hbxw2026)).trans hbxw2026) (by kernel_rfl) (by kernel_rfl) (by kernel_rfl) (by kernel_rfl)) ?_
      rintro vw2031 w2031 ⟨rfl, hbxw2031, hT⟩
      have hn2032 := hT.blk ((hBw2030_w2026.block gL2_1 (blk_lt hn2027)).trans hn2027) (Ne.symm hneL2_3_1)
      have hn2033 := hT.blk ((hBw2030_w2026.block gL2_2 (blk_lt hn2028)).trans hn2028) (Ne.symm hneL2_3_2)
      have hBw2031_w := hT.below hBw2030_w hgeLgL2_3 (hBw2030_w).size
      have hBw2031_w2031 := Below.refl w2031.heap.size w2031
      clear hT
      refine ⟨((hBw2031_w2031.block gL2_1 (blk_lt hn2032)).trans hn2032), ?_⟩
      refine lc_step rfl (R := fun v w' => Below _ _ w' ∧ (VP gL2_3 18) v w') (does_val (x_fieldE (b := 0) rfl (hS.get 16 rfl) Try.underlying29 rfl rfl (by kernel_rfl)) rfl) ?_
      rintro vw2034 w2034 ⟨hb, he⟩
      have hBw2034_w := below_step hBw2031_w hb
      have hBw2034_w2031 := below_step hBw2031_w2031 hb
      have hBw2034_w2034 := Below.refl w2034.heap.size w2034
      obtain rfl : vw2034 = .pointer (some ⟨gL2_3, 18, none⟩) := he
      refine ⟨((hBw2034_w2031.block gL2_1 (blk_lt hn2032)).trans hn2032), ?_⟩
      refine hS.nextC (v := .pointer (some ⟨gL2_3, 18, none⟩)) (d := 54) rfl (by decide) (by rfl) ?_
      clear hS
      intro at2035 hS
      refine lc_step rfl (does_store (g := gL2_3) (off := 18) (v := .int .i64 x2_1_18) (new := (body_own.c1 x2_3_0 x2_3_1 x2_3_2 x2_3_3 x2_3_4 x2_3_5 x2_3_6 x2_3_7 x2_3_8 x2_3_9 x2_3_10 x2_1_11 x2_1_12 x2_1_13 x2_1_14 x2_1_15 x2_1_16 x2_1_17 x2_1_18 x2_3_19 x2_3_20 x2_3_21 x2_3_22)) rfl (hS.get 0 rfl) (hS.get 3 rfl) ((hBw2034_w2031.block gL2_3 (blk_lt hbxw2031)).trans hbxw2031) (by kernel_rfl) (by kernel_rfl) (by kernel_rfl) (by kernel_rfl)) ?_
      rintro vw2036 w2036 ⟨rfl, hbxw2036, hT⟩
      have hn2037 := hT.blk ((hBw2034_w2031.block gL2_1 (blk_lt hn2032)).trans hn2032) (Ne.symm hneL2_3_1)
      have hn2038 := hT.blk ((hBw2034_w2031.block gL2_2 (blk_lt hn2033)).trans hn2033) (Ne.symm hneL2_3_2)
      have hBw2036_w := hT.below hBw2034_w hgeLgL2_3 (hBw2034_w).size
      have hBw2036_w2036 := Below.refl w2036.heap.size w2036
      clear hT
      refine ⟨((hBw2036_w2036.block gL2_1 (blk_lt hn2037)).trans hn2037), ?_⟩
      refine lc_step rfl (R := fun v w' => Below _ _ w' ∧ (VP gL2_3 19) v w') (does_val (x_fieldE (b := 0) rfl (hS.get 17 rfl) Try.underlying29 rfl rfl (by kernel_rfl)) rfl) ?_
      rintro vw2039 w2039 ⟨hb, he⟩
      have hBw2039_w := below_step hBw2036_w hb
      have hBw2039_w2036 := below_step hBw2036_w2036 hb
      have hBw2039_w2039 := Below.refl w2039.heap.size w2039
      obtain rfl : vw2039 = .pointer (some ⟨gL2_3, 19, none⟩) := he
      refine ⟨((hBw2039_w2036.block gL2_1 (blk_lt hn2037)).trans hn2037), ?_⟩
      refine hS.nextC (v := .pointer (some ⟨gL2_3, 19, none⟩)) (d := 55) rfl (by decide) (by rfl) ?_
      clear hS
      intro at2040 hS
      refine lc_step rfl (does_store (g := gL2_3) (off := 19) (v := .int .i64 x2_1_19) (new := (body_own.c1 x2_3_0 x2_3_1 x2_3_2 x2_3_3 x2_3_4 x2_3_5 x2_3_6 x2_3_7 x2_3_8 x2_3_9 x2_3_10 x2_1_11 x2_1_12 x2_1_13 x2_1_14 x2_1_15 x2_1_16 x2_1_17 x2_1_18 x2_1_19 x2_3_20 x2_3_21 x2_3_22)) rfl (hS.get 0 rfl) (hS.get 3 rfl) ((hBw2039_w2036.block gL2_3 (blk_lt hbxw2036)).trans hbxw2036) (by kernel_rfl) (by kernel_rfl) (by kernel_rfl) (by kernel_rfl)) ?_
      rintro vw2041 w2041 ⟨rfl, hbxw2041, hT⟩
      have hn2042 := hT.blk ((hBw2039_w2036.block gL2_1 (blk_lt hn2037)).trans hn2037) (Ne.symm hneL2_3_1)
      have hn2043 := hT.blk ((hBw2039_w2036.block gL2_2 (blk_lt hn2038)).trans hn2038) (Ne.symm hneL2_3_2)
      have hBw2041_w := hT.below hBw2039_w hgeLgL2_3 (hBw2039_w).size
      have hBw2041_w2041 := Below.refl w2041.heap.size w2041
      clear hT
      refine ⟨((hBw2041_w2041.block gL2_1 (blk_lt hn2042)).trans hn2042), ?_⟩
      refine lc_nil ?_
      replace hS := ((hS.nil).cons (hS.get 18 rfl)).cons (hS.get 17 rfl)
      (try simp only [Exit.then, Exit.inBlock])
      exact J3 _ _ x2_2_0 x2_2_1 x2_2_2 x2_2_3 x2_2_4 x2_2_5 x2_2_6 x2_2_7 x2_2_8 x2_2_9 x2_2_10 x2_2_11 x2_2_12 x2_2_13 x2_2_14 x2_2_15 x2_2_16 x2_2_17 x2_2_18 x2_2_19 x2_2_20 x2_2_21 x2_2_22 gL2_2 x2_3_0 x2_3_1 x2_3_2 x2_3_3 x2_3_4 x2_3_5 x2_3_6 x2_3_7 x2_3_8 x2_3_9 x2_3_10 x2_1_11 x2_1_12 x2_1_13 x2_1_14 x2_1_15 x2_1_16 x2_1_17 x2_1_18 x2_1_19 x2_3_20 x2_3_21 x2_3_22 gL2_3 H hS hBw2041_w hgeLgL2_2 ((hBw2041_w2041.block gL2_2 (blk_lt hn2043)).trans hn2043) hgeLgL2_3 ((hBw2041_w2041.block gL2_3 (blk_lt hbxw2041)).trans hbxw2041) hneL2_3_2
    obtain ⟨t1003, At1003, H⟩ := Option.bind_eq_some_iff.mp H
    by_cases c1 : t1003 = true
    rotate_left
    · rw [if_neg c1] at H
      refine wp_seq_k (fun K1002 hK1002 => ?_)
      refine reg_seq (N := 68) (bs := [(1, .pointer (some ⟨gL1_1, 0, none⟩)), (2, .pointer (some ⟨gL1_2, 0, none⟩)), (3, .pointer (some ⟨gL1_3, 0, none⟩))]) (I := fun x => Below w.heap.size w x ∧ Below wL1.heap.size wL1 x) (ps := [VP gL1_1 0, VI x1_1_0, VB t1003]) (by kernel_rfl) ?_ ?_ rfl hS ⟨hBwL1_w, hBwL1_wL1⟩ ?_ ?_
      · exact fun x y hI hb => ⟨below_step hI.1 hb, below_step hI.2 hb⟩
      · exact .v (.v (.v (.nil)))
      · refine .on rfl (fun a w hS hI hp => does_val (x_fieldE (b := 0) rfl (hS.get 0 rfl) Try.underlying29 rfl rfl (by kernel_rfl)) rfl) ?_
        refine .on rfl (fun a w hS hI hp => does_val (x_load1 (d := .int .i64) rfl (hp.V 0 rfl rfl) (by kernel_rfl) rfl ((blk_cell (((hI.2).block gL1_1 (blk_lt hbxLgL1_1)).trans hbxLgL1_1) 0).trans rfl)) rfl) ?_
        refine .on rfl (fun a w hS hI hp => does_call (by kernel_rfl) (ar1 (hp.V 1 rfl rfl)) ((body_targeted.calls x1_1_0 t1003 _  At1003).mono fun _ _ h => ⟨_, h.1, h.2.below, rfl⟩)) ?_
        exact .nil
      clear hS
      intro at1004 w1005 hS hI hp
      have hBw1005_w := hI.1
      have hBw1005_wL1 := hI.2
      have hv27 : sl _ 27 = .bool t1003 := hp 2 (by decide)
      have hBw1005_w1005 := Below.refl w1005.heap.size w1005
      have hS := hS.cons hv27
      clear hp hI hv27
      refine hK1002 _ _ ?_
      (try clear hK1002 K1002)
      refine wp_cond_false ((hS.get 0 rfl).trans (bF (Bool.eq_false_iff.2 c1))) ?_
      refine wp_skip ?_
      replace hS := (((hS.nil).cons (hS.get 3 rfl)).cons (hS.get 2 rfl)).cons (hS.get 1 rfl)
      (try simp only [Exit.then, Exit.inBlock])
      exact J2 _ _ x1_1_0 x1_1_1 x1_1_2 x1_1_3 x1_1_4 x1_1_5 x1_1_6 x1_1_7 x1_1_8 x1_1_9 x1_1_10 x1_1_11 x1_1_12 x1_1_13 x1_1_14 x1_1_15 x1_1_16 x1_1_17 x1_1_18 x1_1_19 x1_1_20 x1_1_21 x1_1_22 gL1_1 x1_2_0 x1_2_1 x1_2_2 x1_2_3 x1_2_4 x1_2_5 x1_2_6 x1_2_7 x1_2_8 x1_2_9 x1_2_10 x1_2_11 x1_2_12 x1_2_13 x1_2_14 x1_2_15 x1_2_16 x1_2_17 x1_2_18 x1_2_19 x1_2_20 x1_2_21 x1_2_22 gL1_2 x1_3_0 x1_3_1 x1_3_2 x1_3_3 x1_3_4 x1_3_5 x1_3_6 x1_3_7 x1_3_8 x1_3_9 x1_3_10 x1_3_11 x1_3_12 x1_3_13 x1_3_14 x1_3_15 x1_3_16 x1_3_17 x1_3_18 x1_3_19 x1_3_20 x1_3_21 x1_3_22 gL1_3 H hS hBw1005_w hgeLgL1_1 ((hBw1005_wL1.block gL1_1 (blk_lt hbxLgL1_1)).trans hbxLgL1_1) hgeLgL1_2 ((hBw1005_wL1.block gL1_2 (blk_lt hbxLgL1_2)).trans hbxLgL1_2) hgeLgL1_3 ((hBw1005_wL1.block gL1_3 (blk_lt hbxLgL1_3)).trans hbxLgL1_3) hneL1_2_1 hneL1_3_1 hneL1_3_2
    rw [if_pos c1] at H
    refine wp_seq_k (fun K1002 hK1002 => ?_)
    refine reg_seq (N := 68) (bs := [(1, .pointer (some ⟨gL1_1, 0, none⟩)), (2, .pointer (some ⟨gL1_2, 0, none⟩)), (3, .pointer (some ⟨gL1_3, 0, none⟩))]) (I := fun x => Below w.heap.size w x ∧ Below wL1.heap.size wL1 x) (ps := [VP gL1_1 0, VI x1_1_0, VB t1003]) (by kernel_rfl) ?_ ?_ rfl hS ⟨hBwL1_w, hBwL1_wL1⟩ ?_ ?_
    · exact fun x y hI hb => ⟨below_step hI.1 hb, below_step hI.2 hb⟩
    · exact .v (.v (.v (.nil)))
    · refine .on rfl (fun a w hS hI hp => does_val (x_fieldE (b := 0) rfl (hS.get 0 rfl) Try.underlying29 rfl rfl (by kernel_rfl)) rfl) ?_
      refine .on rfl (fun a w hS hI hp => does_val (x_load1 (d := .int .i64) rfl (hp.V 0 rfl rfl) (by kernel_rfl) rfl ((blk_cell (((hI.2).block gL1_1 (blk_lt hbxLgL1_1)).trans hbxLgL1_1) 0).trans rfl)) rfl) ?_
      refine .on rfl (fun a w hS hI hp => does_call (by kernel_rfl) (ar1 (hp.V 1 rfl rfl)) ((body_targeted.calls x1_1_0 t1003 _  At1003).mono fun _ _ h => ⟨_, h.1, h.2.below, rfl⟩)) ?_
      exact .nil
    clear hS
    intro at1004 w1005 hS hI hp
    have hBw1005_w := hI.1
    have hBw1005_wL1 := hI.2
    have hv27 : sl _ 27 = .bool t1003 := hp 2 (by decide)
    have hBw1005_w1005 := Below.refl w1005.heap.size w1005
    have hS := hS.cons hv27
    clear hp hI hv27
    refine hK1002 _ _ ?_
    (try clear hK1002 K1002)
    refine wp_cond_true ((hS.get 0 rfl).trans (bT c1)) ?_
    refine reg_seq_tail 3 (N := 68) (bs := [(27, .bool t1003), (1, .pointer (some ⟨gL1_1, 0, none⟩)), (2, .pointer (some ⟨gL1_2, 0, none⟩)), (3, .pointer (some ⟨gL1_3, 0, none⟩))]) (I := fun x => Below w.heap.size w x ∧ Below wL1.heap.size wL1 x ∧ Below w1005.heap.size w1005 x) (ps := [VP gL1_1 9, IsV (.agg #[.int .u64 x1_1_9, .int .i64 x1_1_10]), VP gL1_3 9]) (by kernel_rfl) ?_ ?_ rfl hS ⟨hBw1005_w, hBw1005_wL1, hBw1005_w1005⟩ ?_ ?_
    · exact fun x y hI hb => ⟨below_step hI.1 hb, below_step hI.2.1 hb, below_step hI.2.2 hb⟩
    · exact .v (.v (.v (.nil)))
    · refine .on rfl (fun a w hS hI hp => does_val (x_fieldE (b := 0) rfl (hS.get 1 rfl) Try.underlying29 rfl rfl (by kernel_rfl)) rfl) ?_
      refine .on rfl (fun a w hS hI hp => does_loadmid (cs := [.int .u64 x1_1_9, .int .i64 x1_1_10]) rfl (hp.V 0 rfl rfl) (((hI.2.1).block gL1_1 (blk_lt hbxLgL1_1)).trans hbxLgL1_1) rfl Try.underlying25 rfl (by kernel_rfl) rfl) ?_
      refine .on rfl (fun a w hS hI hp => does_val (x_fieldE (b := 0) rfl (hS.get 3 rfl) Try.underlying29 rfl rfl (by kernel_rfl)) rfl) ?_
      exact .nil
    clear hS
    intro at1006 w1007 hS hI hp
    have hBw1007_w := hI.1
    have hBw1007_wL1 := hI.2.1
    have hBw1007_w1005 := hI.2.2
    replace hS := (((hS.nil).cons (hS.get 3 rfl)).cons (hS.get 2 rfl)).cons (hS.get 1 rfl)
    have hv29 : sl _ 29 = .agg #[.int .u64 x1_1_9, .int .i64 x1_1_10] := hp 1 (by decide)
    have hv30 : sl _ 30 = .pointer (some ⟨gL1_3, 9, none⟩) := hp 2 (by decide)
    have hBw1007_w1007 := Below.refl w1007.heap.size w1007
    have hS := hS.cons hv29
    have hS := hS.cons hv30
    clear hp hI hv29 hv30
    show wpList _ _ _ [_] _ _
    refine list_step rfl (does_store (g := gL1_3) (off := 9) (v := .agg #[.int .u64 x1_1_9, .int .i64 x1_1_10]) (new := (body_own.c1 x1_3_0 x1_3_1 x1_3_2 x1_3_3 x1_3_4 x1_3_5 x1_3_6 x1_3_7 x1_3_8 x1_1_9 x1_1_10 x1_3_11 x1_3_12 x1_3_13 x1_3_14 x1_3_15 x1_3_16 x1_3_17 x1_3_18 x1_3_19 x1_3_20 x1_3_21 x1_3_22)) rfl (hS.get 0 rfl) (hS.get 1 rfl) ((hBw1007_wL1.block gL1_3 (blk_lt hbxLgL1_3)).trans hbxLgL1_3) (by kernel_rfl) (by kernel_rfl) (by kernel_rfl) (by kernel_rfl)) ?_
    rintro vw1008 w1008 ⟨rfl, hbxw1008, hT⟩
    have hn1009 := hT.blk ((hBw1007_wL1.block gL1_1 (blk_lt hbxLgL1_1)).trans hbxLgL1_1) (Ne.symm hneL1_3_1)
    have hn1010 := hT.blk ((hBw1007_wL1.block gL1_2 (blk_lt hbxLgL1_2)).trans hbxLgL1_2) (Ne.symm hneL1_3_2)
    have hBw1008_w := hT.below hBw1007_w hgeLgL1_3 (hBw1007_w).size
    have hBw1008_w1008 := Below.refl w1008.heap.size w1008
    clear hT
    refine wpList_nil ?_
    replace hS := (((hS.nil).cons (hS.get 4 rfl)).cons (hS.get 3 rfl)).cons (hS.get 2 rfl)
    (try simp only [Exit.then, Exit.inBlock])
    exact J2 _ _ x1_1_0 x1_1_1 x1_1_2 x1_1_3 x1_1_4 x1_1_5 x1_1_6 x1_1_7 x1_1_8 x1_1_9 x1_1_10 x1_1_11 x1_1_12 x1_1_13 x1_1_14 x1_1_15 x1_1_16 x1_1_17 x1_1_18 x1_1_19 x1_1_20 x1_1_21 x1_1_22 gL1_1 x1_2_0 x1_2_1 x1_2_2 x1_2_3 x1_2_4 x1_2_5 x1_2_6 x1_2_7 x1_2_8 x1_2_9 x1_2_10 x1_2_11 x1_2_12 x1_2_13 x1_2_14 x1_2_15 x1_2_16 x1_2_17 x1_2_18 x1_2_19 x1_2_20 x1_2_21 x1_2_22 gL1_2 x1_3_0 x1_3_1 x1_3_2 x1_3_3 x1_3_4 x1_3_5 x1_3_6 x1_3_7 x1_3_8 x1_1_9 x1_1_10 x1_3_11 x1_3_12 x1_3_13 x1_3_14 x1_3_15 x1_3_16 x1_3_17 x1_3_18 x1_3_19 x1_3_20 x1_3_21 x1_3_22 gL1_3 H hS hBw1008_w hgeLgL1_1 ((hBw1008_w1008.block gL1_1 (blk_lt hn1009)).trans hn1009) hgeLgL1_2 ((hBw1008_w1008.block gL1_2 (blk_lt hn1010)).trans hn1010) hgeLgL1_3 ((hBw1008_w1008.block gL1_3 (blk_lt hbxw1008)).trans hbxw1008) hneL1_2_1 hneL1_3_1 hneL1_3_2
  obtain ⟨t18, At18, H⟩ := Option.bind_eq_some_iff.mp H
  by_cases c1 : t18 = true
  rotate_left
  · rw [if_neg c1] at H
    refine wp_seq_k (fun K17 hK17 => ?_)
    refine reg_seq (N := 68) (bs := [(3, .pointer (some ⟨g12, 0, none⟩)), (18, (body_own.v0 a0_0 a0_1 a0_2 a0_3 a0_4 a0_5 a0_6 a0_7 0 0 0 0 0 0 0 0 0 0 0 0 0 0 0)), (2, .pointer (some ⟨g6, 0, none⟩)), (1, .pointer (some ⟨g4, 0, none⟩))]) (I := fun x => Below w.heap.size w x ∧ Below w3.heap.size w3 x ∧ Below w5.heap.size w5 x ∧ Below w15.heap.size w15 x) (ps := [VP g4 0, VI a0_0, VB t18]) (by kernel_rfl) ?_ ?_ rfl hS ⟨hBw15_w, hBw15_w3, hBw15_w5, hBw15_w15⟩ ?_ ?_
    · exact fun x y hI hb => ⟨below_step hI.1 hb, below_step hI.2.1 hb, below_step hI.2.2.1 hb, below_step hI.2.2.2 hb⟩
    · exact .v (.v (.v (.nil)))
    · refine .on rfl (fun a w hS hI hp => does_val (x_fieldE (b := 0) rfl (hS.get 3 rfl) Try.underlying29 rfl rfl (by kernel_rfl)) rfl) ?_
      refine .on rfl (fun a w hS hI hp => does_val (x_load1 (d := .int .i64) rfl (hp.V 0 rfl rfl) (by kernel_rfl) rfl ((blk_cell (((hI.2.1).block g4 (blk_lt hbxg4)).trans hbxg4) 0).trans rfl)) rfl) ?_
      refine .on rfl (fun a w hS hI hp => does_call (by kernel_rfl) (ar1 (hp.V 1 rfl rfl)) ((body_stamped.calls a0_0 t18 _  At18).mono fun _ _ h => ⟨_, h.1, h.2.below, rfl⟩)) ?_
      exact .nil
    clear hS
    intro at19 w20 hS hI hp
    have hBw20_w := hI.1
    have hBw20_w3 := hI.2.1
    have hBw20_w5 := hI.2.2.1
    have hBw20_w15 := hI.2.2.2
    replace hS := (((hS.nil).cons (hS.get 3 rfl)).cons (hS.get 2 rfl)).cons (hS.get 0 rfl)
    have hv21 : sl _ 21 = .bool t18 := hp 2 (by decide)
    have hBw20_w20 := Below.refl w20.heap.size w20
    have hS := hS.cons hv21
    clear hp hI hv21
    refine hK17 _ _ ?_
    (try clear hK17 K17)
    refine wp_cond_false ((hS.get 0 rfl).trans (bF (Bool.eq_false_iff.2 c1))) ?_
    refine wp_skip ?_
    replace hS := (((hS.nil).cons (hS.get 1 rfl)).cons (hS.get 2 rfl)).cons (hS.get 3 rfl)
    (try simp only [Exit.then, Exit.inBlock])
    exact J1 _ _ a0_0 a0_1 a0_2 a0_3 a0_4 a0_5 a0_6 a0_7 a0_8 a0_9 a0_10 a0_11 a0_12 a0_13 a0_14 a0_15 a0_16 a0_17 a0_18 a0_19 a0_20 a0_21 a0_22 g4 0 0 0 0 0 0 0 0 0 0 0 0 0 0 0 0 0 0 0 0 0 0 0 g6 a0_0 a0_1 a0_2 a0_3 a0_4 a0_5 a0_6 a0_7 0 0 0 0 0 0 0 0 0 0 0 0 0 0 0 g12 H hS hBw20_w hgeg4 ((hBw20_w3.block g4 (blk_lt hbxg4)).trans hbxg4) (Nat.le_trans (hBw3_w).size hgeg6) ((hBw20_w5.block g6 (blk_lt hbxg6)).trans hbxg6) (Nat.le_trans (hBw5_w).size hgeg12) ((hBw20_w15.block g12 (blk_lt hbxw15)).trans hbxw15) hne7 hne13 hne14
  rw [if_pos c1] at H
  refine wp_seq_k (fun K17 hK17 => ?_)
  refine reg_seq (N := 68) (bs := [(3, .pointer (some ⟨g12, 0, none⟩)), (18, (body_own.v0 a0_0 a0_1 a0_2 a0_3 a0_4 a0_5 a0_6 a0_7 0 0 0 0 0 0 0 0 0 0 0 0 0 0 0)), (2, .pointer (some ⟨g6, 0, none⟩)), (1, .pointer (some ⟨g4, 0, none⟩))]) (I := fun x => Below w.heap.size w x ∧ Below w3.heap.size w3 x ∧ Below w5.heap.size w5 x ∧ Below w15.heap.size w15 x) (ps := [VP g4 0, VI a0_0, VB t18]) (by kernel_rfl) ?_ ?_ rfl hS ⟨hBw15_w, hBw15_w3, hBw15_w5, hBw15_w15⟩ ?_ ?_
  · exact fun x y hI hb => ⟨below_step hI.1 hb, below_step hI.2.1 hb, below_step hI.2.2.1 hb, below_step hI.2.2.2 hb⟩
  · exact .v (.v (.v (.nil)))
  · refine .on rfl (fun a w hS hI hp => does_val (x_fieldE (b := 0) rfl (hS.get 3 rfl) Try.underlying29 rfl rfl (by kernel_rfl)) rfl) ?_
    refine .on rfl (fun a w hS hI hp => does_val (x_load1 (d := .int .i64) rfl (hp.V 0 rfl rfl) (by kernel_rfl) rfl ((blk_cell (((hI.2.1).block g4 (blk_lt hbxg4)).trans hbxg4) 0).trans rfl)) rfl) ?_
    refine .on rfl (fun a w hS hI hp => does_call (by kernel_rfl) (ar1 (hp.V 1 rfl rfl)) ((body_stamped.calls a0_0 t18 _  At18).mono fun _ _ h => ⟨_, h.1, h.2.below, rfl⟩)) ?_
    exact .nil
  clear hS
  intro at19 w20 hS hI hp
  have hBw20_w := hI.1
  have hBw20_w3 := hI.2.1
  have hBw20_w5 := hI.2.2.1
  have hBw20_w15 := hI.2.2.2
  replace hS := (((hS.nil).cons (hS.get 3 rfl)).cons (hS.get 2 rfl)).cons (hS.get 0 rfl)
  have hv21 : sl _ 21 = .bool t18 := hp 2 (by decide)
  have hBw20_w20 := Below.refl w20.heap.size w20
  have hS := hS.cons hv21
  clear hp hI hv21
  refine hK17 _ _ ?_
  (try clear hK17 K17)
  refine wp_cond_true ((hS.get 0 rfl).trans (bT c1)) ?_
  refine reg_seq_tail 3 (N := 68) (bs := [(21, .bool t18), (3, .pointer (some ⟨g12, 0, none⟩)), (2, .pointer (some ⟨g6, 0, none⟩)), (1, .pointer (some ⟨g4, 0, none⟩))]) (I := fun x => Below w.heap.size w x ∧ Below w3.heap.size w3 x ∧ Below w5.heap.size w5 x ∧ Below w15.heap.size w15 x ∧ Below w20.heap.size w20 x) (ps := [VP g4 8, VI a0_8, VP g12 8]) (by kernel_rfl) ?_ ?_ rfl hS ⟨hBw20_w, hBw20_w3, hBw20_w5, hBw20_w15, hBw20_w20⟩ ?_ ?_
  · exact fun x y hI hb => ⟨below_step hI.1 hb, below_step hI.2.1 hb, below_step hI.2.2.1 hb, below_step hI.2.2.2.1 hb, below_step hI.2.2.2.2 hb⟩
  · exact .v (.v (.v (.nil)))
  · refine .on rfl (fun a w hS hI hp => does_val (x_fieldE (b := 0) rfl (hS.get 3 rfl) Try.underlying29 rfl rfl (by kernel_rfl)) rfl) ?_
    refine .on rfl (fun a w hS hI hp => does_val (x_load1 (d := .int .i64) rfl (hp.V 0 rfl rfl) (by kernel_rfl) rfl ((blk_cell (((hI.2.1).block g4 (blk_lt hbxg4)).trans hbxg4) 8).trans rfl)) rfl) ?_
    refine .on rfl (fun a w hS hI hp => does_val (x_fieldE (b := 0) rfl (hS.get 1 rfl) Try.underlying29 rfl rfl (by kernel_rfl)) rfl) ?_
    exact .nil
  clear hS
  intro at21 w22 hS hI hp
  have hBw22_w := hI.1
  have hBw22_w3 := hI.2.1
  have hBw22_w5 := hI.2.2.1
  have hBw22_w15 := hI.2.2.2.1
  have hBw22_w20 := hI.2.2.2.2
  replace hS := (((hS.nil).cons (hS.get 3 rfl)).cons (hS.get 2 rfl)).cons (hS.get 1 rfl)
  have hv23 : sl _ 23 = .int .i64 a0_8 := hp 1 (by decide)
  have hv24 : sl _ 24 = .pointer (some ⟨g12, 8, none⟩) := hp 2 (by decide)
  have hBw22_w22 := Below.refl w22.heap.size w22
  have hS := hS.cons hv23
  have hS := hS.cons hv24
  clear hp hI hv23 hv24
  show wpList _ _ _ [_] _ _
  refine list_step rfl (does_store (g := g12) (off := 8) (v := .int .i64 a0_8) (new := (body_own.c1 a0_0 a0_1 a0_2 a0_3 a0_4 a0_5 a0_6 a0_7 a0_8 0 0 0 0 0 0 0 0 0 0 0 0 0 0)) rfl (hS.get 0 rfl) (hS.get 1 rfl) ((hBw22_w15.block g12 (blk_lt hbxw15)).trans hbxw15) (by kernel_rfl) (by kernel_rfl) (by kernel_rfl) (by kernel_rfl)) ?_
  rintro vw23 w23 ⟨rfl, hbxw23, hT⟩
  have hBw23_w := hT.below hBw22_w (Nat.le_trans (hBw5_w).size hgeg12) (hBw22_w).size
  have hBw23_w3 := hT.below hBw22_w3 (Nat.le_trans (hBw5_w3).size hgeg12) (hBw22_w3).size
  have hBw23_w5 := hT.below hBw22_w5 hgeg12 (hBw22_w5).size
  have hBw23_w23 := Below.refl w23.heap.size w23
  clear hT
  refine wpList_nil ?_
  replace hS := (((hS.nil).cons (hS.get 2 rfl)).cons (hS.get 3 rfl)).cons (hS.get 4 rfl)
  (try simp only [Exit.then, Exit.inBlock])
  exact J1 _ _ a0_0 a0_1 a0_2 a0_3 a0_4 a0_5 a0_6 a0_7 a0_8 a0_9 a0_10 a0_11 a0_12 a0_13 a0_14 a0_15 a0_16 a0_17 a0_18 a0_19 a0_20 a0_21 a0_22 g4 0 0 0 0 0 0 0 0 0 0 0 0 0 0 0 0 0 0 0 0 0 0 0 g6 a0_0 a0_1 a0_2 a0_3 a0_4 a0_5 a0_6 a0_7 a0_8 0 0 0 0 0 0 0 0 0 0 0 0 0 0 g12 H hS hBw23_w hgeg4 ((hBw23_w3.block g4 (blk_lt hbxg4)).trans hbxg4) (Nat.le_trans (hBw3_w).size hgeg6) ((hBw23_w5.block g6 (blk_lt hbxg6)).trans hbxg6) (Nat.le_trans (hBw5_w).size hgeg12) ((hBw23_w23.block g12 (blk_lt hbxw23)).trans hbxw23) hne7 hne13 hne14
/-! ### stamp_May: function 39 -/
def stamp_May.f (a0 : Int) : Option (Bool) := if a0 ≥ 0 then (some (decide (a0 ≤ 4000000000000000))) else (some false)
set_option maxHeartbeats 8000000 in
set_option maxRecDepth 100000 in
theorem stamp_May.calls (a0 : Int) (r : Bool) (w : World) (h : stamp_May.f a0 = some r) :
    Calls Try.prog 39 #[.int .i64 a0] w fun e w' => e = .returned (.bool r) ∧ Drawn0 w w' := by
  have H : (if a0 ≥ 0 then (some (decide (a0 ≤ 4000000000000000))) else (some false)) = some r := h
  clear h
  by_cases c2 : a0 ≥ 0
  · rw [if_pos c2] at H
    have c2b0 : decide (0 ≤ a0) = true := decide_eq_true c2
    clear c2
    obtain rfl := Option.some.inj H
    go_enter Try.func39, Try.ntmps39
    go_wp2
    all_goals
      go_ret
      exact ⟨by first | rfl | (simp; done) | (simp [*]; done), by repeat (first | exact Drawn0.refl _ | apply Drawn0.step)⟩
  · rw [if_neg c2] at H
    have c2b0 : decide (0 ≤ a0) = false := decide_eq_false c2
    clear c2
    obtain rfl := Option.some.inj H
    go_enter Try.func39, Try.ntmps39
    go_wp2
    all_goals
      go_ret
      exact ⟨by first | rfl | (simp; done) | (simp [*]; done), by repeat (first | exact Drawn0.refl _ | apply Drawn0.step)⟩
/-! ### body_in: function 41 -/
def body_in.f (a0 : Int) (a1 : Int) (a2 : Int) : Option (Bool) := if a0 ≥ a1 then (some (decide (a0 ≤ a2))) else (some false)
set_option maxHeartbeats 8000000 in
set_option maxRecDepth 100000 in
theorem body_in.calls (a0 : Int) (a1 : Int) (a2 : Int) (r : Bool) (w : World) (h : body_in.f a0 a1 a2 = some r) :
    Calls Try.prog 41 #[.int .i64 a0, .int .i64 a1, .int .i64 a2] w fun e w' => e = .returned (.bool r) ∧ Drawn0 w w' := by
  have H : (if a0 ≥ a1 then (some (decide (a0 ≤ a2))) else (some false)) = some r := h
  clear h
  by_cases c4 : a0 ≥ a1
  · rw [if_pos c4] at H
    have c4b0 : decide (a1 ≤ a0) = true := decide_eq_true c4
    clear c4
    obtain rfl := Option.some.inj H
    go_enter Try.func41, Try.ntmps41
    go_wp2
    all_goals
      go_ret
      exact ⟨by first | rfl | (simp; done) | (simp [*]; done), by repeat (first | exact Drawn0.refl _ | apply Drawn0.step)⟩
  · rw [if_neg c4] at H
    have c4b0 : decide (a1 ≤ a0) = false := decide_eq_false c4
    clear c4
    obtain rfl := Option.some.inj H
    go_enter Try.func41, Try.ntmps41
    go_wp2
    all_goals
      go_ret
      exact ⟨by first | rfl | (simp; done) | (simp [*]; done), by repeat (first | exact Drawn0.refl _ | apply Drawn0.step)⟩
/-! ### quality_May: function 42 -/
def quality_May.f (a0_0 : Int) (a0_1 : Int) (a0_2 : Int) : Option (Bool) := if a0_0 ≥ 0 then (if a0_0 ≤ 255 then (if a0_1 ≥ 0 then (if a0_1 ≤ 255 then (if a0_2 ≥ 0 then (some (decide (a0_2 ≤ 65535))) else (some false)) else (some false)) else (some false)) else (some false)) else (some false)
set_option maxHeartbeats 8000000 in
set_option maxRecDepth 100000 in
theorem quality_May.calls (a0_0 : Int) (a0_1 : Int) (a0_2 : Int) (r : Bool) (w : World) (h : quality_May.f a0_0 a0_1 a0_2 = some r) :
    Calls Try.prog 42 #[.agg #[.int .i64 a0_0, .int .i64 a0_1, .int .i64 a0_2]] w fun e w' => e = .returned (.bool r) ∧ Below w.heap.size w w' := by
  have hu27 := Try.underlying27
  have HB := Aside0.mk (Below.refl w.heap.size w)
  have H : (if a0_0 ≥ 0 then (if a0_0 ≤ 255 then (if a0_1 ≥ 0 then (if a0_1 ≤ 255 then (if a0_2 ≥ 0 then (some (decide (a0_2 ≤ 65535))) else (some false)) else (some false)) else (some false)) else (some false)) else (some false)) = some r := h
  clear h
  by_cases c2 : a0_0 ≥ 0
  · rw [if_pos c2] at H
    have c2b0 : decide (0 ≤ a0_0) = true := decide_eq_true c2
    clear c2
    by_cases c3 : a0_0 ≤ 255
    · rw [if_pos c3] at H
      have c3b0 : decide (a0_0 ≤ 255) = true := decide_eq_true c3
      clear c3
      by_cases c4 : a0_1 ≥ 0
      · rw [if_pos c4] at H
        have c4b0 : decide (0 ≤ a0_1) = true := decide_eq_true c4
        clear c4
        by_cases c5 : a0_1 ≤ 255
        · rw [if_pos c5] at H
          have c5b0 : decide (a0_1 ≤ 255) = true := decide_eq_true c5
          clear c5
          by_cases c6 : a0_2 ≥ 0
          · rw [if_pos c6] at H
            have c6b0 : decide (0 ≤ a0_2) = true := decide_eq_true c6
            clear c6
            obtain rfl := Option.some.inj H
            go_enter Try.func42, Try.ntmps42
            go_wp2_with (first | ((with_reducible refine gate_dst (N := 1) rfl ?_); refine box_event ?hg (N := 1) ?hd (cs := #[.int .i64 a0_0, .int .i64 a0_1, .int .i64 a0_2]) (t := 27) ?hr ?_; (case hd => rfl); (case hg => rfl); (case hr => first | (go_simp; done) | (go_simp; rfl)); intro gb121 hg w7 hbox hb; have n0_ := Aside0.mk (below_step (by repeat (first | (with_reducible first | exact HB.out | apply below_alloc | apply pw_below_drewN | apply below_drew1) | exact HB.out)) hb); have n1_ := Aside0.mk (hbox); have n2_ := Aside0.mk ((by rw [hg]; exact (below_size (by repeat (first | (with_reducible first | exact HB.out | apply below_alloc | apply pw_below_drewN | apply below_drew1) | exact HB.out))) : w.heap.size ≤ gb121)); have n3_ := Aside0.mk ((by rw [hg]; exact (below_size (by repeat (first | (with_reducible first | exact HB.out | apply below_alloc | apply pw_below_drewN | apply below_drew1) | exact HB.out))) : w.heap.size ≤ gb121)); clear HB; have HB := n0_; have BK121 := n1_; have GW121 := n2_; have GE121 := n3_; clear n0_ n1_ n2_ n3_; clear hb hbox hg; have hcz8_0 : w7.cell? ⟨gb121, 0, none⟩ = some (.int .i64 a0_0) := (blk_cell BK121.out 0).trans rfl; have hcz8_1 : w7.cell? ⟨gb121, 1, none⟩ = some (.int .i64 a0_1) := (blk_cell BK121.out 1).trans rfl; have hcz8_2 : w7.cell? ⟨gb121, 2, none⟩ = some (.int .i64 a0_2) := (blk_cell BK121.out 2).trans rfl; have hfz8_0 := blk_frozen BK121.out 0; have hfz8_1 := blk_frozen BK121.out 1; have hfz8_2 := blk_frozen BK121.out 2))
            all_goals
              go_ret
              exact ⟨by first | rfl | (simp [errW_none, errW_some] <;> rfl) | (simp [*, errW_none, errW_some] <;> rfl), by repeat (first | (with_reducible first | exact HB.out | apply below_alloc | apply pw_below_drewN | apply below_drew1 | refine below_set ?_ GE121.out) | exact HB.out)⟩
          · rw [if_neg c6] at H
            have c6b0 : decide (0 ≤ a0_2) = false := decide_eq_false c6
            clear c6
            obtain rfl := Option.some.inj H
            go_enter Try.func42, Try.ntmps42
            go_wp2_with (first | ((with_reducible refine gate_dst (N := 1) rfl ?_); refine box_event ?hg (N := 1) ?hd (cs := #[.int .i64 a0_0, .int .i64 a0_1, .int .i64 a0_2]) (t := 27) ?hr ?_; (case hd => rfl); (case hg => rfl); (case hr => first | (go_simp; done) | (go_simp; rfl)); intro gb121 hg w9 hbox hb; have n0_ := Aside0.mk (below_step (by repeat (first | (with_reducible first | exact HB.out | apply below_alloc | apply pw_below_drewN | apply below_drew1) | exact HB.out)) hb); have n1_ := Aside0.mk (hbox); have n2_ := Aside0.mk ((by rw [hg]; exact (below_size (by repeat (first | (with_reducible first | exact HB.out | apply below_alloc | apply pw_below_drewN | apply below_drew1) | exact HB.out))) : w.heap.size ≤ gb121)); have n3_ := Aside0.mk ((by rw [hg]; exact (below_size (by repeat (first | (with_reducible first | exact HB.out | apply below_alloc | apply pw_below_drewN | apply below_drew1) | exact HB.out))) : w.heap.size ≤ gb121)); clear HB; have HB := n0_; have BK121 := n1_; have GW121 := n2_; have GE121 := n3_; clear n0_ n1_ n2_ n3_; clear hb hbox hg; have hcz10_0 : w9.cell? ⟨gb121, 0, none⟩ = some (.int .i64 a0_0) := (blk_cell BK121.out 0).trans rfl; have hcz10_1 : w9.cell? ⟨gb121, 1, none⟩ = some (.int .i64 a0_1) := (blk_cell BK121.out 1).trans rfl; have hcz10_2 : w9.cell? ⟨gb121, 2, none⟩ = some (.int .i64 a0_2) := (blk_cell BK121.out 2).trans rfl; have hfz10_0 := blk_frozen BK121.out 0; have hfz10_1 := blk_frozen BK121.out 1; have hfz10_2 := blk_frozen BK121.out 2))
            all_goals
              go_ret
              exact ⟨by first | rfl | (simp [errW_none, errW_some] <;> rfl) | (simp [*, errW_none, errW_some] <;> rfl), by repeat (first | (with_reducible first | exact HB.out | apply below_alloc | apply pw_below_drewN | apply below_drew1 | refine below_set ?_ GE121.out) | exact HB.out)⟩
        · rw [if_neg c5] at H
          have c5b0 : decide (a0_1 ≤ 255) = false := decide_eq_false c5
          clear c5
          obtain rfl := Option.some.inj H
          go_enter Try.func42, Try.ntmps42
          go_wp2_with (first | ((with_reducible refine gate_dst (N := 1) rfl ?_); refine box_event ?hg (N := 1) ?hd (cs := #[.int .i64 a0_0, .int .i64 a0_1, .int .i64 a0_2]) (t := 27) ?hr ?_; (case hd => rfl); (case hg => rfl); (case hr => first | (go_simp; done) | (go_simp; rfl)); intro gb121 hg w11 hbox hb; have n0_ := Aside0.mk (below_step (by repeat (first | (with_reducible first | exact HB.out | apply below_alloc | apply pw_below_drewN | apply below_drew1) | exact HB.out)) hb); have n1_ := Aside0.mk (hbox); have n2_ := Aside0.mk ((by rw [hg]; exact (below_size (by repeat (first | (with_reducible first | exact HB.out | apply below_alloc | apply pw_below_drewN | apply below_drew1) | exact HB.out))) : w.heap.size ≤ gb121)); have n3_ := Aside0.mk ((by rw [hg]; exact (below_size (by repeat (first | (with_reducible first | exact HB.out | apply below_alloc | apply pw_below_drewN | apply below_drew1) | exact HB.out))) : w.heap.size ≤ gb121)); clear HB; have HB := n0_; have BK121 := n1_; have GW121 := n2_; have GE121 := n3_; clear n0_ n1_ n2_ n3_; clear hb hbox hg; have hcz12_0 : w11.cell? ⟨gb121, 0, none⟩ = some (.int .i64 a0_0) := (blk_cell BK121.out 0).trans rfl; have hcz12_1 : w11.cell? ⟨gb121, 1, none⟩ = some (.int .i64 a0_1) := (blk_cell BK121.out 1).trans rfl; have hcz12_2 : w11.cell? ⟨gb121, 2, none⟩ = some (.int .i64 a0_2) := (blk_cell BK121.out 2).trans rfl; have hfz12_0 := blk_frozen BK121.out 0; have hfz12_1 := blk_frozen BK121.out 1; have hfz12_2 := blk_frozen BK121.out 2))
          all_goals
            go_ret
            exact ⟨by first | rfl | (simp [errW_none, errW_some] <;> rfl) | (simp [*, errW_none, errW_some] <;> rfl), by repeat (first | (with_reducible first | exact HB.out | apply below_alloc | apply pw_below_drewN | apply below_drew1 | refine below_set ?_ GE121.out) | exact HB.out)⟩
      · rw [if_neg c4] at H
        have c4b0 : decide (0 ≤ a0_1) = false := decide_eq_false c4
        clear c4
        obtain rfl := Option.some.inj H
        go_enter Try.func42, Try.ntmps42
        go_wp2_with (first | ((with_reducible refine gate_dst (N := 1) rfl ?_); refine box_event ?hg (N := 1) ?hd (cs := #[.int .i64 a0_0, .int .i64 a0_1, .int .i64 a0_2]) (t := 27) ?hr ?_; (case hd => rfl); (case hg => rfl); (case hr => first | (go_simp; done) | (go_simp; rfl)); intro gb121 hg w13 hbox hb; have n0_ := Aside0.mk (below_step (by repeat (first | (with_reducible first | exact HB.out | apply below_alloc | apply pw_below_drewN | apply below_drew1) | exact HB.out)) hb); have n1_ := Aside0.mk (hbox); have n2_ := Aside0.mk ((by rw [hg]; exact (below_size (by repeat (first | (with_reducible first | exact HB.out | apply below_alloc | apply pw_below_drewN | apply below_drew1) | exact HB.out))) : w.heap.size ≤ gb121)); have n3_ := Aside0.mk ((by rw [hg]; exact (below_size (by repeat (first | (with_reducible first | exact HB.out | apply below_alloc | apply pw_below_drewN | apply below_drew1) | exact HB.out))) : w.heap.size ≤ gb121)); clear HB; have HB := n0_; have BK121 := n1_; have GW121 := n2_; have GE121 := n3_; clear n0_ n1_ n2_ n3_; clear hb hbox hg; have hcz14_0 : w13.cell? ⟨gb121, 0, none⟩ = some (.int .i64 a0_0) := (blk_cell BK121.out 0).trans rfl; have hcz14_1 : w13.cell? ⟨gb121, 1, none⟩ = some (.int .i64 a0_1) := (blk_cell BK121.out 1).trans rfl; have hcz14_2 : w13.cell? ⟨gb121, 2, none⟩ = some (.int .i64 a0_2) := (blk_cell BK121.out 2).trans rfl; have hfz14_0 := blk_frozen BK121.out 0; have hfz14_1 := blk_frozen BK121.out 1; have hfz14_2 := blk_frozen BK121.out 2))
        all_goals
          go_ret
          exact ⟨by first | rfl | (simp [errW_none, errW_some] <;> rfl) | (simp [*, errW_none, errW_some] <;> rfl), by repeat (first | (with_reducible first | exact HB.out | apply below_alloc | apply pw_below_drewN | apply below_drew1 | refine below_set ?_ GE121.out) | exact HB.out)⟩
    · rw [if_neg c3] at H
      have c3b0 : decide (a0_0 ≤ 255) = false := decide_eq_false c3
      clear c3
      obtain rfl := Option.some.inj H
      go_enter Try.func42, Try.ntmps42
      go_wp2_with (first | ((with_reducible refine gate_dst (N := 1) rfl ?_); refine box_event ?hg (N := 1) ?hd (cs := #[.int .i64 a0_0, .int .i64 a0_1, .int .i64 a0_2]) (t := 27) ?hr ?_; (case hd => rfl); (case hg => rfl); (case hr => first | (go_simp; done) | (go_simp; rfl)); intro gb121 hg w15 hbox hb; have n0_ := Aside0.mk (below_step (by repeat (first | (with_reducible first | exact HB.out | apply below_alloc | apply pw_below_drewN | apply below_drew1) | exact HB.out)) hb); have n1_ := Aside0.mk (hbox); have n2_ := Aside0.mk ((by rw [hg]; exact (below_size (by repeat (first | (with_reducible first | exact HB.out | apply below_alloc | apply pw_below_drewN | apply below_drew1) | exact HB.out))) : w.heap.size ≤ gb121)); have n3_ := Aside0.mk ((by rw [hg]; exact (below_size (by repeat (first | (with_reducible first | exact HB.out | apply below_alloc | apply pw_below_drewN | apply below_drew1) | exact HB.out))) : w.heap.size ≤ gb121)); clear HB; have HB := n0_; have BK121 := n1_; have GW121 := n2_; have GE121 := n3_; clear n0_ n1_ n2_ n3_; clear hb hbox hg; have hcz16_0 : w15.cell? ⟨gb121, 0, none⟩ = some (.int .i64 a0_0) := (blk_cell BK121.out 0).trans rfl; have hcz16_1 : w15.cell? ⟨gb121, 1, none⟩ = some (.int .i64 a0_1) := (blk_cell BK121.out 1).trans rfl; have hcz16_2 : w15.cell? ⟨gb121, 2, none⟩ = some (.int .i64 a0_2) := (blk_cell BK121.out 2).trans rfl; have hfz16_0 := blk_frozen BK121.out 0; have hfz16_1 := blk_frozen BK121.out 1; have hfz16_2 := blk_frozen BK121.out 2))
      all_goals
        go_ret
        exact ⟨by first | rfl | (simp [errW_none, errW_some] <;> rfl) | (simp [*, errW_none, errW_some] <;> rfl), by repeat (first | (with_reducible first | exact HB.out | apply below_alloc | apply pw_below_drewN | apply below_drew1 | refine below_set ?_ GE121.out) | exact HB.out)⟩
  · rw [if_neg c2] at H
    have c2b0 : decide (0 ≤ a0_0) = false := decide_eq_false c2
    clear c2
    obtain rfl := Option.some.inj H
    go_enter Try.func42, Try.ntmps42
    go_wp2_with (first | ((with_reducible refine gate_dst (N := 1) rfl ?_); refine box_event ?hg (N := 1) ?hd (cs := #[.int .i64 a0_0, .int .i64 a0_1, .int .i64 a0_2]) (t := 27) ?hr ?_; (case hd => rfl); (case hg => rfl); (case hr => first | (go_simp; done) | (go_simp; rfl)); intro gb121 hg w17 hbox hb; have n0_ := Aside0.mk (below_step (by repeat (first | (with_reducible first | exact HB.out | apply below_alloc | apply pw_below_drewN | apply below_drew1) | exact HB.out)) hb); have n1_ := Aside0.mk (hbox); have n2_ := Aside0.mk ((by rw [hg]; exact (below_size (by repeat (first | (with_reducible first | exact HB.out | apply below_alloc | apply pw_below_drewN | apply below_drew1) | exact HB.out))) : w.heap.size ≤ gb121)); have n3_ := Aside0.mk ((by rw [hg]; exact (below_size (by repeat (first | (with_reducible first | exact HB.out | apply below_alloc | apply pw_below_drewN | apply below_drew1) | exact HB.out))) : w.heap.size ≤ gb121)); clear HB; have HB := n0_; have BK121 := n1_; have GW121 := n2_; have GE121 := n3_; clear n0_ n1_ n2_ n3_; clear hb hbox hg; have hcz18_0 : w17.cell? ⟨gb121, 0, none⟩ = some (.int .i64 a0_0) := (blk_cell BK121.out 0).trans rfl; have hcz18_1 : w17.cell? ⟨gb121, 1, none⟩ = some (.int .i64 a0_1) := (blk_cell BK121.out 1).trans rfl; have hcz18_2 : w17.cell? ⟨gb121, 2, none⟩ = some (.int .i64 a0_2) := (blk_cell BK121.out 2).trans rfl; have hfz18_0 := blk_frozen BK121.out 0; have hfz18_1 := blk_frozen BK121.out 1; have hfz18_2 := blk_frozen BK121.out 2))
    all_goals
      go_ret
      exact ⟨by first | rfl | (simp [errW_none, errW_some] <;> rfl) | (simp [*, errW_none, errW_some] <;> rfl), by repeat (first | (with_reducible first | exact HB.out | apply below_alloc | apply pw_below_drewN | apply below_drew1 | refine below_set ?_ GE121.out) | exact HB.out)⟩
end Go.Proofs.Ytpoocfapmgmfkaa.P
