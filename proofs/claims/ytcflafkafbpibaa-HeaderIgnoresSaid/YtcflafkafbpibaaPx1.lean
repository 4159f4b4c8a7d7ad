/- Functions and loops of the given program as Lean functions, and that the code comes to what they say: written by this session's own program; Lean checks it. -/
import Derived.Test.YtcflafkafbpibaaPx0
namespace Go.Proofs.Ytcflafkafbpibaa.P
open Go.RowKit Go.Proofs.YtcflafkafbpibaaW.PrintWords Go.Proofs.YtcflafkafbpibaaW.PrintLast Go.Proofs.YtcflafkafbpibaaW.PrintMore
attribute [local go_sem] max2_int min2_int max_two min_two max_three min_three max_four min_four   -- for this text's walks alone
set_option linter.unusedVariables false
set_option linter.unusedSimpArgs false

/-! ### header_Known: function 14 -/
def header_Known.j0 : Nat → Int → Bool → Option (Bool)
  | 0, _, _ => none
  | k + 1, x3, x4 => if x4 = true then (some true) else (if x3 = 8 then (some true) else (if x3 = 9 then (some true) else (if x3 = 10 then (some true) else (if x3 = 11 then (some true) else (if x3 = 12 then (some true) else (if x3 = 13 then (some true) else (some false)))))))
def header_Known.f (k : Nat) (a0 : Int) : Option (Bool) := if a0 = 0 then (header_Known.j0 k a0 (a0 == 0)) else (if a0 = 1 then (header_Known.j0 k a0 (a0 == 1)) else (if a0 = 2 then (header_Known.j0 k a0 (a0 == 2)) else (header_Known.j0 k a0 (a0 == 3))))
theorem header_Known.mono_l : ∀ k, (∀ y0 y1, LeO (header_Known.j0 k y0 y1) (header_Known.j0 (k + 1) y0 y1))
  | 0 => fun _ _ r h => by simp [header_Known.j0] at h
  | k + 1 => by
    have ih0 := header_Known.mono_l k
    · intro y0 y1
      unfold header_Known.j0
      repeat' first
      | (with_reducible exact ih0 _ _)
      | (with_reducible exact LeO.refl _)
      | (with_reducible exact LeO.none _)
      | (with_reducible refine LeO.ite ?_ ?_)
      | (with_reducible refine LeO.bind ?_ (fun _ => ?_))
      | exact ih0 _ _
      | exact LeO.none _
      | refine LeO.ite ?_ ?_
      | refine LeO.bind ?_ (fun _ => ?_)
theorem header_Known.mono : ∀ a0 k, LeO (header_Known.f k a0) (header_Known.f (k + 1) a0) := by
  intro a0 k
  have ih0 := header_Known.mono_l k
  unfold header_Known.f
  repeat' first
      | (with_reducible exact ih0 _ _)
      | (with_reducible exact LeO.refl _)
      | (with_reducible exact LeO.none _)
      | (with_reducible refine LeO.ite ?_ ?_)
      | (with_reducible refine LeO.bind ?_ (fun _ => ?_))
      | exact ih0 _ _
      | exact LeO.none _
      | refine LeO.ite ?_ ?_
      | refine LeO.bind ?_ (fun _ => ?_)
set_option maxHeartbeats 8000000 in
set_option maxRecDepth 100000 in
theorem header_Known.calls (k : Nat) (a0 : Int) (r : Bool) (w : World) (h : header_Known.f k a0 = some r) :
    Calls Try.prog 14 #[.int .i64 a0] w fun e w' => e = .returned (.bool r) ∧ Drawn0 w w' := by
  have H : (if a0 = 0 then (header_Known.j0 k a0 (a0 == 0)) else (if a0 = 1 then (header_Known.j0 k a0 (a0 == 1)) else (if a0 = 2 then (header_Known.j0 k a0 (a0 == 2)) else (header_Known.j0 k a0 (a0 == 3))))) = some r := h
  clear h
  have HC2 := Aside0.mk H
  clear H
  go_enter Try.func14, Try.ntmps14
  go_upto_if 4 with (fail)
  go_cut [4] (fun v4 wc => ∃ (kq : Nat) (x4_1 : Bool), v4 = .bool x4_1 ∧ Aside0 (header_Known.j0 kq a0 x4_1 = some r) ∧ Aside0 (kq ≤ k) ∧ Drawn0 w wc)
  case first =>
    have H := HC2.out
    clear HC2
    by_cases c3 : a0 = 0
    · rw [if_pos c3] at H
      have c3b0 : (a0 == 0) = true := beq_iff_eq.mpr c3
      have c3b1 : (a0 != 0) = false := bne_eq_false_iff_eq.mpr c3
      clear c3
      (first | rw [c3b0] | (simp only [i64_w, i32_w]; rw [c3b0]) | skip)
      have H' := Aside0.mk H
      clear H
      go_wp2
      go_meet
      case rel => exact ⟨_, ((a0 == 0)), (by first | rfl | (simp; done) | (simp [*]; done)), H', ⟨by first | omega | exact Nat.le_refl _⟩, by repeat (first | exact Drawn0.refl _ | apply Drawn0.step)⟩
    · rw [if_neg c3] at H
      have c3b0 : (a0 == 0) = false := beq_eq_false_iff_ne.mpr c3
      have c3b1 : (a0 != 0) = true := bne_iff_ne.mpr c3
      (first | rw [c3b0] | (simp only [i64_w, i32_w]; rw [c3b0]) | skip)
      by_cases c4 : a0 = 1
      · rw [if_pos c4] at H
        have c4b0 : (a0 == 1) = true := beq_iff_eq.mpr c4
        have c4b1 : (a0 != 1) = false := bne_eq_false_iff_eq.mpr c4
        clear c4
        have H' := Aside0.mk H
        clear H
        go_wp2
        go_meet
        case rel => exact ⟨_, ((a0 == 1)), (by first | rfl | (simp; done) | (simp [*]; done)), H', ⟨by first | omega | exact Nat.le_refl _⟩, by repeat (first | exact Drawn0.refl _ | apply Drawn0.step)⟩
      · rw [if_neg c4] at H
        have c4b0 : (a0 == 1) = false := beq_eq_false_iff_ne.mpr c4
        have c4b1 : (a0 != 1) = true := bne_iff_ne.mpr c4
        by_cases c5 : a0 = 2
        · rw [if_pos c5] at H
          have c5b0 : (a0 == 2) = true := beq_iff_eq.mpr c5
          have c5b1 : (a0 != 2) = false := bne_eq_false_iff_eq.mpr c5
          clear c5
          have H' := Aside0.mk H
          clear H
          go_wp2
          go_meet
          case rel => exact ⟨_, ((a0 == 2)), (by first | rfl | (simp; done) | (simp [*]; done)), H', ⟨by first | omega | exact Nat.le_refl _⟩, by repeat (first | exact Drawn0.refl _ | apply Drawn0.step)⟩
        · rw [if_neg c5] at H
          have c5b0 : (a0 == 2) = false := beq_eq_false_iff_ne.mpr c5
          have c5b1 : (a0 != 2) = true := bne_iff_ne.mpr c5
          have H' := Aside0.mk H
          clear H
          go_wp2
          go_meet
          case rel => exact ⟨_, ((a0 == 3)), (by first | rfl | (simp; done) | (simp [*]; done)), H', ⟨by first | omega | exact Nat.le_refl _⟩, by repeat (first | exact Drawn0.refl _ | apply Drawn0.step)⟩
  case rest =>
    clear HC2
    try clear c1
    try clear p2
    try clear c3
    try clear c3b0
    try clear c3b1
    try clear c4
    try clear c4b0
    try clear c4b1
    try clear c5
    try clear c5b0
    try clear c5b1
    obtain ⟨kq, x4_1, rfl, HA, HJ1, ⟨mc1, rfl⟩⟩ := hcut
    cases kq with
    | zero => exact absurd HA.out (by simp [header_Known.j0])
    | succ kj1 =>
      have H := HA.out
      clear HA
      simp only [header_Known.j0] at H
      by_cases c6 : x4_1 = true
      · subst c6
        have H1 : (some true) = some r := by rw [if_pos rfl] at H; exact H
        clear H
        have H := H1
        clear H1
        obtain rfl := Option.some.inj H
        go_wp2
        all_goals
          go_ret
          exact ⟨by first | rfl | (simp; done) | (simp [*]; done), by repeat (first | exact Drawn0.refl _ | apply Drawn0.step)⟩
      · replace c6 := Bool.eq_false_iff.mpr c6
        subst c6
        have H1 : (if a0 = 8 then (some true) else (if a0 = 9 then (some true) else (if a0 = 10 then (some true) else (if a0 = 11 then (some true) else (if a0 = 12 then (some true) else (if a0 = 13 then (some true) else (some false))))))) = some r := by rw [if_neg (show ¬ (false = true) by decide)] at H; exact H
        clear H
        have H := H1
        clear H1
        by_cases c7 : a0 = 8
        · rw [if_pos c7] at H
          have c7b0 : (a0 == 8) = true := beq_iff_eq.mpr c7
          have c7b1 : (a0 != 8) = false := bne_eq_false_iff_eq.mpr c7
          clear c7
          obtain rfl := Option.some.inj H
          go_wp2
          all_goals
            go_ret
            exact ⟨by first | rfl | (simp; done) | (simp [*]; done), by repeat (first | exact Drawn0.refl _ | apply Drawn0.step)⟩
        · rw [if_neg c7] at H
          have c7b0 : (a0 == 8) = false := beq_eq_false_iff_ne.mpr c7
          have c7b1 : (a0 != 8) = true := bne_iff_ne.mpr c7
          by_cases c8 : a0 = 9
          · rw [if_pos c8] at H
            have c8b0 : (a0 == 9) = true := beq_iff_eq.mpr c8
            have c8b1 : (a0 != 9) = false := bne_eq_false_iff_eq.mpr c8
            clear c8
            obtain rfl := Option.some.inj H
            go_wp2
            all_goals
              go_ret
              exact ⟨by first | rfl | (simp; done) | (simp [*]; done), by repeat (first | exact Drawn0.refl _ | apply Drawn0.step)⟩
          · rw [if_neg c8] at H
            have c8b0 : (a0 == 9) = false := beq_eq_false_iff_ne.mpr c8
            have c8b1 : (a0 != 9) = true := bne_iff_ne.mpr c8
            by_cases c9 : a0 = 10
            · rw [if_pos c9] at H
              have c9b0 : (a0 == 10) = true := beq_iff_eq.mpr c9
              have c9b1 : (a0 != 10) = false := bne_eq_false_iff_eq.mpr c9
              clear c9
              obtain rfl := Option.some.inj H
              go_wp2
              all_goals
                go_ret
                exact ⟨by first | rfl | (simp; done) | (simp [*]; done), by repeat (first | exact Drawn0.refl _ | apply Drawn0.step)⟩
            · rw [if_neg c9] at H
              have c9b0 : (a0 == 10) = false := beq_eq_false_iff_ne.mpr c9
              have c9b1 : (a0 != 10) = true := bne_iff_ne.mpr c9
              by_cases c10 : a0 = 11
              · rw [if_pos c10] at H
                have c10b0 : (a0 == 11) = true := beq_iff_eq.mpr c10
                have c10b1 : (a0 != 11) = false := bne_eq_false_iff_eq.mpr c10
                clear c10
                obtain rfl := Option.some.inj H
                go_wp2
                all_goals
                  go_ret
                  exact ⟨by first | rfl | (simp; done) | (simp [*]; done), by repeat (first | exact Drawn0.refl _ | apply Drawn0.step)⟩
              · rw [if_neg c10] at H
                have c10b0 : (a0 == 11) = false := beq_eq_false_iff_ne.mpr c10
                have c10b1 : (a0 != 11) = true := bne_iff_ne.mpr c10
                by_cases c11 : a0 = 12
                · rw [if_pos c11] at H
                  have c11b0 : (a0 == 12) = true := beq_iff_eq.mpr c11
                  have c11b1 : (a0 != 12) = false := bne_eq_false_iff_eq.mpr c11
                  clear c11
                  obtain rfl := Option.some.inj H
                  go_wp2
                  all_goals
                    go_ret
                    exact ⟨by first | rfl | (simp; done) | (simp [*]; done), by repeat (first | exact Drawn0.refl _ | apply Drawn0.step)⟩
                · rw [if_neg c11] at H
                  have c11b0 : (a0 == 12) = false := beq_eq_false_iff_ne.mpr c11
                  have c11b1 : (a0 != 12) = true := bne_iff_ne.mpr c11
                  by_cases c12 : a0 = 13
                  · rw [if_pos c12] at H
                    have c12b0 : (a0 == 13) = true := beq_iff_eq.mpr c12
                    have c12b1 : (a0 != 13) = false := bne_eq_false_iff_eq.mpr c12
                    clear c12
                    obtain rfl := Option.some.inj H
                    go_wp2
                    all_goals
                      go_ret
                      exact ⟨by first | rfl | (simp; done) | (simp [*]; done), by repeat (first | exact Drawn0.refl _ | apply Drawn0.step)⟩
                  · rw [if_neg c12] at H
                    have c12b0 : (a0 == 13) = false := beq_eq_false_iff_ne.mpr c12
                    have c12b1 : (a0 != 13) = true := bne_iff_ne.mpr c12
                    obtain rfl := Option.some.inj H
                    go_wp2
                    all_goals
                      go_ret
                      exact ⟨by first | rfl | (simp; done) | (simp [*]; done), by repeat (first | exact Drawn0.refl _ | apply Drawn0.step)⟩

/-! ### header_in: function 21 -/
def header_in.f (a0 : Int) (a1 : Int) (a2 : Int) : Option (Bool) := if a0 ≥ a1 then (some (decide (a0 ≤ a2))) else (some false)
set_option maxHeartbeats 8000000 in
set_option maxRecDepth 100000 in
theorem header_in.calls (a0 : Int) (a1 : Int) (a2 : Int) (r : Bool) (w : World) (h : header_in.f a0 a1 a2 = some r) :
    Calls Try.prog 21 #[.int .i64 a0, .int .i64 a1, .int .i64 a2] w fun e w' => e = .returned (.bool r) ∧ Drawn0 w w' := by
  have H : (if a0 ≥ a1 then (some (decide (a0 ≤ a2))) else (some false)) = some r := h
  clear h
  by_cases c4 : a0 ≥ a1
  · rw [if_pos c4] at H
    have c4b0 : decide (a1 ≤ a0) = true := decide_eq_true c4
    clear c4
    obtain rfl := Option.some.inj H
    go_enter Try.func21, Try.ntmps21
    go_wp2
    all_goals
      go_ret
      exact ⟨by first | rfl | (simp; done) | (simp [*]; done), by repeat (first | exact Drawn0.refl _ | apply Drawn0.step)⟩
  · rw [if_neg c4] at H
    have c4b0 : decide (a1 ≤ a0) = false := decide_eq_false c4
    clear c4
    obtain rfl := Option.some.inj H
    go_enter Try.func21, Try.ntmps21
    go_wp2
    all_goals
      go_ret
      exact ⟨by first | rfl | (simp; done) | (simp [*]; done), by repeat (first | exact Drawn0.refl _ | apply Drawn0.step)⟩

/-! ### ident_May: function 27 -/
def ident_May.f (a0_0 : Int) (a0_1 : Int) : Option (Bool) := if a0_1 ≥ 0 then (some (decide (a0_1 ≤ 65535))) else (some false)
set_option maxHeartbeats 8000000 in
set_option maxRecDepth 100000 in
theorem ident_May.calls (a0_0 : Int) (a0_1 : Int) (r : Bool) (w : World) (h : ident_May.f a0_0 a0_1 = some r) :
    Calls Try.prog 27 #[.agg #[.int .u64 a0_0, .int .i64 a0_1]] w fun e w' => e = .returned (.bool r) ∧ Below w.heap.size w w' := by
  have hu24 := Try.underlying24
  have HB := Aside0.mk (Below.refl w.heap.size w)
  have H : (if a0_1 ≥ 0 then (some (decide (a0_1 ≤ 65535))) else (some false)) = some r := h
  clear h
  by_cases c2 : a0_1 ≥ 0
  · rw [if_pos c2] at H
    have c2b0 : decide (0 ≤ a0_1) = true := decide_eq_true c2
    clear c2
    obtain rfl := Option.some.inj H
    go_enter Try.func27, Try.ntmps27
    go_wp2_with (first | ((with_reducible refine gate_dst (N := 1) rfl ?_); refine box_event ?hg (N := 1) ?hd (cs := #[.int .u64 a0_0, .int .i64 a0_1]) (t := 24) ?hr ?_; (case hd => rfl); (case hg => rfl); (case hr => first | (go_simp; done) | (go_simp; rfl)); intro gb101 hg w3 hbox hb; have n0_ := Aside0.mk (below_step (by repeat (first | (with_reducible first | exact HB.out | apply below_alloc | apply pw_below_drewN | apply below_drew1) | exact HB.out)) hb); have n1_ := Aside0.mk (hbox); have n2_ := Aside0.mk ((by rw [hg]; exact (below_size (by repeat (first | (with_reducible first | exact HB.out | apply below_alloc | apply pw_below_drewN | apply below_drew1) | exact HB.out))) : w.heap.size ≤ gb101)); have n3_ := Aside0.mk ((by rw [hg]; exact (below_size (by repeat (first | (with_reducible first | exact HB.out | apply below_alloc | apply pw_below_drewN | apply below_drew1) | exact HB.out))) : w.heap.size ≤ gb101)); clear HB; have HB := n0_; have BK101 := n1_; have GW101 := n2_; have GE101 := n3_; clear n0_ n1_ n2_ n3_; clear hb hbox hg; have hcz4_0 : w3.cell? ⟨gb101, 0, none⟩ = some (.int .u64 a0_0) := (blk_cell BK101.out 0).trans rfl; have hcz4_1 : w3.cell? ⟨gb101, 1, none⟩ = some (.int .i64 a0_1) := (blk_cell BK101.out 1).trans rfl; have hfz4_0 := blk_frozen BK101.out 0; have hfz4_1 := blk_frozen BK101.out 1))
    all_goals
      go_ret
      exact ⟨by first | rfl | (simp [errW_none, errW_some] <;> rfl) | (simp [*, errW_none, errW_some] <;> rfl), by repeat (first | (with_reducible first | exact HB.out | apply below_alloc | apply pw_below_drewN | apply below_drew1 | refine below_set ?_ GE101.out) | exact HB.out)⟩
  · rw [if_neg c2] at H
    have c2b0 : decide (0 ≤ a0_1) = false := decide_eq_false c2
    clear c2
    obtain rfl := Option.some.inj H
    go_enter Try.func27, Try.ntmps27
    go_wp2_with (first | ((with_reducible refine gate_dst (N := 1) rfl ?_); refine box_event ?hg (N := 1) ?hd (cs := #[.int .u64 a0_0, .int .i64 a0_1]) (t := 24) ?hr ?_; (case hd => rfl); (case hg => rfl); (case hr => first | (go_simp; done) | (go_simp; rfl)); intro gb101 hg w5 hbox hb; have n0_ := Aside0.mk (below_step (by repeat (first | (with_reducible first | exact HB.out | apply below_alloc | apply pw_below_drewN | apply below_drew1) | exact HB.out)) hb); have n1_ := Aside0.mk (hbox); have n2_ := Aside0.mk ((by rw [hg]; exact (below_size (by repeat (first | (with_reducible first | exact HB.out | apply below_alloc | apply pw_below_drewN | apply below_drew1) | exact HB.out))) : w.heap.size ≤ gb101)); have n3_ := Aside0.mk ((by rw [hg]; exact (below_size (by repeat (first | (with_reducible first | exact HB.out | apply below_alloc | apply pw_below_drewN | apply below_drew1) | exact HB.out))) : w.heap.size ≤ gb101)); clear HB; have HB := n0_; have BK101 := n1_; have GW101 := n2_; have GE101 := n3_; clear n0_ n1_ n2_ n3_; clear hb hbox hg; have hcz6_0 : w5.cell? ⟨gb101, 0, none⟩ = some (.int .u64 a0_0) := (blk_cell BK101.out 0).trans rfl; have hcz6_1 : w5.cell? ⟨gb101, 1, none⟩ = some (.int .i64 a0_1) := (blk_cell BK101.out 1).trans rfl; have hfz6_0 := blk_frozen BK101.out 0; have hfz6_1 := blk_frozen BK101.out 1))
    all_goals
      go_ret
      exact ⟨by first | rfl | (simp [errW_none, errW_some] <;> rfl) | (simp [*, errW_none, errW_some] <;> rfl), by repeat (first | (with_reducible first | exact HB.out | apply below_alloc | apply pw_below_drewN | apply below_drew1 | refine below_set ?_ GE101.out) | exact HB.out)⟩

/-! ### header_Check: function 12 -/
def header_Check.f (k : Nat) (a0_0 : Int) (a0_1 : Int) (a0_2 : Int) (a0_3 : Int) (a0_4 : Int) (a0_5 : Int) (a0_6 : Int) (a0_7 : Int) (a0_8 : Int) (a0_9 : Int) (a0_10 : Int) (a0_11 : Int) (a0_12 : Int) (a0_13 : Int) (a0_14 : Int) (a0_15 : Int) (a0_16 : Int) (a0_17 : Int) (a0_18 : Int) (a0_19 : Int) (a0_20 : Int) (a0_21 : Int) (a0_22 : Int) : Option (Bool) := (header_Known.f k a0_0).bind fun t103 => (if t103 = true then ((header_in.f a0_1 0 255).bind fun t104 => (if t104 = true then ((header_in.f a0_2 0 65535).bind fun t105 => (if t105 = true then ((ident_May.f a0_4 a0_5).bind fun t106 => (if t106 = true then ((header_in.f a0_6 0 65535).bind fun t107 => (if t107 = true then ((header_in.f a0_7 (-128) 127).bind fun t108 => (some t108)) else (some false))) else (some false))) else (some false))) else (some false))) else (some false))
theorem header_Check.mono : ∀ a0 a1 a2 a3 a4 a5 a6 a7 a8 a9 a10 a11 a12 a13 a14 a15 a16 a17 a18 a19 a20 a21 a22 k, LeO (header_Check.f k a0 a1 a2 a3 a4 a5 a6 a7 a8 a9 a10 a11 a12 a13 a14 a15 a16 a17 a18 a19 a20 a21 a22) (header_Check.f (k + 1) a0 a1 a2 a3 a4 a5 a6 a7 a8 a9 a10 a11 a12 a13 a14 a15 a16 a17 a18 a19 a20 a21 a22) := by
  intro a0 a1 a2 a3 a4 a5 a6 a7 a8 a9 a10 a11 a12 a13 a14 a15 a16 a17 a18 a19 a20 a21 a22 k
  unfold header_Check.f
  repeat' first
      | (with_reducible exact header_Known.mono _ _)
      | (with_reducible exact LeO.refl _)
      | (with_reducible exact LeO.none _)
      | (with_reducible refine LeO.ite ?_ ?_)
      | (with_reducible refine LeO.bind ?_ (fun _ => ?_))
      | exact header_Known.mono _ _
      | exact LeO.none _
      | refine LeO.ite ?_ ?_
      | refine LeO.bind ?_ (fun _ => ?_)
set_option maxHeartbeats 8000000 in
set_option maxRecDepth 100000 in
theorem header_Check.calls (k : Nat) (a0_0 : Int) (a0_1 : Int) (a0_2 : Int) (a0_3 : Int) (a0_4 : Int) (a0_5 : Int) (a0_6 : Int) (a0_7 : Int) (a0_8 : Int) (a0_9 : Int) (a0_10 : Int) (a0_11 : Int) (a0_12 : Int) (a0_13 : Int) (a0_14 : Int) (a0_15 : Int) (a0_16 : Int) (a0_17 : Int) (a0_18 : Int) (a0_19 : Int) (a0_20 : Int) (a0_21 : Int) (a0_22 : Int) (r : Bool) (w : World) (h : header_Check.f k a0_0 a0_1 a0_2 a0_3 a0_4 a0_5 a0_6 a0_7 a0_8 a0_9 a0_10 a0_11 a0_12 a0_13 a0_14 a0_15 a0_16 a0_17 a0_18 a0_19 a0_20 a0_21 a0_22 = some r) :
    Calls Try.prog 12 #[.agg #[.int .i64 a0_0, .int .i64 a0_1, .int .i64 a0_2, .int .i64 a0_3, .int .u64 a0_4, .int .i64 a0_5, .int .i64 a0_6, .int .i64 a0_7, .int .i64 a0_8, .int .u64 a0_9, .int .i64 a0_10, .int .i64 a0_11, .int .i64 a0_12, .int .i64 a0_13, .int .i64 a0_14, .int .i64 a0_15, .int .i64 a0_16, .int .u64 a0_17, .int .i64 a0_18, .int .i64 a0_19, .int .i64 a0_20, .int .i64 a0_21, .int .i64 a0_22]] w fun e w' => e = .returned (.bool r) ∧ Below w.heap.size w w' := by
  have hu28 := Try.underlying28
  have hu24 := Try.underlying24
  have HB := Aside0.mk (Below.refl w.heap.size w)
  have H : ((header_Known.f k a0_0).bind fun t103 => (if t103 = true then ((header_in.f a0_1 0 255).bind fun t104 => (if t104 = true then ((header_in.f a0_2 0 65535).bind fun t105 => (if t105 = true then ((ident_May.f a0_4 a0_5).bind fun t106 => (if t106 = true then ((header_in.f a0_6 0 65535).bind fun t107 => (if t107 = true then ((header_in.f a0_7 (-128) 127).bind fun t108 => (some t108)) else (some false))) else (some false))) else (some false))) else (some false))) else (some false))) = some r := h
  clear h
  replace H := Option.bind_eq_some_iff.mp H
  obtain ⟨t103, A20, H⟩ := H
  replace H : (if t103 = true then ((header_in.f a0_1 0 255).bind fun t104 => (if t104 = true then ((header_in.f a0_2 0 65535).bind fun t105 => (if t105 = true then ((ident_May.f a0_4 a0_5).bind fun t106 => (if t106 = true then ((header_in.f a0_6 0 65535).bind fun t107 => (if t107 = true then ((header_in.f a0_7 (-128) 127).bind fun t108 => (some t108)) else (some false))) else (some false))) else (some false))) else (some false))) else (some false)) = some r := H
  have A2 := Aside0.mk A20
  clear A20
  by_cases c3 : t103 = true
  · subst c3
    have H1 : ((header_in.f a0_1 0 255).bind fun t104 => (if t104 = true then ((header_in.f a0_2 0 65535).bind fun t105 => (if t105 = true then ((ident_May.f a0_4 a0_5).bind fun t106 => (if t106 = true then ((header_in.f a0_6 0 65535).bind fun t107 => (if t107 = true then ((header_in.f a0_7 (-128) 127).bind fun t108 => (some t108)) else (some false))) else (some false))) else (some false))) else (some false))) = some r := by rw [if_pos rfl] at H; exact H
    clear H
    have H := H1
    clear H1
    replace H := Option.bind_eq_some_iff.mp H
    obtain ⟨t104, A40, H⟩ := H
    replace H : (if t104 = true then ((header_in.f a0_2 0 65535).bind fun t105 => (if t105 = true then ((ident_May.f a0_4 a0_5).bind fun t106 => (if t106 = true then ((header_in.f a0_6 0 65535).bind fun t107 => (if t107 = true then ((header_in.f a0_7 (-128) 127).bind fun t108 => (some t108)) else (some false))) else (some false))) else (some false))) else (some false)) = some r := H
    have A4 := Aside0.mk A40
    clear A40
    by_cases c5 : t104 = true
    · subst c5
      have H1 : ((header_in.f a0_2 0 65535).bind fun t105 => (if t105 = true then ((ident_May.f a0_4 a0_5).bind fun t106 => (if t106 = true then ((header_in.f a0_6 0 65535).bind fun t107 => (if t107 = true then ((header_in.f a0_7 (-128) 127).bind fun t108 => (some t108)) else (some false))) else (some false))) else (some false))) = some r := by rw [if_pos rfl] at H; exact H
      clear H
      have H := H1
      clear H1
      replace H := Option.bind_eq_some_iff.mp H
      obtain ⟨t105, A60, H⟩ := H
      replace H : (if t105 = true then ((ident_May.f a0_4 a0_5).bind fun t106 => (if t106 = true then ((header_in.f a0_6 0 65535).bind fun t107 => (if t107 = true then ((header_in.f a0_7 (-128) 127).bind fun t108 => (some t108)) else (some false))) else (some false))) else (some false)) = some r := H
      have A6 := Aside0.mk A60
      clear A60
      by_cases c7 : t105 = true
      · subst c7
        have H1 : ((ident_May.f a0_4 a0_5).bind fun t106 => (if t106 = true then ((header_in.f a0_6 0 65535).bind fun t107 => (if t107 = true then ((header_in.f a0_7 (-128) 127).bind fun t108 => (some t108)) else (some false))) else (some false))) = some r := by rw [if_pos rfl] at H; exact H
        clear H
        have H := H1
        clear H1
        replace H := Option.bind_eq_some_iff.mp H
        obtain ⟨t106, A80, H⟩ := H
        replace H : (if t106 = true then ((header_in.f a0_6 0 65535).bind fun t107 => (if t107 = true then ((header_in.f a0_7 (-128) 127).bind fun t108 => (some t108)) else (some false))) else (some false)) = some r := H
        have A8 := Aside0.mk A80
        clear A80
        by_cases c9 : t106 = true
        · subst c9
          have H1 : ((header_in.f a0_6 0 65535).bind fun t107 => (if t107 = true then ((header_in.f a0_7 (-128) 127).bind fun t108 => (some t108)) else (some false))) = some r := by rw [if_pos rfl] at H; exact H
          clear H
          have H := H1
          clear H1
          replace H := Option.bind_eq_some_iff.mp H
          obtain ⟨t107, A100, H⟩ := H
          replace H : (if t107 = true then ((header_in.f a0_7 (-128) 127).bind fun t108 => (some t108)) else (some false)) = some r := H
          have A10 := Aside0.mk A100
          clear A100
          by_cases c11 : t107 = true
          · subst c11
            have H1 : ((header_in.f a0_7 (-128) 127).bind fun t108 => (some t108)) = some r := by rw [if_pos rfl] at H; exact H
            clear H
            have H := H1
            clear H1
            replace H := Option.bind_eq_some_iff.mp H
            obtain ⟨t108, A120, H⟩ := H
            replace H : (some t108) = some r := H
            have A12 := Aside0.mk A120
            clear A120
            obtain rfl := Option.some.inj H
            go_enter Try.func12, Try.ntmps12
            go_wp2_with (first | (refine big_load (g := gb102) (t := 28) (fr := (0, 0)) (n := 23) (cs := ?_) rfl rfl Try.underlying28 (by kernel_rfl) rfl ?lg ?ln ?_; (case lg => (with_reducible repeat (first | refine blk_drewN ?_ _ | refine blk_drew ?_ | refine blk_alloc ?_ _)); exact BK102.out); (case ln => rfl)) | ((with_reducible refine gate_dst (N := 1) rfl ?_); refine box_event ?hg (N := 1) ?hd (cs := #[.int .i64 a0_0, .int .i64 a0_1, .int .i64 a0_2, .int .i64 a0_3, .int .u64 a0_4, .int .i64 a0_5, .int .i64 a0_6, .int .i64 a0_7, .int .i64 a0_8, .int .u64 a0_9, .int .i64 a0_10, .int .i64 a0_11, .int .i64 a0_12, .int .i64 a0_13, .int .i64 a0_14, .int .i64 a0_15, .int .i64 a0_16, .int .u64 a0_17, .int .i64 a0_18, .int .i64 a0_19, .int .i64 a0_20, .int .i64 a0_21, .int .i64 a0_22]) (t := 28) ?hr ?_; (case hd => rfl); (case hg => rfl); (case hr => first | (go_simp; done) | (go_simp; rfl)); intro gb102 hg w13 hbox hb; have n0_ := Aside0.mk (below_step (by repeat (first | (with_reducible first | exact HB.out | apply below_alloc | apply pw_below_drewN | apply below_drew1) | exact HB.out)) hb); have n1_ := Aside0.mk (hbox); have n2_ := Aside0.mk ((by rw [hg]; exact (below_size (by repeat (first | (with_reducible first | exact HB.out | apply below_alloc | apply pw_below_drewN | apply below_drew1) | exact HB.out))) : w.heap.size ≤ gb102)); have n3_ := Aside0.mk ((by rw [hg]; exact (below_size (by repeat (first | (with_reducible first | exact HB.out | apply below_alloc | apply pw_below_drewN | apply below_drew1) | exact HB.out))) : w.heap.size ≤ gb102)); clear HB; have HB := n0_; have BK102 := n1_; have GW102 := n2_; have GE102 := n3_; clear n0_ n1_ n2_ n3_; clear hb hbox hg; have hcz14_0 : w13.cell? ⟨gb102, 0, none⟩ = some (.int .i64 a0_0) := (blk_cell BK102.out 0).trans rfl; have hcz14_1 : w13.cell? ⟨gb102, 1, none⟩ = some (.int .i64 a0_1) := (blk_cell BK102.out 1).trans rfl; have hcz14_2 : w13.cell? ⟨gb102, 2, none⟩ = some (.int .i64 a0_2) := (blk_cell BK102.out 2).trans rfl; have hcz14_3 : w13.cell? ⟨gb102, 3, none⟩ = some (.int .i64 a0_3) := (blk_cell BK102.out 3).trans rfl; have hcz14_4 : w13.cell? ⟨gb102, 4, none⟩ = some (.int .u64 a0_4) := (blk_cell BK102.out 4).trans rfl; have hcz14_5 : w13.cell? ⟨gb102, 5, none⟩ = some (.int .i64 a0_5) := (blk_cell BK102.out 5).trans rfl; have hcz14_6 : w13.cell? ⟨gb102, 6, none⟩ = some (.int .i64 a0_6) := (blk_cell BK102.out 6).trans rfl; have hcz14_7 : w13.cell? ⟨gb102, 7, none⟩ = some (.int .i64 a0_7) := (blk_cell BK102.out 7).trans rfl; have hcz14_8 : w13.cell? ⟨gb102, 8, none⟩ = some (.int .i64 a0_8) := (blk_cell BK102.out 8).trans rfl; have hcz14_9 : w13.cell? ⟨gb102, 9, none⟩ = some (.int .u64 a0_9) := (blk_cell BK102.out 9).trans rfl; have hcz14_10 : w13.cell? ⟨gb102, 10, none⟩ = some (.int .i64 a0_10) := (blk_cell BK102.out 10).trans rfl; have hcz14_11 : w13.cell? ⟨gb102, 11, none⟩ = some (.int .i64 a0_11) := (blk_cell BK102.out 11).trans rfl; have hcz14_12 : w13.cell? ⟨gb102, 12, none⟩ = some (.int .i64 a0_12) := (blk_cell BK102.out 12).trans rfl; have hcz14_13 : w13.cell? ⟨gb102, 13, none⟩ = some (.int .i64 a0_13) := (blk_cell BK102.out 13).trans rfl; have hcz14_14 : w13.cell? ⟨gb102, 14, none⟩ = some (.int .i64 a0_14) := (blk_cell BK102.out 14).trans rfl; have hcz14_15 : w13.cell? ⟨gb102, 15, none⟩ = some (.int .i64 a0_15) := (blk_cell BK102.out 15).trans rfl; have hcz14_16 : w13.cell? ⟨gb102, 16, none⟩ = some (.int .i64 a0_16) := (blk_cell BK102.out 16).trans rfl; have hcz14_17 : w13.cell? ⟨gb102, 17, none⟩ = some (.int .u64 a0_17) := (blk_cell BK102.out 17).trans rfl; have hcz14_18 : w13.cell? ⟨gb102, 18, none⟩ = some (.int .i64 a0_18) := (blk_cell BK102.out 18).trans rfl; have hcz14_19 : w13.cell? ⟨gb102, 19, none⟩ = some (.int .i64 a0_19) := (blk_cell BK102.out 19).trans rfl; have hcz14_20 : w13.cell? ⟨gb102, 20, none⟩ = some (.int .i64 a0_20) := (blk_cell BK102.out 20).trans rfl; have hcz14_21 : w13.cell? ⟨gb102, 21, none⟩ = some (.int .i64 a0_21) := (blk_cell BK102.out 21).trans rfl; have hcz14_22 : w13.cell? ⟨gb102, 22, none⟩ = some (.int .i64 a0_22) := (blk_cell BK102.out 22).trans rfl; have hfz14_0 := blk_frozen BK102.out 0; have hfz14_1 := blk_frozen BK102.out 1; have hfz14_2 := blk_frozen BK102.out 2; have hfz14_3 := blk_frozen BK102.out 3; have hfz14_4 := blk_frozen BK102.out 4; have hfz14_5 := blk_frozen BK102.out 5; have hfz14_6 := blk_frozen BK102.out 6; have hfz14_7 := blk_frozen BK102.out 7; have hfz14_8 := blk_frozen BK102.out 8; have hfz14_9 := blk_frozen BK102.out 9; have hfz14_10 := blk_frozen BK102.out 10; have hfz14_11 := blk_frozen BK102.out 11; have hfz14_12 := blk_frozen BK102.out 12; have hfz14_13 := blk_frozen BK102.out 13; have hfz14_14 := blk_frozen BK102.out 14; have hfz14_15 := blk_frozen BK102.out 15; have hfz14_16 := blk_frozen BK102.out 16; have hfz14_17 := blk_frozen BK102.out 17; have hfz14_18 := blk_frozen BK102.out 18; have hfz14_19 := blk_frozen BK102.out 19; have hfz14_20 := blk_frozen BK102.out 20; have hfz14_21 := blk_frozen BK102.out 21; have hfz14_22 := blk_frozen BK102.out 22) | ((with_reducible refine gate_callee (f := 14) rfl ?_); refine goesL_ (some 5) rfl rfl Try.func14 (by kernel_rfl) rfl #[.int .i64 a0_0] rfl (by (try simp only [List.map_toArray, List.map_cons, List.map_nil]); first | done | rfl | (simp only [List.length_drop, List.length_take]; rfl)) ?_; (with_reducible refine (header_Known.calls k a0_0 true _ A2.out).mono ?_); rintro e w' ⟨rfl, ⟨nd, rfl⟩⟩; refine ⟨_, rfl, ?_⟩) | (go_at_call 21; (with_reducible refine (header_in.calls a0_1 0 255 true _ A4.out).mono ?_); rintro e w' ⟨rfl, ⟨nd, rfl⟩⟩) | (go_at_call 21; (with_reducible refine (header_in.calls a0_2 0 65535 true _ A6.out).mono ?_); rintro e w' ⟨rfl, ⟨nd, rfl⟩⟩) | (go_at_call 27; (with_reducible refine (ident_May.calls a0_4 a0_5 true _ A8.out).mono ?_); rintro e w15 ⟨rfl, hb⟩; have n0_ := Aside0.mk (blk_below (g := gb102) (o := .cells #[.int .i64 a0_0, .int .i64 a0_1, .int .i64 a0_2, .int .i64 a0_3, .int .u64 a0_4, .int .i64 a0_5, .int .i64 a0_6, .int .i64 a0_7, .int .i64 a0_8, .int .u64 a0_9, .int .i64 a0_10, .int .i64 a0_11, .int .i64 a0_12, .int .i64 a0_13, .int .i64 a0_14, .int .i64 a0_15, .int .i64 a0_16, .int .u64 a0_17, .int .i64 a0_18, .int .i64 a0_19, .int .i64 a0_20, .int .i64 a0_21, .int .i64 a0_22] 28 (0, 0)) (by (with_reducible repeat (first | refine blk_drewN ?_ _ | refine blk_drew ?_ | refine blk_alloc ?_ _)); exact BK102.out) hb); have n1_ := Aside0.mk (below_step (by repeat (first | (with_reducible first | exact HB.out | apply below_alloc | apply pw_below_drewN | apply below_drew1 | refine below_set ?_ GE102.out) | exact HB.out)) hb); clear BK102; clear HB; have BK102 := n0_; have HB := n1_; clear n0_ n1_; (try clear hb); (try clear hb2); (try clear hk); (try clear hi); have hcz16_0 : w15.cell? ⟨gb102, 0, none⟩ = some (.int .i64 a0_0) := (blk_cell BK102.out 0).trans rfl; have hcz16_1 : w15.cell? ⟨gb102, 1, none⟩ = some (.int .i64 a0_1) := (blk_cell BK102.out 1).trans rfl; have hcz16_2 : w15.cell? ⟨gb102, 2, none⟩ = some (.int .i64 a0_2) := (blk_cell BK102.out 2).trans rfl; have hcz16_3 : w15.cell? ⟨gb102, 3, none⟩ = some (.int .i64 a0_3) := (blk_cell BK102.out 3).trans rfl; have hcz16_4 : w15.cell? ⟨gb102, 4, none⟩ = some (.int .u64 a0_4) := (blk_cell BK102.out 4).trans rfl; have hcz16_5 : w15.cell? ⟨gb102, 5, none⟩ = some (.int .i64 a0_5) := (blk_cell BK102.out 5).trans rfl; have hcz16_6 : w15.cell? ⟨gb102, 6, none⟩ = some (.int .i64 a0_6) := (blk_cell BK102.out 6).trans rfl; have hcz16_7 : w15.cell? ⟨gb102, 7, none⟩ = some (.int .i64 a0_7) := (blk_cell BK102.out 7).trans rfl; have hcz16_8 : w15.cell? ⟨gb102, 8, none⟩ = some (.int .i64 a0_8) := (blk_cell BK102.out 8).trans rfl; have hcz16_9 : w15.cell? ⟨gb102, 9, none⟩ = some (.int .u64 a0_9) := (blk_cell BK102.out 9).trans rfl; have hcz16_10 : w15.cell? ⟨gb102, 10, none⟩ = some (.int .i64 a0_10) := (blk_cell BK102.out 10).trans rfl; have hcz16_11 : w15.cell? ⟨gb102, 11, none⟩ = some (.int .i64 a0_11) := (blk_cell BK102.out 11).trans rfl; have hcz16_12 : w15.cell? ⟨gb102, 12, none⟩ = some (.int .i64 a0_12) := (blk_cell BK102.out 12).trans rfl; have hcz16_13 : w15.cell? ⟨gb102, 13, none⟩ = some (.int .i64 a0_13) := (blk_cell BK102.out 13).trans rfl; have hcz16_14 : w15.cell? ⟨gb102, 14, none⟩ = some (.int .i64 a0_14) := (blk_cell BK102.out 14).trans rfl; have hcz16_15 : w15.cell? ⟨gb102, 15, none⟩ = some (.int .i64 a0_15) := (blk_cell BK102.out 15).trans rfl; have hcz16_16 : w15.cell? ⟨gb102, 16, none⟩ = some (.int .i64 a0_16) := (blk_cell BK102.out 16).trans rfl; have hcz16_17 : w15.cell? ⟨gb102, 17, none⟩ = some (.int .u64 a0_17) := (blk_cell BK102.out 17).trans rfl; have hcz16_18 : w15.cell? ⟨gb102, 18, none⟩ = some (.int .i64 a0_18) := (blk_cell BK102.out 18).trans rfl; have hcz16_19 : w15.cell? ⟨gb102, 19, none⟩ = some (.int .i64 a0_19) := (blk_cell BK102.out 19).trans rfl; have hcz16_20 : w15.cell? ⟨gb102, 20, none⟩ = some (.int .i64 a0_20) := (blk_cell BK102.out 20).trans rfl; have hcz16_21 : w15.cell? ⟨gb102, 21, none⟩ = some (.int .i64 a0_21) := (blk_cell BK102.out 21).trans rfl; have hcz16_22 : w15.cell? ⟨gb102, 22, none⟩ = some (.int .i64 a0_22) := (blk_cell BK102.out 22).trans rfl; have hfz16_0 := blk_frozen BK102.out 0; have hfz16_1 := blk_frozen BK102.out 1; have hfz16_2 := blk_frozen BK102.out 2; have hfz16_3 := blk_frozen BK102.out 3; have hfz16_4 := blk_frozen BK102.out 4; have hfz16_5 := blk_frozen BK102.out 5; have hfz16_6 := blk_frozen BK102.out 6; have hfz16_7 := blk_frozen BK102.out 7; have hfz16_8 := blk_frozen BK102.out 8; have hfz16_9 := blk_frozen BK102.out 9; have hfz16_10 := blk_frozen BK102.out 10; have hfz16_11 := blk_frozen BK102.out 11; have hfz16_12 := blk_frozen BK102.out 12; have hfz16_13 := blk_frozen BK102.out 13; have hfz16_14 := blk_frozen BK102.out 14; have hfz16_15 := blk_frozen BK102.out 15; have hfz16_16 := blk_frozen BK102.out 16; have hfz16_17 := blk_frozen BK102.out 17; have hfz16_18 := blk_frozen BK102.out 18; have hfz16_19 := blk_frozen BK102.out 19; have hfz16_20 := blk_frozen BK102.out 20; have hfz16_21 := blk_frozen BK102.out 21; have hfz16_22 := blk_frozen BK102.out 22) | (go_at_call 21; (with_reducible refine (header_in.calls a0_6 0 65535 true _ A10.out).mono ?_); rintro e w' ⟨rfl, ⟨nd, rfl⟩⟩) | (go_at_call 21; (with_reducible refine (header_in.calls a0_7 (-128) 127 t108 _ A12.out).mono ?_); rintro e w' ⟨rfl, ⟨nd, rfl⟩⟩))
            all_goals
              go_ret
              exact ⟨by first | rfl | (simp [errW_none, errW_some] <;> rfl) | (simp [*, errW_none, errW_some] <;> rfl), by repeat (first | (with_reducible first | exact HB.out | apply below_alloc | apply pw_below_drewN | apply below_drew1 | refine below_set ?_ GE102.out) | exact HB.out)⟩
          · replace c11 := Bool.eq_false_iff.mpr c11
            subst c11
            have H1 : (some false) = some r := by rw [if_neg (show ¬ (false = true) by decide)] at H; exact H
            clear H
            have H := H1
            clear H1
            obtain rfl := Option.some.inj H
            go_enter Try.func12, Try.ntmps12
            go_wp2_with (first | (refine big_load (g := gb102) (t := 28) (fr := (0, 0)) (n := 23) (cs := ?_) rfl rfl Try.underlying28 (by kernel_rfl) rfl ?lg ?ln ?_; (case lg => (with_reducible repeat (first | refine blk_drewN ?_ _ | refine blk_drew ?_ | refine blk_alloc ?_ _)); exact BK102.out); (case ln => rfl)) | ((with_reducible refine gate_dst (N := 1) rfl ?_); refine box_event ?hg (N := 1) ?hd (cs := #[.int .i64 a0_0, .int .i64 a0_1, .int .i64 a0_2, .int .i64 a0_3, .int .u64 a0_4, .int .i64 a0_5, .int .i64 a0_6, .int .i64 a0_7, .int .i64 a0_8, .int .u64 a0_9, .int .i64 a0_10, .int .i64 a0_11, .int .i64 a0_12, .int .i64 a0_13, .int .i64 a0_14, .int .i64 a0_15, .int .i64 a0_16, .int .u64 a0_17, .int .i64 a0_18, .int .i64 a0_19, .int .i64 a0_20, .int .i64 a0_21, .int .i64 a0_22]) (t := 28) ?hr ?_; (case hd => rfl); (case hg => rfl); (case hr => first | (go_simp; done) | (go_simp; rfl)); intro gb102 hg w17 hbox hb; have n0_ := Aside0.mk (below_step (by repeat (first | (with_reducible first | exact HB.out | apply below_alloc | apply pw_below_drewN | apply below_drew1) | exact HB.out)) hb); have n1_ := Aside0.mk (hbox); have n2_ := Aside0.mk ((by rw [hg]; exact (below_size (by repeat (first | (with_reducible first | exact HB.out | apply below_alloc | apply pw_below_drewN | apply below_drew1) | exact HB.out))) : w.heap.size ≤ gb102)); have n3_ := Aside0.mk ((by rw [hg]; exact (below_size (by repeat (first | (with_reducible first | exact HB.out | apply below_alloc | apply pw_below_drewN | apply below_drew1) | exact HB.out))) : w.heap.size ≤ gb102)); clear HB; have HB := n0_; have BK102 := n1_; have GW102 := n2_; have GE102 := n3_; clear n0_ n1_ n2_ n3_; clear hb hbox hg; have hcz18_0 : w17.cell? ⟨gb102, 0, none⟩ = some (.int .i64 a0_0) := (blk_cell BK102.out 0).trans rfl; have hcz18_1 : w17.cell? ⟨gb102, 1, none⟩ = some (.int .i64 a0_1) := (blk_cell BK102.out 1).trans rfl; have hcz18_2 : w17.cell? ⟨gb102, 2, none⟩ = some (.int .i64 a0_2) := (blk_cell BK102.out 2).trans rfl; have hcz18_3 : w17.cell? ⟨gb102, 3, none⟩ = some (.int .i64 a0_3) := (blk_cell BK102.out 3).trans rfl; have hcz18_4 : w17.cell? ⟨gb102, 4, none⟩ = some (.int .u64 a0_4) := (blk_cell BK102.out 4).trans rfl; have hcz18_5 : w17.cell? ⟨gb102, 5, none⟩ = some (.int .i64 a0_5) := (blk_cell BK102.out 5).trans rfl; have hcz18_6 : w17.cell? ⟨gb102, 6, none⟩ = some (.int .i64 a0_6) := (blk_cell BK102.out 6).trans rfl; have hcz18_7 : w17.cell? ⟨gb102, 7, none⟩ = some (.int .i64 a0_7) := (blk_cell BK102.out 7).trans rfl; have hcz18_8 : w17.cell? ⟨gb102, 8, none⟩ = some (.int .i64 a0_8) := (blk_cell BK102.out 8).trans rfl; have hcz18_9 : w17.cell? ⟨gb102, 9, none⟩ = some (.int .u64 a0_9) := (blk_cell BK102.out 9).trans rfl; have hcz18_10 : w17.cell? ⟨gb102, 10, none⟩ = some (.int .i64 a0_10) := (blk_cell BK102.out 10).trans rfl; have hcz18_11 : w17.cell? ⟨gb102, 11, none⟩ = some (.int .i64 a0_11) := (blk_cell BK102.out 11).trans rfl; have hcz18_12 : w17.cell? ⟨gb102, 12, none⟩ = some (.int .i64 a0_12) := (blk_cell BK102.out 12).trans rfl; have hcz18_13 : w17.cell? ⟨gb102, 13, none⟩ = some (.int .i64 a0_13) := (blk_cell BK102.out 13).trans rfl; have hcz18_14 : w17.cell? ⟨gb102, 14, none⟩ = some (.int .i64 a0_14) := (blk_cell BK102.out 14).trans rfl; have hcz18_15 : w17.cell? ⟨gb102, 15, none⟩ = some (.int .i64 a0_15) := (blk_cell BK102.out 15).trans rfl; have hcz18_16 : w17.cell? ⟨gb102, 16, none⟩ = some (.int .i64 a0_16) := (blk_cell BK102.out 16).trans rfl; have hcz18_17 : w17.cell? ⟨gb102, 17, none⟩ = some (.int .u64 a0_17) := (blk_cell BK102.out 17).trans rfl; have hcz18_18 : w17.cell? ⟨gb102, 18, none⟩ = some (.int .i64 a0_18) := (blk_cell BK102.out 18).trans rfl; have hcz18_19 : w17.cell? ⟨gb102, 19, none⟩ = some (.int .i64 a0_19) := (blk_cell BK102.out 19).trans rfl; have hcz18_20 : w17.cell? ⟨gb102, 20, none⟩ = some (.int .i64 a0_20) := (blk_cell BK102.out 20).trans rfl; have hcz18_21 : w17.cell? ⟨gb102, 21, none⟩ = some (.int .i64 a0_21) := (blk_cell BK102.out 21).trans rfl; have hcz18_22 : w17.cell? ⟨gb102, 22, none⟩ = some (.int .i64 a0_22) := (blk_cell BK102.out 22).trans rfl; have hfz18_0 := blk_frozen BK102.out 0; have hfz18_1 := blk_frozen BK102.out 1; have hfz18_2 := blk_frozen BK102.out 2; have hfz18_3 := blk_frozen BK102.out 3; have hfz18_4 := blk_frozen BK102.out 4; have hfz18_5 := blk_frozen BK102.out 5; have hfz18_6 := blk_frozen BK102.out 6; have hfz18_7 := blk_frozen BK102.out 7; have hfz18_8 := blk_frozen BK102.out 8; have hfz18_9 := blk_frozen BK102.out 9; have hfz18_10 := blk_frozen BK102.out 10; have hfz18_11 := blk_frozen BK102.out 11; have hfz18_12 := blk_frozen BK102.out 12; have hfz18_13 := blk_frozen BK102.out 13; have hfz18_14 := blk_frozen BK102.out 14; have hfz18_15 := blk_frozen BK102.out 15; have hfz18_16 := blk_frozen BK102.out 16; have hfz18_17 := blk_frozen BK102.out 17; have hfz18_18 := blk_frozen BK102.out 18; have hfz18_19 := blk_frozen BK102.out 19; have hfz18_20 := blk_frozen BK102.out 20; have hfz18_21 := blk_frozen BK102.out 21; have hfz18_22 := blk_frozen BK102.out 22) | ((with_reducible refine gate_callee (f := 14) rfl ?_); refine goesL_ (some 5) rfl rfl Try.func14 (by kernel_rfl) rfl #[.int .i64 a0_0] rfl (by (try simp only [List.map_toArray, List.map_cons, List.map_nil]); first | done | rfl | (simp only [List.length_drop, List.length_take]; rfl)) ?_; (with_reducible refine (header_Known.calls k a0_0 true _ A2.out).mono ?_); rintro e w' ⟨rfl, ⟨nd, rfl⟩⟩; refine ⟨_, rfl, ?_⟩) | (go_at_call 21; (with_reducible refine (header_in.calls a0_1 0 255 true _ A4.out).mono ?_); rintro e w' ⟨rfl, ⟨nd, rfl⟩⟩) | (go_at_call 21; (with_reducible refine (header_in.calls a0_2 0 65535 true _ A6.out).mono ?_); rintro e w' ⟨rfl, ⟨nd, rfl⟩⟩) | (go_at_call 27; (with_reducible refine (ident_May.calls a0_4 a0_5 true _ A8.out).mono ?_); rintro e w19 ⟨rfl, hb⟩; have n0_ := Aside0.mk (blk_below (g := gb102) (o := .cells #[.int .i64 a0_0, .int .i64 a0_1, .int .i64 a0_2, .int .i64 a0_3, .int .u64 a0_4, .int .i64 a0_5, .int .i64 a0_6, .int .i64 a0_7, .int .i64 a0_8, .int .u64 a0_9, .int .i64 a0_10, .int .i64 a0_11, .int .i64 a0_12, .int .i64 a0_13, .int .i64 a0_14, .int .i64 a0_15, .int .i64 a0_16, .int .u64 a0_17, .int .i64 a0_18, .int .i64 a0_19, .int .i64 a0_20, .int .i64 a0_21, .int .i64 a0_22] 28 (0, 0)) (by (with_reducible repeat (first | refine blk_drewN ?_ _ | refine blk_drew ?_ | refine blk_alloc ?_ _)); exact BK102.out) hb); have n1_ := Aside0.mk (below_step (by repeat (first | (with_reducible first | exact HB.out | apply below_alloc | apply pw_below_drewN | apply below_drew1 | refine below_set ?_ GE102.out) | exact HB.out)) hb); clear BK102; clear HB; have BK102 := n0_; have HB := n1_; clear n0_ n1_; (try clear hb); (try clear hb2); (try clear hk); (try clear hi); have hcz20_0 : w19.cell? ⟨gb102, 0, none⟩ = some (.int .i64 a0_0) := (blk_cell BK102.out 0).trans rfl; have hcz20_1 : w19.cell? ⟨gb102, 1, none⟩ = some (.int .i64 a0_1) := (blk_cell BK102.out 1).trans rfl; have hcz20_2 : w19.cell? ⟨gb102, 2, none⟩ = some (.int .i64 a0_2) := (blk_cell BK102.out 2).trans rfl; have hcz20_3 : w19.cell? ⟨gb102, 3, none⟩ = some (.int .i64 a0_3) := (blk_cell BK102.out 3).trans rfl; have hcz20_4 : w19.cell? ⟨gb102, 4, none⟩ = some (.int .u64 a0_4) := (blk_cell BK102.out 4).trans rfl; have hcz20_5 : w19.cell? ⟨gb102, 5, none⟩ = some (.int .i64 a0_5) := (blk_cell BK102.out 5).trans rfl; have hcz20_6 : w19.cell? ⟨gb102, 6, none⟩ = some (.int .i64 a0_6) := (blk_cell BK102.out 6).trans rfl; have hcz20_7 : w19.cell? ⟨gb102, 7, none⟩ = some (.int .i64 a0_7) := (blk_cell BK102.out 7).trans rfl; have hcz20_8 : w19.cell? ⟨gb102, 8, none⟩ = some (.int .i64 a0_8) := (blk_cell BK102.out 8).trans rfl; have hcz20_9 : w19.cell? ⟨gb102, 9, none⟩ = some (.int .u64 a0_9) := (blk_cell BK102.out 9).trans rfl; have hcz20_10 : w19.cell? ⟨gb102, 10, none⟩ = some (.int .i64 a0_10) := (blk_cell BK102.out 10).trans rfl; have hcz20_11 : w19.cell? ⟨gb102, 11, none⟩ = some (.int .i64 a0_11) := (blk_cell BK102.out 11).trans rfl; have hcz20_12 : w19.cell? ⟨gb102, 12, none⟩ = some (.int .i64 a0_12) := (blk_cell BK102.out 12).trans rfl; have hcz20_13 : w19.cell? ⟨gb102, 13, none⟩ = some (.int .i64 a0_13) := (blk_cell BK102.out 13).trans rfl; have hcz20_14 : w19.cell? ⟨gb102, 14, none⟩ = some (.int .i64 a0_14) := (blk_cell BK102.out 14).trans rfl; have hcz20_15 : w19.cell? ⟨gb102, 15, none⟩ = some (.int .i64 a0_15) := (blk_cell BK102.out 15).trans rfl; have hcz20_16 : w19.cell? ⟨gb102, 16, none⟩ = some (.int .i64 a0_16) := (blk_cell BK102.out 16).trans rfl; have hcz20_17 : w19.cell? ⟨gb102, 17, none⟩ = some (.int .u64 a0_17) := (blk_cell BK102.out 17).trans rfl; have hcz20_18 : w19.cell? ⟨gb102, 18, none⟩ = some (.int .i64 a0_18) := (blk_cell BK102.out 18).trans rfl; have hcz20_19 : w19.cell? ⟨gb102, 19, none⟩ = some (.int .i64 a0_19) := (blk_cell BK102.out 19).trans rfl; have hcz20_20 : w19.cell? ⟨gb102, 20, none⟩ = some (.int .i64 a0_20) := (blk_cell BK102.out 20).trans rfl; have hcz20_21 : w19.cell? ⟨gb102, 21, none⟩ = some (.int .i64 a0_21) := (blk_cell BK102.out 21).trans rfl; have hcz20_22 : w19.cell? ⟨gb102, 22, none⟩ = some (.int .i64 a0_22) := (blk_cell BK102.out 22).trans rfl; have hfz20_0 := blk_frozen BK102.out 0; have hfz20_1 := blk_frozen BK102.out 1; have hfz20_2 := blk_frozen BK102.out 2; have hfz20_3 := blk_frozen BK102.out 3; have hfz20_4 := blk_frozen BK102.out 4; have hfz20_5 := blk_frozen BK102.out 5; have hfz20_6 := blk_frozen BK102.out 6; have hfz20_7 := blk_frozen BK102.out 7; have hfz20_8 := blk_frozen BK102.out 8; have hfz20_9 := blk_frozen BK102.out 9; have hfz20_10 := blk_frozen BK102.out 10; have hfz20_11 := blk_frozen BK102.out 11; have hfz20_12 := blk_frozen BK102.out 12; have hfz20_13 := blk_frozen BK102.out 13; have hfz20_14 := blk_frozen BK102.out 14; have hfz20_15 := blk_frozen BK102.out 15; have hfz20_16 := blk_frozen BK102.out 16; have hfz20_17 := blk_frozen BK102.out 17; have hfz20_18 := blk_frozen BK102.out 18; have hfz20_19 := blk_frozen BK102.out 19; have hfz20_20 := blk_frozen BK102.out 20; have hfz20_21 := blk_frozen BK102.out 21; have hfz20_22 := blk_frozen BK102.out 22) | (go_at_call 21; (with_reducible refine (header_in.calls a0_6 0 65535 false _ A10.out).mono ?_); rintro e w' ⟨rfl, ⟨nd, rfl⟩⟩))
            all_goals
              go_ret
              exact ⟨by first | rfl | (simp [errW_none, errW_some] <;> rfl) | (simp [*, errW_none, errW_some] <;> rfl), by repeat (first | (with_reducible first | exact HB.out | apply below_alloc | apply pw_below_drewN | apply below_drew1 | refine below_set ?_ GE102.out) | exact HB.out)⟩
        · replace c9 := Bool.eq_false_iff.mpr c9
          subst c9
          have H1 : (some false) = some r := by rw [if_neg (show ¬ (false = true) by decide)] at H; exact H
          clear H
          have H := H1
          clear H1
          obtain rfl := Option.some.inj H
          go_enter Try.func12, Try.ntmps12
          go_wp2_with (first | (refine big_load (g := gb102) (t := 28) (fr := (0, 0)) (n := 23) (cs := ?_) rfl rfl Try.underlying28 (by kernel_rfl) rfl ?lg ?ln ?_; (case lg => (with_reducible repeat (first | refine blk_drewN ?_ _ | refine blk_drew ?_ | refine blk_alloc ?_ _)); exact BK102.out); (case ln => rfl)) | ((with_reducible refine gate_dst (N := 1) rfl ?_); refine box_event ?hg (N := 1) ?hd (cs := #[.int .i64 a0_0, .int .i64 a0_1, .int .i64 a0_2, .int .i64 a0_3, .int .u64 a0_4, .int .i64 a0_5, .int .i64 a0_6, .int .i64 a0_7, .int .i64 a0_8, .int .u64 a0_9, .int .i64 a0_10, .int .i64 a0_11, .int .i64 a0_12, .int .i64 a0_13, .int .i64 a0_14, .int .i64 a0_15, .int .i64 a0_16, .int .u64 a0_17, .int .i64 a0_18, .int .i64 a0_19, .int .i64 a0_20, .int .i64 a0_21, .int .i64 a0_22]) (t := 28) ?hr ?_; (case hd => rfl); (case hg => rfl); (case hr => first | (go_simp; done) | (go_simp; rfl)); intro gb102 hg w21 hbox hb; have n0_ := Aside0.mk (below_step (by repeat (first | (with_reducible first | exact HB.out | apply below_alloc | apply pw_below_drewN | apply below_drew1) | exact HB.out)) hb); have n1_ := Aside0.mk (hbox); have n2_ := Aside0.mk ((by rw [hg]; exact (below_size (by repeat (first | (with_reducible first | exact HB.out | apply below_alloc | apply pw_below_drewN | apply below_drew1) | exact HB.out))) : w.heap.size ≤ gb102)); have n3_ := Aside0.mk ((by rw [hg]; exact (below_size (by repeat (first | (with_reducible first | exact HB.out | apply below_alloc | apply pw_below_drewN | apply below_drew1) | exact HB.out))) : w.heap.size ≤ gb102)); clear HB; have HB := n0_; have BK102 := n1_; have GW102 := n2_; have GE102 := n3_; clear n0_ n1_ n2_ n3_; clear hb hbox hg; have hcz22_0 : w21.cell? ⟨gb102, 0, none⟩ = some (.int .i64 a0_0) := (blk_cell BK102.out 0).trans rfl; have hcz22_1 : w21.cell? ⟨gb102, 1, none⟩ = some (.int .i64 a0_1) := (blk_cell BK102.out 1).trans rfl; have hcz22_2 : w21.cell? ⟨gb102, 2, none⟩ = some (.int .i64 a0_2) := (blk_cell BK102.out 2).trans rfl; have hcz22_3 : w21.cell? ⟨gb102, 3, none⟩ = some (.int .i64 a0_3) := (blk_cell BK102.out 3).trans rfl; have hcz22_4 : w21.cell? ⟨gb102, 4, none⟩ = some (.int .u64 a0_4) := (blk_cell BK102.out 4).trans rfl; have hcz22_5 : w21.cell? ⟨gb102, 5, none⟩ = some (.int .i64 a0_5) := (blk_cell BK102.out 5).trans rfl; have hcz22_6 : w21.cell? ⟨gb102, 6, none⟩ = some (.int .i64 a0_6) := (blk_cell BK102.out 6).trans rfl; have hcz22_7 : w21.cell? ⟨gb102, 7, none⟩ = some (.int .i64 a0_7) := (blk_cell BK102.out 7).trans rfl; have hcz22_8 : w21.cell? ⟨gb102, 8, none⟩ = some (.int .i64 a0_8) := (blk_cell BK102.out 8).trans rfl; have hcz22_9 : w21.cell? ⟨gb102, 9, none⟩ = some (.int .u64 a0_9) := (blk_cell BK102.out 9).trans rfl; have hcz22_10 : w21.cell? ⟨gb102, 10, none⟩ = some (.int .i64 a0_10) := (blk_cell BK102.out 10).trans rfl; have hcz22_11 : w21.cell? ⟨gb102, 11, none⟩ = some (.int .i64 a0_11) := (blk_cell BK102.out 11).trans rfl; have hcz22_12 : w21.cell? ⟨gb102, 12, none⟩ = some (.int .i64 a0_12) := (blk_cell BK102.out 12).trans rfl; have hcz22_13 : w21.cell? ⟨gb102, 13, none⟩ = some (.int .i64 a0_13) := (blk_cell BK102.out 13).trans rfl; have hcz22_14 : w21.cell? ⟨gb102, 14, none⟩ = some (.int .i64 a0_14) := (blk_cell BK102.out 14).trans rfl; have hcz22_15 : w21.cell? ⟨gb102, 15, none⟩ = some (.int .i64 a0_15) := (blk_cell BK102.out 15).trans rfl; have hcz22_16 : w21.cell? ⟨gb102, 16, none⟩ = some (.int .i64 a0_16) := (blk_cell BK102.out 16).trans rfl; have hcz22_17 : w21.cell? ⟨gb102, 17, none⟩ = some (.int .u64 a0_17) := (blk_cell BK102.out 17).trans rfl; have hcz22_18 : w21.cell? ⟨gb102, 18, none⟩ = some (.int .i64 a0_18) := (blk_cell BK102.out 18).trans rfl; have hcz22_19 : w21.cell? ⟨gb102, 19, none⟩ = some (.int .i64 a0_19) := (blk_cell BK102.out 19).trans rfl; have hcz22_20 : w21.cell? ⟨gb102, 20, none⟩ = some (.int .i64 a0_20) := (blk_cell BK102.out 20).trans rfl; have hcz22_21 : w21.cell? ⟨gb102, 21, none⟩ = some (.int .i64 a0_21) := (blk_cell BK102.out 21).trans rfl; have hcz22_22 : w21.cell? ⟨gb102, 22, none⟩ = some (.int .i64 a0_22) := (blk_cell BK102.out 22).trans rfl; have hfz22_0 := blk_frozen BK102.out 0; have hfz22_1 := blk_frozen BK102.out 1; have hfz22_2 := blk_frozen BK102.out 2; have hfz22_3 := blk_frozen BK102.out 3; have hfz22_4 := blk_frozen BK102.out 4; have hfz22_5 := blk_frozen BK102.out 5; have hfz22_6 := blk_frozen BK102.out 6; have hfz22_7 := blk_frozen BK102.out 7; have hfz22_8 := blk_frozen BK102.out 8; have hfz22_9 := blk_frozen BK102.out 9; have hfz22_10 := blk_frozen BK102.out 10; have hfz22_11 := blk_frozen BK102.out 11; have hfz22_12 := blk_frozen BK102.out 12; have hfz22_13 := blk_frozen BK102.out 13; have hfz22_14 := blk_frozen BK102.out 14; have hfz22_15 := blk_frozen BK102.out 15; have hfz22_16 := blk_frozen BK102.out 16; have hfz22_17 := blk_frozen BK102.out 17; have hfz22_18 := blk_frozen BK102.out 18; have hfz22_19 := blk_frozen BK102.out 19; have hfz22_20 := blk_frozen BK102.out 20; have hfz22_21 := blk_frozen BK102.out 21; have hfz22_22 := blk_frozen BK102.out 22) | ((with_reducible refine gate_callee (f := 14) rfl ?_); refine goesL_ (some 5) rfl rfl Try.func14 (by kernel_rfl) rfl #[.int .i64 a0_0] rfl (by (try simp only [List.map_toArray, List.map_cons, List.map_nil]); first | done | rfl | (simp only [List.length_drop, List.length_take]; rfl)) ?_; (with_reducible refine (header_Known.calls k a0_0 true _ A2.out).mono ?_); rintro e w' ⟨rfl, ⟨nd, rfl⟩⟩; refine ⟨_, rfl, ?_⟩) | (go_at_call 21; (with_reducible refine (header_in.calls a0_1 0 255 true _ A4.out).mono ?_); rintro e w' ⟨rfl, ⟨nd, rfl⟩⟩) | (go_at_call 21; (with_reducible refine (header_in.calls a0_2 0 65535 true _ A6.out).mono ?_); rintro e w' ⟨rfl, ⟨nd, rfl⟩⟩) | (go_at_call 27; (with_reducible refine (ident_May.calls a0_4 a0_5 false _ A8.out).mono ?_); rintro e w23 ⟨rfl, hb⟩; have n0_ := Aside0.mk (blk_below (g := gb102) (o := .cells #[.int .i64 a0_0, .int .i64 a0_1, .int .i64 a0_2, .int .i64 a0_3, .int .u64 a0_4, .int .i64 a0_5, .int .i64 a0_6, .int .i64 a0_7, .int .i64 a0_8, .int .u64 a0_9, .int .i64 a0_10, .int .i64 a0_11, .int .i64 a0_12, .int .i64 a0_13, .int .i64 a0_14, .int .i64 a0_15, .int .i64 a0_16, .int .u64 a0_17, .int .i64 a0_18, .int .i64 a0_19, .int .i64 a0_20, .int .i64 a0_21, .int .i64 a0_22] 28 (0, 0)) (by (with_reducible repeat (first | refine blk_drewN ?_ _ | refine blk_drew ?_ | refine blk_alloc ?_ _)); exact BK102.out) hb); have n1_ := Aside0.mk (below_step (by repeat (first | (with_reducible first | exact HB.out | apply below_alloc | apply pw_below_drewN | apply below_drew1 | refine below_set ?_ GE102.out) | exact HB.out)) hb); clear BK102; clear HB; have BK102 := n0_; have HB := n1_; clear n0_ n1_; (try clear hb); (try clear hb2); (try clear hk); (try clear hi)))
          all_goals
            go_ret
            exact ⟨by first | rfl | (simp [errW_none, errW_some] <;> rfl) | (simp [*, errW_none, errW_some] <;> rfl), by repeat (first | (with_reducible first | exact HB.out | apply below_alloc | apply pw_below_drewN | apply below_drew1 | refine below_set ?_ GE102.out) | exact HB.out)⟩
      · replace c7 := Bool.eq_false_iff.mpr c7
        subst c7
        have H1 : (some false) = some r := by rw [if_neg (show ¬ (false = true) by decide)] at H; exact H
        clear H
        have H := H1
        clear H1
        obtain rfl := Option.some.inj H
        go_enter Try.func12, Try.ntmps12
        go_wp2_with (first | (refine big_load (g := gb102) (t := 28) (fr := (0, 0)) (n := 23) (cs := ?_) rfl rfl Try.underlying28 (by kernel_rfl) rfl ?lg ?ln ?_; (case lg => (with_reducible repeat (first | refine blk_drewN ?_ _ | refine blk_drew ?_ | refine blk_alloc ?_ _)); exact BK102.out); (case ln => rfl)) | ((with_reducible refine gate_dst (N := 1) rfl ?_); refine box_event ?hg (N := 1) ?hd (cs := #[.int .i64 a0_0, .int .i64 a0_1, .int .i64 a0_2, .int .i64 a0_3, .int .u64 a0_4, .int .i64 a0_5, .int .i64 a0_6, .int .i64 a0_7, .int .i64 a0_8, .int .u64 a0_9, .int .i64 a0_10, .int .i64 a0_11, .int .i64 a0_12, .int .i64 a0_13, .int .i64 a0_14, .int .i64 a0_15, .int .i64 a0_16, .int .u64 a0_17, .int .i64 a0_18, .int .i64 a0_19, .int .i64 a0_20, .int .i64 a0_21, .int .i64 a0_22]) (t := 28) ?hr ?_; (case hd => rfl); (case hg => rfl); (case hr => first | (go_simp; done) | (go_simp; rfl)); intro gb102 hg w24 hbox hb; have n0_ := Aside0.mk (below_step (by repeat (first | (with_reducible first | exact HB.out | apply below_alloc | apply pw_below_drewN | apply below_drew1) | exact HB.out)) hb); have n1_ := Aside0.mk (hbox); have n2_ := Aside0.mk ((by rw [hg]; exact (below_size (by repeat (first | (with_reducible first | exact HB.out | apply below_alloc | apply pw_below_drewN | apply below_drew1) | exact HB.out))) : w.heap.size ≤ gb102)); have n3_ := Aside0.mk ((by rw [hg]; exact (below_size (by repeat (first | (with_reducible first | exact HB.out | apply below_alloc | apply pw_below_drewN | apply below_drew1) | exact HB.out))) : w.heap.size ≤ gb102)); clear HB; have HB := n0_; have BK102 := n1_; have GW102 := n2_; have GE102 := n3_; clear n0_ n1_ n2_ n3_; clear hb hbox hg; have hcz25_0 : w24.cell? ⟨gb102, 0, none⟩ = some (.int .i64 a0_0) := (blk_cell BK102.out 0).trans rfl; have hcz25_1 : w24.cell? ⟨gb102, 1, none⟩ = some (.int .i64 a0_1) := (blk_cell BK102.out 1).trans rfl; have hcz25_2 : w24.cell? ⟨gb102, 2, none⟩ = some (.int .i64 a0_2) := (blk_cell BK102.out 2).trans rfl; have hcz25_3 : w24.cell? ⟨gb102, 3, none⟩ = some (.int .i64 a0_3) := (blk_cell BK102.out 3).trans rfl; have hcz25_4 : w24.cell? ⟨gb102, 4, none⟩ = some (.int .u64 a0_4) := (blk_cell BK102.out 4).trans rfl; have hcz25_5 : w24.cell? ⟨gb102, 5, none⟩ = some (.int .i64 a0_5) := (blk_cell BK102.out 5).trans rfl; have hcz25_6 : w24.cell? ⟨gb102, 6, none⟩ = some (.int .i64 a0_6) := (blk_cell BK102.out 6).trans rfl; have hcz25_7 : w24.cell? ⟨gb102, 7, none⟩ = some (.int .i64 a0_7) := (blk_cell BK102.out 7).trans rfl; have hcz25_8 : w24.cell? ⟨gb102, 8, none⟩ = some (.int .i64 a0_8) := (blk_cell BK102.out 8).trans rfl; have hcz25_9 : w24.cell? ⟨gb102, 9, none⟩ = some (.int .u64 a0_9) := (blk_cell BK102.out 9).trans rfl; have hcz25_10 : w24.cell? ⟨gb102, 10, none⟩ = some (.int .i64 a0_10) := (blk_cell BK102.out 10).trans rfl; have hcz25_11 : w24.cell? ⟨gb102, 11, none⟩ = some (.int .i64 a0_11) := (blk_cell BK102.out 11).trans rfl; have hcz25_12 : w24.cell? ⟨gb102, 12, none⟩ = some (.int .i64 a0_12) := (blk_cell BK102.out 12).trans rfl; have hcz25_13 : w24.cell? ⟨gb102, 13, none⟩ = some (.int .i64 a0_13) := (blk_cell BK102.out 13).trans rfl; have hcz25_14 : w24.cell? ⟨gb102, 14, none⟩ = some (.int .i64 a0_14) := (blk_cell BK102.out 14).trans rfl; have hcz25_15 : w24.cell? ⟨gb102, 15, none⟩ = some (.int .i64 a0_15) := (blk_cell BK102.out 15).trans rfl; have hcz25_16 : w24.cell? ⟨gb102, 16, none⟩ = some (.int .i64 a0_16) := (blk_cell BK102.out 16).trans rfl; have hcz25_17 : w24.cell? ⟨gb102, 17, none⟩ = some (.int .u64 a0_17) := (blk_cell BK102.out 17).trans rfl; have hcz25_18 : w24.cell? ⟨gb102, 18, none⟩ = some (.int .i64 a0_18) := (blk_cell BK102.out 18).trans rfl; have hcz25_19 : w24.cell? ⟨gb102, 19, none⟩ = some (.int .i64 a0_19) := (blk_cell BK102.out 19).trans rfl; have hcz25_20 : w24.cell? ⟨gb102, 20, none⟩ = some (.int .i64 a0_20) := (blk_cell BK102.out 20).trans rfl; have hcz25_21 : w24.cell? ⟨gb102, 21, none⟩ = some (.int .i64 a0_21) := (blk_cell BK102.out 21).trans rfl; have hcz25_22 : w24.cell? ⟨gb102, 22, none⟩ = some (.int .i64 a0_22) := (blk_cell BK102.out 22).trans rfl; have hfz25_0 := blk_frozen BK102.out 0; have hfz25_1 := blk_frozen BK102.out 1; have hfz25_2 := blk_frozen BK102.out 2; have hfz25_3 := blk_frozen BK102.out 3; have hfz25_4 := blk_frozen BK102.out 4; have hfz25_5 := blk_frozen BK102.out 5; have hfz25_6 := blk_frozen BK102.out 6; have hfz25_7 := blk_frozen BK102.out 7; have hfz25_8 := blk_frozen BK102.out 8; have hfz25_9 := blk_frozen BK102.out 9; have hfz25_10 := blk_frozen BK102.out 10; have hfz25_11 := blk_frozen BK102.out 11; have hfz25_12 := blk_frozen BK102.out 12; have hfz25_13 := blk_frozen BK102.out 13; have hfz25_14 := blk_frozen BK102.out 14; have hfz25_15 := blk_frozen BK102.out 15; have hfz25_16 := blk_frozen BK102.out 16; have hfz25_17 := blk_frozen BK102.out 17; have hfz25_18 := blk_frozen BK102.out 18; have hfz25_19 := blk_frozen BK102.out 19; have hfz25_20 := blk_frozen BK102.out 20; have hfz25_21 := blk_frozen BK102.out 21; have hfz25_22 := blk_frozen BK102.out 22) | ((with_reducible refine gate_callee (f := 14) rfl ?_); refine goesL_ (some 5) rfl rfl Try.func14 (by kernel_rfl) rfl #[.int .i64 a0_0] rfl (by (try simp only [List.map_toArray, List.map_cons, List.map_nil]); first | done | rfl | (simp only [List.length_drop, List.length_take]; rfl)) ?_; (with_reducible refine (header_Known.calls k a0_0 true _ A2.out).mono ?_); rintro e w' ⟨rfl, ⟨nd, rfl⟩⟩; refine ⟨_, rfl, ?_⟩) | (go_at_call 21; (with_reducible refine (header_in.calls a0_1 0 255 true _ A4.out).mono ?_); rintro e w' ⟨rfl, ⟨nd, rfl⟩⟩) | (go_at_call 21; (with_reducible refine (header_in.calls a0_2 0 65535 false _ A6.out).mono ?_); rintro e w' ⟨rfl, ⟨nd, rfl⟩⟩))
        all_goals
          go_ret
          exact ⟨by first | rfl | (simp [errW_none, errW_some] <;> rfl) | (simp [*, errW_none, errW_some] <;> rfl), by repeat (first | (with_reducible first | exact HB.out | apply below_alloc | apply pw_below_drewN | apply below_drew1 | refine below_set ?_ GE102.out) | exact HB.out)⟩
    · replace c5 := Bool.eq_false_iff.mpr c5
      subst c5
      have H1 : (some false) = some r := by rw [if_neg (show ¬ (false = true) by decide)] at H; exact H
      clear H
      have H := H1
      clear H1
      obtain rfl := Option.some.inj H
      go_enter Try.func12, Try.ntmps12
      go_wp2_with (first | (refine big_load (g := gb102) (t := 28) (fr := (0, 0)) (n := 23) (cs := ?_) rfl rfl Try.underlying28 (by kernel_rfl) rfl ?lg ?ln ?_; (case lg => (with_reducible repeat (first | refine blk_drewN ?_ _ | refine blk_drew ?_ | refine blk_alloc ?_ _)); exact BK102.out); (case ln => rfl)) | ((with_reducible refine gate_dst (N := 1) rfl ?_); refine box_event ?hg (N := 1) ?hd (cs := #[.int .i64 a0_0, .int .i64 a0_1, .int .i64 a0_2, .int .i64 a0_3, .int .u64 a0_4, .int .i64 a0_5, .int .i64 a0_6, .int .i64 a0_7, .int .i64 a0_8, .int .u64 a0_9, .int .i64 a0_10, .int .i64 a0_11, .int .i64 a0_12, .int .i64 a0_13, .int .i64 a0_14, .int .i64 a0_15, .int .i64 a0_16, .int .u64 a0_17, .int .i64 a0_18, .int .i64 a0_19, .int .i64 a0_20, .int .i64 a0_21, .int .i64 a0_22]) (t := 28) ?hr ?_; (case hd => rfl); (case hg => rfl); (case hr => first | (go_simp; done) | (go_simp; rfl)); intro gb102 hg w26 hbox hb; have n0_ := Aside0.mk (below_step (by repeat (first | (with_reducible first | exact HB.out | apply below_alloc | apply pw_below_drewN | apply below_drew1) | exact HB.out)) hb); have n1_ := Aside0.mk (hbox); have n2_ := Aside0.mk ((by rw [hg]; exact (below_size (by repeat (first | (with_reducible first | exact HB.out | apply below_alloc | apply pw_below_drewN | apply below_drew1) | exact HB.out))) : w.heap.size ≤ gb102)); have n3_ := Aside0.mk ((by rw [hg]; exact (below_size (by repeat (first | (with_reducible first | exact HB.out | apply below_alloc | apply pw_below_drewN | apply below_drew1) | exact HB.out))) : w.heap.size ≤ gb102)); clear HB; have HB := n0_; have BK102 := n1_; have GW102 := n2_; have GE102 := n3_; clear n0_ n1_ n2_ n3_; clear hb hbox hg; have hcz27_0 : w26.cell? ⟨gb102, 0, none⟩ = some (.int .i64 a0_0) := (blk_cell BK102.out 0).trans rfl; have hcz27_1 : w26.cell? ⟨gb102, 1, none⟩ = some (.int .i64 a0_1) := (blk_cell BK102.out 1).trans rfl; have hcz27_2 : w26.cell? ⟨gb102, 2, none⟩ = some (.int .i64 a0_2) := (blk_cell BK102.out 2).trans rfl; have hcz27_3 : w26.cell? ⟨gb102, 3, none⟩ = some (.int .i64 a0_3) := (blk_cell BK102.out 3).trans rfl; have hcz27_4 : w26.cell? ⟨gb102, 4, none⟩ = some (.int .u64 a0_4) := (blk_cell BK102.out 4).trans rfl; have hcz27_5 : w26.cell? ⟨gb102, 5, none⟩ = some (.int .i64 a0_5) := (blk_cell BK102.out 5).trans rfl; have hcz27_6 : w26.cell? ⟨gb102, 6, none⟩ = some (.int .i64 a0_6) := (blk_cell BK102.out 6).trans rfl; have hcz27_7 : w26.cell? ⟨gb102, 7, none⟩ = some (.int .i64 a0_7) := (blk_cell BK102.out 7).trans rfl; have hcz27_8 : w26.cell? ⟨gb102, 8, none⟩ = some (.int .i64 a0_8) := (blk_cell BK102.out 8).trans rfl; have hcz27_9 : w26.cell? ⟨gb102, 9, none⟩ = some (.int .u64 a0_9) := (blk_cell BK102.out 9).trans rfl; have hcz27_10 : w26.cell? ⟨gb102, 10, none⟩ = some (.int .i64 a0_10) := (blk_cell BK102.out 10).trans rfl; have hcz27_11 : w26.cell? ⟨gb102, 11, none⟩ = some (.int .i64 a0_11) := (blk_cell BK102.out 11).trans rfl; have hcz27_12 : w26.cell? ⟨gb102, 12, none⟩ = some (.int .i64 a0_12) := (blk_cell BK102.out 12).trans rfl; have hcz27_13 : w26.cell? ⟨gb102, 13, none⟩ = some (.int .i64 a0_13) := (blk_cell BK102.out 13).trans rfl; have hcz27_14 : w26.cell? ⟨gb102, 14, none⟩ = some (.int .i64 a0_14) := (blk_cell BK102.out 14).trans rfl; have hcz27_15 : w26.cell? ⟨gb102, 15, none⟩ = some (.int .i64 a0_15) := (blk_cell BK102.out 15).trans rfl; have hcz27_16 : w26.cell? ⟨gb102, 16, none⟩ = some (.int .i64 a0_16) := (blk_cell BK102.out 16).trans rfl; have hcz27_17 : w26.cell? ⟨gb102, 17, none⟩ = some (.int .u64 a0_17) := (blk_cell BK102.out 17).trans rfl; have hcz27_18 : w26.cell? ⟨gb102, 18, none⟩ = some (.int .i64 a0_18) := (blk_cell BK102.out 18).trans rfl; have hcz27_19 : w26.cell? ⟨gb102, 19, none⟩ = some (.int .i64 a0_19) := (blk_cell BK102.out 19).trans rfl; have hcz27_20 : w26.cell? ⟨gb102, 20, none⟩ = some (.int .i64 a0_20) := (blk_cell BK102.out 20).trans rfl; have hcz27_21 : w26.cell? ⟨gb102, 21, none⟩ = some (.int .i64 a0_21) := (blk_cell BK102.out 21).trans rfl; have hcz27_22 : w26.cell? ⟨gb102, 22, none⟩ = some (.int .i64 a0_22) := (blk_cell BK102.out 22).trans rfl; have hfz27_0 := blk_frozen BK102.out 0; have hfz27_1 := blk_frozen BK102.out 1; have hfz27_2 := blk_frozen BK102.out 2; have hfz27_3 := blk_frozen BK102.out 3; have hfz27_4 := blk_frozen BK102.out 4; have hfz27_5 := blk_frozen BK102.out 5; have hfz27_6 := blk_frozen BK102.out 6; have hfz27_7 := blk_frozen BK102.out 7; have hfz27_8 := blk_frozen BK102.out 8; have hfz27_9 := blk_frozen BK102.out 9; have hfz27_10 := blk_frozen BK102.out 10; have hfz27_11 := blk_frozen BK102.out 11; have hfz27_12 := blk_frozen BK102.out 12; have hfz27_13 := blk_frozen BK102.out 13; have hfz27_14 := blk_frozen BK102.out 14; have hfz27_15 := blk_frozen BK102.out 15; have hfz27_16 := blk_frozen BK102.out 16; have hfz27_17 := blk_frozen BK102.out 17; have hfz27_18 := blk_frozen BK102.out 18; have hfz27_19 := blk_frozen BK102.out 19; have hfz27_20 := blk_frozen BK102.out 20; have hfz27_21 := blk_frozen BK102.out 21; have hfz27_22 := blk_frozen BK102.out 22) | ((with_reducible refine gate_callee (f := 14) rfl ?_); refine goesL_ (some 5) rfl rfl Try.func14 (by kernel_rfl) rfl #[.int .i64 a0_0] rfl (by (try simp only [List.map_toArray, List.map_cons, List.map_nil]); first | done | rfl | (simp only [List.length_drop, List.length_take]; rfl)) ?_; (with_reducible refine (header_Known.calls k a0_0 true _ A2.out).mono ?_); rintro e w' ⟨rfl, ⟨nd, rfl⟩⟩; refine ⟨_, rfl, ?_⟩) | (go_at_call 21; (with_reducible refine (header_in.calls a0_1 0 255 false _ A4.out).mono ?_); rintro e w' ⟨rfl, ⟨nd, rfl⟩⟩))
      all_goals
        go_ret
        exact ⟨by first | rfl | (simp [errW_none, errW_some] <;> rfl) | (simp [*, errW_none, errW_some] <;> rfl), by repeat (first | (with_reducible first | exact HB.out | apply below_alloc | apply pw_below_drewN | apply below_drew1 | refine below_set ?_ GE102.out) | exact HB.out)⟩
  · replace c3 := Bool.eq_false_iff.mpr c3
    subst c3
    have H1 : (some false) = some r := by rw [if_neg (show ¬ (false = true) by decide)] at H; exact H
    clear H
    have H := H1
    clear H1
    obtain rfl := Option.some.inj H
    go_enter Try.func12, Try.ntmps12
    go_wp2_with (first | (refine big_load (g := gb102) (t := 28) (fr := (0, 0)) (n := 23) (cs := ?_) rfl rfl Try.underlying28 (by kernel_rfl) rfl ?lg ?ln ?_; (case lg => (with_reducible repeat (first | refine blk_drewN ?_ _ | refine blk_drew ?_ | refine blk_alloc ?_ _)); exact BK102.out); (case ln => rfl)) | ((with_reducible refine gate_dst (N := 1) rfl ?_); refine box_event ?hg (N := 1) ?hd (cs := #[.int .i64 a0_0, .int .i64 a0_1, .int .i64 a0_2, .int .i64 a0_3, .int .u64 a0_4, .int .i64 a0_5, .int .i64 a0_6, .int .i64 a0_7, .int .i64 a0_8, .int .u64 a0_9, .int .i64 a0_10, .int .i64 a0_11, .int .i64 a0_12, .int .i64 a0_13, .int .i64 a0_14, .int .i64 a0_15, .int .i64 a0_16, .int .u64 a0_17, .int .i64 a0_18, .int .i64 a0_19, .int .i64 a0_20, .int .i64 a0_21, .int .i64 a0_22]) (t := 28) ?hr ?_; (case hd => rfl); (case hg => rfl); (case hr => first | (go_simp; done) | (go_simp; rfl)); intro gb102 hg w28 hbox hb; have n0_ := Aside0.mk (below_step (by repeat (first | (with_reducible first | exact HB.out | apply below_alloc | apply pw_below_drewN | apply below_drew1) | exact HB.out)) hb); have n1_ := Aside0.mk (hbox); have n2_ := Aside0.mk ((by rw [hg]; exact (below_size (by repeat (first | (with_reducible first | exact HB.out | apply below_alloc | apply pw_below_drewN | apply below_drew1) | exact HB.out))) : w.heap.size ≤ gb102)); have n3_ := Aside0.mk ((by rw [hg]; exact (below_size (by repeat (first | (with_reducible first | exact HB.out | apply below_alloc | apply pw_below_drewN | apply below_drew1) | exact HB.out))) : w.heap.size ≤ gb102)); clear HB; have HB := n0_; have BK102 := n1_; have GW102 := n2_; have GE102 := n3_; clear n0_ n1_ n2_ n3_; clear hb hbox hg; have hcz29_0 : w28.cell? ⟨gb102, 0, none⟩ = some (.int .i64 a0_0) := (blk_cell BK102.out 0).trans rfl; have hcz29_1 : w28.cell? ⟨gb102, 1, none⟩ = some (.int .i64 a0_1) := (blk_cell BK102.out 1).trans rfl; have hcz29_2 : w28.cell? ⟨gb102, 2, none⟩ = some (.int .i64 a0_2) := (blk_cell BK102.out 2).trans rfl; have hcz29_3 : w28.cell? ⟨gb102, 3, none⟩ = some (.int .i64 a0_3) := (blk_cell BK102.out 3).trans rfl; have hcz29_4 : w28.cell? ⟨gb102, 4, none⟩ = some (.int .u64 a0_4) := (blk_cell BK102.out 4).trans rfl; have hcz29_5 : w28.cell? ⟨gb102, 5, none⟩ = some (.int .i64 a0_5) := (blk_cell BK102.out 5).trans rfl; have hcz29_6 : w28.cell? ⟨gb102, 6, none⟩ = some (.int .i64 a0_6) := (blk_cell BK102.out 6).trans rfl; have hcz29_7 : w28.cell? ⟨gb102, 7, none⟩ = some (.int .i64 a0_7) := (blk_cell BK102.out 7).trans rfl; have hcz29_8 : w28.cell? ⟨gb102, 8, none⟩ = some (.int .i64 a0_8) := (blk_cell BK102.out 8).trans rfl; have hcz29_9 : w28.cell? ⟨gb102, 9, none⟩ = some (.int .u64 a0_9) := (blk_cell BK102.out 9).trans rfl; have hcz29_10 : w28.cell? ⟨gb102, 10, none⟩ = some (.int .i64 a0_10) := (blk_cell BK102.out 10).trans rfl; have hcz29_11 : w28.cell? ⟨gb102, 11, none⟩ = some (.int .i64 a0_11) := (blk_cell BK102.out 11).trans rfl; have hcz29_12 : w28.cell? ⟨gb102, 12, none⟩ = some (.int .i64 a0_12) := (blk_cell BK102.out 12).trans rfl; have hcz29_13 : w28.cell? ⟨gb102, 13, none⟩ = some (.int .i64 a0_13) := (blk_cell BK102.out 13).trans rfl; have hcz29_14 : w28.cell? ⟨gb102, 14, none⟩ = some (.int .i64 a0_14) := (blk_cell BK102.out 14).trans rfl; have hcz29_15 : w28.cell? ⟨gb102, 15, none⟩ = some (.int .i64 a0_15) := (blk_cell BK102.out 15).trans rfl; have hcz29_16 : w28.cell? ⟨gb102, 16, none⟩ = some (.int .i64 a0_16) := (blk_cell BK102.out 16).trans rfl; have hcz29_17 : w28.cell? ⟨gb102, 17, none⟩ = some (.int .u64 a0_17) := (blk_cell BK102.out 17).trans rfl; have hcz29_18 : w28.cell? ⟨gb102, 18, none⟩ = some (.int .i64 a0_18) := (blk_cell BK102.out 18).trans rfl; have hcz29_19 : w28.cell? ⟨gb102, 19, none⟩ = some (.int .i64 a0_19) := (blk_cell BK102.out 19).trans rfl; have hcz29_20 : w28.cell? ⟨gb102, 20, none⟩ = some (.int .i64 a0_20) := (blk_cell BK102.out 20).trans rfl; have hcz29_21 : w28.cell? ⟨gb102, 21, none⟩ = some (.int .i64 a0_21) := (blk_cell BK102.out 21).trans rfl; have hcz29_22 : w28.cell? ⟨gb102, 22, none⟩ = some (.int .i64 a0_22) := (blk_cell BK102.out 22).trans rfl; have hfz29_0 := blk_frozen BK102.out 0; have hfz29_1 := blk_frozen BK102.out 1; have hfz29_2 := blk_frozen BK102.out 2; have hfz29_3 := blk_frozen BK102.out 3; have hfz29_4 := blk_frozen BK102.out 4; have hfz29_5 := blk_frozen BK102.out 5; have hfz29_6 := blk_frozen BK102.out 6; have hfz29_7 := blk_frozen BK102.out 7; have hfz29_8 := blk_frozen BK102.out 8; have hfz29_9 := blk_frozen BK102.out 9; have hfz29_10 := blk_frozen BK102.out 10; have hfz29_11 := blk_frozen BK102.out 11; have hfz29_12 := blk_frozen BK102.out 12; have hfz29_13 := blk_frozen BK102.out 13; have hfz29_14 := blk_frozen BK102.out 14; have hfz29_15 := blk_frozen BK102.out 15; have hfz29_16 := blk_frozen BK102.out 16; have hfz29_17 := blk_frozen BK102.out 17; have hfz29_18 := blk_frozen BK102.out 18; have hfz29_19 := blk_frozen BK102.out 19; have hfz29_20 := blk_frozen BK102.out 20; have hfz29_21 := blk_frozen BK102.out 21; have hfz29_22 := blk_frozen BK102.out 22) | ((with_reducible refine gate_callee (f := 14) rfl ?_); refine goesL_ (some 5) rfl rfl Try.func14 (by kernel_rfl) rfl #[.int .i64 a0_0] rfl (by (try simp only [List.map_toArray, List.map_cons, List.map_nil]); first | done | rfl | (simp only [List.length_drop, List.length_take]; rfl)) ?_; (with_reducible refine (header_Known.calls k a0_0 false _ A2.out).mono ?_); rintro e w' ⟨rfl, ⟨nd, rfl⟩⟩; refine ⟨_, rfl, ?_⟩))
    all_goals
      go_ret
      exact ⟨by first | rfl | (simp [errW_none, errW_some] <;> rfl) | (simp [*, errW_none, errW_some] <;> rfl), by repeat (first | (with_reducible first | exact HB.out | apply below_alloc | apply pw_below_drewN | apply below_drew1 | refine below_set ?_ GE102.out) | exact HB.out)⟩

/-! ### octets_Put: function 22: by hand -/
/-- The n lowest bytes of v, the highest first. -/
def octets_Put.bytes (v : Int) : Nat → List Int
  | 0 => []
  | n + 1 => (v / 256 ^ n) % 256 :: octets_Put.bytes v n
theorem octets_Put.bytes_length (v : Int) (n : Nat) : (octets_Put.bytes v n).length = n := by
  induction n with
  | zero => rfl
  | succ n ih => simp [octets_Put.bytes, ih]
/-- What octets.Put answers: the bytes behind those that came in (n of 1 at least). -/
def octets_Put.f (l0 : List Int) (a1 : Int) (a2 : Int) : Option (List Int) :=
  if 1 ≤ a2 ∧ l0.length ≤ 140737488355320 then some (l0 ++ octets_Put.bytes a1 (mn a2 8).toNat) else none
theorem octets_Put.nat8 (a2 : Int) (h : 1 ≤ a2) : ∃ m : Nat, mn a2 8 = (m : Int) + 1 ∧ m ≤ 7 := by
  refine ⟨(mn a2 8 - 1).toNat, ?_, ?_⟩ <;> (unfold mn; split <;> omega)
/-- An append to a slice without room: what comes is new. -/
theorem octets_Put.capped {P : Program} {ops : Array Oper} {rest : List Oper} {o : Oper} {a : Act} {Q : Exit → Act → World → Prop} {w0 W : World} (base : Nat) (hgd : o.guard = none) (s x : Operand) (t e : TypeId) (z : Value) (bytes : Nat)
    (ho : o.op = .call { callee := .builtin .append, args := #[s, x], argTypes := #[t, t] })
    (ht : P.underlying t = some (.slice e)) (hinfo : (P.info? e).map (fun i => (i.zero, i.size, i.bytes)) = some (some z, 1, bytes)) (hz : z.cells.size = 1) (hb0 : 0 < bytes) (k : IntKind)
    (A : Option Addr) (xs : List Int) (y : Int) (hs : a.eval s = .slice A xs.length xs.length) (hx : a.eval x = .slice (some ⟨W.heap.size, 0, none⟩) 1 1)
    (HR : Kd.C (Kd.int k) W A xs.length xs) (HB : Below base w0 W) (hbase : base ≤ W.heap.size) (hl : (xs.length + 1) * bytes ≤ 140737488355328)
    (h : ∀ v1 w1, Kd.R (Kd.int k) e w1 base (fun _ => True) v1 (xs ++ [y]) → Below base w0 w1 → wpList P ops Q rest (a.put o.dst v1) w1) :
    wpList P ops Q (o :: rest) a (W.alloc (.cells #[.int k y] e)) := by
  obtain ⟨i0, hi, hzz⟩ := Option.map_eq_some_iff.1 hinfo
  simp only [Prod.mk.injEq] at hzz
  obtain ⟨hz0, hz1, hz2⟩ := hzz
  have hlen : xs.length + 1 ≤ 140737488355328 := Nat.le_trans (Nat.le_mul_of_pos_right _ hb0) hl
  have hrd := Kd.reads_of_C (d := (0 : Int)) HR
  have hB2 : Below base w0 (W.alloc (.cells #[.int k y] e)) := HB.alloc hbase _
  refine wpList_append_grows (W.alloc (.cells #[.int k y] e)) hgd s x t ho e i0 z 1 bytes ht hi hz0 hz1 hz2 hz (by omega) A xs.length xs.length (encs (Value.int k) xs) hs ?_ (by simp [encs_length]) ?_ ⟨W.heap.size, 0, none⟩ 1 1 [.int k y] hx rfl (World.news_of_block (cs := #[.int k y]) (t := e) (fr := (0, 0)) (heap_alloc_new W _)) (by simp [Value.oneCell']) (by omega) (by simp only [maxLen]; omega) hl ?_
  · rintro rfl
    rcases Nat.eq_zero_or_pos xs.length with h0 | h0
    · exact ⟨h0, h0⟩
    · obtain ⟨ad, e1, _⟩ := hrd.2.2 h0
      cases e1
  · rintro b rfl j u hj
    have hjl : j < xs.length := by have := (List.getElem?_eq_some_iff.1 hj).1; simpa [encs_length] using this
    obtain ⟨ad, e1, hc⟩ := hrd.2.2 (by omega)
    injection e1 with e1
    subst e1
    have h1 := hc j hjl
    have h2 : u = .int k (xs.getD j 0) := by
      simp only [encs, List.getElem?_map, List.getElem?_eq_getElem hjl, Option.map_some, Option.some.injEq] at hj
      rw [← hj, List.getD_eq_getElem?_getD, List.getElem?_eq_getElem hjl]
      rfl
    rw [h2]
    exact pw_cell_below (below_alloc (Below.refl _ _) _) h1
  · intro v1 w1 hown hg
    have hown2 : w1.ownsRow base e 1 v1 (xs ++ [y]).length (encs (Value.int k) (xs ++ [y])) := by
      have h3 : encs (Value.int k) (xs ++ [y]) = encs (Value.int k) xs ++ [.int k y] := by simp [encs]
      rw [h3, List.length_append]
      exact own_weaken hown (by simp; omega)
    exact h v1 w1 (Kd.R_of_own hown2 (fun _ _ => trivial)) (pw_below_grown hB2 none (by simp; omega) hg (by simp))
set_option maxHeartbeats 1000000 in
set_option maxRecDepth 100000 in
theorem octets_Put.calls (A0 : Option Addr) (c0 : Nat) (l0 : List Int) (a1 : Int) (a2 : Int) (r : List Int) (w : World) (hr0 : Kd.C (Kd.int .u8) w A0 l0.length l0) (hc0 : l0.length ≤ c0) (h : octets_Put.f l0 a1 a2 = some r) :
    Calls Try.prog 22 #[.slice A0 l0.length c0, .int .i64 a1, .int .i64 a2] w fun e w' => ∃ v0_ : Value, e = .returned (v0_) ∧ Kd.R (Kd.int .u8) 5 w' w.heap.size (fun _ => True) v0_ r ∧ Below w.heap.size w w' := by
  obtain ⟨m, hm, hm7⟩ : ∃ m : Nat, mn a2 8 = (m : Int) + 1 ∧ m ≤ 7 := octets_Put.nat8 a2 (by
    unfold octets_Put.f at h
    split at h
    · rename_i hh; exact hh.1
    · cases h)
  have Hm := Aside0.mk hm
  have Hl : Aside0 ((l0.length + 1) * 1 ≤ 140737488355328) := ⟨by
    unfold octets_Put.f at h
    split at h
    · rename_i hh; omega
    · cases h⟩
  have hm_ : (if 8 < a2 then 8 else a2) = (m : Int) + 1 := hm
  have hx_ : (if 0 < (m : Int) + 1 then (m : Int) + 1 else 0) = (m : Int) + 1 := if_pos (by omega)
  clear hm
  go_enter Try.func22, Try.ntmps22
  go_wp2
  refine wp_scope_jumps 0 (fun a' w' => ∃ (i : Nat) (u t8 t9 t10 t11 t12 t13 t14 t15 t16 t17 t18 t19 t20 t21 t22 t23 t24 t25 t26 t27 t28 t29 : Value) (xs : List Int), a' = { tmps := #[u, .int .i64 a1, .int .i64 a2, undef, undef, undef, .slice none 0 0, .int .i64 i, t8, t9, t10, t11, t12, t13, t14, t15, t16, t17, t18, t19, t20, t21, t22, t23, t24, t25, t26, t27, t28, t29], defers := [] } ∧ i ≤ m ∧ Aside0 (xs ++ octets_Put.bytes a1 i = l0 ++ octets_Put.bytes a1 (m + 1)) ∧ Aside0 (Kd.R (Kd.int .u8) 5 w' w.heap.size (fun _ => True) u xs) ∧ Aside0 (Below w.heap.size w w')) (fun a' _ => match a'.tmps.getD 7 undef with | .int _ q => q.toNat | _ => 0) rfl ?_ ?_
  · go_wp2
    clear hm_ hx_
    have HR := Aside0.mk hr0
    clear hr0
    go_step3
    go_wp2_with ((with_reducible refine gate_builtin (b := .append) (xs := #[.tmp 21, .tmp 27]) rfl ?_); at_builtin; refine octets_Put.capped (w0 := w) w.heap.size rfl (.tmp 21) (.tmp 27) 29 5 (.int .u8 0) 1 rfl Try.underlying29 info5 rfl (by omega) .u8 A0 l0 _ rfl rfl HR.out (Below.refl _ _) (Nat.le_refl _) ?aL ?_; (case aL => exact Hl.out); intro v1 w1 hR hB; have HR1 := Aside0.mk hR; have HB1 := Aside0.mk hB; clear hR hB)
    go_step3
    refine ⟨rfl, m, v1, _, _, _, _, _, _, _, _, _, _, _, _, _, _, _, _, _, _, _, _, _, _, l0 ++ [a1 / 256 ^ m % 256], rfl, Nat.le_refl _, ⟨by simp [octets_Put.bytes]⟩, ⟨?_⟩, HB1⟩
    have e1 : (2 : Int) ^ (8 * m) = 256 ^ m := by rw [Int.pow_mul]; rfl
    rw [← e1]
    exact HR1.out
  · rintro a' w' ⟨i, u, t8, t9, t10, t11, t12, t13, t14, t15, t16, t17, t18, t19, t20, t21, t22, t23, t24, t25, t26, t27, t28, t29, xs, rfl, him, HX, HR, HB⟩
    clear hm_ hx_ hr0
    cases i with
    | zero =>
      go_wp2
      simp only [Exit.jump]
      go_ret
      refine ⟨u, rfl, ?_, HB.out⟩
      have hx : xs = r := by
        have h1 := HX.out
        unfold octets_Put.f at h
        split at h
        · injection h with h
          rw [Hm.out] at h
          have h2 : ((m : Int) + 1).toNat = m + 1 := by omega
          rw [h2] at h
          rw [← h, ← h1]
          simp [octets_Put.bytes]
        · cases h
      rw [← hx]
      exact HR.out
    | succ i =>
      have Hlx : Aside0 ((xs.length + 1) * 1 ≤ 140737488355328) := ⟨by
        have h1 := congrArg List.length HX.out
        simp only [List.length_append, octets_Put.bytes_length] at h1
        unfold octets_Put.f at h
        split at h
        · rename_i hh; omega
        · cases h⟩
      go_wp2_with ((with_reducible refine gate_builtin (b := .append) (xs := #[.tmp 21, .tmp 27]) rfl ?_); at_builtin; refine print_append_of (w0 := w) (Value.int .u8) w.heap.size rfl (.tmp 21) (.tmp 27) 29 5 (.int .u8 0) 1 rfl Try.underlying29 info5 rfl (by omega) u xs _ rfl rfl rfl (Kd.own_of_R HR.out) HB.out (below_size HB.out) Hlx.out ?_; intro v1 w1 hown hB hg hat; have HR1 := Aside0.mk hown; have HB1 := Aside0.mk hB; clear hown hB hg hat)
      go_step3
      refine ⟨rfl, ⟨i, v1, _, _, _, _, _, _, _, _, _, _, _, _, _, _, _, _, _, _, _, _, _, _, xs ++ [a1 / 256 ^ i % 256], rfl, by omega, ⟨by rw [← HX.out]; simp [octets_Put.bytes]⟩, ⟨?_⟩, HB1⟩, ?_⟩
      · have e1 : (2 : Int) ^ (8 * i) = 256 ^ i := by rw [Int.pow_mul]; rfl
        rw [← e1]
        exact Kd.R_of_own HR1.out (fun _ _ => trivial)
      · simp
set_option maxHeartbeats 1000000 in
set_option maxRecDepth 100000 in
/-- No bytes: what came in, without room behind it. -/
theorem octets_Put.calls0 (A0 : Option Addr) (c0 : Nat) (l0 : List Int) (a1 : Int) (a2 : Int) (w : World) (hc0 : l0.length ≤ c0) (h : ¬ 1 ≤ a2) :
    Calls Try.prog 22 #[.slice A0 l0.length c0, .int .i64 a1, .int .i64 a2] w fun e w' => e = .returned (.slice A0 l0.length l0.length) ∧ Below w.heap.size w w' := by
  have hx_ : (if 0 < (if 8 < a2 then 8 else a2) then (if 8 < a2 then 8 else a2) else 0) = 0 := by
    split <;> omega
  have hm_ : ¬ 8 < a2 := by omega
  have hp_ : ¬ 0 < a2 := by omega
  go_enter Try.func22, Try.ntmps22
  go_wp2
  refine wp_scope_jumps 0 (fun _ _ => False) (fun _ _ => 0) rfl ?_ (fun _ _ h => h.elim)
  go_wp2
  go_step3
  go_wp2
  (try simp only [Exit.jump])
  go_ret
  exact ⟨by first | rfl | simp, Below.refl _ _⟩


/-! ### octets_PutId: function 36 -/
def octets_PutId.f (l0 : List Int) (a1 : Int) : Option (List Int) := (octets_Put.f l0 (wrap64 (a1)) 8).bind fun t109 => (some t109)
set_option maxHeartbeats 8000000 in
set_option maxRecDepth 100000 in
theorem octets_PutId.calls (A0 : Option Addr) (c0 : Nat) (l0 : List Int) (a1 : Int) (r : List Int) (w : World) (hr0 : Kd.C (Kd.int .u8) w A0 l0.length l0) (hc0 : l0.length ≤ c0) (h : octets_PutId.f l0 a1 = some r) :
    Calls Try.prog 36 #[.slice A0 l0.length c0, .int .u64 a1] w fun e w' => ∃ v0_ : Value, e = .returned (v0_) ∧ Kd.R (Kd.int .u8) 5 w' w.heap.size (fun _ => True) v0_ r ∧ Below w.heap.size w w' := by
  have HR0 := Aside0.mk hr0
  have HC0 := Aside0.mk hc0
  clear hr0 hc0
  have HB := Aside0.mk (Below.refl w.heap.size w)
  have H : ((octets_Put.f l0 (wrap64 (a1)) 8).bind fun t109 => (some t109)) = some r := h
  clear h
  replace H := Option.bind_eq_some_iff.mp H
  obtain ⟨t109, A30, H⟩ := H
  replace H : (some t109) = some r := H
  have A3 := Aside0.mk A30
  clear A30
  obtain rfl := Option.some.inj H
  go_enter Try.func36, Try.ntmps36
  go_wp2_with (first | ((with_reducible refine gate_callee (f := 22) rfl ?_); refine goesL_ (some 8) rfl rfl Try.func22 (by kernel_rfl) rfl #[.slice A0 l0.length c0, .int .i64 (wrap64 (a1)), .int .i64 8] rfl (by (try simp only [List.map_toArray, List.map_cons, List.map_nil]); first | done | rfl | (simp only [List.length_drop, List.length_take]; rfl)) ?_; (with_reducible refine (octets_Put.calls _ _ l0 (wrap64 (a1)) 8 t109 _ ?side1 ?side2 A3.out).mono ?_); (case side1 => repeat (first | exact HR0.out | (with_reducible refine Kd.C_alloc ?_ _) | (with_reducible refine Kd.C_drewN ?_ _) | (with_reducible refine Kd.C_drew ?_))); (case side2 => exact HC0.out); rintro e w4 ⟨v110, rfl, ho0, hb⟩; refine ⟨_, rfl, ?_⟩; have n0_ := Aside0.mk (Kd.R_lower ho0 (below_size (by repeat (first | (with_reducible first | exact HB.out | apply below_alloc | apply pw_below_drewN | apply below_drew1) | exact HB.out)))); have n1_ := Aside0.mk (below_step (by repeat (first | (with_reducible first | exact HB.out | apply below_alloc | apply pw_below_drewN | apply below_drew1) | exact HB.out)) hb); clear HB; have HO111 := n0_; have HB := n1_; clear n0_ n1_; (try clear hb); (try clear hb2); (try clear hk); (try clear hi); (try clear ho0)))
  all_goals
    go_ret
    exact ⟨_, by first | rfl | (simp [errW_none, errW_some] <;> rfl) | (simp [*, errW_none, errW_some] <;> rfl), by (with_reducible repeat (first | apply Kd.R_alloc | apply Kd.R_drewN | apply Kd.R_drew)); exact HO111.out, by repeat (first | (with_reducible first | exact HB.out | apply below_alloc | apply pw_below_drewN | apply below_drew1) | exact HB.out)⟩

end Go.Proofs.Ytcflafkafbpibaa.P
