/- Functions and loops of the given program as Lean functions, and that the code comes to what they say: written by this session's own program; Lean checks it. -/
import Derived.Test.YtiomlbkakiienaaZzPx0
namespace Go.Proofs.Ytiomlbkakiienaa.P
open Go.RowKit Go.Proofs.YtiomlbkakiienaaW.PrintWords Go.Proofs.YtiomlbkakiienaaW.PrintLast Go.Proofs.YtiomlbkakiienaaW.PrintMore
attribute [local go_sem] max2_int min2_int max_two min_two max_three min_three max_four min_four   -- for this text's walks alone
set_option linter.unusedVariables false
set_option linter.unusedSimpArgs false
def header_in.f (a0 : Int) (a1 : Int) (a2 : Int) : Option (Bool) := if a0 ≥ a1 then (some (decide (a0 ≤ a2))) else (some false)
set_option maxHeartbeats 8000000 in
set_option maxRecDepth 100000 in
theorem header_in.calls (a0 : Int) (a1 : Int) (a2 : Int) (r : Bool) (w : World) (h : header_in.f a0 a1 a2 = some r) :
    Calls Try.prog 44 #[.int .i64 a0, .int .i64 a1, .int .i64 a2] w fun e w' => e = .returned (.bool r) ∧ Drawn0 w w' := by
  have H : (if a0 ≥ a1 then (some (decide (a0 ≤ a2))) else (some false)) = some r := h
  clear h
  by_cases c4 : a0 ≥ a1
  · rw [if_pos c4] at H
    have c4b0 : decide (a1 ≤ a0) = true := decide_eq_true c4
    clear c4
    obtain rfl := Option.some.inj H
    go_enter Try.func44, Try.ntmps44
    go_wp2
    all_goals
      go_ret
      exact ⟨by first | rfl | (simp; done) | (simp [*]; done), by repeat (first | exact Drawn0.refl _ | apply Drawn0.step)⟩
  · rw [if_neg c4] at H
    have c4b0 : decide (a1 ≤ a0) = false := decide_eq_false c4
    clear c4
    obtain rfl := Option.some.inj H
    go_enter Try.func44, Try.ntmps44
    go_wp2
    all_goals
      go_ret
      exact ⟨by first | rfl | (simp; done) | (simp [*]; done), by repeat (first | exact Drawn0.refl _ | apply Drawn0.step)⟩
def header_Known.j0 : Nat → Int → Bool → Option (Bool)
  | 0, _, _ => none
  | k + 1, x3, x4 => if x4 = true then (some true) else (if x3 = 8 then (some true) else (if x3 = 9 then (some true) else (if x3 = 10 then (some true) else (if x3 = 11 then (some true) else (if x3 = 12 then (some true) else (if x3 = 13 then (some true) else (some false)))))))
def header_Known.f (k : Nat) (a0 : Int) : Option (Bool) := if a0 = 0 then (header_Known.j0 k a0 (a0 == 0)) else (if a0 = 1 then (header_Known.j0 k a0 (a0 == 1)) else (if a0 = 2 then (header_Known.j0 k a0 (a0 == 2)) else (header_Known.j0 k a0 (a0 == 3))))
set_option maxHeartbeats 8000000 in
set_option maxRecDepth 100000 in
theorem header_Known.calls (k : Nat) (a0 : Int) (r : Bool) (w : World) (h : header_Known.f k a0 = some r) :
    Calls Try.prog 60 #[.int .i64 a0] w fun e w' => e = .returned (.bool r) ∧ Drawn0 w w' := by
  have H : (if a0 = 0 then (header_Known.j0 k a0 (a0 == 0)) else (if a0 = 1 then (header_Known.j0 k a0 (a0 == 1)) else (if a0 = 2 then (header_Known.j0 k a0 (a0 == 2)) else (header_Known.j0 k a0 (a0 == 3))))) = some r := h
  clear h
  have HC2 := Aside0.mk H
  clear H
  go_enter Try.func60, Try.ntmps60
  go_upto_if 4 with (fail)
  go_cut [4] (fun v4 wc => ∃ (kq : Nat) (x4_1 : Bool), v4 = .bool x4_1 ∧ Aside0 (header_Known.j0 kq a0 x4_1 = some r) ∧ Aside0 (kq ≤ k) ∧ Drawn0 w wc)
  case first =>
    have H := HC2.out
    clear HC2
    by_cases c3 : a0 = 0
    · rw [if_pos c3] at H
      have c3b0 : (a0 == 0) = true := beq_iff_eq.mpr c3
      have c3b1 : (a0 != 0) = false := bne_eq_false_iff_eq.mpr c3
      clear c3
      (first | rw [c3b0] | (simp only [i64_w, i32_w]; rw [c3b0]) | skip)
      have H' := Aside0.mk H
      clear H
      go_wp2
      go_meet
      case rel => exact ⟨_, ((a0 == 0)), (by first | rfl | (simp; done) | (simp [*]; done)), H', ⟨by first | omega | exact Nat.le_refl _⟩, by repeat (first | exact Drawn0.refl _ | apply Drawn0.step)⟩
    · rw [if_neg c3] at H
      have c3b0 : (a0 == 0) = false := beq_eq_false_iff_ne.mpr c3
      have c3b1 : (a0 != 0) = true := bne_iff_ne.mpr c3
      (first | rw [c3b0] | (simp only [i64_w, i32_w]; rw [c3b0]) | skip)
      by_cases c4 : a0 = 1
      · rw [if_pos c4] at H
        have c4b0 : (a0 == 1) = true := beq_iff_eq.mpr c4
        have c4b1 : (a0 != 1) = false := bne_eq_false_iff_eq.mpr c4
        clear c4
        have H' := Aside0.mk H
        clear H
        go_wp2
        go_meet
        case rel => exact ⟨_, ((a0 == 1)), (by first | rfl | (simp; done) | (simp [*]; done)), H', ⟨by first | omega | exact Nat.le_refl _⟩, by repeat (first | exact Drawn0.refl _ | apply Drawn0.step)⟩
      · rw [if_neg c4] at H
        have c4b0 : (a0 == 1) = false := beq_eq_false_iff_ne.mpr c4
        have c4b1 : (a0 != 1) = true := bne_iff_ne.mpr c4
        by_cases c5 : a0 = 2
        · rw [if_pos c5] at H
          have c5b0 : (a0 == 2) = true := beq_iff_eq.mpr c5
          have c5b1 : (a0 != 2) = false := bne_eq_false_iff_eq.mpr c5
          clear c5
          have H' := Aside0.mk H
          clear H
          go_wp2
          go_meet
          case rel => exact ⟨_, ((a0 == 2)), (by first | rfl | (simp; done) | (simp [*]; done)), H', ⟨by first | omega | exact Nat.le_refl _⟩, by repeat (first | exact Drawn0.refl _ | apply Drawn0.step)⟩
        · rw [if_neg c5] at H
          have c5b0 : (a0 == 2) = false := beq_eq_false_iff_ne.mpr c5
          have c5b1 : (a0 != 2) = true := bne_iff_ne.mpr c5
          have H' := Aside0.mk H
          clear H
          go_wp2
          go_meet
          case rel => exact ⟨_, ((a0 == 3)), (by first | rfl | (simp; done) | (simp [*]; done)), H', ⟨by first | omega | exact Nat.le_refl _⟩, by repeat (first | exact Drawn0.refl _ | apply Drawn0.step)⟩
  case rest =>
    clear HC2
    try clear p2
    try clear c3
    try clear c3b0
    try clear c3b1
    try clear c4
    try clear c4b0
    try clear c4b1
    try clear c5
    try clear c5b0
    try clear c5b1
    obtain ⟨kq, x4_1, rfl, HA, HJ1, ⟨mc1, rfl⟩⟩ := hcut
    cases kq with
    | zero => exact absurd HA.out (by simp [header_Known.j0])
    | succ kj1 =>
      have H := HA.out
      clear HA
      simp only [header_Known.j0] at H
      by_cases c6 : x4_1 = true
      · subst c6
        have H1 : (some true) = some r := by rw [if_pos rfl] at H; exact H
        clear H
        have H := H1
        clear H1
        obtain rfl := Option.some.inj H
        go_wp2
        all_goals
          go_ret
          exact ⟨by first | rfl | (simp; done) | (simp [*]; done), by repeat (first | exact Drawn0.refl _ | apply Drawn0.step)⟩
      · replace c6 := Bool.eq_false_iff.mpr c6
        subst c6
        have H1 : (if a0 = 8 then (some true) else (if a0 = 9 then (some true) else (if a0 = 10 then (some true) else (if a0 = 11 then (some true) else (if a0 = 12 then (some true) else (if a0 = 13 then (some true) else (some false))))))) = some r := by rw [if_neg (show ¬ (false = true) by decide)] at H; exact H
        clear H
        have H := H1
        clear H1
        by_cases c7 : a0 = 8
        · rw [if_pos c7] at H
          have c7b0 : (a0 == 8) = true := beq_iff_eq.mpr c7
          have c7b1 : (a0 != 8) = false := bne_eq_false_iff_eq.mpr c7
          clear c7
          obtain rfl := Option.some.inj H
          go_wp2
          all_goals
            go_ret
            exact ⟨by first | rfl | (simp; done) | (simp [*]; done), by repeat (first | exact Drawn0.refl _ | apply Drawn0.step)⟩
        · rw [if_neg c7] at H
          have c7b0 : (a0 == 8) = false := beq_eq_false_iff_ne.mpr c7
          have c7b1 : (a0 != 8) = true := bne_iff_ne.mpr c7
          by_cases c8 : a0 = 9
          · rw [if_pos c8] at H
            have c8b0 : (a0 == 9) = true := beq_iff_eq.mpr c8
            have c8b1 : (a0 != 9) = false := bne_eq_false_iff_eq.mpr c8
            clear c8
            obtain rfl := Option.some.inj H
            go_wp2
            all_goals
              go_ret
              exact ⟨by first | rfl | (simp; done) | (simp [*]; done), by repeat (first | exact Drawn0.refl _ | apply Drawn0.step)⟩
          · rw [if_neg c8] at H
            have c8b0 : (a0 == 9) = false := beq_eq_false_iff_ne.mpr c8
            have c8b1 : (a0 != 9) = true := bne_iff_ne.mpr c8
            by_cases c9 : a0 = 10
            · rw [if_pos c9] at H
              have c9b0 : (a0 == 10) = true := beq_iff_eq.mpr c9
              have c9b1 : (a0 != 10) = false := bne_eq_false_iff_eq.mpr c9
              clear c9
              obtain rfl := Option.some.inj H
              go_wp2
              all_goals
                go_ret
                exact ⟨by first | rfl | (simp; done) | (simp [*]; done), by repeat (first | exact Drawn0.refl _ | apply Drawn0.step)⟩
            · rw [if_neg c9] at H
              have c9b0 : (a0 == 10) = false := beq_eq_false_iff_ne.mpr c9
              have c9b1 : (a0 != 10) = true := bne_iff_ne.mpr c9
              by_cases c10 : a0 = 11
              · rw [if_pos c10] at H
                have c10b0 : (a0 == 11) = true := beq_iff_eq.mpr c10
                have c10b1 : (a0 != 11) = false := bne_eq_false_iff_eq.mpr c10
                clear c10
                obtain rfl := Option.some.inj H
                go_wp2
                all_goals
                  go_ret
                  exact ⟨by first | rfl | (simp; done) | (simp [*]; done), by repeat (first | exact Drawn0.refl _ | apply Drawn0.step)⟩
              · rw [if_neg c10] at H
                have c10b0 : (a0 == 11) = false := beq_eq_false_iff_ne.mpr c10
                have c10b1 : (a0 != 11) = true := bne_iff_ne.mpr c10
                by_cases c11 : a0 = 12
                · rw [if_pos c11] at H
                  have c11b0 : (a0 == 12) = true := beq_iff_eq.mpr c11
                  have c11b1 : (a0 != 12) = false := bne_eq_false_iff_eq.mpr c11
                  clear c11
                  obtain rfl := Option.some.inj H
                  go_wp2
                  all_goals
                    go_ret
                    exact ⟨by first | rfl | (simp; done) | (simp [*]; done), by repeat (first | exact Drawn0.refl _ | apply Drawn0.step)⟩
                · rw [if_neg c11] at H
                  have c11b0 : (a0 == 12) = false := beq_eq_false_iff_ne.mpr c11
                  have c11b1 : (a0 != 12) = true := bne_iff_ne.mpr c11
                  by_cases c12 : a0 = 13
                  · rw [if_pos c12] at H
                    have c12b0 : (a0 == 13) = true := beq_iff_eq.mpr c12
                    have c12b1 : (a0 != 13) = false := bne_eq_false_iff_eq.mpr c12
                    clear c12
                    obtain rfl := Option.some.inj H
                    go_wp2
                    all_goals
                      go_ret
                      exact ⟨by first | rfl | (simp; done) | (simp [*]; done), by repeat (first | exact Drawn0.refl _ | apply Drawn0.step)⟩
                  · rw [if_neg c12] at H
                    have c12b0 : (a0 == 13) = false := beq_eq_false_iff_ne.mpr c12
                    have c12b1 : (a0 != 13) = true := bne_iff_ne.mpr c12
                    obtain rfl := Option.some.inj H
                    go_wp2
                    all_goals
                      go_ret
                      exact ⟨by first | rfl | (simp; done) | (simp [*]; done), by repeat (first | exact Drawn0.refl _ | apply Drawn0.step)⟩
def ident_May.f (a0_0 : Int) (a0_1 : Int) : Option (Bool) := if a0_1 ≥ 0 then (some (decide (a0_1 ≤ 65535))) else (some false)
set_option maxHeartbeats 8000000 in
set_option maxRecDepth 100000 in
theorem ident_May.calls (a0_0 : Int) (a0_1 : Int) (r : Bool) (w : World) (h : ident_May.f a0_0 a0_1 = some r) :
    Calls Try.prog 76 #[.agg #[.int .u64 a0_0, .int .i64 a0_1]] w fun e w' => e = .returned (.bool r) ∧ Below w.heap.size w w' := by
  have hu24 := Try.underlying24
  have HB := Aside0.mk (Below.refl w.heap.size w)
  have H : (if a0_1 ≥ 0 then (some (decide (a0_1 ≤ 65535))) else (some false)) = some r := h
  clear h
  by_cases c2 : a0_1 ≥ 0
  · rw [if_pos c2] at H
    have c2b0 : decide (0 ≤ a0_1) = true := decide_eq_true c2
    clear c2
    obtain rfl := Option.some.inj H
    go_enter Try.func76, Try.ntmps76
    go_wp2_with (first | ((with_reducible refine gate_dst (N := 1) rfl ?_); refine box_event ?hg (N := 1) ?hd (cs := #[.int .u64 a0_0, .int .i64 a0_1]) (t := 24) ?hr ?_; (case hd => rfl); (case hg => rfl); (case hr => first | (go_simp; done) | (go_simp; rfl)); intro gb101 hg w3 hbox hb; have n0_ := Aside0.mk (below_step (by repeat (first | (with_reducible first | exact HB.out | apply below_alloc | apply pw_below_drewN | apply below_drew1) | exact HB.out)) hb); have n1_ := Aside0.mk (hbox); have n2_ := Aside0.mk ((by rw [hg]; exact (below_size (by repeat (first | (with_reducible first | exact HB.out | apply below_alloc | apply pw_below_drewN | apply below_drew1) | exact HB.out))) : w.heap.size ≤ gb101)); have n3_ := Aside0.mk ((by rw [hg]; exact (below_size (by repeat (first | (with_reducible first | exact HB.out | apply below_alloc | apply pw_below_drewN | apply below_drew1) | exact HB.out))) : w.heap.size ≤ gb101)); clear HB; have HB := n0_; have BK101 := n1_; have GW101 := n2_; have GE101 := n3_; clear n0_ n1_ n2_ n3_; clear hb hbox hg; have hcz4_0 : w3.cell? ⟨gb101, 0, none⟩ = some (.int .u64 a0_0) := (blk_cell BK101.out 0).trans rfl; have hcz4_1 : w3.cell? ⟨gb101, 1, none⟩ = some (.int .i64 a0_1) := (blk_cell BK101.out 1).trans rfl; have hfz4_0 := blk_frozen BK101.out 0; have hfz4_1 := blk_frozen BK101.out 1))
    all_goals
      go_ret
      exact ⟨by first | rfl | (simp [errW_none, errW_some] <;> rfl) | (simp [*, errW_none, errW_some] <;> rfl), by repeat (first | (with_reducible first | exact HB.out | apply below_alloc | apply pw_below_drewN | apply below_drew1 | refine below_set ?_ GE101.out) | exact HB.out)⟩
  · rw [if_neg c2] at H
    have c2b0 : decide (0 ≤ a0_1) = false := decide_eq_false c2
    clear c2
    obtain rfl := Option.some.inj H
    go_enter Try.func76, Try.ntmps76
    go_wp2_with (first | ((with_reducible refine gate_dst (N := 1) rfl ?_); refine box_event ?hg (N := 1) ?hd (cs := #[.int .u64 a0_0, .int .i64 a0_1]) (t := 24) ?hr ?_; (case hd => rfl); (case hg => rfl); (case hr => first | (go_simp; done) | (go_simp; rfl)); intro gb101 hg w5 hbox hb; have n0_ := Aside0.mk (below_step (by repeat (first | (with_reducible first | exact HB.out | apply below_alloc | apply pw_below_drewN | apply below_drew1) | exact HB.out)) hb); have n1_ := Aside0.mk (hbox); have n2_ := Aside0.mk ((by rw [hg]; exact (below_size (by repeat (first | (with_reducible first | exact HB.out | apply below_alloc | apply pw_below_drewN | apply below_drew1) | exact HB.out))) : w.heap.size ≤ gb101)); have n3_ := Aside0.mk ((by rw [hg]; exact (below_size (by repeat (first | (with_reducible first | exact HB.out | apply below_alloc | apply pw_below_drewN | apply below_drew1) | exact HB.out))) : w.heap.size ≤ gb101)); clear HB; have HB := n0_; have BK101 := n1_; have GW101 := n2_; have GE101 := n3_; clear n0_ n1_ n2_ n3_; clear hb hbox hg; have hcz6_0 : w5.cell? ⟨gb101, 0, none⟩ = some (.int .u64 a0_0) := (blk_cell BK101.out 0).trans rfl; have hcz6_1 : w5.cell? ⟨gb101, 1, none⟩ = some (.int .i64 a0_1) := (blk_cell BK101.out 1).trans rfl; have hfz6_0 := blk_frozen BK101.out 0; have hfz6_1 := blk_frozen BK101.out 1))
    all_goals
      go_ret
      exact ⟨by first | rfl | (simp [errW_none, errW_some] <;> rfl) | (simp [*, errW_none, errW_some] <;> rfl), by repeat (first | (with_reducible first | exact HB.out | apply below_alloc | apply pw_below_drewN | apply below_drew1 | refine below_set ?_ GE101.out) | exact HB.out)⟩
def header_Check.f (k : Nat) (a0_0 a0_1 a0_2 a0_3 a0_4 a0_5 a0_6 a0_7 a0_8 a0_9 a0_10 a0_11 a0_12 a0_13 a0_14 a0_15 a0_16 a0_17 a0_18 a0_19 a0_20 a0_21 a0_22 : Int) : Option (Bool) := (header_Known.f k a0_0).bind fun t6 => (if t6 = true then ((header_in.f a0_1 0 255).bind fun t7 => (if t7 = true then ((header_in.f a0_2 0 65535).bind fun t8 => (if t8 = true then ((ident_May.f a0_4 a0_5).bind fun t9 => (if t9 = true then ((header_in.f a0_6 0 65535).bind fun t10 => (if t10 = true then ((header_in.f a0_7 (-128) 127).bind fun t11 => (some t11)) else (none))) else (none))) else (none))) else (none))) else (none))
abbrev header_Check.v0 (x0 x1 x2 x3 x4 x5 x6 x7 x8 x9 x10 x11 x12 x13 x14 x15 x16 x17 x18 x19 x20 x21 x22 : Int) : Value := .agg #[.int .i64 x0, .int .i64 x1, .int .i64 x2, .int .i64 x3, .int .u64 x4, .int .i64 x5, .int .i64 x6, .int .i64 x7, .int .i64 x8, .int .u64 x9, .int .i64 x10, .int .i64 x11, .int .i64 x12, .int .i64 x13, .int .i64 x14, .int .i64 x15, .int .i64 x16, .int .u64 x17, .int .i64 x18, .int .i64 x19, .int .i64 x20, .int .i64 x21, .int .i64 x22]
abbrev header_Check.c1 (x0 x1 x2 x3 x4 x5 x6 x7 x8 x9 x10 x11 x12 x13 x14 x15 x16 x17 x18 x19 x20 x21 x22 : Int) : Array Value := #[.int .i64 x0, .int .i64 x1, .int .i64 x2, .int .i64 x3, .int .u64 x4, .int .i64 x5, .int .i64 x6, .int .i64 x7, .int .i64 x8, .int .u64 x9, .int .i64 x10, .int .i64 x11, .int .i64 x12, .int .i64 x13, .int .i64 x14, .int .i64 x15, .int .i64 x16, .int .u64 x17, .int .i64 x18, .int .i64 x19, .int .i64 x20, .int .i64 x21, .int .i64 x22]
open Go.Proofs.Ytiomlbkakiienaa.E in
set_option maxHeartbeats 60000000 in
set_option maxRecDepth 100000 in
theorem header_Check.calls (k : Nat) (ae af ag az ab ac ah ai aA aB ak al am an ao ap aq ar au av aw ax ay : Int) (r : Bool) (w : World) (h : header_Check.f k ae af ag az ab ac ah ai aA aB ak al am an ao ap aq ar au av aw ax ay = some r) :
    Calls Try.prog 43 #[.agg #[.int .i64 ae, .int .i64 af, .int .i64 ag, .int .i64 az, .int .u64 ab, .int .i64 ac, .int .i64 ah, .int .i64 ai, .int .i64 aA, .int .u64 aB, .int .i64 ak, .int .i64 al, .int .i64 am, .int .i64 an, .int .i64 ao, .int .i64 ap, .int .i64 aq, .int .u64 ar, .int .i64 au, .int .i64 av, .int .i64 aw, .int .i64 ax, .int .i64 ay]] w fun e w' => e = .returned (.bool r) ∧ Below w.heap.size w w' := by
 have H := h
 clear h
 unfold header_Check.f at H
 obtain ⟨t6, aH, H⟩ := Option.bind_eq_some_iff.mp H
 by_cases c1 : t6 = true
 rotate_left
 ·rw [if_neg c1] at H; exact absurd H (by simp)
 rw [if_pos c1] at H
 obtain ⟨t7, aI, H⟩ := Option.bind_eq_some_iff.mp H
 by_cases c2 : t7 = true
 rotate_left
 ·rw [if_neg c2] at H; exact absurd H (by simp)
 rw [if_pos c2] at H
 obtain ⟨t8, aJ, H⟩ := Option.bind_eq_some_iff.mp H
 by_cases c3 : t8 = true
 rotate_left
 ·rw [if_neg c3] at H; exact absurd H (by simp)
 rw [if_pos c3] at H
 obtain ⟨t9, aK, H⟩ := Option.bind_eq_some_iff.mp H
 by_cases c4 : t9 = true
 rotate_left
 ·rw [if_neg c4] at H; exact absurd H (by simp)
 rw [if_pos c4] at H
 obtain ⟨aj, aE, H⟩ := Option.bind_eq_some_iff.mp H
 by_cases c5 : aj = true
 rotate_left
 ·rw [if_neg c5] at H; exact absurd H (by simp)
 rw [if_pos c5] at H
 obtain ⟨ad, aF, H⟩ := Option.bind_eq_some_iff.mp H
 obtain rfl := Option.some.inj H
 refine calls_of_wp (fn := Try.f43) (by kernel_rfl) rfl ?_
 have hS := St.enter #[(header_Check.v0 ae af ag az ab ac ah ai aA aB ak al am an ao ap aq ar au av aw ax ay)] 31 (by simp) [(0, (header_Check.v0 ae af ag az ab ac ah ai aA aB ak al am an ao ap aq ar au av aw ax ay))] (by simp)
 have aL := Below.refl w.heap.size w
 refine wp_seq_k (fun K1 aM => ?_)
 refine reg_seq (I := I1_ w) (ps := [IsB (header_Check.c1 ae af ag az ab ac ah ai aA aB ak al am an ao ap aq ar au av aw ax ay) 28 w.heap.size, VB false]) (by kernel_rfl) ?_ ?_ rfl hS aL ?_ ?_
 ·exact bs1
 ·exact .cons (Stays.b _ _ _) (.v (.nil))
 ·refine .on rfl (fun a w hS hI hp => does_var (x_box rfl (congrArg Value.cells (hS.get 0 rfl))) (hI).size) ?_
  refine .on rfl (fun a w hS hI hp => does_val (x_assign rfl (rfl)) rfl) ?_
  exact .nil
 clear hS
 intro aR w3 hS aO hp
 replace hS := hS.nil
 obtain ⟨g4, aC, aP, aa⟩ := (show IsB _ 28 _ (sl _ 1) _ from hp 0 (by decide))
 have hS := hS.cons aC
 clear hp aC
 refine aM _ _ ?_
 refine wp_seq_k (fun K5 aN => ?_)
 refine reg_seq (I := I2_ w w3) (ps := [VP g4 0, VI ae, VB t6, VB t6, VP g4 1, VI af, VB t7, VB t7, VB t7, VP g4 2, VI ag, VB t8, VB t8, VB t8, VP g4 4, IsV (.agg #[.int .u64 ab, .int .i64 ac]), VB t9, VB t9, VB t9, VP g4 6, VI ah, VB aj, VB aj, VB aj, VP g4 7, VI ai, VB ad, VB ad, VB ad]) (by kernel_rfl) ?_ ?_ rfl hS ⟨aO, (bR w3)⟩ ?_ ?_
 ·exact bs2
 ·exact .v (.v (.v (.v (.v (.v (.v (.v (.v (.v (.v (.v (.v (.v (.v (.v (.v (.v (.v (.v (.v (.v (.v (.v (.v (.v (.v (.v (.v (.nil)))))))))))))))))))))))))))))
 ·refine .on rfl (fun a w hS hI hp => does_val (x_fieldE (b := 0) rfl (hS.get 0 rfl) Try.underlying28 rfl rfl (by kernel_rfl)) rfl) ?_
  refine .on rfl (fun a w hS hI hp => does_val (x_load1 (d := .int .i64) rfl (hp.V 0 rfl rfl) (by kernel_rfl) rfl ((blk_cell (((hI.2).block g4 (blk_lt aa)).trans aa) 0).trans rfl)) rfl) ?_
  refine .on rfl (fun a w hS hI hp => does_call (by kernel_rfl) (ar1 (hp.V 1 rfl rfl)) ((header_Known.calls k ae t6 _  aH).mono fun _ _ h => ⟨_, h.1, h.2.below, rfl⟩)) ?_
  refine .mv 2 rfl rfl rfl ?_
  refine .oy 3 6 rfl rfl c1 (fun a w hS hI hp => does_val (x_fieldE (b := 0) rfl (hS.get 0 rfl) Try.underlying28 rfl rfl (by kernel_rfl)) rfl) ?_
  refine .oy 3 6 rfl rfl c1 (fun a w hS hI hp => does_val (x_load1 (d := .int .i64) rfl (hp.V 4 rfl rfl) (by kernel_rfl) rfl ((blk_cell (((hI.2).block g4 (blk_lt aa)).trans aa) 1).trans rfl)) rfl) ?_
  refine .oy 3 6 rfl rfl c1 (fun a w hS hI hp => does_call (by kernel_rfl) (ar3 (hp.V 5 rfl rfl) (rfl) (rfl)) ((header_in.calls af 0 255 t7 _  aI).mono fun _ _ h => ⟨_, h.1, h.2.below, rfl⟩)) ?_
  refine .pt 3 6 rfl rfl rfl c1 rfl ?_
  refine .mv 7 rfl rfl rfl ?_
  refine .oy 8 11 rfl rfl c2 (fun a w hS hI hp => does_val (x_fieldE (b := 0) rfl (hS.get 0 rfl) Try.underlying28 rfl rfl (by kernel_rfl)) rfl) ?_
  refine .oy 8 11 rfl rfl c2 (fun a w hS hI hp => does_val (x_load1 (d := .int .i64) rfl (hp.V 9 rfl rfl) (by kernel_rfl) rfl ((blk_cell (((hI.2).block g4 (blk_lt aa)).trans aa) 2).trans rfl)) rfl) ?_
  refine .oy 8 11 rfl rfl c2 (fun a w hS hI hp => does_call (by kernel_rfl) (ar3 (hp.V 10 rfl rfl) (rfl) (rfl)) ((header_in.calls ag 0 65535 t8 _  aJ).mono fun _ _ h => ⟨_, h.1, h.2.below, rfl⟩)) ?_
  refine .pt 8 11 rfl rfl rfl c2 rfl ?_
  refine .mv 12 rfl rfl rfl ?_
  refine .oy 13 16 rfl rfl c3 (fun a w hS hI hp => does_val (x_fieldE (b := 0) rfl (hS.get 0 rfl) Try.underlying28 rfl rfl (by kernel_rfl)) rfl) ?_
  refine .oy 13 16 rfl rfl c3 (fun a w hS hI hp => does_loadmid (cs := [.int .u64 ab, .int .i64 ac]) rfl (hp.V 14 rfl rfl) (((hI.2).block g4 (blk_lt aa)).trans aa) (by kernel_rfl) Try.underlying24 rfl (by kernel_rfl) rfl) ?_
  refine .oy 13 16 rfl rfl c3 (fun a w hS hI hp => does_call (by kernel_rfl) (ar1 (hp.V 15 rfl rfl)) ((ident_May.calls ab ac t9 _  aK).mono fun _ _ h => ⟨_, h.1, h.2, rfl⟩)) ?_
  refine .pt 13 16 rfl rfl rfl c3 rfl ?_
  refine .mv 17 rfl rfl rfl ?_
  refine .oy 18 21 rfl rfl c4 (fun a w hS hI hp => does_val (x_fieldE (b := 0) rfl (hS.get 0 rfl) Try.underlying28 rfl rfl (by kernel_rfl)) rfl) ?_
  refine .oy 18 21 rfl rfl c4 (fun a w hS hI hp => does_val (x_load1 (d := .int .i64) rfl (hp.V 19 rfl rfl) (by kernel_rfl) rfl ((blk_cell (((hI.2).block g4 (blk_lt aa)).trans aa) 6).trans rfl)) rfl) ?_
  refine .oy 18 21 rfl rfl c4 (fun a w hS hI hp => does_call (by kernel_rfl) (ar3 (hp.V 20 rfl rfl) (rfl) (rfl)) ((header_in.calls ah 0 65535 aj _  aE).mono fun _ _ h => ⟨_, h.1, h.2.below, rfl⟩)) ?_
  refine .pt 18 21 rfl rfl rfl c4 rfl ?_
  refine .mv 22 rfl rfl rfl ?_
  refine .oy 23 26 rfl rfl c5 (fun a w hS hI hp => does_val (x_fieldE (b := 0) rfl (hS.get 0 rfl) Try.underlying28 rfl rfl (by kernel_rfl)) rfl) ?_
  refine .oy 23 26 rfl rfl c5 (fun a w hS hI hp => does_val (x_load1 (d := .int .i64) rfl (hp.V 24 rfl rfl) (by kernel_rfl) rfl ((blk_cell (((hI.2).block g4 (blk_lt aa)).trans aa) 7).trans rfl)) rfl) ?_
  refine .oy 23 26 rfl rfl c5 (fun a w hS hI hp => does_call (by kernel_rfl) (ar3 (hp.V 25 rfl rfl) (rfl) (rfl)) ((header_in.calls ai (-128) 127 ad _  aF).mono fun _ _ h => ⟨_, h.1, h.2.below, rfl⟩)) ?_
  refine .pt 23 26 rfl rfl rfl c5 rfl ?_
  refine .asg 27 rfl rfl rfl ?_
  exact .nil
 clear hS
 intro aQ aS hS aG hp
 replace hS := hS.nil
 have aD : sl _ 2 = .bool ad := hp 28 (by decide)
 have hS := hS.cons aD
 clear hp aD
 refine aN _ _ ?_
 refine wp_ret ?_
 (try simp only [Exit.then, Exit.inBlock, Exit.jump, Exit.noGoto])
 exact bodyPost_ret (v := .bool ad) (results_single rfl (Vals.at (hS.get 0 rfl) .nil)) hS.nodef ⟨rfl, aG.1⟩
def body_stamped.f (a0 : Int) : Option (Bool) := if a0 = 12 then (some false) else (some (a0 != 13))
set_option maxHeartbeats 8000000 in
set_option maxRecDepth 100000 in
theorem body_stamped.calls (a0 : Int) (r : Bool) (w : World) (h : body_stamped.f a0 = some r) :
    Calls Try.prog 35 #[.int .i64 a0] w fun e w' => e = .returned (.bool r) ∧ Drawn0 w w' := by
  have H : (if a0 = 12 then (some false) else (some (a0 != 13))) = some r := h
  clear h
  by_cases c2 : a0 = 12
  · rw [if_pos c2] at H
    have c2b0 : (a0 == 12) = true := beq_iff_eq.mpr c2
    have c2b1 : (a0 != 12) = false := bne_eq_false_iff_eq.mpr c2
    clear c2
    obtain rfl := Option.some.inj H
    go_enter Try.func35, Try.ntmps35
    go_wp2
    all_goals
      go_ret
      exact ⟨by first | rfl | (simp; done) | (simp [*]; done), by repeat (first | exact Drawn0.refl _ | apply Drawn0.step)⟩
  · rw [if_neg c2] at H
    have c2b0 : (a0 == 12) = false := beq_eq_false_iff_ne.mpr c2
    have c2b1 : (a0 != 12) = true := bne_iff_ne.mpr c2
    obtain rfl := Option.some.inj H
    go_enter Try.func35, Try.ntmps35
    go_wp2
    all_goals
      go_ret
      exact ⟨by first | rfl | (simp; done) | (simp [*]; done), by repeat (first | exact Drawn0.refl _ | apply Drawn0.step)⟩
def body_targeted.f (a0 : Int) : Option (Bool) := if a0 = 9 then (some true) else (if a0 = 3 then (some true) else (if a0 = 10 then (some true) else (if a0 = 12 then (some true) else (if a0 = 13 then (some true) else (some false)))))
set_option maxHeartbeats 8000000 in
set_option maxRecDepth 100000 in
theorem body_targeted.calls (a0 : Int) (r : Bool) (w : World) (h : body_targeted.f a0 = some r) :
    Calls Try.prog 37 #[.int .i64 a0] w fun e w' => e = .returned (.bool r) ∧ Drawn0 w w' := by
  have H : (if a0 = 9 then (some true) else (if a0 = 3 then (some true) else (if a0 = 10 then (some true) else (if a0 = 12 then (some true) else (if a0 = 13 then (some true) else (some false)))))) = some r := h
  clear h
  by_cases c2 : a0 = 9
  · rw [if_pos c2] at H
    have c2b0 : (a0 == 9) = true := beq_iff_eq.mpr c2
    have c2b1 : (a0 != 9) = false := bne_eq_false_iff_eq.mpr c2
    clear c2
    obtain rfl := Option.some.inj H
    go_enter Try.func37, Try.ntmps37
    go_wp2
    all_goals
      go_ret
      exact ⟨by first | rfl | (simp; done) | (simp [*]; done), by repeat (first | exact Drawn0.refl _ | apply Drawn0.step)⟩
  · rw [if_neg c2] at H
    have c2b0 : (a0 == 9) = false := beq_eq_false_iff_ne.mpr c2
    have c2b1 : (a0 != 9) = true := bne_iff_ne.mpr c2
    by_cases c3 : a0 = 3
    · rw [if_pos c3] at H
      have c3b0 : (a0 == 3) = true := beq_iff_eq.mpr c3
      have c3b1 : (a0 != 3) = false := bne_eq_false_iff_eq.mpr c3
      clear c3
      obtain rfl := Option.some.inj H
      go_enter Try.func37, Try.ntmps37
      go_wp2
      all_goals
        go_ret
        exact ⟨by first | rfl | (simp; done) | (simp [*]; done), by repeat (first | exact Drawn0.refl _ | apply Drawn0.step)⟩
    · rw [if_neg c3] at H
      have c3b0 : (a0 == 3) = false := beq_eq_false_iff_ne.mpr c3
      have c3b1 : (a0 != 3) = true := bne_iff_ne.mpr c3
      by_cases c4 : a0 = 10
      · rw [if_pos c4] at H
        have c4b0 : (a0 == 10) = true := beq_iff_eq.mpr c4
        have c4b1 : (a0 != 10) = false := bne_eq_false_iff_eq.mpr c4
        clear c4
        obtain rfl := Option.some.inj H
        go_enter Try.func37, Try.ntmps37
        go_wp2
        all_goals
          go_ret
          exact ⟨by first | rfl | (simp; done) | (simp [*]; done), by repeat (first | exact Drawn0.refl _ | apply Drawn0.step)⟩
      · rw [if_neg c4] at H
        have c4b0 : (a0 == 10) = false := beq_eq_false_iff_ne.mpr c4
        have c4b1 : (a0 != 10) = true := bne_iff_ne.mpr c4
        by_cases c5 : a0 = 12
        · rw [if_pos c5] at H
          have c5b0 : (a0 == 12) = true := beq_iff_eq.mpr c5
          have c5b1 : (a0 != 12) = false := bne_eq_false_iff_eq.mpr c5
          clear c5
          obtain rfl := Option.some.inj H
          go_enter Try.func37, Try.ntmps37
          go_wp2
          all_goals
            go_ret
            exact ⟨by first | rfl | (simp; done) | (simp [*]; done), by repeat (first | exact Drawn0.refl _ | apply Drawn0.step)⟩
        · rw [if_neg c5] at H
          have c5b0 : (a0 == 12) = false := beq_eq_false_iff_ne.mpr c5
          have c5b1 : (a0 != 12) = true := bne_iff_ne.mpr c5
          by_cases c6 : a0 = 13
          · rw [if_pos c6] at H
            have c6b0 : (a0 == 13) = true := beq_iff_eq.mpr c6
            have c6b1 : (a0 != 13) = false := bne_eq_false_iff_eq.mpr c6
            clear c6
            obtain rfl := Option.some.inj H
            go_enter Try.func37, Try.ntmps37
            go_wp2
            all_goals
              go_ret
              exact ⟨by first | rfl | (simp; done) | (simp [*]; done), by repeat (first | exact Drawn0.refl _ | apply Drawn0.step)⟩
          · rw [if_neg c6] at H
            have c6b0 : (a0 == 13) = false := beq_eq_false_iff_ne.mpr c6
            have c6b1 : (a0 != 13) = true := bne_iff_ne.mpr c6
            obtain rfl := Option.some.inj H
            go_enter Try.func37, Try.ntmps37
            go_wp2
            all_goals
              go_ret
              exact ⟨by first | rfl | (simp; done) | (simp [*]; done), by repeat (first | exact Drawn0.refl _ | apply Drawn0.step)⟩
def body_own.f (a0_0 a0_1 a0_2 a0_3 a0_4 a0_5 a0_6 a0_7 a0_8 a0_9 a0_10 a0_11 a0_12 a0_13 a0_14 a0_15 a0_16 a0_17 a0_18 a0_19 a0_20 a0_21 a0_22 : Int) : Option (Int × Int × Int × Int × Int × Int × Int × Int × Int × Int × Int × Int × Int × Int × Int × Int × Int × Int × Int × Int × Int × Int × Int) := (body_stamped.f a0_0).bind fun t18 => (if t18 = true then ((body_targeted.f a0_0).bind fun t26 => (if t26 = true then (none) else (if a0_0 = 11 then (none) else (if a0_0 = 13 then (none) else (some (a0_0, a0_1, a0_2, a0_3, a0_4, a0_5, a0_6, a0_7, a0_8, 0, 0, 0, 0, 0, 0, 0, 0, 0, 0, 0, 0, 0, 0)))))) else (none))
abbrev body_own.v0 (x0 x1 x2 x3 x4 x5 x6 x7 x8 x9 x10 x11 x12 x13 x14 x15 x16 x17 x18 x19 x20 x21 x22 : Int) : Value := .agg #[.int .i64 x0, .int .i64 x1, .int .i64 x2, .int .i64 x3, .int .u64 x4, .int .i64 x5, .int .i64 x6, .int .i64 x7, .int .i64 x8, .int .u64 x9, .int .i64 x10, .int .i64 x11, .int .i64 x12, .int .i64 x13, .int .i64 x14, .int .i64 x15, .int .i64 x16, .int .u64 x17, .int .i64 x18, .int .i64 x19, .int .i64 x20, .int .i64 x21, .int .i64 x22]
abbrev body_own.c1 (x0 x1 x2 x3 x4 x5 x6 x7 x8 x9 x10 x11 x12 x13 x14 x15 x16 x17 x18 x19 x20 x21 x22 : Int) : Array Value := #[.int .i64 x0, .int .i64 x1, .int .i64 x2, .int .i64 x3, .int .u64 x4, .int .i64 x5, .int .i64 x6, .int .i64 x7, .int .i64 x8, .int .u64 x9, .int .i64 x10, .int .i64 x11, .int .i64 x12, .int .i64 x13, .int .i64 x14, .int .i64 x15, .int .i64 x16, .int .u64 x17, .int .i64 x18, .int .i64 x19, .int .i64 x20, .int .i64 x21, .int .i64 x22]
open Go.Proofs.Ytiomlbkakiienaa.E in
set_option maxHeartbeats 60000000 in
set_option maxRecDepth 100000 in
theorem body_own.calls (ab ae af ag ac ad ah ai ak a1 aJ aK aL aM aN aO aP aQ aR aS aT aU aV r1 r2 r3 r4 r5 r6 r7 r8 r9 b9 ca cb cc cd ce cf cg ch ci cj ck cl cm : Int) (w : World) (h : body_own.f ab ae af ag ac ad ah ai ak a1 aJ aK aL aM aN aO aP aQ aR aS aT aU aV = some (r1, r2, r3, r4, r5, r6, r7, r8, r9, b9, ca, cb, cc, cd, ce, cf, cg, ch, ci, cj, ck, cl, cm)) :
    Calls Try.prog 74 #[.agg #[.int .i64 ab, .int .i64 ae, .int .i64 af, .int .i64 ag, .int .u64 ac, .int .i64 ad, .int .i64 ah, .int .i64 ai, .int .i64 ak, .int .u64 a1, .int .i64 aJ, .int .i64 aK, .int .i64 aL, .int .i64 aM, .int .i64 aN, .int .i64 aO, .int .i64 aP, .int .u64 aQ, .int .i64 aR, .int .i64 aS, .int .i64 aT, .int .i64 aU, .int .i64 aV]] w fun e w' => e = .returned (.agg #[.int .i64 r1, .int .i64 r2, .int .i64 r3, .int .i64 r4, .int .u64 r5, .int .i64 r6, .int .i64 r7, .int .i64 r8, .int .i64 r9, .int .u64 b9, .int .i64 ca, .int .i64 cb, .int .i64 cc, .int .i64 cd, .int .i64 ce, .int .i64 cf, .int .i64 cg, .int .u64 ch, .int .i64 ci, .int .i64 cj, .int .i64 ck, .int .i64 cl, .int .i64 cm]) ∧ Below w.heap.size w w' := by
 have H := h
 clear h
 unfold body_own.f at H
 obtain ⟨aW, bl, H⟩ := Option.bind_eq_some_iff.mp H
 by_cases c1 : aW = true
 rotate_left
 ·rw [if_neg c1] at H; exact absurd H (by simp)
 rw [if_pos c1] at H
 obtain ⟨aX, bm, H⟩ := Option.bind_eq_some_iff.mp H
 by_cases c2 : aX = true
 ·rw [if_pos c2] at H; exact absurd H (by simp)
 rw [if_neg c2] at H
 by_cases c3 : ab = 11
 ·rw [if_pos c3] at H; exact absurd H (by simp)
 rw [if_neg c3] at H
 by_cases c4 : ab = 13
 ·rw [if_pos c4] at H; exact absurd H (by simp)
 rw [if_neg c4] at H
 simp only [Option.some.injEq, Prod.mk.injEq] at H
 obtain ⟨rfl, rfl, rfl, rfl, rfl, rfl, rfl, rfl, rfl, rfl, rfl, rfl, rfl, rfl, rfl, rfl, rfl, rfl, rfl, rfl, rfl, rfl, rfl⟩ := H
 refine calls_of_wp (fn := Try.f74) (by kernel_rfl) rfl ?_
 have hS := St.enter #[(body_own.v0 ab ae af ag ac ad ah ai ak a1 aJ aK aL aM aN aO aP aQ aR aS aT aU aV)] 68 (by simp) [(0, (body_own.v0 ab ae af ag ac ad ah ai ak a1 aJ aK aL aM aN aO aP aQ aR aS aT aU aV))] (by simp)
 have bx := Below.refl w.heap.size w
 refine wp_seq_k (fun K1 bz => ?_)
 refine reg_seq_tail 1 (I := I1_ w) (ps := [IsB (body_own.c1 ab ae af ag ac ad ah ai ak a1 aJ aK aL aM aN aO aP aQ aR aS aT aU aV) 28 w.heap.size]) (by kernel_rfl) ?_ ?_ rfl hS bx ?_ ?_
 ·exact bs1
 ·exact .cons (Stays.b _ _ _) (.nil)
 ·refine .on rfl (fun a w hS hI hp => does_var (x_box rfl (congrArg Value.cells (hS.get 0 rfl))) (hI).size) ?_
  exact .nil
 clear hS
 intro b4 w3 hS bf hp
 replace hS := hS.nil
 obtain ⟨g4, bd, bD, aa⟩ := (show IsB _ 28 _ (sl _ 1) _ from hp 0 (by decide))
 have hS := hS.cons bd
 clear hp bd
 show wpList _ _ _ [_] _ _
 refine list_step rfl (R := fun v w' => Below _ _ w' ∧ (IsB (body_own.c1 0 0 0 0 0 0 0 0 0 0 0 0 0 0 0 0 0 0 0 0 0 0 0) 28 w3.heap.size) v w') (does_var (x_alloc rfl (by kernel_rfl)) ((bR w3)).size) ?_
 rintro b6 w5 ⟨hb, he⟩
 have au := below_step bf hb
 have al := below_step (bR w3) hb
 obtain ⟨g6, rfl, aw, ar⟩ := he
 have bP : g6 ≠ g4 := Nat.ne_of_gt (Nat.lt_of_lt_of_le (blk_lt (((bR w3).block g4 (blk_lt aa)).trans aa)) aw)
 refine hS.next (v := .pointer (some ⟨g6, 0, none⟩)) (d := 2) rfl (by decide) (by rfl) ?_
 clear hS
 intro b5 hS
 refine wpList_nil ?_
 refine bz _ _ ?_
 refine wp_seq_k (fun K9 bA => ?_)
 refine reg_seq_tail 16 (I := I3_ w w3 w5) (ps := [VP g4 0, VI ab, VP g4 1, VI ae, VP g4 2, VI af, VP g4 3, VI ag, VP g4 4, IsV (.agg #[.int .u64 ac, .int .i64 ad]), VP g4 6, VI ah, VP g4 7, VI ai, IsV ((body_own.v0 ab ae af ag ac ad ah ai 0 0 0 0 0 0 0 0 0 0 0 0 0 0 0)), IsB (body_own.c1 0 0 0 0 0 0 0 0 0 0 0 0 0 0 0 0 0 0 0 0 0 0 0) 28 w5.heap.size]) (by kernel_rfl) ?_ ?_ rfl hS ⟨au, al, (bR w5)⟩ ?_ ?_
 ·exact bs3
 ·exact .v (.v (.v (.v (.v (.v (.v (.v (.v (.v (.v (.v (.v (.v (.v (.cons (Stays.b _ _ _) (.nil))))))))))))))))
 ·refine .on rfl (fun a w hS hI hp => does_val (x_fieldE (b := 0) rfl (hS.get 1 rfl) Try.underlying28 rfl rfl (by kernel_rfl)) rfl) ?_
  refine .on rfl (fun a w hS hI hp => does_val (x_load1 (d := .int .i64) rfl (hp.V 0 rfl rfl) (by kernel_rfl) rfl ((blk_cell (((hI.2.1).block g4 (blk_lt aa)).trans aa) 0).trans rfl)) rfl) ?_
  refine .on rfl (fun a w hS hI hp => does_val (x_fieldE (b := 0) rfl (hS.get 1 rfl) Try.underlying28 rfl rfl (by kernel_rfl)) rfl) ?_
  refine .on rfl (fun a w hS hI hp => does_val (x_load1 (d := .int .i64) rfl (hp.V 2 rfl rfl) (by kernel_rfl) rfl ((blk_cell (((hI.2.1).block g4 (blk_lt aa)).trans aa) 1).trans rfl)) rfl) ?_
  refine .on rfl (fun a w hS hI hp => does_val (x_fieldE (b := 0) rfl (hS.get 1 rfl) Try.underlying28 rfl rfl (by kernel_rfl)) rfl) ?_
  refine .on rfl (fun a w hS hI hp => does_val (x_load1 (d := .int .i64) rfl (hp.V 4 rfl rfl) (by kernel_rfl) rfl ((blk_cell (((hI.2.1).block g4 (blk_lt aa)).trans aa) 2).trans rfl)) rfl) ?_
  refine .on rfl (fun a w hS hI hp => does_val (x_fieldE (b := 0) rfl (hS.get 1 rfl) Try.underlying28 rfl rfl (by kernel_rfl)) rfl) ?_
  refine .on rfl (fun a w hS hI hp => does_val (x_load1 (d := .int .i64) rfl (hp.V 6 rfl rfl) (by kernel_rfl) rfl ((blk_cell (((hI.2.1).block g4 (blk_lt aa)).trans aa) 3).trans rfl)) rfl) ?_
  refine .on rfl (fun a w hS hI hp => does_val (x_fieldE (b := 0) rfl (hS.get 1 rfl) Try.underlying28 rfl rfl (by kernel_rfl)) rfl) ?_
  refine .on rfl (fun a w hS hI hp => does_loadmid (cs := [.int .u64 ac, .int .i64 ad]) rfl (hp.V 8 rfl rfl) (((hI.2.1).block g4 (blk_lt aa)).trans aa) (by kernel_rfl) Try.underlying24 rfl (by kernel_rfl) rfl) ?_
  refine .on rfl (fun a w hS hI hp => does_val (x_fieldE (b := 0) rfl (hS.get 1 rfl) Try.underlying28 rfl rfl (by kernel_rfl)) rfl) ?_
  refine .on rfl (fun a w hS hI hp => does_val (x_load1 (d := .int .i64) rfl (hp.V 10 rfl rfl) (by kernel_rfl) rfl ((blk_cell (((hI.2.1).block g4 (blk_lt aa)).trans aa) 6).trans rfl)) rfl) ?_
  refine .on rfl (fun a w hS hI hp => does_val (x_fieldE (b := 0) rfl (hS.get 1 rfl) Try.underlying28 rfl rfl (by kernel_rfl)) rfl) ?_
  refine .on rfl (fun a w hS hI hp => does_val (x_load1 (d := .int .i64) rfl (hp.V 12 rfl rfl) (by kernel_rfl) rfl ((blk_cell (((hI.2.1).block g4 (blk_lt aa)).trans aa) 7).trans rfl)) rfl) ?_
  refine .on rfl (fun a w hS hI hp => does_val (x_build (vs := [(0, .int .i64 ab), (1, .int .i64 ae), (2, .int .i64 af), (3, .int .i64 ag), (4, .agg #[.int .u64 ac, .int .i64 ad]), (5, .int .i64 ah), (6, .int .i64 ai)]) rfl (by rw [Array.toList_map]; exact (show [(0, a.eval (.tmp 5)), (1, a.eval (.tmp 7)), (2, a.eval (.tmp 9)), (3, a.eval (.tmp 11)), (4, a.eval (.tmp 13)), (5, a.eval (.tmp 15)), (6, a.eval (.tmp 17))] = _ from (li_cons (hp.V 1 rfl rfl) (li_cons (hp.V 3 rfl rfl) (li_cons (hp.V 5 rfl rfl) (li_cons (hp.V 7 rfl rfl) (li_cons (hp.V 9 rfl rfl) (li_cons (hp.V 11 rfl rfl) (li_cons (hp.V 13 rfl rfl) rfl))))))))) (by kernel_rfl)) rfl) ?_
  refine .on rfl (fun a w hS hI hp => does_var (x_alloc rfl (by kernel_rfl)) (hI.2.2).size) ?_
  exact .nil
 clear hS
 intro bG bB hS ap hp
 have a2 : sl _ 18 = (body_own.v0 ab ae af ag ac ad ah ai 0 0 0 0 0 0 0 0 0 0 0 0 0 0 0) := hp 14 (by decide)
 obtain ⟨am, be, aj, aC⟩ := (show IsB _ 28 _ (sl _ 3) _ from hp 15 (by decide))
 have bE : am ≠ g4 := Nat.ne_of_gt (Nat.lt_of_lt_of_le (blk_lt ((al.block g4 (blk_lt aa)).trans aa)) aj)
 have bc : am ≠ g6 := Nat.ne_of_gt (Nat.lt_of_lt_of_le (blk_lt (((bR w5).block g6 (blk_lt ar)).trans ar)) aj)
 have hS := hS.cons a2
 have hS := hS.cons be
 clear hp a2 be
 show wpList _ _ _ [_] _ _
 refine list_step rfl (does_storeAll (g := am) (cs := (body_own.c1 ab ae af ag ac ad ah ai 0 0 0 0 0 0 0 0 0 0 0 0 0 0 0)) rfl (hS.get 0 rfl) (hS.get 1 rfl) (((bR bB).block am (blk_lt aC)).trans aC) (by kernel_rfl) (by kernel_rfl) (by kernel_rfl)) ?_
 rintro bQ bb ⟨rfl, aD, hT⟩
 have aY := hT.below ap.1 (Nat.le_trans (au).size aj) (ap.1).size
 have aF := hT.below ap.2.1 (Nat.le_trans (al).size aj) (ap.2.1).size
 have aG := hT.below ap.2.2 aj (ap.2.2).size
 clear hT
 refine wpList_nil ?_
 refine bA _ _ ?_
 refine wp_seq_k (fun bV bo => ?_)
 refine wp_seq_k (fun bW bp => ?_)
 refine reg_seq (I := I4_ w w3 w5 bb) (ps := [VP g4 0, VI ab, VB aW]) (by kernel_rfl) ?_ ?_ rfl hS ⟨aY, aF, aG, (bR bb)⟩ ?_ ?_
 ·exact bs4
 ·exact .v (.v (.v (.nil)))
 ·refine .on rfl (fun a w hS hI hp => does_val (x_fieldE (b := 0) rfl (hS.get 3 rfl) Try.underlying28 rfl rfl (by kernel_rfl)) rfl) ?_
  refine .on rfl (fun a w hS hI hp => does_val (x_load1 (d := .int .i64) rfl (hp.V 0 rfl rfl) (by kernel_rfl) rfl ((blk_cell (((hI.2.1).block g4 (blk_lt aa)).trans aa) 0).trans rfl)) rfl) ?_
  refine .on rfl (fun a w hS hI hp => does_call (by kernel_rfl) (ar1 (hp.V 1 rfl rfl)) ((body_stamped.calls ab aW _  bl).mono fun _ _ h => ⟨_, h.1, h.2.below, rfl⟩)) ?_
  exact .nil
 clear hS
 intro bH bg hS ax hp
 replace hS := (((hS.nil).cons (hS.get 3 rfl)).cons (hS.get 2 rfl)).cons (hS.get 0 rfl)
 have a3 : sl _ 21 = .bool aW := hp 2 (by decide)
 have hS := hS.cons a3
 clear hp a3
 refine bp _ _ ?_
 refine wp_cond_true ((hS.get 0 rfl).trans (bT c1)) ?_
 refine reg_seq_tail 3 (I := I5_ w w3 w5 bb bg) (ps := [VP g4 8, VI ak, VP am 8]) (by kernel_rfl) ?_ ?_ rfl hS ⟨ax.1, ax.2.1, ax.2.2.1, ax.2.2.2, (bR bg)⟩ ?_ ?_
 ·exact bs5
 ·exact .v (.v (.v (.nil)))
 ·refine .on rfl (fun a w hS hI hp => does_val (x_fieldE (b := 0) rfl (hS.get 3 rfl) Try.underlying28 rfl rfl (by kernel_rfl)) rfl) ?_
  refine .on rfl (fun a w hS hI hp => does_val (x_load1 (d := .int .i64) rfl (hp.V 0 rfl rfl) (by kernel_rfl) rfl ((blk_cell (((hI.2.1).block g4 (blk_lt aa)).trans aa) 8).trans rfl)) rfl) ?_
  refine .on rfl (fun a w hS hI hp => does_val (x_fieldE (b := 0) rfl (hS.get 1 rfl) Try.underlying28 rfl rfl (by kernel_rfl)) rfl) ?_
  exact .nil
 clear hS
 intro bI b7 hS an hp
 replace hS := (((hS.nil).cons (hS.get 3 rfl)).cons (hS.get 2 rfl)).cons (hS.get 1 rfl)
 have a4 : sl _ 23 = .int .i64 ak := hp 1 (by decide)
 have a5 : sl _ 24 = .pointer (some ⟨am, 8, none⟩) := hp 2 (by decide)
 have hS := hS.cons a4
 have hS := hS.cons a5
 clear hp a4 a5
 show wpList _ _ _ [_] _ _
 refine list_step rfl (does_store (g := am) (off := 8) (v := .int .i64 ak) (new := (body_own.c1 ab ae af ag ac ad ah ai ak 0 0 0 0 0 0 0 0 0 0 0 0 0 0)) rfl (hS.get 0 rfl) (hS.get 1 rfl) ((an.2.2.2.1.block am (blk_lt aD)).trans aD) (by kernel_rfl) (by kernel_rfl) (by kernel_rfl) (by kernel_rfl)) ?_
 rintro bS av ⟨rfl, ao, hT⟩
 have aZ := hT.below an.1 (Nat.le_trans (au).size aj) (an.1).size
 have aH := hT.below an.2.1 (Nat.le_trans (al).size aj) (an.2.1).size
 have aI := hT.below an.2.2.1 aj (an.2.2.1).size
 clear hT
 refine wpList_nil ?_
 refine bo _ _ ?_
 refine wp_seq_k (fun bX bq => ?_)
 refine wp_seq_k (fun bY br => ?_)
 refine reg_seq (I := I4_ w w3 w5 av) (ps := [VP g4 0, VI ab, VB aX]) (by kernel_rfl) ?_ ?_ rfl hS ⟨aZ, aH, aI, (bR av)⟩ ?_ ?_
 ·exact bs4
 ·exact .v (.v (.v (.nil)))
 ·refine .on rfl (fun a w hS hI hp => does_val (x_fieldE (b := 0) rfl (hS.get 4 rfl) Try.underlying28 rfl rfl (by kernel_rfl)) rfl) ?_
  refine .on rfl (fun a w hS hI hp => does_val (x_load1 (d := .int .i64) rfl (hp.V 0 rfl rfl) (by kernel_rfl) rfl ((blk_cell (((hI.2.1).block g4 (blk_lt aa)).trans aa) 0).trans rfl)) rfl) ?_
  refine .on rfl (fun a w hS hI hp => does_call (by kernel_rfl) (ar1 (hp.V 1 rfl rfl)) ((body_targeted.calls ab aX _  bm).mono fun _ _ h => ⟨_, h.1, h.2.below, rfl⟩)) ?_
  exact .nil
 clear hS
 intro bJ bh hS ay hp
 replace hS := (((hS.nil).cons (hS.get 4 rfl)).cons (hS.get 3 rfl)).cons (hS.get 2 rfl)
 have a6 : sl _ 27 = .bool aX := hp 2 (by decide)
 have hS := hS.cons a6
 clear hp a6
 refine br _ _ ?_
 refine wp_cond_false ((hS.get 0 rfl).trans (bF (Bool.eq_false_iff.2 c2))) ?_
 refine wp_skip ?_
 refine bq _ _ ?_
 refine wp_seq_k (fun bZ bs => ?_)
 refine wp_seq_k (fun b0 bt => ?_)
 refine reg_seq (I := I5_ w w3 w5 av bh) (ps := [VP g4 0, VI ab]) (by kernel_rfl) ?_ ?_ rfl hS ⟨ay.1, ay.2.1, ay.2.2.1, ay.2.2.2, (bR bh)⟩ ?_ ?_
 ·exact bs5
 ·exact .v (.v (.nil))
 ·refine .on rfl (fun a w hS hI hp => does_val (x_fieldE (b := 0) rfl (hS.get 3 rfl) Try.underlying28 rfl rfl (by kernel_rfl)) rfl) ?_
  refine .on rfl (fun a w hS hI hp => does_val (x_load1 (d := .int .i64) rfl (hp.V 0 rfl rfl) (by kernel_rfl) rfl ((blk_cell (((hI.2.1).block g4 (blk_lt aa)).trans aa) 0).trans rfl)) rfl) ?_
  exact .nil
 clear hS
 intro bK bi hS az hp
 replace hS := (((hS.nil).cons (hS.get 3 rfl)).cons (hS.get 2 rfl)).cons (hS.get 1 rfl)
 have a7 : sl _ 32 = .int .i64 ab := hp 1 (by decide)
 have hS := hS.cons a7
 clear hp a7
 refine bt _ _ ?_
 refine wp_block ?_
 refine wp_seq_k (fun b1 bu => ?_)
 refine reg_seq (I := I5_ w w3 w5 av bi) (ps := [VB (decide (ab = 11)), VB (decide (ab = 11))]) (by kernel_rfl) ?_ ?_ rfl hS ⟨az.1, az.2.1, az.2.2.1, az.2.2.2.1, (bR bi)⟩ ?_ ?_
 ·exact bs5
 ·exact .v (.v (.nil))
 ·refine .on rfl (fun a w hS hI hp => does_val (x_bin rfl (hS.get 0 rfl) (rfl) (b_eql _ _ _ _ _ _)) rfl) ?_
  refine .asg 0 rfl rfl rfl ?_
  exact .nil
 clear hS
 intro bL bj hS aA hp
 have a8 : sl _ 33 = .bool (decide (ab = 11)) := hp 1 (by decide)
 have hS := hS.cons a8
 clear hp a8
 refine bu _ _ ?_
 refine wp_cond_false ((hS.get 0 rfl).trans (bF (decide_eq_false c3))) ?_
 refine wp_seq_k (fun b2 bv => ?_)
 refine reg_seq (I := I5_ w w3 w5 av bj) (ps := [VB (decide (ab = 13)), VB (decide (ab = 13))]) (by kernel_rfl) ?_ ?_ rfl hS ⟨aA.1, aA.2.1, aA.2.2.1, aA.2.2.2.1, (bR bj)⟩ ?_ ?_
 ·exact bs5
 ·exact .v (.v (.nil))
 ·refine .on rfl (fun a w hS hI hp => does_val (x_bin rfl (hS.get 1 rfl) (rfl) (b_eql _ _ _ _ _ _)) rfl) ?_
  refine .asg 0 rfl rfl rfl ?_
  exact .nil
 clear hS
 intro bM bk hS aB hp
 replace hS := (((hS.nil).cons (hS.get 4 rfl)).cons (hS.get 3 rfl)).cons (hS.get 2 rfl)
 have a9 : sl _ 56 = .bool (decide (ab = 13)) := hp 1 (by decide)
 have hS := hS.cons a9
 clear hp a9
 refine bv _ _ ?_
 refine wp_cond_false ((hS.get 0 rfl).trans (bF (decide_eq_false c4))) ?_
 refine wp_skip ?_
 refine bs _ _ ?_
 refine wp_seq_k (fun b3 bw => ?_)
 refine reg_seq_tail 1 (I := I5_ w w3 w5 av bk) (ps := [IsV ((body_own.v0 ab ae af ag ac ad ah ai ak 0 0 0 0 0 0 0 0 0 0 0 0 0 0))]) (by kernel_rfl) ?_ ?_ rfl hS ⟨aB.1, aB.2.1, aB.2.2.1, aB.2.2.2.1, (bR bk)⟩ ?_ ?_
 ·exact bs5
 ·exact .v (.nil)
 ·refine .on rfl (fun a w hS hI hp => does_loadrow rfl (hS.get 1 rfl) (((hI.2.2.2.1).block am (blk_lt ao)).trans ao) Try.underlying28 rfl (by kernel_rfl) rfl) ?_
  exact .nil
 clear hS
 intro bN b8 hS aq hp
 replace hS := (hS.nil).cons (hS.get 2 rfl)
 have ba : sl _ 67 = (body_own.v0 ab ae af ag ac ad ah ai ak 0 0 0 0 0 0 0 0 0 0 0 0 0 0) := hp 0 (by decide)
 have hS := hS.cons ba
 clear hp ba
 show wpList _ _ _ [_] _ _
 refine list_step rfl (does_storeAll (g := g6) (cs := (body_own.c1 ab ae af ag ac ad ah ai ak 0 0 0 0 0 0 0 0 0 0 0 0 0 0)) rfl (hS.get 1 rfl) (hS.get 0 rfl) ((aq.2.2.1.block g6 (blk_lt ar)).trans ar) (by kernel_rfl) (by kernel_rfl) (by kernel_rfl)) ?_
 rintro bU bC ⟨rfl, aE, hT⟩
 have bO := hT.blk ((aq.2.2.2.1.block am (blk_lt ao)).trans ao) bc
 have a0 := hT.below aq.1 (Nat.le_trans (bf).size aw) (aq.1).size
 have bn := hT.below aq.2.1 aw (aq.2.1).size
 clear hT
 refine wpList_nil ?_
 refine bw _ _ ?_
 refine wp_ret ?_
 (try simp only [Exit.then, Exit.inBlock, Exit.jump, Exit.noGoto])
 exact bodyPost_ret (v := (body_own.v0 ab ae af ag ac ad ah ai ak 0 0 0 0 0 0 0 0 0 0 0 0 0 0)) (results_single rfl (Vals.cell g6 28 (body_own.c1 ab ae af ag ac ad ah ai ak 0 0 0 0 0 0 0 0 0 0 0 0 0 0) (0, 0) _ (hS.get 1 rfl) (((bR bC).block g6 (blk_lt aE)).trans aE) Try.underlying28 rfl (by kernel_rfl) .nil)) hS.nodef ⟨rfl, a0⟩
def stamp_May.f (a0 : Int) : Option (Bool) := if a0 ≥ 0 then (some (decide (a0 ≤ 4000000000000000))) else (some false)
set_option maxHeartbeats 8000000 in
set_option maxRecDepth 100000 in
theorem stamp_May.calls (a0 : Int) (r : Bool) (w : World) (h : stamp_May.f a0 = some r) :
    Calls Try.prog 75 #[.int .i64 a0] w fun e w' => e = .returned (.bool r) ∧ Drawn0 w w' := by
  have H : (if a0 ≥ 0 then (some (decide (a0 ≤ 4000000000000000))) else (some false)) = some r := h
  clear h
  by_cases c2 : a0 ≥ 0
  · rw [if_pos c2] at H
    have c2b0 : decide (0 ≤ a0) = true := decide_eq_true c2
    clear c2
    obtain rfl := Option.some.inj H
    go_enter Try.func75, Try.ntmps75
    go_wp2
    all_goals
      go_ret
      exact ⟨by first | rfl | (simp; done) | (simp [*]; done), by repeat (first | exact Drawn0.refl _ | apply Drawn0.step)⟩
  · rw [if_neg c2] at H
    have c2b0 : decide (0 ≤ a0) = false := decide_eq_false c2
    clear c2
    obtain rfl := Option.some.inj H
    go_enter Try.func75, Try.ntmps75
    go_wp2
    all_goals
      go_ret
      exact ⟨by first | rfl | (simp; done) | (simp [*]; done), by repeat (first | exact Drawn0.refl _ | apply Drawn0.step)⟩
def body_in.f (a0 : Int) (a1 : Int) (a2 : Int) : Option (Bool) := if a0 ≥ a1 then (some (decide (a0 ≤ a2))) else (some false)
set_option maxHeartbeats 8000000 in
set_option maxRecDepth 100000 in
theorem body_in.calls (a0 : Int) (a1 : Int) (a2 : Int) (r : Bool) (w : World) (h : body_in.f a0 a1 a2 = some r) :
    Calls Try.prog 77 #[.int .i64 a0, .int .i64 a1, .int .i64 a2] w fun e w' => e = .returned (.bool r) ∧ Drawn0 w w' := by
  have H : (if a0 ≥ a1 then (some (decide (a0 ≤ a2))) else (some false)) = some r := h
  clear h
  by_cases c4 : a0 ≥ a1
  · rw [if_pos c4] at H
    have c4b0 : decide (a1 ≤ a0) = true := decide_eq_true c4
    clear c4
    obtain rfl := Option.some.inj H
    go_enter Try.func77, Try.ntmps77
    go_wp2
    all_goals
      go_ret
      exact ⟨by first | rfl | (simp; done) | (simp [*]; done), by repeat (first | exact Drawn0.refl _ | apply Drawn0.step)⟩
  · rw [if_neg c4] at H
    have c4b0 : decide (a1 ≤ a0) = false := decide_eq_false c4
    clear c4
    obtain rfl := Option.some.inj H
    go_enter Try.func77, Try.ntmps77
    go_wp2
    all_goals
      go_ret
      exact ⟨by first | rfl | (simp; done) | (simp [*]; done), by repeat (first | exact Drawn0.refl _ | apply Drawn0.step)⟩
def quality_May.f (a0_0 : Int) (a0_1 : Int) (a0_2 : Int) : Option (Bool) := if a0_0 ≥ 0 then (if a0_0 ≤ 255 then (if a0_1 ≥ 0 then (if a0_1 ≤ 255 then (if a0_2 ≥ 0 then (some (decide (a0_2 ≤ 65535))) else (some false)) else (some false)) else (some false)) else (some false)) else (some false)
set_option maxHeartbeats 8000000 in
set_option maxRecDepth 100000 in
theorem quality_May.calls (a0_0 : Int) (a0_1 : Int) (a0_2 : Int) (r : Bool) (w : World) (h : quality_May.f a0_0 a0_1 a0_2 = some r) :
    Calls Try.prog 78 #[.agg #[.int .i64 a0_0, .int .i64 a0_1, .int .i64 a0_2]] w fun e w' => e = .returned (.bool r) ∧ Below w.heap.size w w' := by
  have hu26 := Try.underlying26
  have HB := Aside0.mk (Below.refl w.heap.size w)
  have H : (if a0_0 ≥ 0 then (if a0_0 ≤ 255 then (if a0_1 ≥ 0 then (if a0_1 ≤ 255 then (if a0_2 ≥ 0 then (some (decide (a0_2 ≤ 65535))) else (some false)) else (some false)) else (some false)) else (some false)) else (some false)) = some r := h
  clear h
  by_cases c2 : a0_0 ≥ 0
  · rw [if_pos c2] at H
    have c2b0 : decide (0 ≤ a0_0) = true := decide_eq_true c2
    clear c2
    by_cases c3 : a0_0 ≤ 255
    · rw [if_pos c3] at H
      have c3b0 : decide (a0_0 ≤ 255) = true := decide_eq_true c3
      clear c3
      by_cases c4 : a0_1 ≥ 0
      · rw [if_pos c4] at H
        have c4b0 : decide (0 ≤ a0_1) = true := decide_eq_true c4
        clear c4
        by_cases c5 : a0_1 ≤ 255
        · rw [if_pos c5] at H
          have c5b0 : decide (a0_1 ≤ 255) = true := decide_eq_true c5
          clear c5
          by_cases c6 : a0_2 ≥ 0
          · rw [if_pos c6] at H
            have c6b0 : decide (0 ≤ a0_2) = true := decide_eq_true c6
            clear c6
            obtain rfl := Option.some.inj H
            go_enter Try.func78, Try.ntmps78
            go_wp2_with (first | ((with_reducible refine gate_dst (N := 1) rfl ?_); refine box_event ?hg (N := 1) ?hd (cs := #[.int .i64 a0_0, .int .i64 a0_1, .int .i64 a0_2]) (t := 26) ?hr ?_; (case hd => rfl); (case hg => rfl); (case hr => first | (go_simp; done) | (go_simp; rfl)); intro gb102 hg w7 hbox hb; have n0_ := Aside0.mk (below_step (by repeat (first | (with_reducible first | exact HB.out | apply below_alloc | apply pw_below_drewN | apply below_drew1) | exact HB.out)) hb); have n1_ := Aside0.mk (hbox); have n2_ := Aside0.mk ((by rw [hg]; exact (below_size (by repeat (first | (with_reducible first | exact HB.out | apply below_alloc | apply pw_below_drewN | apply below_drew1) | exact HB.out))) : w.heap.size ≤ gb102)); have n3_ := Aside0.mk ((by rw [hg]; exact (below_size (by repeat (first | (with_reducible first | exact HB.out | apply below_alloc | apply pw_below_drewN | apply below_drew1) | exact HB.out))) : w.heap.size ≤ gb102)); clear HB; have HB := n0_; have BK102 := n1_; have GW102 := n2_; have GE102 := n3_; clear n0_ n1_ n2_ n3_; clear hb hbox hg; have hcz8_0 : w7.cell? ⟨gb102, 0, none⟩ = some (.int .i64 a0_0) := (blk_cell BK102.out 0).trans rfl; have hcz8_1 : w7.cell? ⟨gb102, 1, none⟩ = some (.int .i64 a0_1) := (blk_cell BK102.out 1).trans rfl; have hcz8_2 : w7.cell? ⟨gb102, 2, none⟩ = some (.int .i64 a0_2) := (blk_cell BK102.out 2).trans rfl; have hfz8_0 := blk_frozen BK102.out 0; have hfz8_1 := blk_frozen BK102.out 1; have hfz8_2 := blk_frozen BK102.out 2))
            all_goals
              go_ret
              exact ⟨by first | rfl | (simp [errW_none, errW_some] <;> rfl) | (simp [*, errW_none, errW_some] <;> rfl), by repeat (first | (with_reducible first | exact HB.out | apply below_alloc | apply pw_below_drewN | apply below_drew1 | refine below_set ?_ GE102.out) | exact HB.out)⟩
          · rw [if_neg c6] at H
            have c6b0 : decide (0 ≤ a0_2) = false := decide_eq_false c6
            clear c6
            obtain rfl := Option.some.inj H
            go_enter Try.func78, Try.ntmps78
            go_wp2_with (first | ((with_reducible refine gate_dst (N := 1) rfl ?_); refine box_event ?hg (N := 1) ?hd (cs := #[.int .i64 a0_0, .int .i64 a0_1, .int .i64 a0_2]) (t := 26) ?hr ?_; (case hd => rfl); (case hg => rfl); (case hr => first | (go_simp; done) | (go_simp; rfl)); intro gb102 hg w9 hbox hb; have n0_ := Aside0.mk (below_step (by repeat (first | (with_reducible first | exact HB.out | apply below_alloc | apply pw_below_drewN | apply below_drew1) | exact HB.out)) hb); have n1_ := Aside0.mk (hbox); have n2_ := Aside0.mk ((by rw [hg]; exact (below_size (by repeat (first | (with_reducible first | exact HB.out | apply below_alloc | apply pw_below_drewN | apply below_drew1) | exact HB.out))) : w.heap.size ≤ gb102)); have n3_ := Aside0.mk ((by rw [hg]; exact (below_size (by repeat (first | (with_reducible first | exact HB.out | apply below_alloc | apply pw_below_drewN | apply below_drew1) | exact HB.out))) : w.heap.size ≤ gb102)); clear HB; have HB := n0_; have BK102 := n1_; have GW102 := n2_; have GE102 := n3_; clear n0_ n1_ n2_ n3_; clear hb hbox hg; have hcz10_0 : w9.cell? ⟨gb102, 0, none⟩ = some (.int .i64 a0_0) := (blk_cell BK102.out 0).trans rfl; have hcz10_1 : w9.cell? ⟨gb102, 1, none⟩ = some (.int .i64 a0_1) := (blk_cell BK102.out 1).trans rfl; have hcz10_2 : w9.cell? ⟨gb102, 2, none⟩ = some (.int .i64 a0_2) := (blk_cell BK102.out 2).trans rfl; have hfz10_0 := blk_frozen BK102.out 0; have hfz10_1 := blk_frozen BK102.out 1; have hfz10_2 := blk_frozen BK102.out 2))
            all_goals
              go_ret
              exact ⟨by first | rfl | (simp [errW_none, errW_some] <;> rfl) | (simp [*, errW_none, errW_some] <;> rfl), by repeat (first | (with_reducible first | exact HB.out | apply below_alloc | apply pw_below_drewN | apply below_drew1 | refine below_set ?_ GE102.out) | exact HB.out)⟩
        · rw [if_neg c5] at H
          have c5b0 : decide (a0_1 ≤ 255) = false := decide_eq_false c5
          clear c5
          obtain rfl := Option.some.inj H
          go_enter Try.func78, Try.ntmps78
          go_wp2_with (first | ((with_reducible refine gate_dst (N := 1) rfl ?_); refine box_event ?hg (N := 1) ?hd (cs := #[.int .i64 a0_0, .int .i64 a0_1, .int .i64 a0_2]) (t := 26) ?hr ?_; (case hd => rfl); (case hg => rfl); (case hr => first | (go_simp; done) | (go_simp; rfl)); intro gb102 hg w11 hbox hb; have n0_ := Aside0.mk (below_step (by repeat (first | (with_reducible first | exact HB.out | apply below_alloc | apply pw_below_drewN | apply below_drew1) | exact HB.out)) hb); have n1_ := Aside0.mk (hbox); have n2_ := Aside0.mk ((by rw [hg]; exact (below_size (by repeat (first | (with_reducible first | exact HB.out | apply below_alloc | apply pw_below_drewN | apply below_drew1) | exact HB.out))) : w.heap.size ≤ gb102)); have n3_ := Aside0.mk ((by rw [hg]; exact (below_size (by repeat (first | (with_reducible first | exact HB.out | apply below_alloc | apply pw_below_drewN | apply below_drew1) | exact HB.out))) : w.heap.size ≤ gb102)); clear HB; have HB := n0_; have BK102 := n1_; have GW102 := n2_; have GE102 := n3_; clear n0_ n1_ n2_ n3_; clear hb hbox hg; have hcz12_0 : w11.cell? ⟨gb102, 0, none⟩ = some (.int .i64 a0_0) := (blk_cell BK102.out 0).trans rfl; have hcz12_1 : w11.cell? ⟨gb102, 1, none⟩ = some (.int .i64 a0_1) := (blk_cell BK102.out 1).trans rfl; have hcz12_2 : w11.cell? ⟨gb102, 2, none⟩ = some (.int .i64 a0_2) := (blk_cell BK102.out 2).trans rfl; have hfz12_0 := blk_frozen BK102.out 0; have hfz12_1 := blk_frozen BK102.out 1; have hfz12_2 := blk_frozen BK102.out 2))
          all_goals
            go_ret
            exact ⟨by first | rfl | (simp [errW_none, errW_some] <;> rfl) | (simp [*, errW_none, errW_some] <;> rfl), by repeat (first | (with_reducible first | exact HB.out | apply below_alloc | apply pw_below_drewN | apply below_drew1 | refine below_set ?_ GE102.out) | exact HB.out)⟩
      · rw [if_neg c4] at H
        have c4b0 : decide (0 ≤ a0_1) = false := decide_eq_false c4
        clear c4
        obtain rfl := Option.some.inj H
        go_enter Try.func78, Try.ntmps78
        go_wp2_with (first | ((with_reducible refine gate_dst (N := 1) rfl ?_); refine box_event ?hg (N := 1) ?hd (cs := #[.int .i64 a0_0, .int .i64 a0_1, .int .i64 a0_2]) (t := 26) ?hr ?_; (case hd => rfl); (case hg => rfl); (case hr => first | (go_simp; done) | (go_simp; rfl)); intro gb102 hg w13 hbox hb; have n0_ := Aside0.mk (below_step (by repeat (first | (with_reducible first | exact HB.out | apply below_alloc | apply pw_below_drewN | apply below_drew1) | exact HB.out)) hb); have n1_ := Aside0.mk (hbox); have n2_ := Aside0.mk ((by rw [hg]; exact (below_size (by repeat (first | (with_reducible first | exact HB.out | apply below_alloc | apply pw_below_drewN | apply below_drew1) | exact HB.out))) : w.heap.size ≤ gb102)); have n3_ := Aside0.mk ((by rw [hg]; exact (below_size (by repeat (first | (with_reducible first | exact HB.out | apply below_alloc | apply pw_below_drewN | apply below_drew1) | exact HB.out))) : w.heap.size ≤ gb102)); clear HB; have HB := n0_; have BK102 := n1_; have GW102 := n2_; have GE102 := n3_; clear n0_ n1_ n2_ n3_; clear hb hbox hg; have hcz14_0 : w13.cell? ⟨gb102, 0, none⟩ = some (.int .i64 a0_0) := (blk_cell BK102.out 0).trans rfl; have hcz14_1 : w13.cell? ⟨gb102, 1, none⟩ = some (.int .i64 a0_1) := (blk_cell BK102.out 1).trans rfl; have hcz14_2 : w13.cell? ⟨gb102, 2, none⟩ = some (.int .i64 a0_2) := (blk_cell BK102.out 2).trans rfl; have hfz14_0 := blk_frozen BK102.out 0; have hfz14_1 := blk_frozen BK102.out 1; have hfz14_2 := blk_frozen BK102.out 2))
        all_goals
          go_ret
          exact ⟨by first | rfl | (simp [errW_none, errW_some] <;> rfl) | (simp [*, errW_none, errW_some] <;> rfl), by repeat (first | (with_reducible first | exact HB.out | apply below_alloc | apply pw_below_drewN | apply below_drew1 | refine below_set ?_ GE102.out) | exact HB.out)⟩
    · rw [if_neg c3] at H
      have c3b0 : decide (a0_0 ≤ 255) = false := decide_eq_false c3
      clear c3
      obtain rfl := Option.some.inj H
      go_enter Try.func78, Try.ntmps78
      go_wp2_with (first | ((with_reducible refine gate_dst (N := 1) rfl ?_); refine box_event ?hg (N := 1) ?hd (cs := #[.int .i64 a0_0, .int .i64 a0_1, .int .i64 a0_2]) (t := 26) ?hr ?_; (case hd => rfl); (case hg => rfl); (case hr => first | (go_simp; done) | (go_simp; rfl)); intro gb102 hg w15 hbox hb; have n0_ := Aside0.mk (below_step (by repeat (first | (with_reducible first | exact HB.out | apply below_alloc | apply pw_below_drewN | apply below_drew1) | exact HB.out)) hb); have n1_ := Aside0.mk (hbox); have n2_ := Aside0.mk ((by rw [hg]; exact (below_size (by repeat (first | (with_reducible first | exact HB.out | apply below_alloc | apply pw_below_drewN | apply below_drew1) | exact HB.out))) : w.heap.size ≤ gb102)); have n3_ := Aside0.mk ((by rw [hg]; exact (below_size (by repeat (first | (with_reducible first | exact HB.out | apply below_alloc | apply pw_below_drewN | apply below_drew1) | exact HB.out))) : w.heap.size ≤ gb102)); clear HB; have HB := n0_; have BK102 := n1_; have GW102 := n2_; have GE102 := n3_; clear n0_ n1_ n2_ n3_; clear hb hbox hg; have hcz16_0 : w15.cell? ⟨gb102, 0, none⟩ = some (.int .i64 a0_0) := (blk_cell BK102.out 0).trans rfl; have hcz16_1 : w15.cell? ⟨gb102, 1, none⟩ = some (.int .i64 a0_1) := (blk_cell BK102.out 1).trans rfl; have hcz16_2 : w15.cell? ⟨gb102, 2, none⟩ = some (.int .i64 a0_2) := (blk_cell BK102.out 2).trans rfl; have hfz16_0 := blk_frozen BK102.out 0; have hfz16_1 := blk_frozen BK102.out 1; have hfz16_2 := blk_frozen BK102.out 2))
      all_goals
        go_ret
        exact ⟨by first | rfl | (simp [errW_none, errW_some] <;> rfl) | (simp [*, errW_none, errW_some] <;> rfl), by repeat (first | (with_reducible first | exact HB.out | apply below_alloc | apply pw_below_drewN | apply below_drew1 | refine below_set ?_ GE102.out) | exact HB.out)⟩
  · rw [if_neg c2] at H
    have c2b0 : decide (0 ≤ a0_0) = false := decide_eq_false c2
    clear c2
    obtain rfl := Option.some.inj H
    go_enter Try.func78, Try.ntmps78
    go_wp2_with (first | ((with_reducible refine gate_dst (N := 1) rfl ?_); refine box_event ?hg (N := 1) ?hd (cs := #[.int .i64 a0_0, .int .i64 a0_1, .int .i64 a0_2]) (t := 26) ?hr ?_; (case hd => rfl); (case hg => rfl); (case hr => first | (go_simp; done) | (go_simp; rfl)); intro gb102 hg w17 hbox hb; have n0_ := Aside0.mk (below_step (by repeat (first | (with_reducible first | exact HB.out | apply below_alloc | apply pw_below_drewN | apply below_drew1) | exact HB.out)) hb); have n1_ := Aside0.mk (hbox); have n2_ := Aside0.mk ((by rw [hg]; exact (below_size (by repeat (first | (with_reducible first | exact HB.out | apply below_alloc | apply pw_below_drewN | apply below_drew1) | exact HB.out))) : w.heap.size ≤ gb102)); have n3_ := Aside0.mk ((by rw [hg]; exact (below_size (by repeat (first | (with_reducible first | exact HB.out | apply below_alloc | apply pw_below_drewN | apply below_drew1) | exact HB.out))) : w.heap.size ≤ gb102)); clear HB; have HB := n0_; have BK102 := n1_; have GW102 := n2_; have GE102 := n3_; clear n0_ n1_ n2_ n3_; clear hb hbox hg; have hcz18_0 : w17.cell? ⟨gb102, 0, none⟩ = some (.int .i64 a0_0) := (blk_cell BK102.out 0).trans rfl; have hcz18_1 : w17.cell? ⟨gb102, 1, none⟩ = some (.int .i64 a0_1) := (blk_cell BK102.out 1).trans rfl; have hcz18_2 : w17.cell? ⟨gb102, 2, none⟩ = some (.int .i64 a0_2) := (blk_cell BK102.out 2).trans rfl; have hfz18_0 := blk_frozen BK102.out 0; have hfz18_1 := blk_frozen BK102.out 1; have hfz18_2 := blk_frozen BK102.out 2))
    all_goals
      go_ret
      exact ⟨by first | rfl | (simp [errW_none, errW_some] <;> rfl) | (simp [*, errW_none, errW_some] <;> rfl), by repeat (first | (with_reducible first | exact HB.out | apply below_alloc | apply pw_below_drewN | apply below_drew1 | refine below_set ?_ GE102.out) | exact HB.out)⟩
def body_Check.f (k : Nat) (a0_0 a0_1 a0_2 a0_3 a0_4 a0_5 a0_6 a0_7 a0_8 a0_9 a0_10 a0_11 a0_12 a0_13 a0_14 a0_15 a0_16 a0_17 a0_18 a0_19 a0_20 a0_21 a0_22 : Int) : Option (Bool) := (header_Check.f k a0_0 a0_1 a0_2 a0_3 a0_4 a0_5 a0_6 a0_7 a0_8 a0_9 a0_10 a0_11 a0_12 a0_13 a0_14 a0_15 a0_16 a0_17 a0_18 a0_19 a0_20 a0_21 a0_22).bind fun t6 => (if t6 = true then ((body_own.f a0_0 a0_1 a0_2 a0_3 a0_4 a0_5 a0_6 a0_7 a0_8 a0_9 a0_10 a0_11 a0_12 a0_13 a0_14 a0_15 a0_16 a0_17 a0_18 a0_19 a0_20 a0_21 a0_22).bind fun t7 => (if ((a0_0 == t7.1) && ((a0_1 == t7.2.1) && ((a0_2 == t7.2.2.1) && ((a0_3 == t7.2.2.2.1) && ((a0_4 == t7.2.2.2.2.1) && ((a0_5 == t7.2.2.2.2.2.1) && ((a0_6 == t7.2.2.2.2.2.2.1) && ((a0_7 == t7.2.2.2.2.2.2.2.1) && ((a0_8 == t7.2.2.2.2.2.2.2.2.1) && ((a0_9 == t7.2.2.2.2.2.2.2.2.2.1) && ((a0_10 == t7.2.2.2.2.2.2.2.2.2.2.1) && ((a0_11 == t7.2.2.2.2.2.2.2.2.2.2.2.1) && ((a0_12 == t7.2.2.2.2.2.2.2.2.2.2.2.2.1) && ((a0_13 == t7.2.2.2.2.2.2.2.2.2.2.2.2.2.1) && ((a0_14 == t7.2.2.2.2.2.2.2.2.2.2.2.2.2.2.1) && ((a0_15 == t7.2.2.2.2.2.2.2.2.2.2.2.2.2.2.2.1) && ((a0_16 == t7.2.2.2.2.2.2.2.2.2.2.2.2.2.2.2.2.1) && ((a0_17 == t7.2.2.2.2.2.2.2.2.2.2.2.2.2.2.2.2.2.1) && ((a0_18 == t7.2.2.2.2.2.2.2.2.2.2.2.2.2.2.2.2.2.2.1) && ((a0_19 == t7.2.2.2.2.2.2.2.2.2.2.2.2.2.2.2.2.2.2.2.1) && ((a0_20 == t7.2.2.2.2.2.2.2.2.2.2.2.2.2.2.2.2.2.2.2.2.1) && ((a0_21 == t7.2.2.2.2.2.2.2.2.2.2.2.2.2.2.2.2.2.2.2.2.2.1) && (a0_22 == t7.2.2.2.2.2.2.2.2.2.2.2.2.2.2.2.2.2.2.2.2.2.2))))))))))))))))))))))) = true then ((stamp_May.f a0_8).bind fun t8 => (if t8 = true then ((ident_May.f a0_9 a0_10).bind fun t9 => (if t9 = true then ((body_in.f a0_11 (-32768) 32767).bind fun t10 => (if t10 = true then ((body_in.f a0_12 0 255).bind fun t11 => (if t11 = true then ((body_in.f a0_16 0 255).bind fun t12 => (if t12 = true then ((body_in.f a0_19 0 255).bind fun t13 => (if t13 = true then ((quality_May.f a0_13 a0_14 a0_15).bind fun t14 => (if t14 = true then ((body_in.f a0_18 0 65535).bind fun t15 => (if t15 = true then ((body_in.f a0_20 0 255).bind fun t16 => (if t16 = true then ((body_in.f a0_21 0 255).bind fun t17 => (if t17 = true then ((body_in.f a0_22 0 15).bind fun t18 => (some t18)) else (none))) else (none))) else (none))) else (none))) else (none))) else (none))) else (none))) else (none))) else (none))) else (none))) else (none))) else (none))
open Go.Proofs.Ytiomlbkakiienaa.E in
set_option maxRecDepth 100000 in
theorem body_Check.eql28 (x y : Operand) (w : World) (a0 a1 a2 a3 a4 a5 a6 a7 a8 a9 a10 a11 a12 a13 a14 a15 a16 a17 a18 a19 a20 a21 a22 b0 b1 b2 b3 b4 b5 b6 b7 b8 b9 b10 b11 b12 b13 b14 b15 b16 b17 b18 b19 b20 b21 b22 : Int) : (do eqGuard .eql 28 x y (.agg #[.int .i64 a0, .int .i64 a1, .int .i64 a2, .int .i64 a3, .int .u64 a4, .int .i64 a5, .int .i64 a6, .int .i64 a7, .int .i64 a8, .int .u64 a9, .int .i64 a10, .int .i64 a11, .int .i64 a12, .int .i64 a13, .int .i64 a14, .int .i64 a15, .int .i64 a16, .int .u64 a17, .int .i64 a18, .int .i64 a19, .int .i64 a20, .int .i64 a21, .int .i64 a22]) (.agg #[.int .i64 b0, .int .i64 b1, .int .i64 b2, .int .i64 b3, .int .u64 b4, .int .i64 b5, .int .i64 b6, .int .i64 b7, .int .i64 b8, .int .u64 b9, .int .i64 b10, .int .i64 b11, .int .i64 b12, .int .i64 b13, .int .i64 b14, .int .i64 b15, .int .i64 b16, .int .u64 b17, .int .i64 b18, .int .i64 b19, .int .i64 b20, .int .i64 b21, .int .i64 b22]); binOp .eql 28 (.agg #[.int .i64 a0, .int .i64 a1, .int .i64 a2, .int .i64 a3, .int .u64 a4, .int .i64 a5, .int .i64 a6, .int .i64 a7, .int .i64 a8, .int .u64 a9, .int .i64 a10, .int .i64 a11, .int .i64 a12, .int .i64 a13, .int .i64 a14, .int .i64 a15, .int .i64 a16, .int .u64 a17, .int .i64 a18, .int .i64 a19, .int .i64 a20, .int .i64 a21, .int .i64 a22]) (.agg #[.int .i64 b0, .int .i64 b1, .int .i64 b2, .int .i64 b3, .int .u64 b4, .int .i64 b5, .int .i64 b6, .int .i64 b7, .int .i64 b8, .int .u64 b9, .int .i64 b10, .int .i64 b11, .int .i64 b12, .int .i64 b13, .int .i64 b14, .int .i64 b15, .int .i64 b16, .int .u64 b17, .int .i64 b18, .int .i64 b19, .int .i64 b20, .int .i64 b21, .int .i64 b22]) : Sem Value).run Try.prog w = .ok (.bool ((a0 == b0) && ((a1 == b1) && ((a2 == b2) && ((a3 == b3) && ((a4 == b4) && ((a5 == b5) && ((a6 == b6) && ((a7 == b7) && ((a8 == b8) && ((a9 == b9) && ((a10 == b10) && ((a11 == b11) && ((a12 == b12) && ((a13 == b13) && ((a14 == b14) && ((a15 == b15) && ((a16 == b16) && ((a17 == b17) && ((a18 == b18) && ((a19 == b19) && ((a20 == b20) && ((a21 == b21) && (a22 == b22)))))))))))))))))))))))) w := by
  have hu3 := Try.underlying3
  have hu22 := Try.underlying22
  have hu24 := Try.underlying24
  have hu26 := Try.underlying26
  have hu28 := Try.underlying28
  conv => lhs; simp [eqGuard, go_sem, hu3, hu22, hu24, hu26, hu28]
  exact ite_and (ite_and (ite_and (ite_and (ite_and (ite_and (ite_and (ite_and (ite_and (ite_and (ite_and (ite_and (ite_and (ite_and (ite_and (ite_and (ite_and (ite_and (ite_and (ite_and (ite_and (ite_and (ite_last))))))))))))))))))))))
abbrev body_Check.v0 (x0 x1 x2 x3 x4 x5 x6 x7 x8 x9 x10 x11 x12 x13 x14 x15 x16 x17 x18 x19 x20 x21 x22 : Int) : Value := .agg #[.int .i64 x0, .int .i64 x1, .int .i64 x2, .int .i64 x3, .int .u64 x4, .int .i64 x5, .int .i64 x6, .int .i64 x7, .int .i64 x8, .int .u64 x9, .int .i64 x10, .int .i64 x11, .int .i64 x12, .int .i64 x13, .int .i64 x14, .int .i64 x15, .int .i64 x16, .int .u64 x17, .int .i64 x18, .int .i64 x19, .int .i64 x20, .int .i64 x21, .int .i64 x22]
abbrev body_Check.c1 (x0 x1 x2 x3 x4 x5 x6 x7 x8 x9 x10 x11 x12 x13 x14 x15 x16 x17 x18 x19 x20 x21 x22 : Int) : Array Value := #[.int .i64 x0, .int .i64 x1, .int .i64 x2, .int .i64 x3, .int .u64 x4, .int .i64 x5, .int .i64 x6, .int .i64 x7, .int .i64 x8, .int .u64 x9, .int .i64 x10, .int .i64 x11, .int .i64 x12, .int .i64 x13, .int .i64 x14, .int .i64 x15, .int .i64 x16, .int .u64 x17, .int .i64 x18, .int .i64 x19, .int .i64 x20, .int .i64 x21, .int .i64 x22]
open Go.Proofs.Ytiomlbkakiienaa.E in
set_option maxHeartbeats 60000000 in
set_option maxRecDepth 100000 in
theorem body_Check.calls (k : Nat) (aq ar au av aw ax ay az ap an ab af ag ac ad ae ah ao ai aj ak al am : Int) (r : Bool) (w : World) (h : body_Check.f k aq ar au av aw ax ay az ap an ab af ag ac ad ae ah ao ai aj ak al am = some r) :
    Calls Try.prog 34 #[.agg #[.int .i64 aq, .int .i64 ar, .int .i64 au, .int .i64 av, .int .u64 aw, .int .i64 ax, .int .i64 ay, .int .i64 az, .int .i64 ap, .int .u64 an, .int .i64 ab, .int .i64 af, .int .i64 ag, .int .i64 ac, .int .i64 ad, .int .i64 ae, .int .i64 ah, .int .u64 ao, .int .i64 ai, .int .i64 aj, .int .i64 ak, .int .i64 al, .int .i64 am]] w fun e w' => e = .returned (.bool r) ∧ Below w.heap.size w w' := by
 have H := h
 clear h
 unfold body_Check.f at H
 obtain ⟨t6, bv, H⟩ := Option.bind_eq_some_iff.mp H
 by_cases c1 : t6 = true
 rotate_left
 ·rw [if_neg c1] at H; exact absurd H (by simp)
 rw [if_pos c1] at H
 obtain ⟨t7, bw, H⟩ := Option.bind_eq_some_iff.mp H
 obtain ⟨aO, aP, aQ, aR, aS, aT, aU, aV, aW, aA, aB, aC, aD, aE, aF, aG, aH, aI, aJ, aK, aL, aM, aN⟩ := t7
 (try dsimp only at H)
 by_cases c2 : ((aq == aO) && ((ar == aP) && ((au == aQ) && ((av == aR) && ((aw == aS) && ((ax == aT) && ((ay == aU) && ((az == aV) && ((ap == aW) && ((an == aA) && ((ab == aB) && ((af == aC) && ((ag == aD) && ((ac == aE) && ((ad == aF) && ((ae == aG) && ((ah == aH) && ((ao == aI) && ((ai == aJ) && ((aj == aK) && ((ak == aL) && ((al == aM) && (am == aN))))))))))))))))))))))) = true
 rotate_left
 ·rw [if_neg c2] at H; exact absurd H (by simp)
 rw [if_pos c2] at H
 obtain ⟨t8, bx, H⟩ := Option.bind_eq_some_iff.mp H
 by_cases c3 : t8 = true
 rotate_left
 ·rw [if_neg c3] at H; exact absurd H (by simp)
 rw [if_pos c3] at H
 obtain ⟨t9, bz, H⟩ := Option.bind_eq_some_iff.mp H
 by_cases c4 : t9 = true
 rotate_left
 ·rw [if_neg c4] at H; exact absurd H (by simp)
 rw [if_pos c4] at H
 obtain ⟨bb, bl, H⟩ := Option.bind_eq_some_iff.mp H
 by_cases c5 : bb = true
 rotate_left
 ·rw [if_neg c5] at H; exact absurd H (by simp)
 rw [if_pos c5] at H
 obtain ⟨bc, bm, H⟩ := Option.bind_eq_some_iff.mp H
 by_cases c6 : bc = true
 rotate_left
 ·rw [if_neg c6] at H; exact absurd H (by simp)
 rw [if_pos c6] at H
 obtain ⟨bd, bn, H⟩ := Option.bind_eq_some_iff.mp H
 by_cases c7 : bd = true
 rotate_left
 ·rw [if_neg c7] at H; exact absurd H (by simp)
 rw [if_pos c7] at H
 obtain ⟨be, bo, H⟩ := Option.bind_eq_some_iff.mp H
 by_cases c8 : be = true
 rotate_left
 ·rw [if_neg c8] at H; exact absurd H (by simp)
 rw [if_pos c8] at H
 obtain ⟨bf, bp, H⟩ := Option.bind_eq_some_iff.mp H
 by_cases c9 : bf = true
 rotate_left
 ·rw [if_neg c9] at H; exact absurd H (by simp)
 rw [if_pos c9] at H
 obtain ⟨bg, bq, H⟩ := Option.bind_eq_some_iff.mp H
 by_cases aX : bg = true
 rotate_left
 ·rw [if_neg aX] at H; exact absurd H (by simp)
 rw [if_pos aX] at H
 obtain ⟨bh, br, H⟩ := Option.bind_eq_some_iff.mp H
 by_cases aY : bh = true
 rotate_left
 ·rw [if_neg aY] at H; exact absurd H (by simp)
 rw [if_pos aY] at H
 obtain ⟨bi, bs, H⟩ := Option.bind_eq_some_iff.mp H
 by_cases aZ : bi = true
 rotate_left
 ·rw [if_neg aZ] at H; exact absurd H (by simp)
 rw [if_pos aZ] at H
 obtain ⟨ba, bt, H⟩ := Option.bind_eq_some_iff.mp H
 obtain rfl := Option.some.inj H
 refine calls_of_wp (fn := Try.f34) (by kernel_rfl) rfl ?_
 have hS := St.enter #[(body_Check.v0 aq ar au av aw ax ay az ap an ab af ag ac ad ae ah ao ai aj ak al am)] 66 (by simp) [(0, (body_Check.v0 aq ar au av aw ax ay az ap an ab af ag ac ad ae ah ao ai aj ak al am))] (by simp)
 have bA := Below.refl w.heap.size w
 refine wp_seq_k (fun K1 bB => ?_)
 refine reg_seq (I := I1_ w) (ps := [IsB (body_Check.c1 aq ar au av aw ax ay az ap an ab af ag ac ad ae ah ao ai aj ak al am) 28 w.heap.size, VB false]) (by kernel_rfl) ?_ ?_ rfl hS bA ?_ ?_
 ·exact bs1
 ·exact .cons (Stays.b _ _ _) (.v (.nil))
 ·refine .on rfl (fun a w hS hI hp => does_var (x_box rfl (congrArg Value.cells (hS.get 0 rfl))) (hI).size) ?_
  refine .on rfl (fun a w hS hI hp => does_val (x_assign rfl (rfl)) rfl) ?_
  exact .nil
 clear hS
 intro bG w3 hS bD hp
 replace hS := hS.nil
 obtain ⟨g4, bj, bE, aa⟩ := (show IsB _ 28 _ (sl _ 1) _ from hp 0 (by decide))
 have hS := hS.cons bj
 clear hp bj
 refine bB _ _ ?_
 refine wp_seq_k (fun K5 bC => ?_)
 refine reg_any (I := I2_ w w3) (ps := [IsV ((body_Check.v0 aq ar au av aw ax ay az ap an ab af ag ac ad ae ah ao ai aj ak al am)), VB t6, VB t6, IsV ((body_Check.v0 aq ar au av aw ax ay az ap an ab af ag ac ad ae ah ao ai aj ak al am)), IsV ((body_Check.v0 aq ar au av aw ax ay az ap an ab af ag ac ad ae ah ao ai aj ak al am)), IsV ((body_Check.v0 aO aP aQ aR aS aT aU aV aW aA aB aC aD aE aF aG aH aI aJ aK aL aM aN)), VB ((aq == aO) && ((ar == aP) && ((au == aQ) && ((av == aR) && ((aw == aS) && ((ax == aT) && ((ay == aU) && ((az == aV) && ((ap == aW) && ((an == aA) && ((ab == aB) && ((af == aC) && ((ag == aD) && ((ac == aE) && ((ad == aF) && ((ae == aG) && ((ah == aH) && ((ao == aI) && ((ai == aJ) && ((aj == aK) && ((ak == aL) && ((al == aM) && (am == aN))))))))))))))))))))))), VB ((aq == aO) && ((ar == aP) && ((au == aQ) && ((av == aR) && ((aw == aS) && ((ax == aT) && ((ay == aU) && ((az == aV) && ((ap == aW) && ((an == aA) && ((ab == aB) && ((af == aC) && ((ag == aD) && ((ac == aE) && ((ad == aF) && ((ae == aG) && ((ah == aH) && ((ao == aI) && ((ai == aJ) && ((aj == aK) && ((ak == aL) && ((al == aM) && (am == aN))))))))))))))))))))))), VB ((aq == aO) && ((ar == aP) && ((au == aQ) && ((av == aR) && ((aw == aS) && ((ax == aT) && ((ay == aU) && ((az == aV) && ((ap == aW) && ((an == aA) && ((ab == aB) && ((af == aC) && ((ag == aD) && ((ac == aE) && ((ad == aF) && ((ae == aG) && ((ah == aH) && ((ao == aI) && ((ai == aJ) && ((aj == aK) && ((ak == aL) && ((al == aM) && (am == aN))))))))))))))))))))))), VP g4 8, VI ap, VB t8, VB t8, VB t8, VP g4 9, IsV (.agg #[.int .u64 an, .int .i64 ab]), VB t9, VB t9, VB t9, VP g4 11, VI af, VB bb, VB bb, VB bb, VP g4 12, VI ag, VB bc, VB bc, VB bc, VP g4 16, VI ah, VB bd, VB bd, VB bd, VP g4 19, VI aj, VB be, VB be, VB be, VP g4 13, IsV (.agg #[.int .i64 ac, .int .i64 ad, .int .i64 ae]), VB bf, VB bf, VB bf, VP g4 18, VI ai, VB bg, VB bg, VB bg, VP g4 20, VI ak, VB bh, VB bh, VB bh, VP g4 21, VI al, VB bi, VB bi, VB bi, VP g4 22, VI am, VB ba, VB ba, VB ba]) (by kernel_rfl) (by kernel_rfl) ?_ ?_ rfl hS ⟨bD, (bR w3)⟩ ?_ ?_
 ·exact bs2
 ·exact .v (.v (.v (.v (.v (.v (.v (.v (.v (.v (.v (.v (.v (.v (.v (.v (.v (.v (.v (.v (.v (.v (.v (.v (.v (.v (.v (.v (.v (.v (.v (.v (.v (.v (.v (.v (.v (.v (.v (.v (.v (.v (.v (.v (.v (.v (.v (.v (.v (.v (.v (.v (.v (.v (.v (.v (.v (.v (.v (.v (.v (.v (.v (.v (.nil))))))))))))))))))))))))))))))))))))))))))))))))))))))))))))))))
 ·refine .on rfl (fun a w hS hI hp => does_loadrow rfl (hS.get 0 rfl) (((hI.2).block g4 (blk_lt aa)).trans aa) Try.underlying28 rfl (by kernel_rfl) rfl) ?_
  refine .on rfl (fun a w hS hI hp => does_call (by kernel_rfl) (ar1 (hp.V 0 rfl rfl)) ((header_Check.calls (w := _) (h := bv)).mono fun _ _ h => ⟨_, h.1, h.2, rfl⟩)) ?_
  refine .mv 1 rfl rfl rfl ?_
  iterate 2 refine .oy 2 5 rfl rfl c1 (fun a w hS hI hp => does_loadrow rfl (hS.get 0 rfl) (((hI.2).block g4 (blk_lt aa)).trans aa) Try.underlying28 rfl (by kernel_rfl) rfl) ?_
  refine .oy 2 5 rfl rfl c1 (fun a w hS hI hp => does_call (by kernel_rfl) (ar1 (hp.V 4 rfl rfl)) ((body_own.calls (w := _) (h := bw)).mono fun _ _ h => ⟨_, h.1, h.2, rfl⟩)) ?_
  refine .oy 2 5 rfl rfl c1 (fun a w hS hI hp => does_val (x_bin rfl (hp.V 3 rfl rfl) (hp.V 5 rfl rfl) (body_Check.eql28 _ _ _ aq ar au av aw ax ay az ap an ab af ag ac ad ae ah ao ai aj ak al am aO aP aQ aR aS aT aU aV aW aA aB aC aD aE aF aG aH aI aJ aK aL aM aN)) rfl) ?_
  refine .pt 2 6 rfl rfl rfl c1 rfl ?_
  refine .mv 7 rfl rfl rfl ?_
  refine .oy 8 11 rfl rfl c2 (fun a w hS hI hp => does_val (x_fieldE (b := 0) rfl (hS.get 0 rfl) Try.underlying28 rfl rfl (by kernel_rfl)) rfl) ?_
  refine .oy 8 11 rfl rfl c2 (fun a w hS hI hp => does_val (x_load1 (d := .int .i64) rfl (hp.V 9 rfl rfl) (by kernel_rfl) rfl ((blk_cell (((hI.2).block g4 (blk_lt aa)).trans aa) 8).trans rfl)) rfl) ?_
  refine .oy 8 11 rfl rfl c2 (fun a w hS hI hp => does_call (by kernel_rfl) (ar1 (hp.V 10 rfl rfl)) ((stamp_May.calls ap t8 _  bx).mono fun _ _ h => ⟨_, h.1, h.2.below, rfl⟩)) ?_
  refine .pt 8 11 rfl rfl rfl c2 rfl ?_
  refine .mv 12 rfl rfl rfl ?_
  refine .oy 13 16 rfl rfl c3 (fun a w hS hI hp => does_val (x_fieldE (b := 0) rfl (hS.get 0 rfl) Try.underlying28 rfl rfl (by kernel_rfl)) rfl) ?_
  refine .oy 13 16 rfl rfl c3 (fun a w hS hI hp => does_loadmid (cs := [.int .u64 an, .int .i64 ab]) rfl (hp.V 14 rfl rfl) (((hI.2).block g4 (blk_lt aa)).trans aa) (by kernel_rfl) Try.underlying24 rfl (by kernel_rfl) rfl) ?_
  refine .oy 13 16 rfl rfl c3 (fun a w hS hI hp => does_call (by kernel_rfl) (ar1 (hp.V 15 rfl rfl)) ((ident_May.calls an ab t9 _  bz).mono fun _ _ h => ⟨_, h.1, h.2, rfl⟩)) ?_
  refine .pt 13 16 rfl rfl rfl c3 rfl ?_
  refine .mv 17 rfl rfl rfl ?_
  refine .oy 18 21 rfl rfl c4 (fun a w hS hI hp => does_val (x_fieldE (b := 0) rfl (hS.get 0 rfl) Try.underlying28 rfl rfl (by kernel_rfl)) rfl) ?_
  refine .oy 18 21 rfl rfl c4 (fun a w hS hI hp => does_val (x_load1 (d := .int .i64) rfl (hp.V 19 rfl rfl) (by kernel_rfl) rfl ((blk_cell (((hI.2).block g4 (blk_lt aa)).trans aa) 11).trans rfl)) rfl) ?_
  refine .oy 18 21 rfl rfl c4 (fun a w hS hI hp => does_call (by kernel_rfl) (ar3 (hp.V 20 rfl rfl) (rfl) (rfl)) ((body_in.calls af (-32768) 32767 bb _  bl).mono fun _ _ h => ⟨_, h.1, h.2.below, rfl⟩)) ?_
  refine .pt 18 21 rfl rfl rfl c4 rfl ?_
  refine .mv 22 rfl rfl rfl ?_
  refine .oy 23 26 rfl rfl c5 (fun a w hS hI hp => does_val (x_fieldE (b := 0) rfl (hS.get 0 rfl) Try.underlying28 rfl rfl (by kernel_rfl)) rfl) ?_
  refine .oy 23 26 rfl rfl c5 (fun a w hS hI hp => does_val (x_load1 (d := .int .i64) rfl (hp.V 24 rfl rfl) (by kernel_rfl) rfl ((blk_cell (((hI.2).block g4 (blk_lt aa)).trans aa) 12).trans rfl)) rfl) ?_
  refine .oy 23 26 rfl rfl c5 (fun a w hS hI hp => does_call (by kernel_rfl) (ar3 (hp.V 25 rfl rfl) (rfl) (rfl)) ((body_in.calls ag 0 255 bc _  bm).mono fun _ _ h => ⟨_, h.1, h.2.below, rfl⟩)) ?_
  refine .pt 23 26 rfl rfl rfl c5 rfl ?_
  refine .mv 27 rfl rfl rfl ?_
  refine .oy 28 31 rfl rfl c6 (fun a w hS hI hp => does_val (x_fieldE (b := 0) rfl (hS.get 0 rfl) Try.underlying28 rfl rfl (by kernel_rfl)) rfl) ?_
  refine .oy 28 31 rfl rfl c6 (fun a w hS hI hp => does_val (x_load1 (d := .int .i64) rfl (hp.V 29 rfl rfl) (by kernel_rfl) rfl ((blk_cell (((hI.2).block g4 (blk_lt aa)).trans aa) 16).trans rfl)) rfl) ?_
  refine .oy 28 31 rfl rfl c6 (fun a w hS hI hp => does_call (by kernel_rfl) (ar3 (hp.V 30 rfl rfl) (rfl) (rfl)) ((body_in.calls ah 0 255 bd _  bn).mono fun _ _ h => ⟨_, h.1, h.2.below, rfl⟩)) ?_
  refine .pt 28 31 rfl rfl rfl c6 rfl ?_
  refine .mv 32 rfl rfl rfl ?_
  refine .oy 33 36 rfl rfl c7 (fun a w hS hI hp => does_val (x_fieldE (b := 0) rfl (hS.get 0 rfl) Try.underlying28 rfl rfl (by kernel_rfl)) rfl) ?_
  refine .oy 33 36 rfl rfl c7 (fun a w hS hI hp => does_val (x_load1 (d := .int .i64) rfl (hp.V 34 rfl rfl) (by kernel_rfl) rfl ((blk_cell (((hI.2).block g4 (blk_lt aa)).trans aa) 19).trans rfl)) rfl) ?_
  refine .oy 33 36 rfl rfl c7 (fun a w hS hI hp => does_call (by kernel_rfl) (ar3 (hp.V 35 rfl rfl) (rfl) (rfl)) ((body_in.calls aj 0 255 be _  bo).mono fun _ _ h => ⟨_, h.1, h.2.below, rfl⟩)) ?_
  refine .pt 33 36 rfl rfl rfl c7 rfl ?_
  refine .mv 37 rfl rfl rfl ?_
  refine .oy 38 41 rfl rfl c8 (fun a w hS hI hp => does_val (x_fieldE (b := 0) rfl (hS.get 0 rfl) Try.underlying28 rfl rfl (by kernel_rfl)) rfl) ?_
  refine .oy 38 41 rfl rfl c8 (fun a w hS hI hp => does_loadmid (cs := [.int .i64 ac, .int .i64 ad, .int .i64 ae]) rfl (hp.V 39 rfl rfl) (((hI.2).block g4 (blk_lt aa)).trans aa) (by kernel_rfl) Try.underlying26 rfl (by kernel_rfl) rfl) ?_
  refine .oy 38 41 rfl rfl c8 (fun a w hS hI hp => does_call (by kernel_rfl) (ar1 (hp.V 40 rfl rfl)) ((quality_May.calls ac ad ae bf _  bp).mono fun _ _ h => ⟨_, h.1, h.2, rfl⟩)) ?_
  refine .pt 38 41 rfl rfl rfl c8 rfl ?_
  refine .mv 42 rfl rfl rfl ?_
  refine .oy 43 46 rfl rfl c9 (fun a w hS hI hp => does_val (x_fieldE (b := 0) rfl (hS.get 0 rfl) Try.underlying28 rfl rfl (by kernel_rfl)) rfl) ?_
  refine .oy 43 46 rfl rfl c9 (fun a w hS hI hp => does_val (x_load1 (d := .int .i64) rfl (hp.V 44 rfl rfl) (by kernel_rfl) rfl ((blk_cell (((hI.2).block g4 (blk_lt aa)).trans aa) 18).trans rfl)) rfl) ?_
  refine .oy 43 46 rfl rfl c9 (fun a w hS hI hp => does_call (by kernel_rfl) (ar3 (hp.V 45 rfl rfl) (rfl) (rfl)) ((body_in.calls ai 0 65535 bg _  bq).mono fun _ _ h => ⟨_, h.1, h.2.below, rfl⟩)) ?_
  refine .pt 43 46 rfl rfl rfl c9 rfl ?_
  refine .mv 47 rfl rfl rfl ?_
  refine .oy 48 51 rfl rfl aX (fun a w hS hI hp => does_val (x_fieldE (b := 0) rfl (hS.get 0 rfl) Try.underlying28 rfl rfl (by kernel_rfl)) rfl) ?_
  refine .oy 48 51 rfl rfl aX (fun a w hS hI hp => does_val (x_load1 (d := .int .i64) rfl (hp.V 49 rfl rfl) (by kernel_rfl) rfl ((blk_cell (((hI.2).block g4 (blk_lt aa)).trans aa) 20).trans rfl)) rfl) ?_
  refine .oy 48 51 rfl rfl aX (fun a w hS hI hp => does_call (by kernel_rfl) (ar3 (hp.V 50 rfl rfl) (rfl) (rfl)) ((body_in.calls ak 0 255 bh _  br).mono fun _ _ h => ⟨_, h.1, h.2.below, rfl⟩)) ?_
  refine .pt 48 51 rfl rfl rfl aX rfl ?_
  refine .mv 52 rfl rfl rfl ?_
  refine .oy 53 56 rfl rfl aY (fun a w hS hI hp => does_val (x_fieldE (b := 0) rfl (hS.get 0 rfl) Try.underlying28 rfl rfl (by kernel_rfl)) rfl) ?_
  refine .oy 53 56 rfl rfl aY (fun a w hS hI hp => does_val (x_load1 (d := .int .i64) rfl (hp.V 54 rfl rfl) (by kernel_rfl) rfl ((blk_cell (((hI.2).block g4 (blk_lt aa)).trans aa) 21).trans rfl)) rfl) ?_
  refine .oy 53 56 rfl rfl aY (fun a w hS hI hp => does_call (by kernel_rfl) (ar3 (hp.V 55 rfl rfl) (rfl) (rfl)) ((body_in.calls al 0 255 bi _  bs).mono fun _ _ h => ⟨_, h.1, h.2.below, rfl⟩)) ?_
  refine .pt 53 56 rfl rfl rfl aY rfl ?_
  refine .mv 57 rfl rfl rfl ?_
  refine .oy 58 61 rfl rfl aZ (fun a w hS hI hp => does_val (x_fieldE (b := 0) rfl (hS.get 0 rfl) Try.underlying28 rfl rfl (by kernel_rfl)) rfl) ?_
  refine .oy 58 61 rfl rfl aZ (fun a w hS hI hp => does_val (x_load1 (d := .int .i64) rfl (hp.V 59 rfl rfl) (by kernel_rfl) rfl ((blk_cell (((hI.2).block g4 (blk_lt aa)).trans aa) 22).trans rfl)) rfl) ?_
  refine .oy 58 61 rfl rfl aZ (fun a w hS hI hp => does_call (by kernel_rfl) (ar3 (hp.V 60 rfl rfl) (rfl) (rfl)) ((body_in.calls am 0 15 ba _  bt).mono fun _ _ h => ⟨_, h.1, h.2.below, rfl⟩)) ?_
  refine .pt 58 61 rfl rfl rfl aZ rfl ?_
  refine .asg 62 rfl rfl rfl ?_
  exact .nil
 clear hS
 intro bF bH hS bu hp
 replace hS := hS.nil
 have bk : sl _ 2 = .bool ba := hp 63 (by decide)
 have hS := hS.cons bk
 clear hp bk
 refine bC _ _ ?_
 refine wp_ret ?_
 (try simp only [Exit.then, Exit.inBlock, Exit.jump, Exit.noGoto])
 exact bodyPost_ret (v := .bool ba) (results_single rfl (Vals.at (hS.get 0 rfl) .nil)) hS.nodef ⟨rfl, bu.1⟩
def octets_Put.bytes (v : Int) : Nat → List Int
  | 0 => []
  | n + 1 => (v / 256 ^ n) % 256 :: octets_Put.bytes v n
theorem octets_Put.bytes_length (v : Int) (n : Nat) : (octets_Put.bytes v n).length = n := by
  induction n with
  | zero => rfl
  | succ n ih => simp [octets_Put.bytes, ih]
def octets_Put.f (l0 : List Int) (a1 : Int) (a2 : Int) : Option (List Int) :=
  if 1 ≤ a2 ∧ l0.length ≤ 140737488355320 then some (l0 ++ octets_Put.bytes a1 (mn a2 8).toNat) else none
theorem octets_Put.nat8 (a2 : Int) (h : 1 ≤ a2) : ∃ m : Nat, mn a2 8 = (m : Int) + 1 ∧ m ≤ 7 := by
  refine ⟨(mn a2 8 - 1).toNat, ?_, ?_⟩ <;> (unfold mn; split <;> omega)
theorem octets_Put.capped {P : Program} {ops : Array Oper} {rest : List Oper} {o : Oper} {a : Act} {Q : Exit → Act → World → Prop} {w0 W : World} (base : Nat) (hgd : o.guard = none) (s x : Operand) (t e : TypeId) (z : Value) (bytes : Nat)
    (ho : o.op = .call { callee := .builtin .append, args := #[s, x], argTypes := #[t, t] })
    (ht : P.underlying t = some (.slice e)) (hinfo : (P.info? e).map (fun i => (i.zero, i.size, i.bytes)) = some (some z, 1, bytes)) (hz : z.cells.size = 1) (hb0 : 0 < bytes) (k : IntKind)
    (A : Option Addr) (xs : List Int) (y : Int) (hs : a.eval s = .slice A xs.length xs.length) (hx : a.eval x = .slice (some ⟨W.heap.size, 0, none⟩) 1 1)
    (HR : Kd.C (Kd.int k) W A xs.length xs) (HB : Below base w0 W) (hbase : base ≤ W.heap.size) (hl : (xs.length + 1) * bytes ≤ 140737488355328)
    (h : ∀ v1 w1, Kd.R (Kd.int k) e w1 base (fun _ => True) v1 (xs ++ [y]) → Below base w0 w1 → wpList P ops Q rest (a.put o.dst v1) w1) :
    wpList P ops Q (o :: rest) a (W.alloc (.cells #[.int k y] e)) := by
  obtain ⟨i0, hi, hzz⟩ := Option.map_eq_some_iff.1 hinfo
  simp only [Prod.mk.injEq] at hzz
  obtain ⟨hz0, hz1, hz2⟩ := hzz
  have hlen : xs.length + 1 ≤ 140737488355328 := Nat.le_trans (Nat.le_mul_of_pos_right _ hb0) hl
  have hrd := Kd.reads_of_C (d := (0 : Int)) HR
  have hB2 : Below base w0 (W.alloc (.cells #[.int k y] e)) := HB.alloc hbase _
  refine wpList_append_grows (W.alloc (.cells #[.int k y] e)) hgd s x t ho e i0 z 1 bytes ht hi hz0 hz1 hz2 hz (by omega) A xs.length xs.length (encs (Value.int k) xs) hs ?_ (by simp [encs_length]) ?_ ⟨W.heap.size, 0, none⟩ 1 1 [.int k y] hx rfl (World.news_of_block (cs := #[.int k y]) (t := e) (fr := (0, 0)) (heap_alloc_new W _)) (by simp [Value.oneCell']) (by omega) (by simp only [maxLen]; omega) hl ?_
  · rintro rfl
    rcases Nat.eq_zero_or_pos xs.length with h0 | h0
    · exact ⟨h0, h0⟩
    · obtain ⟨ad, e1, _⟩ := hrd.2.2 h0
      cases e1
  · rintro b rfl j u hj
    have hjl : j < xs.length := by have := (List.getElem?_eq_some_iff.1 hj).1; simpa [encs_length] using this
    obtain ⟨ad, e1, hc⟩ := hrd.2.2 (by omega)
    injection e1 with e1
    subst e1
    have h1 := hc j hjl
    have h2 : u = .int k (xs.getD j 0) := by
      simp only [encs, List.getElem?_map, List.getElem?_eq_getElem hjl, Option.map_some, Option.some.injEq] at hj
      rw [← hj, List.getD_eq_getElem?_getD, List.getElem?_eq_getElem hjl]
      rfl
    rw [h2]
    exact pw_cell_below (below_alloc (Below.refl _ _) _) h1
  · intro v1 w1 hown hg
    have hown2 : w1.ownsRow base e 1 v1 (xs ++ [y]).length (encs (Value.int k) (xs ++ [y])) := by
      have h3 : encs (Value.int k) (xs ++ [y]) = encs (Value.int k) xs ++ [.int k y] := by simp [encs]
      rw [h3, List.length_append]
      exact own_weaken hown (by simp; omega)
    exact h v1 w1 (Kd.R_of_own hown2 (fun _ _ => trivial)) (pw_below_grown hB2 none (by simp; omega) hg (by simp))
set_option maxHeartbeats 1000000 in
set_option maxRecDepth 100000 in
theorem octets_Put.calls (A0 : Option Addr) (c0 : Nat) (l0 : List Int) (a1 : Int) (a2 : Int) (r : List Int) (w : World) (hr0 : Kd.C (Kd.int .u8) w A0 l0.length l0) (hc0 : l0.length ≤ c0) (h : octets_Put.f l0 a1 a2 = some r) :
    Calls Try.prog 39 #[.slice A0 l0.length c0, .int .i64 a1, .int .i64 a2] w fun e w' => ∃ v0_ : Value, e = .returned (v0_) ∧ Kd.R (Kd.int .u8) 5 w' w.heap.size (fun _ => True) v0_ r ∧ Below w.heap.size w w' := by
  obtain ⟨m, hm, hm7⟩ : ∃ m : Nat, mn a2 8 = (m : Int) + 1 ∧ m ≤ 7 := octets_Put.nat8 a2 (by
    unfold octets_Put.f at h
    split at h
    · rename_i hh; exact hh.1
    · cases h)
  have Hm := Aside0.mk hm
  have Hl : Aside0 ((l0.length + 1) * 1 ≤ 140737488355328) := ⟨by
    unfold octets_Put.f at h
    split at h
    · rename_i hh; omega
    · cases h⟩
  have hm_ : (if 8 < a2 then 8 else a2) = (m : Int) + 1 := hm
  have hx_ : (if 0 < (m : Int) + 1 then (m : Int) + 1 else 0) = (m : Int) + 1 := if_pos (by omega)
  clear hm
  go_enter Try.func39, Try.ntmps39
  go_wp2
  refine wp_scope_jumps 0 (fun a' w' => ∃ (i : Nat) (u t8 t9 t10 t11 t12 t13 t14 t15 t16 t17 t18 t19 t20 t21 t22 t23 t24 t25 t26 t27 t28 t29 : Value) (xs : List Int), a' = { tmps := #[u, .int .i64 a1, .int .i64 a2, undef, undef, undef, .slice none 0 0, .int .i64 i, t8, t9, t10, t11, t12, t13, t14, t15, t16, t17, t18, t19, t20, t21, t22, t23, t24, t25, t26, t27, t28, t29], defers := [] } ∧ i ≤ m ∧ Aside0 (xs ++ octets_Put.bytes a1 i = l0 ++ octets_Put.bytes a1 (m + 1)) ∧ Aside0 (Kd.R (Kd.int .u8) 5 w' w.heap.size (fun _ => True) u xs) ∧ Aside0 (Below w.heap.size w w')) (fun a' _ => match a'.tmps.getD 7 undef with | .int _ q => q.toNat | _ => 0) rfl ?_ ?_
  · go_wp2
    clear hm_ hx_
    have HR := Aside0.mk hr0
    clear hr0
    go_step3
    go_wp2_with ((with_reducible refine gate_builtin (b := .append) (xs := #[.tmp 21, .tmp 27]) rfl ?_); at_builtin; refine octets_Put.capped (w0 := w) w.heap.size rfl (.tmp 21) (.tmp 27) 36 5 (.int .u8 0) 1 rfl Try.underlying36 info5 rfl (by omega) .u8 A0 l0 _ rfl rfl HR.out (Below.refl _ _) (Nat.le_refl _) ?aL ?_; (case aL => exact Hl.out); intro v1 w1 hR hB; have HR1 := Aside0.mk hR; have HB1 := Aside0.mk hB; clear hR hB)
    go_step3
    refine ⟨rfl, m, v1, _, _, _, _, _, _, _, _, _, _, _, _, _, _, _, _, _, _, _, _, _, _, l0 ++ [a1 / 256 ^ m % 256], rfl, Nat.le_refl _, ⟨by simp [octets_Put.bytes]⟩, ⟨?_⟩, HB1⟩
    have e1 : (2 : Int) ^ (8 * m) = 256 ^ m := by rw [Int.pow_mul]; rfl
    rw [← e1]
    exact HR1.out
  · rintro a' w' ⟨i, u, t8, t9, t10, t11, t12, t13, t14, t15, t16, t17, t18, t19, t20, t21, t22, t23, t24, t25, t26, t27, t28, t29, xs, rfl, him, HX, HR, HB⟩
    clear hm_ hx_ hr0
    cases i with
    | zero =>
      go_wp2
      simp only [Exit.jump]
      go_ret
      refine ⟨u, rfl, ?_, HB.out⟩
      have hx : xs = r := by
        have h1 := HX.out
        unfold octets_Put.f at h
        split at h
        · injection h with h
          rw [Hm.out] at h
          have h2 : ((m : Int) + 1).toNat = m + 1 := by omega
          rw [h2] at h
          rw [← h, ← h1]
          simp [octets_Put.bytes]
        · cases h
      rw [← hx]
      exact HR.out
    | succ i =>
      have Hlx : Aside0 ((xs.length + 1) * 1 ≤ 140737488355328) := ⟨by
        have h1 := congrArg List.length HX.out
        simp only [List.length_append, octets_Put.bytes_length] at h1
        unfold octets_Put.f at h
        split at h
        · rename_i hh; omega
        · cases h⟩
      go_wp2_with ((with_reducible refine gate_builtin (b := .append) (xs := #[.tmp 21, .tmp 27]) rfl ?_); at_builtin; refine print_append_of (w0 := w) (Value.int .u8) w.heap.size rfl (.tmp 21) (.tmp 27) 36 5 (.int .u8 0) 1 rfl Try.underlying36 info5 rfl (by omega) u xs _ rfl rfl rfl (Kd.own_of_R HR.out) HB.out (below_size HB.out) Hlx.out ?_; intro v1 w1 hown hB hg hat; have HR1 := Aside0.mk hown; have HB1 := Aside0.mk hB; clear hown hB hg hat)
      go_step3
      refine ⟨rfl, ⟨i, v1, _, _, _, _, _, _, _, _, _, _, _, _, _, _, _, _, _, _, _, _, _, _, xs ++ [a1 / 256 ^ i % 256], rfl, by omega, ⟨by rw [← HX.out]; simp [octets_Put.bytes]⟩, ⟨?_⟩, HB1⟩, ?_⟩
      · have e1 : (2 : Int) ^ (8 * i) = 256 ^ i := by rw [Int.pow_mul]; rfl
        rw [← e1]
        exact Kd.R_of_own HR1.out (fun _ _ => trivial)
      · simp
def stamp_Put.f (l0 : List Int) (a1 : Int) : Option (List Int) := (stamp_May.f a1).bind fun t103 => (if t103 = true then ((octets_Put.f l0 (wrap64 (Int.tdiv a1 1000000000)) 6).bind fun t104 => ((octets_Put.f t104 (Int.tmod a1 1000000000) 4).bind fun t107 => (some t107))) else ((octets_Put.f l0 ((0 : Int) / 1000000000) 6).bind fun t110 => ((octets_Put.f t110 ((0 : Int) % 1000000000) 4).bind fun t113 => (some t113))))
set_option maxHeartbeats 8000000 in
set_option maxRecDepth 100000 in
theorem stamp_Put.calls (A0 : Option Addr) (c0 : Nat) (l0 : List Int) (a1 : Int) (r : List Int) (w : World) (hr0 : Kd.C (Kd.int .u8) w A0 l0.length l0) (hc0 : l0.length ≤ c0) (h : stamp_Put.f l0 a1 = some r) :
    Calls Try.prog 36 #[.slice A0 l0.length c0, .int .i64 a1] w fun e w' => ∃ v0_ : Value, e = .returned (v0_) ∧ Kd.R (Kd.int .u8) 5 w' w.heap.size (fun _ => True) v0_ r ∧ Below w.heap.size w w' := by
  have HR0 := Aside0.mk hr0
  have HC0 := Aside0.mk hc0
  clear hr0 hc0
  have HB := Aside0.mk (Below.refl w.heap.size w)
  have H : ((stamp_May.f a1).bind fun t103 => (if t103 = true then ((octets_Put.f l0 (wrap64 (Int.tdiv a1 1000000000)) 6).bind fun t104 => ((octets_Put.f t104 (Int.tmod a1 1000000000) 4).bind fun t107 => (some t107))) else ((octets_Put.f l0 ((0 : Int) / 1000000000) 6).bind fun t110 => ((octets_Put.f t110 ((0 : Int) % 1000000000) 4).bind fun t113 => (some t113))))) = some r := h
  clear h
  replace H := Option.bind_eq_some_iff.mp H
  obtain ⟨t103, A30, H⟩ := H
  replace H : (if t103 = true then ((octets_Put.f l0 (wrap64 (Int.tdiv a1 1000000000)) 6).bind fun t104 => ((octets_Put.f t104 (Int.tmod a1 1000000000) 4).bind fun t107 => (some t107))) else ((octets_Put.f l0 ((0 : Int) / 1000000000) 6).bind fun t110 => ((octets_Put.f t110 ((0 : Int) % 1000000000) 4).bind fun t113 => (some t113)))) = some r := H
  have A3 := Aside0.mk A30
  clear A30
  by_cases c4 : t103 = true
  · subst c4
    have H1 : ((octets_Put.f l0 (wrap64 (Int.tdiv a1 1000000000)) 6).bind fun t104 => ((octets_Put.f t104 (Int.tmod a1 1000000000) 4).bind fun t107 => (some t107))) = some r := by rw [if_pos rfl] at H; exact H
    clear H
    have H := H1
    clear H1
    replace H := Option.bind_eq_some_iff.mp H
    obtain ⟨t104, A50, H⟩ := H
    replace H : ((octets_Put.f t104 (Int.tmod a1 1000000000) 4).bind fun t107 => (some t107)) = some r := H
    have A5 := Aside0.mk A50
    clear A50
    replace H := Option.bind_eq_some_iff.mp H
    obtain ⟨t107, A60, H⟩ := H
    replace H : (some t107) = some r := H
    have A6 := Aside0.mk A60
    clear A60
    obtain rfl := Option.some.inj H
    go_enter Try.func36, Try.ntmps36
    go_wp2_with (first | ((with_reducible refine gate_callee (f := 75) rfl ?_); refine goesL_ (some 6) rfl rfl Try.func75 (by kernel_rfl) rfl #[.int .i64 a1] rfl (by (try simp only [List.map_toArray, List.map_cons, List.map_nil]); first | done | rfl | (simp only [List.length_drop, List.length_take]; rfl)) ?_; (with_reducible refine (stamp_May.calls a1 true _ A3.out).mono ?_); rintro e w' ⟨rfl, ⟨nd, rfl⟩⟩; refine ⟨_, rfl, ?_⟩) | ((with_reducible refine gate_callee (f := 39) rfl ?_); refine goesL_ (some 11) rfl rfl Try.func39 (by kernel_rfl) rfl #[.slice A0 l0.length c0, .int .i64 (wrap64 (Int.tdiv a1 1000000000)), .int .i64 6] rfl (by (try simp only [List.map_toArray, List.map_cons, List.map_nil]); first | done | rfl | (simp only [List.length_drop, List.length_take]; rfl)) ?_; (with_reducible refine (octets_Put.calls _ _ l0 (wrap64 (Int.tdiv a1 1000000000)) 6 t104 _ ?side1 ?side2 A5.out).mono ?_); (case side1 => repeat (first | exact HR0.out | (with_reducible refine Kd.C_alloc ?_ _) | (with_reducible refine Kd.C_drewN ?_ _) | (with_reducible refine Kd.C_drew ?_))); (case side2 => exact HC0.out); rintro e w7 ⟨v105, rfl, ho0, hb⟩; refine ⟨_, rfl, ?_⟩; have n0_ := Aside0.mk (Kd.R_lower ho0 (below_size (by repeat (first | (with_reducible first | exact HB.out | apply below_alloc | apply pw_below_drewN | apply below_drew1) | exact HB.out)))); have n1_ := Aside0.mk (below_step (by repeat (first | (with_reducible first | exact HB.out | apply below_alloc | apply pw_below_drewN | apply below_drew1) | exact HB.out)) hb); clear HB; have HO106 := n0_; have HB := n1_; clear n0_ n1_; (try clear hb); (try clear hb2); (try clear hk); (try clear hi); (try clear ho0); obtain ⟨Ao8, co8, eo8⟩ := Kd.R_slice HO106.out; subst eo8) | ((with_reducible refine gate_callee (f := 39) rfl ?_); refine goesL_ (some 14) rfl rfl Try.func39 (by kernel_rfl) rfl #[.slice Ao8 t104.length co8, .int .i64 (Int.tmod a1 1000000000), .int .i64 4] rfl (by (try simp only [List.map_toArray, List.map_cons, List.map_nil]); first | done | rfl | (simp only [List.length_drop, List.length_take]; rfl)) ?_; (with_reducible refine (octets_Put.calls _ _ t104 (Int.tmod a1 1000000000) 4 t107 _ ?side1 ?side2 A6.out).mono ?_); (case side1 => repeat (first | exact (Kd.R_reads' HO106.out).2.2 | (with_reducible refine Kd.C_alloc ?_ _) | (with_reducible refine Kd.C_drewN ?_ _) | (with_reducible refine Kd.C_drew ?_))); (case side2 => exact (Kd.R_reads' HO106.out).2.1); rintro e w9 ⟨v108, rfl, ho0, hb⟩; refine ⟨_, rfl, ?_⟩; have n0_ := Aside0.mk (Kd.R_elder' (by (with_reducible repeat (first | apply Kd.R_alloc | apply Kd.R_drewN | apply Kd.R_drew)); exact HO106.out) (Kd.R_base ho0) hb); have n1_ := Aside0.mk (Kd.R_lower (Kd.R_new' ho0 (Kd.R_lt (by (with_reducible repeat (first | apply Kd.R_alloc | apply Kd.R_drewN | apply Kd.R_drew)); exact HO106.out))) (below_size (by repeat (first | (with_reducible first | exact HB.out | apply below_alloc | apply pw_below_drewN | apply below_drew1) | exact HB.out)))); have n2_ := Aside0.mk (below_step (by repeat (first | (with_reducible first | exact HB.out | apply below_alloc | apply pw_below_drewN | apply below_drew1) | exact HB.out)) hb); clear HO106; clear HB; have HO106 := n0_; have HO109 := n1_; have HB := n2_; clear n0_ n1_ n2_; (try clear hb); (try clear hb2); (try clear hk); (try clear hi); (try clear ho0)))
    all_goals
      go_ret
      exact ⟨_, by first | rfl | (simp [errW_none, errW_some] <;> rfl) | (simp [*, errW_none, errW_some] <;> rfl), by (with_reducible repeat (first | apply Kd.R_alloc | apply Kd.R_drewN | apply Kd.R_drew)); exact Kd.R_mono HO109.out (fun _ hk => trivial), by repeat (first | (with_reducible first | exact HB.out | apply below_alloc | apply pw_below_drewN | apply below_drew1) | exact HB.out)⟩
  · replace c4 := Bool.eq_false_iff.mpr c4
    subst c4
    have H1 : ((octets_Put.f l0 ((0 : Int) / 1000000000) 6).bind fun t110 => ((octets_Put.f t110 ((0 : Int) % 1000000000) 4).bind fun t113 => (some t113))) = some r := by rw [if_neg (show ¬ (false = true) by decide)] at H; exact H
    clear H
    have H := H1
    clear H1
    replace H := Option.bind_eq_some_iff.mp H
    obtain ⟨t110, A100, H⟩ := H
    replace H : ((octets_Put.f t110 ((0 : Int) % 1000000000) 4).bind fun t113 => (some t113)) = some r := H
    have A10 := Aside0.mk A100
    clear A100
    replace H := Option.bind_eq_some_iff.mp H
    obtain ⟨t113, A110, H⟩ := H
    replace H : (some t113) = some r := H
    have A11 := Aside0.mk A110
    clear A110
    obtain rfl := Option.some.inj H
    go_enter Try.func36, Try.ntmps36
    go_wp2_with (first | ((with_reducible refine gate_callee (f := 75) rfl ?_); refine goesL_ (some 6) rfl rfl Try.func75 (by kernel_rfl) rfl #[.int .i64 a1] rfl (by (try simp only [List.map_toArray, List.map_cons, List.map_nil]); first | done | rfl | (simp only [List.length_drop, List.length_take]; rfl)) ?_; (with_reducible refine (stamp_May.calls a1 false _ A3.out).mono ?_); rintro e w' ⟨rfl, ⟨nd, rfl⟩⟩; refine ⟨_, rfl, ?_⟩) | ((with_reducible refine gate_callee (f := 39) rfl ?_); refine goesL_ (some 11) rfl rfl Try.func39 (by kernel_rfl) rfl #[.slice A0 l0.length c0, .int .i64 ((0 : Int) / 1000000000), .int .i64 6] rfl (by (try simp only [List.map_toArray, List.map_cons, List.map_nil]); first | done | rfl | (simp only [List.length_drop, List.length_take]; rfl)) ?_; (with_reducible refine (octets_Put.calls _ _ l0 ((0 : Int) / 1000000000) 6 t110 _ ?side1 ?side2 A10.out).mono ?_); (case side1 => repeat (first | exact HR0.out | (with_reducible refine Kd.C_alloc ?_ _) | (with_reducible refine Kd.C_drewN ?_ _) | (with_reducible refine Kd.C_drew ?_))); (case side2 => exact HC0.out); rintro e w12 ⟨v111, rfl, ho0, hb⟩; refine ⟨_, rfl, ?_⟩; have n0_ := Aside0.mk (Kd.R_lower ho0 (below_size (by repeat (first | (with_reducible first | exact HB.out | apply below_alloc | apply pw_below_drewN | apply below_drew1) | exact HB.out)))); have n1_ := Aside0.mk (below_step (by repeat (first | (with_reducible first | exact HB.out | apply below_alloc | apply pw_below_drewN | apply below_drew1) | exact HB.out)) hb); clear HB; have HO112 := n0_; have HB := n1_; clear n0_ n1_; (try clear hb); (try clear hb2); (try clear hk); (try clear hi); (try clear ho0); obtain ⟨Ao13, co13, eo13⟩ := Kd.R_slice HO112.out; subst eo13) | ((with_reducible refine gate_callee (f := 39) rfl ?_); refine goesL_ (some 14) rfl rfl Try.func39 (by kernel_rfl) rfl #[.slice Ao13 t110.length co13, .int .i64 ((0 : Int) % 1000000000), .int .i64 4] rfl (by (try simp only [List.map_toArray, List.map_cons, List.map_nil]); first | done | rfl | (simp only [List.length_drop, List.length_take]; rfl)) ?_; (with_reducible refine (octets_Put.calls _ _ t110 ((0 : Int) % 1000000000) 4 t113 _ ?side1 ?side2 A11.out).mono ?_); (case side1 => repeat (first | exact (Kd.R_reads' HO112.out).2.2 | (with_reducible refine Kd.C_alloc ?_ _) | (with_reducible refine Kd.C_drewN ?_ _) | (with_reducible refine Kd.C_drew ?_))); (case side2 => exact (Kd.R_reads' HO112.out).2.1); rintro e w14 ⟨v114, rfl, ho0, hb⟩; refine ⟨_, rfl, ?_⟩; have n0_ := Aside0.mk (Kd.R_elder' (by (with_reducible repeat (first | apply Kd.R_alloc | apply Kd.R_drewN | apply Kd.R_drew)); exact HO112.out) (Kd.R_base ho0) hb); have n1_ := Aside0.mk (Kd.R_lower (Kd.R_new' ho0 (Kd.R_lt (by (with_reducible repeat (first | apply Kd.R_alloc | apply Kd.R_drewN | apply Kd.R_drew)); exact HO112.out))) (below_size (by repeat (first | (with_reducible first | exact HB.out | apply below_alloc | apply pw_below_drewN | apply below_drew1) | exact HB.out)))); have n2_ := Aside0.mk (below_step (by repeat (first | (with_reducible first | exact HB.out | apply below_alloc | apply pw_below_drewN | apply below_drew1) | exact HB.out)) hb); clear HO112; clear HB; have HO112 := n0_; have HO115 := n1_; have HB := n2_; clear n0_ n1_ n2_; (try clear hb); (try clear hb2); (try clear hk); (try clear hi); (try clear ho0)))
    all_goals
      go_ret
      exact ⟨_, by first | rfl | (simp [errW_none, errW_some] <;> rfl) | (simp [*, errW_none, errW_some] <;> rfl), by (with_reducible repeat (first | apply Kd.R_alloc | apply Kd.R_drewN | apply Kd.R_drew)); exact Kd.R_mono HO115.out (fun _ hk => trivial), by repeat (first | (with_reducible first | exact HB.out | apply below_alloc | apply pw_below_drewN | apply below_drew1) | exact HB.out)⟩
def octets_PutId.f (l0 : List Int) (a1 : Int) : Option (List Int) := (octets_Put.f l0 (wrap64 (a1)) 8).bind fun t116 => (some t116)
set_option maxHeartbeats 8000000 in
set_option maxRecDepth 100000 in
theorem octets_PutId.calls (A0 : Option Addr) (c0 : Nat) (l0 : List Int) (a1 : Int) (r : List Int) (w : World) (hr0 : Kd.C (Kd.int .u8) w A0 l0.length l0) (hc0 : l0.length ≤ c0) (h : octets_PutId.f l0 a1 = some r) :
    Calls Try.prog 41 #[.slice A0 l0.length c0, .int .u64 a1] w fun e w' => ∃ v0_ : Value, e = .returned (v0_) ∧ Kd.R (Kd.int .u8) 5 w' w.heap.size (fun _ => True) v0_ r ∧ Below w.heap.size w w' := by
  have HR0 := Aside0.mk hr0
  have HC0 := Aside0.mk hc0
  clear hr0 hc0
  have HB := Aside0.mk (Below.refl w.heap.size w)
  have H : ((octets_Put.f l0 (wrap64 (a1)) 8).bind fun t116 => (some t116)) = some r := h
  clear h
  replace H := Option.bind_eq_some_iff.mp H
  obtain ⟨t116, A30, H⟩ := H
  replace H : (some t116) = some r := H
  have A3 := Aside0.mk A30
  clear A30
  obtain rfl := Option.some.inj H
  go_enter Try.func41, Try.ntmps41
  go_wp2_with (first | ((with_reducible refine gate_callee (f := 39) rfl ?_); refine goesL_ (some 8) rfl rfl Try.func39 (by kernel_rfl) rfl #[.slice A0 l0.length c0, .int .i64 (wrap64 (a1)), .int .i64 8] rfl (by (try simp only [List.map_toArray, List.map_cons, List.map_nil]); first | done | rfl | (simp only [List.length_drop, List.length_take]; rfl)) ?_; (with_reducible refine (octets_Put.calls _ _ l0 (wrap64 (a1)) 8 t116 _ ?side1 ?side2 A3.out).mono ?_); (case side1 => repeat (first | exact HR0.out | (with_reducible refine Kd.C_alloc ?_ _) | (with_reducible refine Kd.C_drewN ?_ _) | (with_reducible refine Kd.C_drew ?_))); (case side2 => exact HC0.out); rintro e w4 ⟨v117, rfl, ho0, hb⟩; refine ⟨_, rfl, ?_⟩; have n0_ := Aside0.mk (Kd.R_lower ho0 (below_size (by repeat (first | (with_reducible first | exact HB.out | apply below_alloc | apply pw_below_drewN | apply below_drew1) | exact HB.out)))); have n1_ := Aside0.mk (below_step (by repeat (first | (with_reducible first | exact HB.out | apply below_alloc | apply pw_below_drewN | apply below_drew1) | exact HB.out)) hb); clear HB; have HO118 := n0_; have HB := n1_; clear n0_ n1_; (try clear hb); (try clear hb2); (try clear hk); (try clear hi); (try clear ho0)))
  all_goals
    go_ret
    exact ⟨_, by first | rfl | (simp [errW_none, errW_some] <;> rfl) | (simp [*, errW_none, errW_some] <;> rfl), by (with_reducible repeat (first | apply Kd.R_alloc | apply Kd.R_drewN | apply Kd.R_drew)); exact HO118.out, by repeat (first | (with_reducible first | exact HB.out | apply below_alloc | apply pw_below_drewN | apply below_drew1) | exact HB.out)⟩
def ident_Put.f (l0 : List Int) (a1_0 : Int) (a1_1 : Int) : Option (List Int) := (octets_PutId.f l0 a1_0).bind fun t120 => ((octets_Put.f t120 a1_1 2).bind fun t123 => (some t123))
def ident_Put.T1 : Bool × List (List Nat × List Nat) := (true, [([], []), ([], []), ([1], [1]), ([0, 2], [0, 2]), ([], []), ([4], [4]), ([3, 5, 3], [3, 5]), ([6, 6, 0, 1, 2, 3, 4, 5, 6], [6])])
def ident_Put.B1 : List Nat := [0, 0, 2, 7, 0, 16, 63, 127]
theorem ident_Put.tab1 : rtab .any (opsOf Try.f38 1) = ident_Put.T1 := by kernel_rfl
theorem ident_Put.bits1 : waitsOk ident_Put.T1.2 ident_Put.B1 = true := by kernel_rfl
set_option maxHeartbeats 8000000 in
set_option maxRecDepth 100000 in
theorem ident_Put.calls (A0 : Option Addr) (c0 : Nat) (l0 : List Int) (a1_0 : Int) (a1_1 : Int) (r : List Int) (w : World) (hr0 : Kd.C (Kd.int .u8) w A0 l0.length l0) (hc0 : l0.length ≤ c0) (h : ident_Put.f l0 a1_0 a1_1 = some r) :
    Calls Try.prog 38 #[.slice A0 l0.length c0, .agg #[.int .u64 a1_0, .int .i64 a1_1]] w fun e w' => ∃ v0_ : Value, e = .returned (v0_) ∧ Kd.R (Kd.int .u8) 5 w' w.heap.size (fun _ => True) v0_ r ∧ Below w.heap.size w w' := by
  have hu24 := Try.underlying24
  have HR0 := Aside0.mk hr0
  have HC0 := Aside0.mk hc0
  clear hr0 hc0
  have HB := Aside0.mk (Below.refl w.heap.size w)
  have H : ((octets_PutId.f l0 a1_0).bind fun t120 => ((octets_Put.f t120 a1_1 2).bind fun t123 => (some t123))) = some r := h
  clear h
  replace H := Option.bind_eq_some_iff.mp H
  obtain ⟨t120, A30, H⟩ := H
  replace H : ((octets_Put.f t120 a1_1 2).bind fun t123 => (some t123)) = some r := H
  have A3 := Aside0.mk A30
  clear A30
  replace H := Option.bind_eq_some_iff.mp H
  obtain ⟨t123, A40, H⟩ := H
  replace H : (some t123) = some r := H
  have A4 := Aside0.mk A40
  clear A40
  obtain rfl := Option.some.inj H
  go_enter Try.func38, Try.ntmps38
  try go_wp2_with (first | ((with_reducible refine gate_dst (N := 3) rfl ?_); refine box_event ?hg (N := 3) ?hd (cs := #[.int .u64 a1_0, .int .i64 a1_1]) (t := 24) ?hr ?_; (case hd => rfl); (case hg => rfl); (case hr => first | (go_simp; done) | (go_simp; rfl)); intro gb119 hg w5 hbox hb; have n0_ := Aside0.mk (below_step (by repeat (first | (with_reducible first | exact HB.out | apply below_alloc | apply pw_below_drewN | apply below_drew1) | exact HB.out)) hb); have n1_ := Aside0.mk (hbox); have n2_ := Aside0.mk ((by rw [hg]; exact (below_size (by repeat (first | (with_reducible first | exact HB.out | apply below_alloc | apply pw_below_drewN | apply below_drew1) | exact HB.out))) : w.heap.size ≤ gb119)); have n3_ := Aside0.mk ((by rw [hg]; exact (below_size (by repeat (first | (with_reducible first | exact HB.out | apply below_alloc | apply pw_below_drewN | apply below_drew1) | exact HB.out))) : w.heap.size ≤ gb119)); clear HB; have HB := n0_; have BK119 := n1_; have GW119 := n2_; have GE119 := n3_; clear n0_ n1_ n2_ n3_; clear hb hbox hg))
  have n0_ := Aside0.mk (blk_drew BK119.out)
  have n1_ := Aside0.mk (below_drew1 HB.out)
  clear BK119
  clear HB
  have BK119 := n0_
  have HB := n1_
  clear n0_ n1_
  refine start_ (n := 8) (S := fun w' => w'.cell? ⟨gb119, 0, none⟩ = some (.int .u64 a1_0) ∧ w'.cell? ⟨gb119, 1, none⟩ = some (.int .i64 a1_1)) (ds := []) #[false, false, false, false, false, false, false, false] (by kernel_rfl) rfl rfl ⟨(blk_cell BK119.out 0).trans rfl, (blk_cell BK119.out 1).trans rfl⟩ (fun hHeld => ?_); refine with_tabW ident_Put.tab1 ident_Put.bits1 (fun HT_ HW_ => ?_)
  generalize w5.drew = w6 at BK119 HB hHeld ⊢
  refine pure_ (i := 0) (N := some 5) (v := ?_) (a' := ?_) #[true, false, false, false, false, false, false, false] rfl rfl (any_of HT_.out (by kernel_rfl)) (fun _ _ _ h => h) (Or.inl ⟨by rfl, ?_⟩) ?_ ?_
  rotate_left
  · intro w'
    go_simp
    with_reducible rfl
  rotate_left
  · simp only [Act.put, List.setIfInBounds_toArray, List.set_cons_zero, List.set_cons_succ, i64_w, i32_w]
    rfl
  refine pure_ (i := 1) (N := some 6) (v := ?_) (a' := ?_) #[true, true, false, false, false, false, false, false] rfl rfl (any_of HT_.out (by kernel_rfl)) (fun _ _ _ h => h) (Or.inl ⟨by rfl, ?_⟩) ?_ ?_
  rotate_left
  · intro w'
    go_simp
    with_reducible rfl
  rotate_left
  · simp only [Act.put, List.setIfInBounds_toArray, List.set_cons_zero, List.set_cons_succ, i64_w, i32_w]
    rfl
  refine pure_ (i := 4) (N := some 9) (v := ?_) (a' := ?_) #[true, true, false, false, true, false, false, false] rfl rfl (any_of HT_.out (by kernel_rfl)) (fun _ _ _ h => h) (Or.inl ⟨by rfl, ?_⟩) ?_ ?_
  rotate_left
  · intro w'
    go_simp
    with_reducible rfl
  rotate_left
  · simp only [Act.put, List.setIfInBounds_toArray, List.set_cons_zero, List.set_cons_succ, i64_w, i32_w]
    rfl
  refine take_ (i := 2) (N := some 7) (v := ?_) (a' := ?_) #[true, true, true, false, true, false, false, false] rfl rfl (take_ofW HT_.out HW_.out (by kernel_rfl)) (fun _ _ _ h => h) (Or.inl ⟨by rfl, ?_⟩) hHeld ?_ ?_
  rotate_left
  · rintro w' ⟨s0, s1⟩
    go_simp
    with_reducible rfl
  rotate_left
  · simp only [Act.put, List.setIfInBounds_toArray, List.set_cons_zero, List.set_cons_succ, i64_w, i32_w]
    rfl
  refine take_ (i := 5) (N := some 10) (v := ?_) (a' := ?_) #[true, true, true, false, true, true, false, false] rfl rfl (take_ofW HT_.out HW_.out (by kernel_rfl)) (fun _ _ _ h => h) (Or.inl ⟨by rfl, ?_⟩) hHeld ?_ ?_
  rotate_left
  · rintro w' ⟨s0, s1⟩
    go_simp
    with_reducible rfl
  rotate_left
  · simp only [Act.put, List.setIfInBounds_toArray, List.set_cons_zero, List.set_cons_succ, i64_w, i32_w]
    rfl
  refine one_ (i := 3) (N := some 8) #[true, true, true, true, true, true, false, false] rfl rfl (one_of HT_.out (by kernel_rfl)) (by decide) (fun K hK => ?_)
  refine goes_ Try.func41 (by kernel_rfl) rfl #[.slice A0 l0.length c0, .int .u64 a1_0] (by rfl) rfl rfl (by (try simp only [List.map_toArray, List.map_cons, List.map_nil]); first | done | rfl | (simp only [List.length_drop, List.length_take]; rfl)) ?_
  with_reducible refine (octets_PutId.calls _ _ l0 a1_0 t120 _ ?side1 ?side2 A3.out).mono ?_
  (case side1 => repeat (first | exact (Kd.C_below HR0.out HB.out) | (with_reducible refine Kd.C_alloc ?_ _) | (with_reducible refine Kd.C_drewN ?_ _) | (with_reducible refine Kd.C_drew ?_)))
  (case side2 => exact HC0.out)
  rintro e w7 ⟨v121, rfl, ho0, hb⟩
  refine ⟨_, rfl, ?_⟩
  have n0_ := Aside0.mk (Kd.R_lower ho0 (below_size (by repeat (first | (with_reducible first | exact HB.out | apply below_alloc | apply pw_below_drewN | apply below_drew1 | refine below_set ?_ GE119.out) | exact HB.out))))
  have n1_ := Aside0.mk (blk_below (g := gb119) (o := .cells #[.int .u64 a1_0, .int .i64 a1_1] 24 (0, 0)) (by (with_reducible repeat (first | refine blk_drewN ?_ _ | refine blk_drew ?_ | refine blk_alloc ?_ _)); exact BK119.out) hb)
  have n2_ := Aside0.mk (below_step (by repeat (first | (with_reducible first | exact HB.out | apply below_alloc | apply pw_below_drewN | apply below_drew1 | refine below_set ?_ GE119.out) | exact HB.out)) hb)
  clear BK119
  clear HB
  have HO122 := n0_
  have BK119 := n1_
  have HB := n2_
  clear n0_ n1_ n2_
  (try clear hb)
  (try clear hb2)
  (try clear hk)
  (try clear hi)
  (try clear ho0)
  obtain ⟨Ao8, co8, eo8⟩ := Kd.R_slice HO122.out
  (first | subst eo8 | (injection eo8 with f1_ f2_ f3_; have f4_ := f1_.symm; have f5_ := f3_.symm; clear f1_ f2_ f3_; subst f4_; subst f5_))
  refine hK.out _ _ ⟨(blk_cell BK119.out 0).trans rfl, (blk_cell BK119.out 1).trans rfl⟩ (fun hHeld => ?_)
  clear hK K
  refine norm_ (a' := ?_) ?_ ?_
  rotate_left
  · show Act.put _ (some 8) _ = _
    simp only [Act.put, List.setIfInBounds_toArray, List.set_cons_zero, List.set_cons_succ, i64_w, i32_w]
    rfl
  refine one_ (i := 6) (N := some 11) #[true, true, true, true, true, true, true, false] rfl rfl (one_of HT_.out (by kernel_rfl)) (by decide) (fun K hK => ?_)
  refine goes_ Try.func39 (by kernel_rfl) rfl #[.slice Ao8 t120.length co8, .int .i64 a1_1, .int .i64 2] (by rfl) rfl rfl (by (try simp only [List.map_toArray, List.map_cons, List.map_nil]); first | done | rfl | (simp only [List.length_drop, List.length_take]; rfl)) ?_
  with_reducible refine (octets_Put.calls _ _ t120 a1_1 2 t123 _ ?side1 ?side2 A4.out).mono ?_
  (case side1 => repeat (first | exact (Kd.R_reads' HO122.out).2.2 | (with_reducible refine Kd.C_alloc ?_ _) | (with_reducible refine Kd.C_drewN ?_ _) | (with_reducible refine Kd.C_drew ?_)))
  (case side2 => exact (Kd.R_reads' HO122.out).2.1)
  rintro e w9 ⟨v124, rfl, ho0, hb⟩
  refine ⟨_, rfl, ?_⟩
  have n0_ := Aside0.mk (Kd.R_elder' (by (with_reducible repeat (first | apply Kd.R_alloc | apply Kd.R_drewN | apply Kd.R_drew)); exact HO122.out) (Kd.R_base ho0) hb)
  have n1_ := Aside0.mk (Kd.R_lower (Kd.R_new' ho0 (Kd.R_lt (by (with_reducible repeat (first | apply Kd.R_alloc | apply Kd.R_drewN | apply Kd.R_drew)); exact HO122.out))) (below_size (by repeat (first | (with_reducible first | exact HB.out | apply below_alloc | apply pw_below_drewN | apply below_drew1 | refine below_set ?_ GE119.out) | exact HB.out))))
  have n2_ := Aside0.mk (blk_below (g := gb119) (o := .cells #[.int .u64 a1_0, .int .i64 a1_1] 24 (0, 0)) (by (with_reducible repeat (first | refine blk_drewN ?_ _ | refine blk_drew ?_ | refine blk_alloc ?_ _)); exact BK119.out) hb)
  have n3_ := Aside0.mk (below_step (by repeat (first | (with_reducible first | exact HB.out | apply below_alloc | apply pw_below_drewN | apply below_drew1 | refine below_set ?_ GE119.out) | exact HB.out)) hb)
  clear HO122
  clear BK119
  clear HB
  have HO122 := n0_
  have HO125 := n1_
  have BK119 := n2_
  have HB := n3_
  clear n0_ n1_ n2_ n3_
  (try clear hb)
  (try clear hb2)
  (try clear hk)
  (try clear hi)
  (try clear ho0)
  refine hK.out _ _ ⟨(blk_cell BK119.out 0).trans rfl, (blk_cell BK119.out 1).trans rfl⟩ (fun hHeld => ?_)
  clear hK K
  refine norm_ (a' := ?_) ?_ ?_
  rotate_left
  · show Act.put _ (some 11) _ = _
    simp only [Act.put, List.setIfInBounds_toArray, List.set_cons_zero, List.set_cons_succ, i64_w, i32_w]
    rfl
  refine pure_ (i := 7) (N := some 4) (v := ?_) (a' := ?_) #[true, true, true, true, true, true, true, true] rfl rfl (any_of HT_.out (by kernel_rfl)) (fun _ _ _ h => h) (Or.inl ⟨by rfl, ?_⟩) ?_ ?_
  rotate_left
  · intro w'
    go_simp
    with_reducible rfl
  rotate_left
  · simp only [Act.put, List.setIfInBounds_toArray, List.set_cons_zero, List.set_cons_succ, i64_w, i32_w]
    rfl
  refine done_ (done_of HT_.out (by kernel_rfl)) ?_
  try go_wp2
  all_goals
    go_ret
    exact ⟨_, by first | rfl | (simp [errW_none, errW_some] <;> rfl) | (simp [*, errW_none, errW_some] <;> rfl), by (with_reducible repeat (first | apply Kd.R_alloc | apply Kd.R_drewN | apply Kd.R_drew)); exact Kd.R_mono HO125.out (fun _ hk => trivial), by repeat (first | (with_reducible first | exact HB.out | apply below_alloc | apply pw_below_drewN | apply below_drew1 | refine below_set ?_ GE119.out) | exact HB.out)⟩
end Go.Proofs.Ytiomlbkakiienaa.P
