/- Functions and loops of the given program as Lean functions, and that the code comes to what they say: written by this session's own program; Lean checks it. -/
import Derived.Test.YtiomlbkakiienaaZzPx0
namespace Go.Proofs.Ytiomlbkakiienaa.P
open Go.RowKit Go.Proofs.YtiomlbkakiienaaW.PrintWords Go.Proofs.YtiomlbkakiienaaW.PrintLast Go.Proofs.YtiomlbkakiienaaW.PrintMore
attribute [local go_sem] max2_int min2_int max_two min_two max_three min_three max_four min_four   -- for this text's walks alone
set_option linter.unusedVariables false
set_option linter.unusedSimpArgs false
def carillonlaw09_few.l0 : Nat → List (S43) → Int → Option (Bool)
  | 0, _, _ => none
  | k + 1, x0, x3 => if x3 < (x0.length : Int) then (if 0 ≤ x3 then (if (((rd_T43 x0 x3).f1).size : Int) > 600 then (some false) else (carillonlaw09_few.l0 k x0 (wrap64 (x3 + 1)))) else (none)) else (some (decide ((x0.length : Int) ≤ 20)))
def carillonlaw09_few.f (k : Nat) (l0 : List (S43)) : Option (Bool) := carillonlaw09_few.l0 k l0 0
set_option maxHeartbeats 8000000 in
set_option maxRecDepth 100000 in
theorem carillonlaw09_few.calls (k : Nat) (A0 : Option Addr) (c0 : Nat) (l0 : List (S43)) (r : Bool) (w : World) (hr0 : Kd.C k43 w A0 l0.length l0) (hc0 : l0.length ≤ c0) (h : carillonlaw09_few.f k l0 = some r) :
    Calls Try.prog 9 #[.slice A0 l0.length c0] w fun e w' => e = .returned (.bool r) ∧ Drawn0 w w' := by
  have HR0 := Aside0.mk hr0
  have HC0 := Aside0.mk hc0
  clear hr0 hc0
  have H : (carillonlaw09_few.l0 k l0 0) = some r := h
  clear h
  have H' := Aside0.mk H
  clear H
  go_enter Try.func9, Try.ntmps9
  go_wp2
  go_loopg [3] k (fun kq v3 w' => ∃ (x3_1 : Int), v3 = .int .i64 x3_1 ∧ Aside0 (carillonlaw09_few.l0 kq l0 x3_1 = some r) ∧ Aside0 (kq ≤ k) ∧ Drawn0 w w')
  case atStart => exact ⟨(0), (by first | rfl | (simp; done) | (simp [*]; done)), H', ⟨Nat.le_refl _⟩, by repeat (first | exact Drawn0.refl _ | apply Drawn0.step)⟩
  case round =>
    clear H'
    obtain ⟨x3_1, rfl, HA, HK1, ⟨m1, rfl⟩⟩ := hrel
    cases gk with
    | zero => exact absurd HA.out (by simp [carillonlaw09_few.l0])
    | succ k1 =>
      have H := HA.out
      clear HA
      simp only [carillonlaw09_few.l0] at H
      by_cases c2 : x3_1 < (l0.length : Int)
      · rw [if_pos c2] at H
        have c2b0 : decide (x3_1 < (l0.length : Int)) = true := decide_eq_true c2
        clear c2
        by_cases c3 : 0 ≤ x3_1
        · rw [if_pos c3] at H
          have c3b0 : decide (0 ≤ x3_1) = true := decide_eq_true c3
          clear c3
          by_cases c4 : (((rd_T43 l0 x3_1).f1).size : Int) > 600
          · rw [if_pos c4] at H
            have c4b0 : decide (600 < (((rd_T43 l0 x3_1).f1).size : Int)) = true := decide_eq_true c4
            have c4b1 : decide (600 < ((rd_T43 l0 x3_1).f1).size) = true := decide_eq_true (by omega)
            clear c4
            obtain rfl := Option.some.inj H
            have p101 : 0 ≤ (x3_1 : Int) := of_decide_eq_true (by first | (with_reducible assumption) | assumption)
            have q101 : x3_1 < (l0.length : Int) := of_decide_eq_true (by first | (with_reducible assumption) | assumption)
            obtain ⟨ad101, e101, hx101_0, hx101_1⟩ := at_T43 HR0.out x3_1 p101 q101
            cases e101
            replace p101 := eq_true p101
            replace q101 := eq_true q101
            go_wp2
            all_goals
              go_ret
              exact ⟨by first | rfl | (simp; done) | (simp [*]; done), by repeat (first | exact Drawn0.refl _ | apply Drawn0.step)⟩
          · rw [if_neg c4] at H
            have c4b0 : decide (600 < (((rd_T43 l0 x3_1).f1).size : Int)) = false := decide_eq_false c4
            have c4b1 : decide (600 < ((rd_T43 l0 x3_1).f1).size) = false := decide_eq_false (by omega)
            clear c4
            have H' := Aside0.mk H
            clear H
            have p101 : 0 ≤ (x3_1 : Int) := of_decide_eq_true (by first | (with_reducible assumption) | assumption)
            have q101 : x3_1 < (l0.length : Int) := of_decide_eq_true (by first | (with_reducible assumption) | assumption)
            obtain ⟨ad101, e101, hx101_0, hx101_1⟩ := at_T43 HR0.out x3_1 p101 q101
            cases e101
            replace p101 := eq_true p101
            replace q101 := eq_true q101
            go_wp2
            go_roundg k1
            case measure => have := HK1.out; omega
            case rel => exact ⟨(wrap64 (x3_1 + 1)), (by first | rfl | (simp; done) | (simp [*]; done)), H', ⟨by have := HK1.out; omega⟩, by repeat (first | exact Drawn0.refl _ | apply Drawn0.step)⟩
        · rw [if_neg c3] at H
          exact absurd H (by simp)
      · rw [if_neg c2] at H
        have c2b0 : decide (x3_1 < (l0.length : Int)) = false := decide_eq_false c2
        clear c2
        obtain rfl := Option.some.inj H
        go_wp2
        all_goals
          go_ret
          exact ⟨by first | rfl | (simp; done) | (simp [*]; done), by repeat (first | exact Drawn0.refl _ | apply Drawn0.step)⟩
def header_in.f (a0 : Int) (a1 : Int) (a2 : Int) : Option (Bool) := if a0 ≥ a1 then (some (decide (a0 ≤ a2))) else (some false)
set_option maxHeartbeats 8000000 in
set_option maxRecDepth 100000 in
theorem header_in.calls (a0 : Int) (a1 : Int) (a2 : Int) (r : Bool) (w : World) (h : header_in.f a0 a1 a2 = some r) :
    Calls Try.prog 44 #[.int .i64 a0, .int .i64 a1, .int .i64 a2] w fun e w' => e = .returned (.bool r) ∧ Drawn0 w w' := by
  have H : (if a0 ≥ a1 then (some (decide (a0 ≤ a2))) else (some false)) = some r := h
  clear h
  by_cases c4 : a0 ≥ a1
  · rw [if_pos c4] at H
    have c4b0 : decide (a1 ≤ a0) = true := decide_eq_true c4
    clear c4
    obtain rfl := Option.some.inj H
    go_enter Try.func44, Try.ntmps44
    go_wp2
    all_goals
      go_ret
      exact ⟨by first | rfl | (simp; done) | (simp [*]; done), by repeat (first | exact Drawn0.refl _ | apply Drawn0.step)⟩
  · rw [if_neg c4] at H
    have c4b0 : decide (a1 ≤ a0) = false := decide_eq_false c4
    clear c4
    obtain rfl := Option.some.inj H
    go_enter Try.func44, Try.ntmps44
    go_wp2
    all_goals
      go_ret
      exact ⟨by first | rfl | (simp; done) | (simp [*]; done), by repeat (first | exact Drawn0.refl _ | apply Drawn0.step)⟩
def header_Known.j0 : Nat → Int → Bool → Option (Bool)
  | 0, _, _ => none
  | k + 1, x3, x4 => if x4 = true then (some true) else (if x3 = 8 then (some true) else (if x3 = 9 then (some true) else (if x3 = 10 then (some true) else (if x3 = 11 then (some true) else (if x3 = 12 then (some true) else (if x3 = 13 then (some true) else (some false)))))))
def header_Known.f (k : Nat) (a0 : Int) : Option (Bool) := if a0 = 0 then (header_Known.j0 k a0 (a0 == 0)) else (if a0 = 1 then (header_Known.j0 k a0 (a0 == 1)) else (if a0 = 2 then (header_Known.j0 k a0 (a0 == 2)) else (header_Known.j0 k a0 (a0 == 3))))
set_option maxHeartbeats 8000000 in
set_option maxRecDepth 100000 in
theorem header_Known.calls (k : Nat) (a0 : Int) (r : Bool) (w : World) (h : header_Known.f k a0 = some r) :
    Calls Try.prog 60 #[.int .i64 a0] w fun e w' => e = .returned (.bool r) ∧ Drawn0 w w' := by
  have H : (if a0 = 0 then (header_Known.j0 k a0 (a0 == 0)) else (if a0 = 1 then (header_Known.j0 k a0 (a0 == 1)) else (if a0 = 2 then (header_Known.j0 k a0 (a0 == 2)) else (header_Known.j0 k a0 (a0 == 3))))) = some r := h
  clear h
  have HC2 := Aside0.mk H
  clear H
  go_enter Try.func60, Try.ntmps60
  go_upto_if 4 with (fail)
  go_cut [4] (fun v4 wc => ∃ (kq : Nat) (x4_1 : Bool), v4 = .bool x4_1 ∧ Aside0 (header_Known.j0 kq a0 x4_1 = some r) ∧ Aside0 (kq ≤ k) ∧ Drawn0 w wc)
  case first =>
    have H := HC2.out
    clear HC2
    by_cases c3 : a0 = 0
    · rw [if_pos c3] at H
      have c3b0 : (a0 == 0) = true := beq_iff_eq.mpr c3
      have c3b1 : (a0 != 0) = false := bne_eq_false_iff_eq.mpr c3
      clear c3
      (first | rw [c3b0] | (simp only [i64_w, i32_w]; rw [c3b0]) | skip)
      have H' := Aside0.mk H
      clear H
      go_wp2
      go_meet
      case rel => exact ⟨_, ((a0 == 0)), (by first | rfl | (simp; done) | (simp [*]; done)), H', ⟨by first | omega | exact Nat.le_refl _⟩, by repeat (first | exact Drawn0.refl _ | apply Drawn0.step)⟩
    · rw [if_neg c3] at H
      have c3b0 : (a0 == 0) = false := beq_eq_false_iff_ne.mpr c3
      have c3b1 : (a0 != 0) = true := bne_iff_ne.mpr c3
      (first | rw [c3b0] | (simp only [i64_w, i32_w]; rw [c3b0]) | skip)
      by_cases c4 : a0 = 1
      · rw [if_pos c4] at H
        have c4b0 : (a0 == 1) = true := beq_iff_eq.mpr c4
        have c4b1 : (a0 != 1) = false := bne_eq_false_iff_eq.mpr c4
        clear c4
        have H' := Aside0.mk H
        clear H
        go_wp2
        go_meet
        case rel => exact ⟨_, ((a0 == 1)), (by first | rfl | (simp; done) | (simp [*]; done)), H', ⟨by first | omega | exact Nat.le_refl _⟩, by repeat (first | exact Drawn0.refl _ | apply Drawn0.step)⟩
      · rw [if_neg c4] at H
        have c4b0 : (a0 == 1) = false := beq_eq_false_iff_ne.mpr c4
        have c4b1 : (a0 != 1) = true := bne_iff_ne.mpr c4
        by_cases c5 : a0 = 2
        · rw [if_pos c5] at H
          have c5b0 : (a0 == 2) = true := beq_iff_eq.mpr c5
          have c5b1 : (a0 != 2) = false := bne_eq_false_iff_eq.mpr c5
          clear c5
          have H' := Aside0.mk H
          clear H
          go_wp2
          go_meet
          case rel => exact ⟨_, ((a0 == 2)), (by first | rfl | (simp; done) | (simp [*]; done)), H', ⟨by first | omega | exact Nat.le_refl _⟩, by repeat (first | exact Drawn0.refl _ | apply Drawn0.step)⟩
        · rw [if_neg c5] at H
          have c5b0 : (a0 == 2) = false := beq_eq_false_iff_ne.mpr c5
          have c5b1 : (a0 != 2) = true := bne_iff_ne.mpr c5
          have H' := Aside0.mk H
          clear H
          go_wp2
          go_meet
          case rel => exact ⟨_, ((a0 == 3)), (by first | rfl | (simp; done) | (simp [*]; done)), H', ⟨by first | omega | exact Nat.le_refl _⟩, by repeat (first | exact Drawn0.refl _ | apply Drawn0.step)⟩
  case rest =>
    clear HC2
    try clear p2
    try clear c3
    try clear c3b0
    try clear c3b1
    try clear c4
    try clear c4b0
    try clear c4b1
    try clear c5
    try clear c5b0
    try clear c5b1
    obtain ⟨kq, x4_1, rfl, HA, HJ1, ⟨mc1, rfl⟩⟩ := hcut
    cases kq with
    | zero => exact absurd HA.out (by simp [header_Known.j0])
    | succ kj1 =>
      have H := HA.out
      clear HA
      simp only [header_Known.j0] at H
      by_cases c6 : x4_1 = true
      · subst c6
        have H1 : (some true) = some r := by rw [if_pos rfl] at H; exact H
        clear H
        have H := H1
        clear H1
        obtain rfl := Option.some.inj H
        go_wp2
        all_goals
          go_ret
          exact ⟨by first | rfl | (simp; done) | (simp [*]; done), by repeat (first | exact Drawn0.refl _ | apply Drawn0.step)⟩
      · replace c6 := Bool.eq_false_iff.mpr c6
        subst c6
        have H1 : (if a0 = 8 then (some true) else (if a0 = 9 then (some true) else (if a0 = 10 then (some true) else (if a0 = 11 then (some true) else (if a0 = 12 then (some true) else (if a0 = 13 then (some true) else (some false))))))) = some r := by rw [if_neg (show ¬ (false = true) by decide)] at H; exact H
        clear H
        have H := H1
        clear H1
        by_cases c7 : a0 = 8
        · rw [if_pos c7] at H
          have c7b0 : (a0 == 8) = true := beq_iff_eq.mpr c7
          have c7b1 : (a0 != 8) = false := bne_eq_false_iff_eq.mpr c7
          clear c7
          obtain rfl := Option.some.inj H
          go_wp2
          all_goals
            go_ret
            exact ⟨by first | rfl | (simp; done) | (simp [*]; done), by repeat (first | exact Drawn0.refl _ | apply Drawn0.step)⟩
        · rw [if_neg c7] at H
          have c7b0 : (a0 == 8) = false := beq_eq_false_iff_ne.mpr c7
          have c7b1 : (a0 != 8) = true := bne_iff_ne.mpr c7
          by_cases c8 : a0 = 9
          · rw [if_pos c8] at H
            have c8b0 : (a0 == 9) = true := beq_iff_eq.mpr c8
            have c8b1 : (a0 != 9) = false := bne_eq_false_iff_eq.mpr c8
            clear c8
            obtain rfl := Option.some.inj H
            go_wp2
            all_goals
              go_ret
              exact ⟨by first | rfl | (simp; done) | (simp [*]; done), by repeat (first | exact Drawn0.refl _ | apply Drawn0.step)⟩
          · rw [if_neg c8] at H
            have c8b0 : (a0 == 9) = false := beq_eq_false_iff_ne.mpr c8
            have c8b1 : (a0 != 9) = true := bne_iff_ne.mpr c8
            by_cases c9 : a0 = 10
            · rw [if_pos c9] at H
              have c9b0 : (a0 == 10) = true := beq_iff_eq.mpr c9
              have c9b1 : (a0 != 10) = false := bne_eq_false_iff_eq.mpr c9
              clear c9
              obtain rfl := Option.some.inj H
              go_wp2
              all_goals
                go_ret
                exact ⟨by first | rfl | (simp; done) | (simp [*]; done), by repeat (first | exact Drawn0.refl _ | apply Drawn0.step)⟩
            · rw [if_neg c9] at H
              have c9b0 : (a0 == 10) = false := beq_eq_false_iff_ne.mpr c9
              have c9b1 : (a0 != 10) = true := bne_iff_ne.mpr c9
              by_cases c10 : a0 = 11
              · rw [if_pos c10] at H
                have c10b0 : (a0 == 11) = true := beq_iff_eq.mpr c10
                have c10b1 : (a0 != 11) = false := bne_eq_false_iff_eq.mpr c10
                clear c10
                obtain rfl := Option.some.inj H
                go_wp2
                all_goals
                  go_ret
                  exact ⟨by first | rfl | (simp; done) | (simp [*]; done), by repeat (first | exact Drawn0.refl _ | apply Drawn0.step)⟩
              · rw [if_neg c10] at H
                have c10b0 : (a0 == 11) = false := beq_eq_false_iff_ne.mpr c10
                have c10b1 : (a0 != 11) = true := bne_iff_ne.mpr c10
                by_cases c11 : a0 = 12
                · rw [if_pos c11] at H
                  have c11b0 : (a0 == 12) = true := beq_iff_eq.mpr c11
                  have c11b1 : (a0 != 12) = false := bne_eq_false_iff_eq.mpr c11
                  clear c11
                  obtain rfl := Option.some.inj H
                  go_wp2
                  all_goals
                    go_ret
                    exact ⟨by first | rfl | (simp; done) | (simp [*]; done), by repeat (first | exact Drawn0.refl _ | apply Drawn0.step)⟩
                · rw [if_neg c11] at H
                  have c11b0 : (a0 == 12) = false := beq_eq_false_iff_ne.mpr c11
                  have c11b1 : (a0 != 12) = true := bne_iff_ne.mpr c11
                  by_cases c12 : a0 = 13
                  · rw [if_pos c12] at H
                    have c12b0 : (a0 == 13) = true := beq_iff_eq.mpr c12
                    have c12b1 : (a0 != 13) = false := bne_eq_false_iff_eq.mpr c12
                    clear c12
                    obtain rfl := Option.some.inj H
                    go_wp2
                    all_goals
                      go_ret
                      exact ⟨by first | rfl | (simp; done) | (simp [*]; done), by repeat (first | exact Drawn0.refl _ | apply Drawn0.step)⟩
                  · rw [if_neg c12] at H
                    have c12b0 : (a0 == 13) = false := beq_eq_false_iff_ne.mpr c12
                    have c12b1 : (a0 != 13) = true := bne_iff_ne.mpr c12
                    obtain rfl := Option.some.inj H
                    go_wp2
                    all_goals
                      go_ret
                      exact ⟨by first | rfl | (simp; done) | (simp [*]; done), by repeat (first | exact Drawn0.refl _ | apply Drawn0.step)⟩
def ident_May.f (a0_0 : Int) (a0_1 : Int) : Option (Bool) := if a0_1 ≥ 0 then (some (decide (a0_1 ≤ 65535))) else (some false)
set_option maxHeartbeats 8000000 in
set_option maxRecDepth 100000 in
theorem ident_May.calls (a0_0 : Int) (a0_1 : Int) (r : Bool) (w : World) (h : ident_May.f a0_0 a0_1 = some r) :
    Calls Try.prog 76 #[.agg #[.int .u64 a0_0, .int .i64 a0_1]] w fun e w' => e = .returned (.bool r) ∧ Below w.heap.size w w' := by
  have hu24 := Try.underlying24
  have HB := Aside0.mk (Below.refl w.heap.size w)
  have H : (if a0_1 ≥ 0 then (some (decide (a0_1 ≤ 65535))) else (some false)) = some r := h
  clear h
  by_cases c2 : a0_1 ≥ 0
  · rw [if_pos c2] at H
    have c2b0 : decide (0 ≤ a0_1) = true := decide_eq_true c2
    clear c2
    obtain rfl := Option.some.inj H
    go_enter Try.func76, Try.ntmps76
    go_wp2_with (first | ((with_reducible refine gate_dst (N := 1) rfl ?_); refine box_event ?hg (N := 1) ?hd (cs := #[.int .u64 a0_0, .int .i64 a0_1]) (t := 24) ?hr ?_; (case hd => rfl); (case hg => rfl); (case hr => first | (go_simp; done) | (go_simp; rfl)); intro gb102 hg w3 hbox hb; have n0_ := Aside0.mk (below_step (by repeat (first | (with_reducible first | exact HB.out | apply below_alloc | apply pw_below_drewN | apply below_drew1) | exact HB.out)) hb); have n1_ := Aside0.mk (hbox); have n2_ := Aside0.mk ((by rw [hg]; exact (below_size (by repeat (first | (with_reducible first | exact HB.out | apply below_alloc | apply pw_below_drewN | apply below_drew1) | exact HB.out))) : w.heap.size ≤ gb102)); have n3_ := Aside0.mk ((by rw [hg]; exact (below_size (by repeat (first | (with_reducible first | exact HB.out | apply below_alloc | apply pw_below_drewN | apply below_drew1) | exact HB.out))) : w.heap.size ≤ gb102)); clear HB; have HB := n0_; have BK102 := n1_; have GW102 := n2_; have GE102 := n3_; clear n0_ n1_ n2_ n3_; clear hb hbox hg; have hcz4_0 : w3.cell? ⟨gb102, 0, none⟩ = some (.int .u64 a0_0) := (blk_cell BK102.out 0).trans rfl; have hcz4_1 : w3.cell? ⟨gb102, 1, none⟩ = some (.int .i64 a0_1) := (blk_cell BK102.out 1).trans rfl; have hfz4_0 := blk_frozen BK102.out 0; have hfz4_1 := blk_frozen BK102.out 1))
    all_goals
      go_ret
      exact ⟨by first | rfl | (simp [errW_none, errW_some] <;> rfl) | (simp [*, errW_none, errW_some] <;> rfl), by repeat (first | (with_reducible first | exact HB.out | apply below_alloc | apply pw_below_drewN | apply below_drew1 | refine below_set ?_ GE102.out) | exact HB.out)⟩
  · rw [if_neg c2] at H
    have c2b0 : decide (0 ≤ a0_1) = false := decide_eq_false c2
    clear c2
    obtain rfl := Option.some.inj H
    go_enter Try.func76, Try.ntmps76
    go_wp2_with (first | ((with_reducible refine gate_dst (N := 1) rfl ?_); refine box_event ?hg (N := 1) ?hd (cs := #[.int .u64 a0_0, .int .i64 a0_1]) (t := 24) ?hr ?_; (case hd => rfl); (case hg => rfl); (case hr => first | (go_simp; done) | (go_simp; rfl)); intro gb102 hg w5 hbox hb; have n0_ := Aside0.mk (below_step (by repeat (first | (with_reducible first | exact HB.out | apply below_alloc | apply pw_below_drewN | apply below_drew1) | exact HB.out)) hb); have n1_ := Aside0.mk (hbox); have n2_ := Aside0.mk ((by rw [hg]; exact (below_size (by repeat (first | (with_reducible first | exact HB.out | apply below_alloc | apply pw_below_drewN | apply below_drew1) | exact HB.out))) : w.heap.size ≤ gb102)); have n3_ := Aside0.mk ((by rw [hg]; exact (below_size (by repeat (first | (with_reducible first | exact HB.out | apply below_alloc | apply pw_below_drewN | apply below_drew1) | exact HB.out))) : w.heap.size ≤ gb102)); clear HB; have HB := n0_; have BK102 := n1_; have GW102 := n2_; have GE102 := n3_; clear n0_ n1_ n2_ n3_; clear hb hbox hg; have hcz6_0 : w5.cell? ⟨gb102, 0, none⟩ = some (.int .u64 a0_0) := (blk_cell BK102.out 0).trans rfl; have hcz6_1 : w5.cell? ⟨gb102, 1, none⟩ = some (.int .i64 a0_1) := (blk_cell BK102.out 1).trans rfl; have hfz6_0 := blk_frozen BK102.out 0; have hfz6_1 := blk_frozen BK102.out 1))
    all_goals
      go_ret
      exact ⟨by first | rfl | (simp [errW_none, errW_some] <;> rfl) | (simp [*, errW_none, errW_some] <;> rfl), by repeat (first | (with_reducible first | exact HB.out | apply below_alloc | apply pw_below_drewN | apply below_drew1 | refine below_set ?_ GE102.out) | exact HB.out)⟩
def header_Check.f (k : Nat) (a0_0 a0_1 a0_2 a0_3 a0_4 a0_5 a0_6 a0_7 a0_8 a0_9 a0_10 a0_11 a0_12 a0_13 a0_14 a0_15 a0_16 a0_17 a0_18 a0_19 a0_20 a0_21 a0_22 : Int) : Option (Bool) := (header_Known.f k a0_0).bind fun t6 => (if t6 = true then ((header_in.f a0_1 0 255).bind fun t7 => (if t7 = true then ((header_in.f a0_2 0 65535).bind fun t8 => (if t8 = true then ((ident_May.f a0_4 a0_5).bind fun t9 => (if t9 = true then ((header_in.f a0_6 0 65535).bind fun t10 => (if t10 = true then ((header_in.f a0_7 (-128) 127).bind fun t11 => (some t11)) else (some false))) else (some false))) else (some false))) else (some false))) else (some false))
abbrev header_Check.v0 (x0 x1 x2 x3 x4 x5 x6 x7 x8 x9 x10 x11 x12 x13 x14 x15 x16 x17 x18 x19 x20 x21 x22 : Int) : Value := .agg #[.int .i64 x0, .int .i64 x1, .int .i64 x2, .int .i64 x3, .int .u64 x4, .int .i64 x5, .int .i64 x6, .int .i64 x7, .int .i64 x8, .int .u64 x9, .int .i64 x10, .int .i64 x11, .int .i64 x12, .int .i64 x13, .int .i64 x14, .int .i64 x15, .int .i64 x16, .int .u64 x17, .int .i64 x18, .int .i64 x19, .int .i64 x20, .int .i64 x21, .int .i64 x22]
abbrev header_Check.c1 (x0 x1 x2 x3 x4 x5 x6 x7 x8 x9 x10 x11 x12 x13 x14 x15 x16 x17 x18 x19 x20 x21 x22 : Int) : Array Value := #[.int .i64 x0, .int .i64 x1, .int .i64 x2, .int .i64 x3, .int .u64 x4, .int .i64 x5, .int .i64 x6, .int .i64 x7, .int .i64 x8, .int .u64 x9, .int .i64 x10, .int .i64 x11, .int .i64 x12, .int .i64 x13, .int .i64 x14, .int .i64 x15, .int .i64 x16, .int .u64 x17, .int .i64 x18, .int .i64 x19, .int .i64 x20, .int .i64 x21, .int .i64 x22]
open Go.Proofs.Ytiomlbkakiienaa.E in
set_option maxHeartbeats 60000000 in
set_option maxRecDepth 100000 in
theorem header_Check.calls (k : Nat) (ab ac ag aE ad ae ah ak aF aG an ao ap aq ar au av aw ax ay az aA aB : Int) (r : Bool) (w : World) (h : header_Check.f k ab ac ag aE ad ae ah ak aF aG an ao ap aq ar au av aw ax ay az aA aB = some r) :
    Calls Try.prog 43 #[.agg #[.int .i64 ab, .int .i64 ac, .int .i64 ag, .int .i64 aE, .int .u64 ad, .int .i64 ae, .int .i64 ah, .int .i64 ak, .int .i64 aF, .int .u64 aG, .int .i64 an, .int .i64 ao, .int .i64 ap, .int .i64 aq, .int .i64 ar, .int .i64 au, .int .i64 av, .int .u64 aw, .int .i64 ax, .int .i64 ay, .int .i64 az, .int .i64 aA, .int .i64 aB]] w fun e w' => e = .returned (.bool r) ∧ Below w.heap.size w w' := by
 have H := h
 clear h
 unfold header_Check.f at H
 obtain ⟨t6, aC, H⟩ := Option.bind_eq_some_iff.mp H
 refine calls_of_wp (fn := Try.f43) (by kernel_rfl) rfl ?_
 have hS := St.enter #[(header_Check.v0 ab ac ag aE ad ae ah ak aF aG an ao ap aq ar au av aw ax ay az aA aB)] 31 (by simp) [(0, (header_Check.v0 ab ac ag aE ad ae ah ak aF aG an ao ap aq ar au av aw ax ay az aA aB))] (by simp)
 have aN := Below.refl w.heap.size w
 by_cases c1 : t6 = true
 rotate_left
 ·rw [if_neg c1] at H
  obtain rfl := Option.some.inj H
  refine wp_seq_k (fun K1 aI => ?_)
  refine reg_seq (I := I1_ w) (ps := [IsB (header_Check.c1 ab ac ag aE ad ae ah ak aF aG an ao ap aq ar au av aw ax ay az aA aB) 28 w.heap.size, VB false]) (by kernel_rfl) ?_ ?_ rfl hS aN ?_ ?_
  ·exact bs1
  ·exact .cons (Stays.b _ _ _) (.v (.nil))
  ·refine .on rfl (fun a w hS hI hp => does_var (x_box rfl (congrArg Value.cells (hS.get 0 rfl))) (hI).size) ?_
   refine .on rfl (fun a w hS hI hp => does_val (x_assign rfl (rfl)) rfl) ?_
   exact .nil
  clear hS
  intro aO w3 hS am hp
  replace hS := hS.nil
  obtain ⟨g4, al, aK, aa⟩ := (show IsB _ 28 _ (sl _ 1) _ from hp 0 (by decide))
  have hS := hS.cons al
  clear hp al
  refine aI _ _ ?_
  refine wp_seq_k (fun K5 ai => ?_)
  refine reg_seq (I := I2_ w w3) (ps := [VP g4 0, VI ab, VB t6, VB t6, VU, VU, VU, VB false, VB false, VU, VU, VU, VB false, VB false, VU, VU, VU, VB false, VB false, VU, VU, VU, VB false, VB false, VU, VU, VU, VB false, VB false]) (by kernel_rfl) ?_ ?_ rfl hS ⟨am, (bR w3)⟩ ?_ ?_
  ·exact bs2
  ·exact .v (.v (.v (.v (.v (.v (.v (.v (.v (.v (.v (.v (.v (.v (.v (.v (.v (.v (.v (.v (.v (.v (.v (.v (.v (.v (.v (.v (.v (.nil)))))))))))))))))))))))))))))
  ·refine .on rfl (fun a w hS hI hp => does_val (x_fieldE (b := 0) rfl (hS.get 0 rfl) Try.underlying28 rfl rfl (by kernel_rfl)) rfl) ?_
   refine .on rfl (fun a w hS hI hp => does_val (x_load1 (d := .int .i64) rfl (hp.V 0 rfl rfl) (by kernel_rfl) rfl ((blk_cell (((hI.2).block g4 (blk_lt aa)).trans aa) 0).trans rfl)) rfl) ?_
   refine .on rfl (fun a w hS hI hp => does_call (by kernel_rfl) (ar1 (hp.V 1 rfl rfl)) ((header_Known.calls k ab t6 _  aC).mono fun _ _ h => ⟨_, h.1, h.2.below, rfl⟩)) ?_
   refine .mv 2 rfl rfl rfl ?_
   iterate 3 refine .sn 3 6 rfl rfl ((Bool.eq_false_iff.2 c1)) ?_
   refine .pf 3 rfl rfl rfl ((Bool.eq_false_iff.2 c1)) (fun _ => rfl) ?_
   refine .mv 7 rfl rfl rfl ?_
   iterate 3 refine .sn 8 11 rfl rfl rfl ?_
   refine .pf 8 rfl rfl rfl rfl (fun _ => rfl) ?_
   refine .mv 12 rfl rfl rfl ?_
   iterate 3 refine .sn 13 16 rfl rfl rfl ?_
   refine .pf 13 rfl rfl rfl rfl (fun _ => rfl) ?_
   refine .mv 17 rfl rfl rfl ?_
   iterate 3 refine .sn 18 21 rfl rfl rfl ?_
   refine .pf 18 rfl rfl rfl rfl (fun _ => rfl) ?_
   refine .mv 22 rfl rfl rfl ?_
   iterate 3 refine .sn 23 26 rfl rfl rfl ?_
   refine .pf 23 rfl rfl rfl rfl (fun _ => rfl) ?_
   refine .asg 27 rfl rfl rfl ?_
   exact .nil
  clear hS
  intro aZ w8 hS aU hp
  replace hS := hS.nil
  have af : sl _ 2 = .bool false := hp 28 (by decide)
  have hS := hS.cons af
  clear hp af
  refine ai _ _ ?_
  refine wp_ret ?_
  (try simp only [Exit.then, Exit.inBlock, Exit.jump, Exit.noGoto])
  exact bodyPost_ret (v := .bool false) (results_single rfl (Vals.at (hS.get 0 rfl) .nil)) hS.nodef ⟨rfl, aU.1⟩
 rw [if_pos c1] at H
 obtain ⟨t7, aH, H⟩ := Option.bind_eq_some_iff.mp H
 refine wp_seq_k (fun K1 aI => ?_)
 by_cases c2 : t7 = true
 rotate_left
 ·rw [if_neg c2] at H
  obtain rfl := Option.some.inj H
  refine reg_seq (I := I1_ w) (ps := [IsB (header_Check.c1 ab ac ag aE ad ae ah ak aF aG an ao ap aq ar au av aw ax ay az aA aB) 28 w.heap.size, VB false]) (by kernel_rfl) ?_ ?_ rfl hS aN ?_ ?_
  ·exact bs1
  ·exact .cons (Stays.b _ _ _) (.v (.nil))
  ·refine .on rfl (fun a w hS hI hp => does_var (x_box rfl (congrArg Value.cells (hS.get 0 rfl))) (hI).size) ?_
   refine .on rfl (fun a w hS hI hp => does_val (x_assign rfl (rfl)) rfl) ?_
   exact .nil
  clear hS
  intro aO w3 hS am hp
  replace hS := hS.nil
  obtain ⟨g4, al, aK, aa⟩ := (show IsB _ 28 _ (sl _ 1) _ from hp 0 (by decide))
  have hS := hS.cons al
  clear hp al
  refine aI _ _ ?_
  refine wp_seq_k (fun K5 ai => ?_)
  refine reg_seq (I := I2_ w w3) (ps := [VP g4 0, VI ab, VB t6, VB t6, VP g4 1, VI ac, VB t7, VB t7, VB t7, VU, VU, VU, VB false, VB false, VU, VU, VU, VB false, VB false, VU, VU, VU, VB false, VB false, VU, VU, VU, VB false, VB false]) (by kernel_rfl) ?_ ?_ rfl hS ⟨am, (bR w3)⟩ ?_ ?_
  ·exact bs2
  ·exact .v (.v (.v (.v (.v (.v (.v (.v (.v (.v (.v (.v (.v (.v (.v (.v (.v (.v (.v (.v (.v (.v (.v (.v (.v (.v (.v (.v (.v (.nil)))))))))))))))))))))))))))))
  ·refine .on rfl (fun a w hS hI hp => does_val (x_fieldE (b := 0) rfl (hS.get 0 rfl) Try.underlying28 rfl rfl (by kernel_rfl)) rfl) ?_
   refine .on rfl (fun a w hS hI hp => does_val (x_load1 (d := .int .i64) rfl (hp.V 0 rfl rfl) (by kernel_rfl) rfl ((blk_cell (((hI.2).block g4 (blk_lt aa)).trans aa) 0).trans rfl)) rfl) ?_
   refine .on rfl (fun a w hS hI hp => does_call (by kernel_rfl) (ar1 (hp.V 1 rfl rfl)) ((header_Known.calls k ab t6 _  aC).mono fun _ _ h => ⟨_, h.1, h.2.below, rfl⟩)) ?_
   refine .mv 2 rfl rfl rfl ?_
   refine .oy 3 6 rfl rfl c1 (fun a w hS hI hp => does_val (x_fieldE (b := 0) rfl (hS.get 0 rfl) Try.underlying28 rfl rfl (by kernel_rfl)) rfl) ?_
   refine .oy 3 6 rfl rfl c1 (fun a w hS hI hp => does_val (x_load1 (d := .int .i64) rfl (hp.V 4 rfl rfl) (by kernel_rfl) rfl ((blk_cell (((hI.2).block g4 (blk_lt aa)).trans aa) 1).trans rfl)) rfl) ?_
   refine .oy 3 6 rfl rfl c1 (fun a w hS hI hp => does_call (by kernel_rfl) (ar3 (hp.V 5 rfl rfl) (rfl) (rfl)) ((header_in.calls ac 0 255 t7 _  aH).mono fun _ _ h => ⟨_, h.1, h.2.below, rfl⟩)) ?_
   refine .pt 3 6 rfl rfl rfl c1 rfl ?_
   refine .mv 7 rfl rfl rfl ?_
   iterate 3 refine .sn 8 11 rfl rfl ((Bool.eq_false_iff.2 c2)) ?_
   refine .pf 8 rfl rfl rfl ((Bool.eq_false_iff.2 c2)) (fun _ => rfl) ?_
   refine .mv 12 rfl rfl rfl ?_
   iterate 3 refine .sn 13 16 rfl rfl rfl ?_
   refine .pf 13 rfl rfl rfl rfl (fun _ => rfl) ?_
   refine .mv 17 rfl rfl rfl ?_
   iterate 3 refine .sn 18 21 rfl rfl rfl ?_
   refine .pf 18 rfl rfl rfl rfl (fun _ => rfl) ?_
   refine .mv 22 rfl rfl rfl ?_
   iterate 3 refine .sn 23 26 rfl rfl rfl ?_
   refine .pf 23 rfl rfl rfl rfl (fun _ => rfl) ?_
   refine .asg 27 rfl rfl rfl ?_
   exact .nil
  clear hS
  intro a0 w9 hS aV hp
  replace hS := hS.nil
  have af : sl _ 2 = .bool false := hp 28 (by decide)
  have hS := hS.cons af
  clear hp af
  refine ai _ _ ?_
  refine wp_ret ?_
  (try simp only [Exit.then, Exit.inBlock, Exit.jump, Exit.noGoto])
  exact bodyPost_ret (v := .bool false) (results_single rfl (Vals.at (hS.get 0 rfl) .nil)) hS.nodef ⟨rfl, aV.1⟩
 rw [if_pos c2] at H
 obtain ⟨t8, aJ, H⟩ := Option.bind_eq_some_iff.mp H
 refine reg_seq (I := I1_ w) (ps := [IsB (header_Check.c1 ab ac ag aE ad ae ah ak aF aG an ao ap aq ar au av aw ax ay az aA aB) 28 w.heap.size, VB false]) (by kernel_rfl) ?_ ?_ rfl hS aN ?_ ?_
 ·exact bs1
 ·exact .cons (Stays.b _ _ _) (.v (.nil))
 ·refine .on rfl (fun a w hS hI hp => does_var (x_box rfl (congrArg Value.cells (hS.get 0 rfl))) (hI).size) ?_
  refine .on rfl (fun a w hS hI hp => does_val (x_assign rfl (rfl)) rfl) ?_
  exact .nil
 clear hS
 intro aO w3 hS am hp
 replace hS := hS.nil
 obtain ⟨g4, al, aK, aa⟩ := (show IsB _ 28 _ (sl _ 1) _ from hp 0 (by decide))
 have hS := hS.cons al
 clear hp al
 by_cases c3 : t8 = true
 rotate_left
 ·rw [if_neg c3] at H
  obtain rfl := Option.some.inj H
  refine aI _ _ ?_
  refine wp_seq_k (fun K5 ai => ?_)
  refine reg_seq (I := I2_ w w3) (ps := [VP g4 0, VI ab, VB t6, VB t6, VP g4 1, VI ac, VB t7, VB t7, VB t7, VP g4 2, VI ag, VB t8, VB t8, VB t8, VU, VU, VU, VB false, VB false, VU, VU, VU, VB false, VB false, VU, VU, VU, VB false, VB false]) (by kernel_rfl) ?_ ?_ rfl hS ⟨am, (bR w3)⟩ ?_ ?_
  ·exact bs2
  ·exact .v (.v (.v (.v (.v (.v (.v (.v (.v (.v (.v (.v (.v (.v (.v (.v (.v (.v (.v (.v (.v (.v (.v (.v (.v (.v (.v (.v (.v (.nil)))))))))))))))))))))))))))))
  ·refine .on rfl (fun a w hS hI hp => does_val (x_fieldE (b := 0) rfl (hS.get 0 rfl) Try.underlying28 rfl rfl (by kernel_rfl)) rfl) ?_
   refine .on rfl (fun a w hS hI hp => does_val (x_load1 (d := .int .i64) rfl (hp.V 0 rfl rfl) (by kernel_rfl) rfl ((blk_cell (((hI.2).block g4 (blk_lt aa)).trans aa) 0).trans rfl)) rfl) ?_
   refine .on rfl (fun a w hS hI hp => does_call (by kernel_rfl) (ar1 (hp.V 1 rfl rfl)) ((header_Known.calls k ab t6 _  aC).mono fun _ _ h => ⟨_, h.1, h.2.below, rfl⟩)) ?_
   refine .mv 2 rfl rfl rfl ?_
   refine .oy 3 6 rfl rfl c1 (fun a w hS hI hp => does_val (x_fieldE (b := 0) rfl (hS.get 0 rfl) Try.underlying28 rfl rfl (by kernel_rfl)) rfl) ?_
   refine .oy 3 6 rfl rfl c1 (fun a w hS hI hp => does_val (x_load1 (d := .int .i64) rfl (hp.V 4 rfl rfl) (by kernel_rfl) rfl ((blk_cell (((hI.2).block g4 (blk_lt aa)).trans aa) 1).trans rfl)) rfl) ?_
   refine .oy 3 6 rfl rfl c1 (fun a w hS hI hp => does_call (by kernel_rfl) (ar3 (hp.V 5 rfl rfl) (rfl) (rfl)) ((header_in.calls ac 0 255 t7 _  aH).mono fun _ _ h => ⟨_, h.1, h.2.below, rfl⟩)) ?_
   refine .pt 3 6 rfl rfl rfl c1 rfl ?_
   refine .mv 7 rfl rfl rfl ?_
   refine .oy 8 11 rfl rfl c2 (fun a w hS hI hp => does_val (x_fieldE (b := 0) rfl (hS.get 0 rfl) Try.underlying28 rfl rfl (by kernel_rfl)) rfl) ?_
   refine .oy 8 11 rfl rfl c2 (fun a w hS hI hp => does_val (x_load1 (d := .int .i64) rfl (hp.V 9 rfl rfl) (by kernel_rfl) rfl ((blk_cell (((hI.2).block g4 (blk_lt aa)).trans aa) 2).trans rfl)) rfl) ?_
   refine .oy 8 11 rfl rfl c2 (fun a w hS hI hp => does_call (by kernel_rfl) (ar3 (hp.V 10 rfl rfl) (rfl) (rfl)) ((header_in.calls ag 0 65535 t8 _  aJ).mono fun _ _ h => ⟨_, h.1, h.2.below, rfl⟩)) ?_
   refine .pt 8 11 rfl rfl rfl c2 rfl ?_
   refine .mv 12 rfl rfl rfl ?_
   iterate 3 refine .sn 13 16 rfl rfl ((Bool.eq_false_iff.2 c3)) ?_
   refine .pf 13 rfl rfl rfl ((Bool.eq_false_iff.2 c3)) (fun _ => rfl) ?_
   refine .mv 17 rfl rfl rfl ?_
   iterate 3 refine .sn 18 21 rfl rfl rfl ?_
   refine .pf 18 rfl rfl rfl rfl (fun _ => rfl) ?_
   refine .mv 22 rfl rfl rfl ?_
   iterate 3 refine .sn 23 26 rfl rfl rfl ?_
   refine .pf 23 rfl rfl rfl rfl (fun _ => rfl) ?_
   refine .asg 27 rfl rfl rfl ?_
   exact .nil
  clear hS
  intro a1 a2 hS aQ hp
  replace hS := hS.nil
  have af : sl _ 2 = .bool false := hp 28 (by decide)
  have hS := hS.cons af
  clear hp af
  refine ai _ _ ?_
  refine wp_ret ?_
  (try simp only [Exit.then, Exit.inBlock, Exit.jump, Exit.noGoto])
  exact bodyPost_ret (v := .bool false) (results_single rfl (Vals.at (hS.get 0 rfl) .nil)) hS.nodef ⟨rfl, aQ.1⟩
 rw [if_pos c3] at H
 obtain ⟨t9, aM, H⟩ := Option.bind_eq_some_iff.mp H
 refine aI _ _ ?_
 by_cases c4 : t9 = true
 rotate_left
 ·rw [if_neg c4] at H
  obtain rfl := Option.some.inj H
  refine wp_seq_k (fun K5 ai => ?_)
  refine reg_seq (I := I2_ w w3) (ps := [VP g4 0, VI ab, VB t6, VB t6, VP g4 1, VI ac, VB t7, VB t7, VB t7, VP g4 2, VI ag, VB t8, VB t8, VB t8, VP g4 4, IsV (.agg #[.int .u64 ad, .int .i64 ae]), VB t9, VB t9, VB t9, VU, VU, VU, VB false, VB false, VU, VU, VU, VB false, VB false]) (by kernel_rfl) ?_ ?_ rfl hS ⟨am, (bR w3)⟩ ?_ ?_
  ·exact bs2
  ·exact .v (.v (.v (.v (.v (.v (.v (.v (.v (.v (.v (.v (.v (.v (.v (.v (.v (.v (.v (.v (.v (.v (.v (.v (.v (.v (.v (.v (.v (.nil)))))))))))))))))))))))))))))
  ·refine .on rfl (fun a w hS hI hp => does_val (x_fieldE (b := 0) rfl (hS.get 0 rfl) Try.underlying28 rfl rfl (by kernel_rfl)) rfl) ?_
   refine .on rfl (fun a w hS hI hp => does_val (x_load1 (d := .int .i64) rfl (hp.V 0 rfl rfl) (by kernel_rfl) rfl ((blk_cell (((hI.2).block g4 (blk_lt aa)).trans aa) 0).trans rfl)) rfl) ?_
   refine .on rfl (fun a w hS hI hp => does_call (by kernel_rfl) (ar1 (hp.V 1 rfl rfl)) ((header_Known.calls k ab t6 _  aC).mono fun _ _ h => ⟨_, h.1, h.2.below, rfl⟩)) ?_
   refine .mv 2 rfl rfl rfl ?_
   refine .oy 3 6 rfl rfl c1 (fun a w hS hI hp => does_val (x_fieldE (b := 0) rfl (hS.get 0 rfl) Try.underlying28 rfl rfl (by kernel_rfl)) rfl) ?_
   refine .oy 3 6 rfl rfl c1 (fun a w hS hI hp => does_val (x_load1 (d := .int .i64) rfl (hp.V 4 rfl rfl) (by kernel_rfl) rfl ((blk_cell (((hI.2).block g4 (blk_lt aa)).trans aa) 1).trans rfl)) rfl) ?_
   refine .oy 3 6 rfl rfl c1 (fun a w hS hI hp => does_call (by kernel_rfl) (ar3 (hp.V 5 rfl rfl) (rfl) (rfl)) ((header_in.calls ac 0 255 t7 _  aH).mono fun _ _ h => ⟨_, h.1, h.2.below, rfl⟩)) ?_
   refine .pt 3 6 rfl rfl rfl c1 rfl ?_
   refine .mv 7 rfl rfl rfl ?_
   refine .oy 8 11 rfl rfl c2 (fun a w hS hI hp => does_val (x_fieldE (b := 0) rfl (hS.get 0 rfl) Try.underlying28 rfl rfl (by kernel_rfl)) rfl) ?_
   refine .oy 8 11 rfl rfl c2 (fun a w hS hI hp => does_val (x_load1 (d := .int .i64) rfl (hp.V 9 rfl rfl) (by kernel_rfl) rfl ((blk_cell (((hI.2).block g4 (blk_lt aa)).trans aa) 2).trans rfl)) rfl) ?_
   refine .oy 8 11 rfl rfl c2 (fun a w hS hI hp => does_call (by kernel_rfl) (ar3 (hp.V 10 rfl rfl) (rfl) (rfl)) ((header_in.calls ag 0 65535 t8 _  aJ).mono fun _ _ h => ⟨_, h.1, h.2.below, rfl⟩)) ?_
   refine .pt 8 11 rfl rfl rfl c2 rfl ?_
   refine .mv 12 rfl rfl rfl ?_
   refine .oy 13 16 rfl rfl c3 (fun a w hS hI hp => does_val (x_fieldE (b := 0) rfl (hS.get 0 rfl) Try.underlying28 rfl rfl (by kernel_rfl)) rfl) ?_
   refine .oy 13 16 rfl rfl c3 (fun a w hS hI hp => does_loadmid (cs := [.int .u64 ad, .int .i64 ae]) rfl (hp.V 14 rfl rfl) (((hI.2).block g4 (blk_lt aa)).trans aa) (by kernel_rfl) Try.underlying24 rfl (by kernel_rfl) rfl) ?_
   refine .oy 13 16 rfl rfl c3 (fun a w hS hI hp => does_call (by kernel_rfl) (ar1 (hp.V 15 rfl rfl)) ((ident_May.calls ad ae t9 _  aM).mono fun _ _ h => ⟨_, h.1, h.2, rfl⟩)) ?_
   refine .pt 13 16 rfl rfl rfl c3 rfl ?_
   refine .mv 17 rfl rfl rfl ?_
   iterate 3 refine .sn 18 21 rfl rfl ((Bool.eq_false_iff.2 c4)) ?_
   refine .pf 18 rfl rfl rfl ((Bool.eq_false_iff.2 c4)) (fun _ => rfl) ?_
   refine .mv 22 rfl rfl rfl ?_
   iterate 3 refine .sn 23 26 rfl rfl rfl ?_
   refine .pf 23 rfl rfl rfl rfl (fun _ => rfl) ?_
   refine .asg 27 rfl rfl rfl ?_
   exact .nil
  clear hS
  intro aW a3 hS aR hp
  replace hS := hS.nil
  have af : sl _ 2 = .bool false := hp 28 (by decide)
  have hS := hS.cons af
  clear hp af
  refine ai _ _ ?_
  refine wp_ret ?_
  (try simp only [Exit.then, Exit.inBlock, Exit.jump, Exit.noGoto])
  exact bodyPost_ret (v := .bool false) (results_single rfl (Vals.at (hS.get 0 rfl) .nil)) hS.nodef ⟨rfl, aR.1⟩
 rw [if_pos c4] at H
 obtain ⟨aj, aL, H⟩ := Option.bind_eq_some_iff.mp H
 refine wp_seq_k (fun K5 ai => ?_)
 by_cases c5 : aj = true
 rotate_left
 ·rw [if_neg c5] at H
  obtain rfl := Option.some.inj H
  refine reg_seq (I := I2_ w w3) (ps := [VP g4 0, VI ab, VB t6, VB t6, VP g4 1, VI ac, VB t7, VB t7, VB t7, VP g4 2, VI ag, VB t8, VB t8, VB t8, VP g4 4, IsV (.agg #[.int .u64 ad, .int .i64 ae]), VB t9, VB t9, VB t9, VP g4 6, VI ah, VB aj, VB aj, VB aj, VU, VU, VU, VB false, VB false]) (by kernel_rfl) ?_ ?_ rfl hS ⟨am, (bR w3)⟩ ?_ ?_
  ·exact bs2
  ·exact .v (.v (.v (.v (.v (.v (.v (.v (.v (.v (.v (.v (.v (.v (.v (.v (.v (.v (.v (.v (.v (.v (.v (.v (.v (.v (.v (.v (.v (.nil)))))))))))))))))))))))))))))
  ·refine .on rfl (fun a w hS hI hp => does_val (x_fieldE (b := 0) rfl (hS.get 0 rfl) Try.underlying28 rfl rfl (by kernel_rfl)) rfl) ?_
   refine .on rfl (fun a w hS hI hp => does_val (x_load1 (d := .int .i64) rfl (hp.V 0 rfl rfl) (by kernel_rfl) rfl ((blk_cell (((hI.2).block g4 (blk_lt aa)).trans aa) 0).trans rfl)) rfl) ?_
   refine .on rfl (fun a w hS hI hp => does_call (by kernel_rfl) (ar1 (hp.V 1 rfl rfl)) ((header_Known.calls k ab t6 _  aC).mono fun _ _ h => ⟨_, h.1, h.2.below, rfl⟩)) ?_
   refine .mv 2 rfl rfl rfl ?_
   refine .oy 3 6 rfl rfl c1 (fun a w hS hI hp => does_val (x_fieldE (b := 0) rfl (hS.get 0 rfl) Try.underlying28 rfl rfl (by kernel_rfl)) rfl) ?_
   refine .oy 3 6 rfl rfl c1 (fun a w hS hI hp => does_val (x_load1 (d := .int .i64) rfl (hp.V 4 rfl rfl) (by kernel_rfl) rfl ((blk_cell (((hI.2).block g4 (blk_lt aa)).trans aa) 1).trans rfl)) rfl) ?_
   refine .oy 3 6 rfl rfl c1 (fun a w hS hI hp => does_call (by kernel_rfl) (ar3 (hp.V 5 rfl rfl) (rfl) (rfl)) ((header_in.calls ac 0 255 t7 _  aH).mono fun _ _ h => ⟨_, h.1, h.2.below, rfl⟩)) ?_
   refine .pt 3 6 rfl rfl rfl c1 rfl ?_
   refine .mv 7 rfl rfl rfl ?_
   refine .oy 8 11 rfl rfl c2 (fun a w hS hI hp => does_val (x_fieldE (b := 0) rfl (hS.get 0 rfl) Try.underlying28 rfl rfl (by kernel_rfl)) rfl) ?_
   refine .oy 8 11 rfl rfl c2 (fun a w hS hI hp => does_val (x_load1 (d := .int .i64) rfl (hp.V 9 rfl rfl) (by kernel_rfl) rfl ((blk_cell (((hI.2).block g4 (blk_lt aa)).trans aa) 2).trans rfl)) rfl) ?_
   refine .oy 8 11 rfl rfl c2 (fun a w hS hI hp => does_call (by kernel_rfl) (ar3 (hp.V 10 rfl rfl) (rfl) (rfl)) ((header_in.calls ag 0 65535 t8 _  aJ).mono fun _ _ h => ⟨_, h.1, h.2.below, rfl⟩)) ?_
   refine .pt 8 11 rfl rfl rfl c2 rfl ?_
   refine .mv 12 rfl rfl rfl ?_
   refine .oy 13 16 rfl rfl c3 (fun a w hS hI hp => does_val (x_fieldE (b := 0) rfl (hS.get 0 rfl) Try.underlying28 rfl rfl (by kernel_rfl)) rfl) ?_
   refine .oy 13 16 rfl rfl c3 (fun a w hS hI hp => does_loadmid (cs := [.int .u64 ad, .int .i64 ae]) rfl (hp.V 14 rfl rfl) (((hI.2).block g4 (blk_lt aa)).trans aa) (by kernel_rfl) Try.underlying24 rfl (by kernel_rfl) rfl) ?_
   refine .oy 13 16 rfl rfl c3 (fun a w hS hI hp => does_call (by kernel_rfl) (ar1 (hp.V 15 rfl rfl)) ((ident_May.calls ad ae t9 _  aM).mono fun _ _ h => ⟨_, h.1, h.2, rfl⟩)) ?_
   refine .pt 13 16 rfl rfl rfl c3 rfl ?_
   refine .mv 17 rfl rfl rfl ?_
   refine .oy 18 21 rfl rfl c4 (fun a w hS hI hp => does_val (x_fieldE (b := 0) rfl (hS.get 0 rfl) Try.underlying28 rfl rfl (by kernel_rfl)) rfl) ?_
   refine .oy 18 21 rfl rfl c4 (fun a w hS hI hp => does_val (x_load1 (d := .int .i64) rfl (hp.V 19 rfl rfl) (by kernel_rfl) rfl ((blk_cell (((hI.2).block g4 (blk_lt aa)).trans aa) 6).trans rfl)) rfl) ?_
   refine .oy 18 21 rfl rfl c4 (fun a w hS hI hp => does_call (by kernel_rfl) (ar3 (hp.V 20 rfl rfl) (rfl) (rfl)) ((header_in.calls ah 0 65535 aj _  aL).mono fun _ _ h => ⟨_, h.1, h.2.below, rfl⟩)) ?_
   refine .pt 18 21 rfl rfl rfl c4 rfl ?_
   refine .mv 22 rfl rfl rfl ?_
   iterate 3 refine .sn 23 26 rfl rfl ((Bool.eq_false_iff.2 c5)) ?_
   refine .pf 23 rfl rfl rfl ((Bool.eq_false_iff.2 c5)) (fun _ => rfl) ?_
   refine .asg 27 rfl rfl rfl ?_
   exact .nil
  clear hS
  intro aX a4 hS aS hp
  replace hS := hS.nil
  have af : sl _ 2 = .bool false := hp 28 (by decide)
  have hS := hS.cons af
  clear hp af
  refine ai _ _ ?_
  refine wp_ret ?_
  (try simp only [Exit.then, Exit.inBlock, Exit.jump, Exit.noGoto])
  exact bodyPost_ret (v := .bool false) (results_single rfl (Vals.at (hS.get 0 rfl) .nil)) hS.nodef ⟨rfl, aS.1⟩
 rw [if_pos c5] at H
 obtain ⟨aD, aP, H⟩ := Option.bind_eq_some_iff.mp H
 obtain rfl := Option.some.inj H
 refine reg_seq (I := I2_ w w3) (ps := [VP g4 0, VI ab, VB t6, VB t6, VP g4 1, VI ac, VB t7, VB t7, VB t7, VP g4 2, VI ag, VB t8, VB t8, VB t8, VP g4 4, IsV (.agg #[.int .u64 ad, .int .i64 ae]), VB t9, VB t9, VB t9, VP g4 6, VI ah, VB aj, VB aj, VB aj, VP g4 7, VI ak, VB aD, VB aD, VB aD]) (by kernel_rfl) ?_ ?_ rfl hS ⟨am, (bR w3)⟩ ?_ ?_
 ·exact bs2
 ·exact .v (.v (.v (.v (.v (.v (.v (.v (.v (.v (.v (.v (.v (.v (.v (.v (.v (.v (.v (.v (.v (.v (.v (.v (.v (.v (.v (.v (.v (.nil)))))))))))))))))))))))))))))
 ·refine .on rfl (fun a w hS hI hp => does_val (x_fieldE (b := 0) rfl (hS.get 0 rfl) Try.underlying28 rfl rfl (by kernel_rfl)) rfl) ?_
  refine .on rfl (fun a w hS hI hp => does_val (x_load1 (d := .int .i64) rfl (hp.V 0 rfl rfl) (by kernel_rfl) rfl ((blk_cell (((hI.2).block g4 (blk_lt aa)).trans aa) 0).trans rfl)) rfl) ?_
  refine .on rfl (fun a w hS hI hp => does_call (by kernel_rfl) (ar1 (hp.V 1 rfl rfl)) ((header_Known.calls k ab t6 _  aC).mono fun _ _ h => ⟨_, h.1, h.2.below, rfl⟩)) ?_
  refine .mv 2 rfl rfl rfl ?_
  refine .oy 3 6 rfl rfl c1 (fun a w hS hI hp => does_val (x_fieldE (b := 0) rfl (hS.get 0 rfl) Try.underlying28 rfl rfl (by kernel_rfl)) rfl) ?_
  refine .oy 3 6 rfl rfl c1 (fun a w hS hI hp => does_val (x_load1 (d := .int .i64) rfl (hp.V 4 rfl rfl) (by kernel_rfl) rfl ((blk_cell (((hI.2).block g4 (blk_lt aa)).trans aa) 1).trans rfl)) rfl) ?_
  refine .oy 3 6 rfl rfl c1 (fun a w hS hI hp => does_call (by kernel_rfl) (ar3 (hp.V 5 rfl rfl) (rfl) (rfl)) ((header_in.calls ac 0 255 t7 _  aH).mono fun _ _ h => ⟨_, h.1, h.2.below, rfl⟩)) ?_
  refine .pt 3 6 rfl rfl rfl c1 rfl ?_
  refine .mv 7 rfl rfl rfl ?_
  refine .oy 8 11 rfl rfl c2 (fun a w hS hI hp => does_val (x_fieldE (b := 0) rfl (hS.get 0 rfl) Try.underlying28 rfl rfl (by kernel_rfl)) rfl) ?_
  refine .oy 8 11 rfl rfl c2 (fun a w hS hI hp => does_val (x_load1 (d := .int .i64) rfl (hp.V 9 rfl rfl) (by kernel_rfl) rfl ((blk_cell (((hI.2).block g4 (blk_lt aa)).trans aa) 2).trans rfl)) rfl) ?_
  refine .oy 8 11 rfl rfl c2 (fun a w hS hI hp => does_call (by kernel_rfl) (ar3 (hp.V 10 rfl rfl) (rfl) (rfl)) ((header_in.calls ag 0 65535 t8 _  aJ).mono fun _ _ h => ⟨_, h.1, h.2.below, rfl⟩)) ?_
  refine .pt 8 11 rfl rfl rfl c2 rfl ?_
  refine .mv 12 rfl rfl rfl ?_
  refine .oy 13 16 rfl rfl c3 (fun a w hS hI hp => does_val (x_fieldE (b := 0) rfl (hS.get 0 rfl) Try.underlying28 rfl rfl (by kernel_rfl)) rfl) ?_
  refine .oy 13 16 rfl rfl c3 (fun a w hS hI hp => does_loadmid (cs := [.int .u64 ad, .int .i64 ae]) rfl (hp.V 14 rfl rfl) (((hI.2).block g4 (blk_lt aa)).trans aa) (by kernel_rfl) Try.underlying24 rfl (by kernel_rfl) rfl) ?_
  refine .oy 13 16 rfl rfl c3 (fun a w hS hI hp => does_call (by kernel_rfl) (ar1 (hp.V 15 rfl rfl)) ((ident_May.calls ad ae t9 _  aM).mono fun _ _ h => ⟨_, h.1, h.2, rfl⟩)) ?_
  refine .pt 13 16 rfl rfl rfl c3 rfl ?_
  refine .mv 17 rfl rfl rfl ?_
  refine .oy 18 21 rfl rfl c4 (fun a w hS hI hp => does_val (x_fieldE (b := 0) rfl (hS.get 0 rfl) Try.underlying28 rfl rfl (by kernel_rfl)) rfl) ?_
  refine .oy 18 21 rfl rfl c4 (fun a w hS hI hp => does_val (x_load1 (d := .int .i64) rfl (hp.V 19 rfl rfl) (by kernel_rfl) rfl ((blk_cell (((hI.2).block g4 (blk_lt aa)).trans aa) 6).trans rfl)) rfl) ?_
  refine .oy 18 21 rfl rfl c4 (fun a w hS hI hp => does_call (by kernel_rfl) (ar3 (hp.V 20 rfl rfl) (rfl) (rfl)) ((header_in.calls ah 0 65535 aj _  aL).mono fun _ _ h => ⟨_, h.1, h.2.below, rfl⟩)) ?_
  refine .pt 18 21 rfl rfl rfl c4 rfl ?_
  refine .mv 22 rfl rfl rfl ?_
  refine .oy 23 26 rfl rfl c5 (fun a w hS hI hp => does_val (x_fieldE (b := 0) rfl (hS.get 0 rfl) Try.underlying28 rfl rfl (by kernel_rfl)) rfl) ?_
  refine .oy 23 26 rfl rfl c5 (fun a w hS hI hp => does_val (x_load1 (d := .int .i64) rfl (hp.V 24 rfl rfl) (by kernel_rfl) rfl ((blk_cell (((hI.2).block g4 (blk_lt aa)).trans aa) 7).trans rfl)) rfl) ?_
  refine .oy 23 26 rfl rfl c5 (fun a w hS hI hp => does_call (by kernel_rfl) (ar3 (hp.V 25 rfl rfl) (rfl) (rfl)) ((header_in.calls ak (-128) 127 aD _  aP).mono fun _ _ h => ⟨_, h.1, h.2.below, rfl⟩)) ?_
  refine .pt 23 26 rfl rfl rfl c5 rfl ?_
  refine .asg 27 rfl rfl rfl ?_
  exact .nil
 clear hS
 intro aY a5 hS aT hp
 replace hS := hS.nil
 have af : sl _ 2 = .bool aD := hp 28 (by decide)
 have hS := hS.cons af
 clear hp af
 refine ai _ _ ?_
 refine wp_ret ?_
 (try simp only [Exit.then, Exit.inBlock, Exit.jump, Exit.noGoto])
 exact bodyPost_ret (v := .bool aD) (results_single rfl (Vals.at (hS.get 0 rfl) .nil)) hS.nodef ⟨rfl, aT.1⟩
def body_stamped.f (a0 : Int) : Option (Bool) := if a0 = 12 then (some false) else (some (a0 != 13))
set_option maxHeartbeats 8000000 in
set_option maxRecDepth 100000 in
theorem body_stamped.calls (a0 : Int) (r : Bool) (w : World) (h : body_stamped.f a0 = some r) :
    Calls Try.prog 35 #[.int .i64 a0] w fun e w' => e = .returned (.bool r) ∧ Drawn0 w w' := by
  have H : (if a0 = 12 then (some false) else (some (a0 != 13))) = some r := h
  clear h
  by_cases c2 : a0 = 12
  · rw [if_pos c2] at H
    have c2b0 : (a0 == 12) = true := beq_iff_eq.mpr c2
    have c2b1 : (a0 != 12) = false := bne_eq_false_iff_eq.mpr c2
    clear c2
    obtain rfl := Option.some.inj H
    go_enter Try.func35, Try.ntmps35
    go_wp2
    all_goals
      go_ret
      exact ⟨by first | rfl | (simp; done) | (simp [*]; done), by repeat (first | exact Drawn0.refl _ | apply Drawn0.step)⟩
  · rw [if_neg c2] at H
    have c2b0 : (a0 == 12) = false := beq_eq_false_iff_ne.mpr c2
    have c2b1 : (a0 != 12) = true := bne_iff_ne.mpr c2
    obtain rfl := Option.some.inj H
    go_enter Try.func35, Try.ntmps35
    go_wp2
    all_goals
      go_ret
      exact ⟨by first | rfl | (simp; done) | (simp [*]; done), by repeat (first | exact Drawn0.refl _ | apply Drawn0.step)⟩
def body_targeted.f (a0 : Int) : Option (Bool) := if a0 = 9 then (some true) else (if a0 = 3 then (some true) else (if a0 = 10 then (some true) else (if a0 = 12 then (some true) else (if a0 = 13 then (some true) else (some false)))))
set_option maxHeartbeats 8000000 in
set_option maxRecDepth 100000 in
theorem body_targeted.calls (a0 : Int) (r : Bool) (w : World) (h : body_targeted.f a0 = some r) :
    Calls Try.prog 37 #[.int .i64 a0] w fun e w' => e = .returned (.bool r) ∧ Drawn0 w w' := by
  have H : (if a0 = 9 then (some true) else (if a0 = 3 then (some true) else (if a0 = 10 then (some true) else (if a0 = 12 then (some true) else (if a0 = 13 then (some true) else (some false)))))) = some r := h
  clear h
  by_cases c2 : a0 = 9
  · rw [if_pos c2] at H
    have c2b0 : (a0 == 9) = true := beq_iff_eq.mpr c2
    have c2b1 : (a0 != 9) = false := bne_eq_false_iff_eq.mpr c2
    clear c2
    obtain rfl := Option.some.inj H
    go_enter Try.func37, Try.ntmps37
    go_wp2
    all_goals
      go_ret
      exact ⟨by first | rfl | (simp; done) | (simp [*]; done), by repeat (first | exact Drawn0.refl _ | apply Drawn0.step)⟩
  · rw [if_neg c2] at H
    have c2b0 : (a0 == 9) = false := beq_eq_false_iff_ne.mpr c2
    have c2b1 : (a0 != 9) = true := bne_iff_ne.mpr c2
    by_cases c3 : a0 = 3
    · rw [if_pos c3] at H
      have c3b0 : (a0 == 3) = true := beq_iff_eq.mpr c3
      have c3b1 : (a0 != 3) = false := bne_eq_false_iff_eq.mpr c3
      clear c3
      obtain rfl := Option.some.inj H
      go_enter Try.func37, Try.ntmps37
      go_wp2
      all_goals
        go_ret
        exact ⟨by first | rfl | (simp; done) | (simp [*]; done), by repeat (first | exact Drawn0.refl _ | apply Drawn0.step)⟩
    · rw [if_neg c3] at H
      have c3b0 : (a0 == 3) = false := beq_eq_false_iff_ne.mpr c3
      have c3b1 : (a0 != 3) = true := bne_iff_ne.mpr c3
      by_cases c4 : a0 = 10
      · rw [if_pos c4] at H
        have c4b0 : (a0 == 10) = true := beq_iff_eq.mpr c4
        have c4b1 : (a0 != 10) = false := bne_eq_false_iff_eq.mpr c4
        clear c4
        obtain rfl := Option.some.inj H
        go_enter Try.func37, Try.ntmps37
        go_wp2
        all_goals
          go_ret
          exact ⟨by first | rfl | (simp; done) | (simp [*]; done), by repeat (first | exact Drawn0.refl _ | apply Drawn0.step)⟩
      · rw [if_neg c4] at H
        have c4b0 : (a0 == 10) = false := beq_eq_false_iff_ne.mpr c4
        have c4b1 : (a0 != 10) = true := bne_iff_ne.mpr c4
        by_cases c5 : a0 = 12
        · rw [if_pos c5] at H
          have c5b0 : (a0 == 12) = true := beq_iff_eq.mpr c5
          have c5b1 : (a0 != 12) = false := bne_eq_false_iff_eq.mpr c5
          clear c5
          obtain rfl := Option.some.inj H
          go_enter Try.func37, Try.ntmps37
          go_wp2
          all_goals
            go_ret
            exact ⟨by first | rfl | (simp; done) | (simp [*]; done), by repeat (first | exact Drawn0.refl _ | apply Drawn0.step)⟩
        · rw [if_neg c5] at H
          have c5b0 : (a0 == 12) = false := beq_eq_false_iff_ne.mpr c5
          have c5b1 : (a0 != 12) = true := bne_iff_ne.mpr c5
          by_cases c6 : a0 = 13
          · rw [if_pos c6] at H
            have c6b0 : (a0 == 13) = true := beq_iff_eq.mpr c6
            have c6b1 : (a0 != 13) = false := bne_eq_false_iff_eq.mpr c6
            clear c6
            obtain rfl := Option.some.inj H
            go_enter Try.func37, Try.ntmps37
            go_wp2
            all_goals
              go_ret
              exact ⟨by first | rfl | (simp; done) | (simp [*]; done), by repeat (first | exact Drawn0.refl _ | apply Drawn0.step)⟩
          · rw [if_neg c6] at H
            have c6b0 : (a0 == 13) = false := beq_eq_false_iff_ne.mpr c6
            have c6b1 : (a0 != 13) = true := bne_iff_ne.mpr c6
            obtain rfl := Option.some.inj H
            go_enter Try.func37, Try.ntmps37
            go_wp2
            all_goals
              go_ret
              exact ⟨by first | rfl | (simp; done) | (simp [*]; done), by repeat (first | exact Drawn0.refl _ | apply Drawn0.step)⟩
def body_own.j3 (k : Nat) (x3_2_0 x3_2_1 x3_2_2 x3_2_3 x3_2_4 x3_2_5 x3_2_6 x3_2_7 x3_2_8 x3_2_9 x3_2_10 x3_2_11 x3_2_12 x3_2_13 x3_2_14 x3_2_15 x3_2_16 x3_2_17 x3_2_18 x3_2_19 x3_2_20 x3_2_21 x3_2_22 x3_3_0 x3_3_1 x3_3_2 x3_3_3 x3_3_4 x3_3_5 x3_3_6 x3_3_7 x3_3_8 x3_3_9 x3_3_10 x3_3_11 x3_3_12 x3_3_13 x3_3_14 x3_3_15 x3_3_16 x3_3_17 x3_3_18 x3_3_19 x3_3_20 x3_3_21 x3_3_22 : Int) : Option (Int × Int × Int × Int × Int × Int × Int × Int × Int × Int × Int × Int × Int × Int × Int × Int × Int × Int × Int × Int × Int × Int × Int) := some (x3_3_0, x3_3_1, x3_3_2, x3_3_3, x3_3_4, x3_3_5, x3_3_6, x3_3_7, x3_3_8, x3_3_9, x3_3_10, x3_3_11, x3_3_12, x3_3_13, x3_3_14, x3_3_15, x3_3_16, x3_3_17, x3_3_18, x3_3_19, x3_3_20, x3_3_21, x3_3_22)
def body_own.j2 (k : Nat) (x2_1_0 x2_1_1 x2_1_2 x2_1_3 x2_1_4 x2_1_5 x2_1_6 x2_1_7 x2_1_8 x2_1_9 x2_1_10 x2_1_11 x2_1_12 x2_1_13 x2_1_14 x2_1_15 x2_1_16 x2_1_17 x2_1_18 x2_1_19 x2_1_20 x2_1_21 x2_1_22 x2_2_0 x2_2_1 x2_2_2 x2_2_3 x2_2_4 x2_2_5 x2_2_6 x2_2_7 x2_2_8 x2_2_9 x2_2_10 x2_2_11 x2_2_12 x2_2_13 x2_2_14 x2_2_15 x2_2_16 x2_2_17 x2_2_18 x2_2_19 x2_2_20 x2_2_21 x2_2_22 x2_3_0 x2_3_1 x2_3_2 x2_3_3 x2_3_4 x2_3_5 x2_3_6 x2_3_7 x2_3_8 x2_3_9 x2_3_10 x2_3_11 x2_3_12 x2_3_13 x2_3_14 x2_3_15 x2_3_16 x2_3_17 x2_3_18 x2_3_19 x2_3_20 x2_3_21 x2_3_22 : Int) : Option (Int × Int × Int × Int × Int × Int × Int × Int × Int × Int × Int × Int × Int × Int × Int × Int × Int × Int × Int × Int × Int × Int × Int) := if x2_1_0 = 11 then (body_own.j3 k x2_2_0 x2_2_1 x2_2_2 x2_2_3 x2_2_4 x2_2_5 x2_2_6 x2_2_7 x2_2_8 x2_2_9 x2_2_10 x2_2_11 x2_2_12 x2_2_13 x2_2_14 x2_2_15 x2_2_16 x2_2_17 x2_2_18 x2_2_19 x2_2_20 x2_2_21 x2_2_22 x2_3_0 x2_3_1 x2_3_2 x2_3_3 x2_3_4 x2_3_5 x2_3_6 x2_3_7 x2_3_8 x2_3_9 x2_3_10 x2_1_11 x2_1_12 x2_1_13 x2_1_14 x2_1_15 x2_1_16 x2_1_17 x2_1_18 x2_1_19 x2_3_20 x2_3_21 x2_3_22) else (if x2_1_0 = 13 then (body_own.j3 k x2_2_0 x2_2_1 x2_2_2 x2_2_3 x2_2_4 x2_2_5 x2_2_6 x2_2_7 x2_2_8 x2_2_9 x2_2_10 x2_2_11 x2_2_12 x2_2_13 x2_2_14 x2_2_15 x2_2_16 x2_2_17 x2_2_18 x2_2_19 x2_2_20 x2_2_21 x2_2_22 x2_3_0 x2_3_1 x2_3_2 x2_3_3 x2_3_4 x2_3_5 x2_3_6 x2_3_7 x2_3_8 x2_3_9 x2_3_10 x2_3_11 x2_3_12 x2_3_13 x2_3_14 x2_3_15 x2_3_16 x2_3_17 x2_3_18 x2_3_19 x2_1_20 x2_1_21 x2_1_22) else (body_own.j3 k x2_2_0 x2_2_1 x2_2_2 x2_2_3 x2_2_4 x2_2_5 x2_2_6 x2_2_7 x2_2_8 x2_2_9 x2_2_10 x2_2_11 x2_2_12 x2_2_13 x2_2_14 x2_2_15 x2_2_16 x2_2_17 x2_2_18 x2_2_19 x2_2_20 x2_2_21 x2_2_22 x2_3_0 x2_3_1 x2_3_2 x2_3_3 x2_3_4 x2_3_5 x2_3_6 x2_3_7 x2_3_8 x2_3_9 x2_3_10 x2_3_11 x2_3_12 x2_3_13 x2_3_14 x2_3_15 x2_3_16 x2_3_17 x2_3_18 x2_3_19 x2_3_20 x2_3_21 x2_3_22))
def body_own.j1 (k : Nat) (x1_1_0 x1_1_1 x1_1_2 x1_1_3 x1_1_4 x1_1_5 x1_1_6 x1_1_7 x1_1_8 x1_1_9 x1_1_10 x1_1_11 x1_1_12 x1_1_13 x1_1_14 x1_1_15 x1_1_16 x1_1_17 x1_1_18 x1_1_19 x1_1_20 x1_1_21 x1_1_22 x1_2_0 x1_2_1 x1_2_2 x1_2_3 x1_2_4 x1_2_5 x1_2_6 x1_2_7 x1_2_8 x1_2_9 x1_2_10 x1_2_11 x1_2_12 x1_2_13 x1_2_14 x1_2_15 x1_2_16 x1_2_17 x1_2_18 x1_2_19 x1_2_20 x1_2_21 x1_2_22 x1_3_0 x1_3_1 x1_3_2 x1_3_3 x1_3_4 x1_3_5 x1_3_6 x1_3_7 x1_3_8 x1_3_9 x1_3_10 x1_3_11 x1_3_12 x1_3_13 x1_3_14 x1_3_15 x1_3_16 x1_3_17 x1_3_18 x1_3_19 x1_3_20 x1_3_21 x1_3_22 : Int) : Option (Int × Int × Int × Int × Int × Int × Int × Int × Int × Int × Int × Int × Int × Int × Int × Int × Int × Int × Int × Int × Int × Int × Int) := (body_targeted.f x1_1_0).bind fun t1003 => (if t1003 = true then (body_own.j2 k x1_1_0 x1_1_1 x1_1_2 x1_1_3 x1_1_4 x1_1_5 x1_1_6 x1_1_7 x1_1_8 x1_1_9 x1_1_10 x1_1_11 x1_1_12 x1_1_13 x1_1_14 x1_1_15 x1_1_16 x1_1_17 x1_1_18 x1_1_19 x1_1_20 x1_1_21 x1_1_22 x1_2_0 x1_2_1 x1_2_2 x1_2_3 x1_2_4 x1_2_5 x1_2_6 x1_2_7 x1_2_8 x1_2_9 x1_2_10 x1_2_11 x1_2_12 x1_2_13 x1_2_14 x1_2_15 x1_2_16 x1_2_17 x1_2_18 x1_2_19 x1_2_20 x1_2_21 x1_2_22 x1_3_0 x1_3_1 x1_3_2 x1_3_3 x1_3_4 x1_3_5 x1_3_6 x1_3_7 x1_3_8 x1_1_9 x1_1_10 x1_3_11 x1_3_12 x1_3_13 x1_3_14 x1_3_15 x1_3_16 x1_3_17 x1_3_18 x1_3_19 x1_3_20 x1_3_21 x1_3_22) else (body_own.j2 k x1_1_0 x1_1_1 x1_1_2 x1_1_3 x1_1_4 x1_1_5 x1_1_6 x1_1_7 x1_1_8 x1_1_9 x1_1_10 x1_1_11 x1_1_12 x1_1_13 x1_1_14 x1_1_15 x1_1_16 x1_1_17 x1_1_18 x1_1_19 x1_1_20 x1_1_21 x1_1_22 x1_2_0 x1_2_1 x1_2_2 x1_2_3 x1_2_4 x1_2_5 x1_2_6 x1_2_7 x1_2_8 x1_2_9 x1_2_10 x1_2_11 x1_2_12 x1_2_13 x1_2_14 x1_2_15 x1_2_16 x1_2_17 x1_2_18 x1_2_19 x1_2_20 x1_2_21 x1_2_22 x1_3_0 x1_3_1 x1_3_2 x1_3_3 x1_3_4 x1_3_5 x1_3_6 x1_3_7 x1_3_8 x1_3_9 x1_3_10 x1_3_11 x1_3_12 x1_3_13 x1_3_14 x1_3_15 x1_3_16 x1_3_17 x1_3_18 x1_3_19 x1_3_20 x1_3_21 x1_3_22))
def body_own.f (k : Nat) (a0_0 a0_1 a0_2 a0_3 a0_4 a0_5 a0_6 a0_7 a0_8 a0_9 a0_10 a0_11 a0_12 a0_13 a0_14 a0_15 a0_16 a0_17 a0_18 a0_19 a0_20 a0_21 a0_22 : Int) : Option (Int × Int × Int × Int × Int × Int × Int × Int × Int × Int × Int × Int × Int × Int × Int × Int × Int × Int × Int × Int × Int × Int × Int) := (body_stamped.f a0_0).bind fun t18 => (if t18 = true then (body_own.j1 k a0_0 a0_1 a0_2 a0_3 a0_4 a0_5 a0_6 a0_7 a0_8 a0_9 a0_10 a0_11 a0_12 a0_13 a0_14 a0_15 a0_16 a0_17 a0_18 a0_19 a0_20 a0_21 a0_22 0 0 0 0 0 0 0 0 0 0 0 0 0 0 0 0 0 0 0 0 0 0 0 a0_0 a0_1 a0_2 a0_3 a0_4 a0_5 a0_6 a0_7 a0_8 0 0 0 0 0 0 0 0 0 0 0 0 0 0) else (body_own.j1 k a0_0 a0_1 a0_2 a0_3 a0_4 a0_5 a0_6 a0_7 a0_8 a0_9 a0_10 a0_11 a0_12 a0_13 a0_14 a0_15 a0_16 a0_17 a0_18 a0_19 a0_20 a0_21 a0_22 0 0 0 0 0 0 0 0 0 0 0 0 0 0 0 0 0 0 0 0 0 0 0 a0_0 a0_1 a0_2 a0_3 a0_4 a0_5 a0_6 a0_7 0 0 0 0 0 0 0 0 0 0 0 0 0 0 0))
abbrev body_own.v0 (x0 x1 x2 x3 x4 x5 x6 x7 x8 x9 x10 x11 x12 x13 x14 x15 x16 x17 x18 x19 x20 x21 x22 : Int) : Value := .agg #[.int .i64 x0, .int .i64 x1, .int .i64 x2, .int .i64 x3, .int .u64 x4, .int .i64 x5, .int .i64 x6, .int .i64 x7, .int .i64 x8, .int .u64 x9, .int .i64 x10, .int .i64 x11, .int .i64 x12, .int .i64 x13, .int .i64 x14, .int .i64 x15, .int .i64 x16, .int .u64 x17, .int .i64 x18, .int .i64 x19, .int .i64 x20, .int .i64 x21, .int .i64 x22]
abbrev body_own.c1 (x0 x1 x2 x3 x4 x5 x6 x7 x8 x9 x10 x11 x12 x13 x14 x15 x16 x17 x18 x19 x20 x21 x22 : Int) : Array Value := #[.int .i64 x0, .int .i64 x1, .int .i64 x2, .int .i64 x3, .int .u64 x4, .int .i64 x5, .int .i64 x6, .int .i64 x7, .int .i64 x8, .int .u64 x9, .int .i64 x10, .int .i64 x11, .int .i64 x12, .int .i64 x13, .int .i64 x14, .int .i64 x15, .int .i64 x16, .int .u64 x17, .int .i64 x18, .int .i64 x19, .int .i64 x20, .int .i64 x21, .int .i64 x22]
open Go.Proofs.Ytiomlbkakiienaa.E in
set_option maxHeartbeats 60000000 in
set_option maxRecDepth 100000 in
theorem body_own.calls (k : Nat) (bn bC bD bE bp bq bG bH dk eZ em en eo ep eq er es et eu ev ew ex ey r1 r2 r3 r4 r5 r6 r7 r8 r9 gB gC gD gE gF gG gH gI gJ gK gL gM gN gO : Int) (w : World) (h : body_own.f k bn bC bD bE bp bq bG bH dk eZ em en eo ep eq er es et eu ev ew ex ey = some (r1, r2, r3, r4, r5, r6, r7, r8, r9, gB, gC, gD, gE, gF, gG, gH, gI, gJ, gK, gL, gM, gN, gO)) :
    Calls Try.prog 74 #[.agg #[.int .i64 bn, .int .i64 bC, .int .i64 bD, .int .i64 bE, .int .u64 bp, .int .i64 bq, .int .i64 bG, .int .i64 bH, .int .i64 dk, .int .u64 eZ, .int .i64 em, .int .i64 en, .int .i64 eo, .int .i64 ep, .int .i64 eq, .int .i64 er, .int .i64 es, .int .u64 et, .int .i64 eu, .int .i64 ev, .int .i64 ew, .int .i64 ex, .int .i64 ey]] w fun e w' => e = .returned (.agg #[.int .i64 r1, .int .i64 r2, .int .i64 r3, .int .i64 r4, .int .u64 r5, .int .i64 r6, .int .i64 r7, .int .i64 r8, .int .i64 r9, .int .u64 gB, .int .i64 gC, .int .i64 gD, .int .i64 gE, .int .i64 gF, .int .i64 gG, .int .i64 gH, .int .i64 gI, .int .u64 gJ, .int .i64 gK, .int .i64 gL, .int .i64 gM, .int .i64 gN, .int .i64 gO]) ∧ Below w.heap.size w w' := by
 have H := h
 clear h
 unfold body_own.f at H
 refine calls_of_wp (fn := Try.f74) (by kernel_rfl) rfl ?_
 have hS := St.enter #[(body_own.v0 bn bC bD bE bp bq bG bH dk eZ em en eo ep eq er es et eu ev ew ex ey)] 68 (by simp) [(0, (body_own.v0 bn bC bD bE bp bq bG bH dk eZ em en eo ep eq er es et eu ev ew ex ey))] (by simp)
 have gT := Below.refl w.heap.size w
 refine wp_seq_k (fun K1 hd => ?_)
 refine reg_seq_tail 1 (I := I1_ w) (ps := [IsB (body_own.c1 bn bC bD bE bp bq bG bH dk eZ em en eo ep eq er es et eu ev ew ex ey) 28 w.heap.size]) (by kernel_rfl) ?_ ?_ rfl hS gT ?_ ?_
 ·exact bs1
 ·exact .cons (Stays.b _ _ _) (.nil)
 ·refine .on rfl (fun a w hS hI hp => does_var (x_box rfl (congrArg Value.cells (hS.get 0 rfl))) (hI).size) ?_
  exact .nil
 clear hS
 intro hQ w3 hS gl hp
 replace hS := hS.nil
 obtain ⟨g4, gz, fI, ac⟩ := (show IsB _ 28 _ (sl _ 1) _ from hp 0 (by decide))
 have hS := hS.cons gz
 clear hp gz
 show wpList _ _ _ [_] _ _
 refine list_step rfl (R := fun v w' => Below _ _ w' ∧ (IsB (body_own.c1 0 0 0 0 0 0 0 0 0 0 0 0 0 0 0 0 0 0 0 0 0 0 0) 28 w3.heap.size) v w') (does_var (x_alloc rfl (by kernel_rfl)) ((bR w3)).size) ?_
 rintro hU w5 ⟨hb, he⟩
 have dp := below_step gl hb
 have dQ := below_step (bR w3) hb
 obtain ⟨g6, rfl, e0, dR⟩ := he
 have f9 : g6 ≠ g4 := Nat.ne_of_gt (Nat.lt_of_lt_of_le (blk_lt (((bR w3).block g4 (blk_lt ac)).trans ac)) e0)
 refine hS.next (v := .pointer (some ⟨g6, 0, none⟩)) (d := 2) rfl (by decide) (by rfl) ?_
 clear hS
 intro hR hS
 refine wpList_nil ?_
 refine hd _ _ ?_
 refine wp_seq_k (fun K9 hf => ?_)
 refine reg_seq_tail 16 (I := I3_ w w3 w5) (ps := [VP g4 0, VI bn, VP g4 1, VI bC, VP g4 2, VI bD, VP g4 3, VI bE, VP g4 4, IsV (.agg #[.int .u64 bp, .int .i64 bq]), VP g4 6, VI bG, VP g4 7, VI bH, IsV ((body_own.v0 bn bC bD bE bp bq bG bH 0 0 0 0 0 0 0 0 0 0 0 0 0 0 0)), IsB (body_own.c1 0 0 0 0 0 0 0 0 0 0 0 0 0 0 0 0 0 0 0 0 0 0 0) 28 w5.heap.size]) (by kernel_rfl) ?_ ?_ rfl hS ⟨dp, dQ, (bR w5)⟩ ?_ ?_
 ·exact bs3
 ·exact .v (.v (.v (.v (.v (.v (.v (.v (.v (.v (.v (.v (.v (.v (.v (.cons (Stays.b _ _ _) (.nil))))))))))))))))
 ·refine .on rfl (fun a w hS hI hp => does_val (x_fieldE (b := 0) rfl (hS.get 1 rfl) Try.underlying28 rfl rfl (by kernel_rfl)) rfl) ?_
  refine .on rfl (fun a w hS hI hp => does_val (x_load1 (d := .int .i64) rfl (hp.V 0 rfl rfl) (by kernel_rfl) rfl ((blk_cell (((hI.2.1).block g4 (blk_lt ac)).trans ac) 0).trans rfl)) rfl) ?_
  refine .on rfl (fun a w hS hI hp => does_val (x_fieldE (b := 0) rfl (hS.get 1 rfl) Try.underlying28 rfl rfl (by kernel_rfl)) rfl) ?_
  refine .on rfl (fun a w hS hI hp => does_val (x_load1 (d := .int .i64) rfl (hp.V 2 rfl rfl) (by kernel_rfl) rfl ((blk_cell (((hI.2.1).block g4 (blk_lt ac)).trans ac) 1).trans rfl)) rfl) ?_
  refine .on rfl (fun a w hS hI hp => does_val (x_fieldE (b := 0) rfl (hS.get 1 rfl) Try.underlying28 rfl rfl (by kernel_rfl)) rfl) ?_
  refine .on rfl (fun a w hS hI hp => does_val (x_load1 (d := .int .i64) rfl (hp.V 4 rfl rfl) (by kernel_rfl) rfl ((blk_cell (((hI.2.1).block g4 (blk_lt ac)).trans ac) 2).trans rfl)) rfl) ?_
  refine .on rfl (fun a w hS hI hp => does_val (x_fieldE (b := 0) rfl (hS.get 1 rfl) Try.underlying28 rfl rfl (by kernel_rfl)) rfl) ?_
  refine .on rfl (fun a w hS hI hp => does_val (x_load1 (d := .int .i64) rfl (hp.V 6 rfl rfl) (by kernel_rfl) rfl ((blk_cell (((hI.2.1).block g4 (blk_lt ac)).trans ac) 3).trans rfl)) rfl) ?_
  refine .on rfl (fun a w hS hI hp => does_val (x_fieldE (b := 0) rfl (hS.get 1 rfl) Try.underlying28 rfl rfl (by kernel_rfl)) rfl) ?_
  refine .on rfl (fun a w hS hI hp => does_loadmid (cs := [.int .u64 bp, .int .i64 bq]) rfl (hp.V 8 rfl rfl) (((hI.2.1).block g4 (blk_lt ac)).trans ac) (by kernel_rfl) Try.underlying24 rfl (by kernel_rfl) rfl) ?_
  refine .on rfl (fun a w hS hI hp => does_val (x_fieldE (b := 0) rfl (hS.get 1 rfl) Try.underlying28 rfl rfl (by kernel_rfl)) rfl) ?_
  refine .on rfl (fun a w hS hI hp => does_val (x_load1 (d := .int .i64) rfl (hp.V 10 rfl rfl) (by kernel_rfl) rfl ((blk_cell (((hI.2.1).block g4 (blk_lt ac)).trans ac) 6).trans rfl)) rfl) ?_
  refine .on rfl (fun a w hS hI hp => does_val (x_fieldE (b := 0) rfl (hS.get 1 rfl) Try.underlying28 rfl rfl (by kernel_rfl)) rfl) ?_
  refine .on rfl (fun a w hS hI hp => does_val (x_load1 (d := .int .i64) rfl (hp.V 12 rfl rfl) (by kernel_rfl) rfl ((blk_cell (((hI.2.1).block g4 (blk_lt ac)).trans ac) 7).trans rfl)) rfl) ?_
  refine .on rfl (fun a w hS hI hp => does_val (x_build (vs := [(0, .int .i64 bn), (1, .int .i64 bC), (2, .int .i64 bD), (3, .int .i64 bE), (4, .agg #[.int .u64 bp, .int .i64 bq]), (5, .int .i64 bG), (6, .int .i64 bH)]) rfl (by rw [Array.toList_map]; exact (show [(0, a.eval (.tmp 5)), (1, a.eval (.tmp 7)), (2, a.eval (.tmp 9)), (3, a.eval (.tmp 11)), (4, a.eval (.tmp 13)), (5, a.eval (.tmp 15)), (6, a.eval (.tmp 17))] = _ from (li_cons (hp.V 1 rfl rfl) (li_cons (hp.V 3 rfl rfl) (li_cons (hp.V 5 rfl rfl) (li_cons (hp.V 7 rfl rfl) (li_cons (hp.V 9 rfl rfl) (li_cons (hp.V 11 rfl rfl) (li_cons (hp.V 13 rfl rfl) rfl))))))))) (by kernel_rfl)) rfl) ?_
  refine .on rfl (fun a w hS hI hp => does_var (x_alloc rfl (by kernel_rfl)) (hI.2.2).size) ?_
  exact .nil
 clear hS
 intro hK hs hS dZ hp
 have ga : sl _ 18 = (body_own.v0 bn bC bD bE bp bq bG bH 0 0 0 0 0 0 0 0 0 0 0 0 0 0 0) := hp 14 (by decide)
 obtain ⟨dm, gA, aZ, fi⟩ := (show IsB _ 28 _ (sl _ 3) _ from hp 15 (by decide))
 have fJ : dm ≠ g4 := Nat.ne_of_gt (Nat.lt_of_lt_of_le (blk_lt ((dQ.block g4 (blk_lt ac)).trans ac)) aZ)
 have fK : dm ≠ g6 := Nat.ne_of_gt (Nat.lt_of_lt_of_le (blk_lt (((bR w5).block g6 (blk_lt dR)).trans dR)) aZ)
 have hS := hS.cons ga
 have hS := hS.cons gA
 clear hp ga gA
 show wpList _ _ _ [_] _ _
 refine list_step rfl (does_storeAll (g := dm) (cs := (body_own.c1 bn bC bD bE bp bq bG bH 0 0 0 0 0 0 0 0 0 0 0 0 0 0 0)) rfl (hS.get 0 rfl) (hS.get 1 rfl) (((bR hs).block dm (blk_lt fi)).trans fi) (by kernel_rfl) (by kernel_rfl) (by kernel_rfl)) ?_
 rintro hN gr ⟨rfl, dU, hT⟩
 have fT := hT.below dZ.1 (Nat.le_trans (dp).size aZ) (dZ.1).size
 have fE := hT.below dZ.2.1 (Nat.le_trans (dQ).size aZ) (dZ.2.1).size
 have fF := hT.below dZ.2.2 aZ (dZ.2.2).size
 clear hT
 refine wpList_nil ?_
 refine hf _ _ ?_
 refine wp_seq_k (fun gU gR => ?_)
 have J1 : ∀ (fZ : Act) (dX : World) (cb dy dz dA dB dC dD dE dF aX aM cq cr ct cu cv cw cx cy cz cA cB cC : Int) (aR : Nat) (dG dH dI dJ dK dL dM dN dO dP cD cE cF cG cH cI cJ cK cL cM cN cO cP : Int) (bo : Nat) (cQ cR cS cT cU cV cW cX cY dY dS bJ bK bL bM bN bO bP bQ bS bU bV bW : Int) (aV : Nat), body_own.j1 k cb dy dz dA dB dC dD dE dF aX aM cq cr ct cu cv cw cx cy cz cA cB cC dG dH dI dJ dK dL dM dN dO dP cD cE cF cG cH cI cJ cK cL cM cN cO cP cQ cR cS cT cU cV cW cX cY dY dS bJ bK bL bM bN bO bP bQ bS bU bV bW = some (r1, r2, r3, r4, r5, r6, r7, r8, r9, gB, gC, gD, gE, gF, gG, gH, gI, gJ, gK, gL, gM, gN, gO) → St 68 [(1, .pointer (some ⟨aR, 0, none⟩)), (2, .pointer (some ⟨bo, 0, none⟩)), (3, .pointer (some ⟨aV, 0, none⟩))] fZ → Below w.heap.size w dX → w.heap.size ≤ aR → dX.heap[aR]? = some (.cells (body_own.c1 cb dy dz dA dB dC dD dE dF aX aM cq cr ct cu cv cw cx cy cz cA cB cC) 28 (0, 0)) → w.heap.size ≤ bo → dX.heap[bo]? = some (.cells (body_own.c1 dG dH dI dJ dK dL dM dN dO dP cD cE cF cG cH cI cJ cK cL cM cN cO cP) 28 (0, 0)) → w.heap.size ≤ aV → dX.heap[aV]? = some (.cells (body_own.c1 cQ cR cS cT cU cV cW cX cY dY dS bJ bK bL bM bN bO bP bQ bS bU bV bW) 28 (0, 0)) → bo ≠ aR → aV ≠ aR → aV ≠ bo → gU fZ dX := by
  intro fZ dX cb dy dz dA dB dC dD dE dF aX aM cq cr ct cu cv cw cx cy cz cA cB cC aR dG dH dI dJ dK dL dM dN dO dP cD cE cF cG cH cI cJ cK cL cM cN cO cP bo cQ cR cS cT cU cV cW cX cY dY dS bJ bK bL bM bN bO bP bQ bS bU bV bW aV H hS fV ej aQ ek ce dq cf el ds dt
  unfold body_own.j1 at H
  (try dsimp only at H)
  refine gR _ _ ?_
  refine wp_seq_k (fun gs f3 => ?_)
  have J2 : ∀ (f0 : Act) (dn : World) (ap cZ c0 c3 c4 c5 c6 c7 c8 c9 bX af ag ah ai aj am aE aI aN aF aJ aO : Int) (aa : Nat) (da db dc dd de df dg dh di dj bY bZ b0 b1 b2 b3 b4 b5 b6 b7 b8 b9 ca : Int) (al : Nat) (aq ar au av aw ax ay az aA aB ak a9 aY aS aT aU aP aK aG an aL aH ao : Int) (ab : Nat), body_own.j2 k ap cZ c0 c3 c4 c5 c6 c7 c8 c9 bX af ag ah ai aj am aE aI aN aF aJ aO da db dc dd de df dg dh di dj bY bZ b0 b1 b2 b3 b4 b5 b6 b7 b8 b9 ca aq ar au av aw ax ay az aA aB ak a9 aY aS aT aU aP aK aG an aL aH ao = some (r1, r2, r3, r4, r5, r6, r7, r8, r9, gB, gC, gD, gE, gF, gG, gH, gI, gJ, gK, gL, gM, gN, gO) → St 68 [(1, .pointer (some ⟨aa, 0, none⟩)), (2, .pointer (some ⟨al, 0, none⟩)), (3, .pointer (some ⟨ab, 0, none⟩))] f0 → Below w.heap.size w dn → w.heap.size ≤ aa → dn.heap[aa]? = some (.cells (body_own.c1 ap cZ c0 c3 c4 c5 c6 c7 c8 c9 bX af ag ah ai aj am aE aI aN aF aJ aO) 28 (0, 0)) → w.heap.size ≤ al → dn.heap[al]? = some (.cells (body_own.c1 da db dc dd de df dg dh di dj bY bZ b0 b1 b2 b3 b4 b5 b6 b7 b8 b9 ca) 28 (0, 0)) → w.heap.size ≤ ab → dn.heap[ab]? = some (.cells (body_own.c1 aq ar au av aw ax ay az aA aB ak a9 aY aS aT aU aP aK aG an aL aH ao) 28 (0, 0)) → al ≠ aa → ab ≠ aa → ab ≠ al → gs f0 dn := by
   intro f0 dn ap cZ c0 c3 c4 c5 c6 c7 c8 c9 bX af ag ah ai aj am aE aI aN aF aJ aO aa da db dc dd de df dg dh di dj bY bZ b0 b1 b2 b3 b4 b5 b6 b7 b8 b9 ca al aq ar au av aw ax ay az aA aB ak a9 aY aS aT aU aP aK aG an aL aH ao ab H hS fW gw aC dr a7 ad a8 gy aD ae
   unfold body_own.j2 at H
   (try dsimp only at H)
   refine f3 _ _ ?_
   refine wp_seq_k (fun gt f5 => ?_)
   have J3 : ∀ (f1 : Act) (eO : World) (eP eQ eR eS eT eU eV eW eX eY d0 d1 d2 d3 d4 d5 d6 d7 d8 d9 ea eb ec : Int) (bI : Nat) (br bs bt bu bv bw bx bz bA bB ba bb bc bd be bf bg bh bi bj bk bl bm : Int) (dl : Nat), body_own.j3 k eP eQ eR eS eT eU eV eW eX eY d0 d1 d2 d3 d4 d5 d6 d7 d8 d9 ea eb ec br bs bt bu bv bw bx bz bA bB ba bb bc bd be bf bg bh bi bj bk bl bm = some (r1, r2, r3, r4, r5, r6, r7, r8, r9, gB, gC, gD, gE, gF, gG, gH, gI, gJ, gK, gL, gM, gN, gO) → St 68 [(2, .pointer (some ⟨bI, 0, none⟩)), (3, .pointer (some ⟨dl, 0, none⟩))] f1 → Below w.heap.size w eO → w.heap.size ≤ bI → eO.heap[bI]? = some (.cells (body_own.c1 eP eQ eR eS eT eU eV eW eX eY d0 d1 d2 d3 d4 d5 d6 d7 d8 d9 ea eb ec) 28 (0, 0)) → w.heap.size ≤ dl → eO.heap[dl]? = some (.cells (body_own.c1 br bs bt bu bv bw bx bz bA bB ba bb bc bd be bf bg bh bi bj bk bl bm) 28 (0, 0)) → dl ≠ bI → gt f1 eO := by
    intro f1 eO eP eQ eR eS eT eU eV eW eX eY d0 d1 d2 d3 d4 d5 d6 d7 d8 d9 ea eb ec bI br bs bt bu bv bw bx bz bA bB ba bb bc bd be bf bg bh bi bj bk bl bm dl H hS fX fk ei gx cg fA
    unfold body_own.j3 at H
    (try dsimp only at H)
    simp only [Option.some.injEq, Prod.mk.injEq] at H
    obtain ⟨rfl, rfl, rfl, rfl, rfl, rfl, rfl, rfl, rfl, rfl, rfl, rfl, rfl, rfl, rfl, rfl, rfl, rfl, rfl, rfl, rfl, rfl, rfl⟩ := H
    refine f5 _ _ ?_
    refine wp_seq_k (fun hy f8 => ?_)
    refine reg_seq_tail 1 (I := I2_ w eO) (ps := [IsV ((body_own.v0 br bs bt bu bv bw bx bz bA bB ba bb bc bd be bf bg bh bi bj bk bl bm))]) (by kernel_rfl) ?_ ?_ rfl hS ⟨fX, (bR eO)⟩ ?_ ?_
    ·exact bs2
    ·exact .v (.nil)
    ·refine .on rfl (fun a w hS hI hp => does_loadrow rfl (hS.get 1 rfl) (((hI.2).block dl (blk_lt cg)).trans cg) Try.underlying28 rfl (by kernel_rfl) rfl) ?_
     exact .nil
    clear hS
    intro ha hJ hS dW hp
    replace hS := (hS.nil).cons (hS.get 0 rfl)
    have gk : sl _ 67 = (body_own.v0 br bs bt bu bv bw bx bz bA bB ba bb bc bd be bf bg bh bi bj bk bl bm) := hp 0 (by decide)
    have hS := hS.cons gk
    clear hp gk
    show wpList _ _ _ [_] _ _
    refine list_step rfl (does_storeAll (g := bI) (cs := (body_own.c1 br bs bt bu bv bw bx bz bA bB ba bb bc bd be bf bg bh bi bj bk bl bm)) rfl (hS.get 1 rfl) (hS.get 0 rfl) ((dW.2.block bI (blk_lt ei)).trans ei) (by kernel_rfl) (by kernel_rfl) (by kernel_rfl)) ?_
    rintro hr gv ⟨rfl, eN, hT⟩
    have hg := hT.blk ((dW.2.block dl (blk_lt cg)).trans cg) fA
    have fh := hT.below dW.1 fk (dW.1).size
    clear hT
    refine wpList_nil ?_
    refine f8 _ _ ?_
    refine wp_ret ?_
    (try simp only [Exit.then, Exit.inBlock, Exit.jump, Exit.noGoto])
    exact bodyPost_ret (v := (body_own.v0 br bs bt bu bv bw bx bz bA bB ba bb bc bd be bf bg bh bi bj bk bl bm)) (results_single rfl (Vals.cell bI 28 (body_own.c1 br bs bt bu bv bw bx bz bA bB ba bb bc bd be bf bg bh bi bj bk bl bm) (0, 0) _ (hS.get 1 rfl) (((bR gv).block bI (blk_lt eN)).trans eN) Try.underlying28 rfl (by kernel_rfl) .nil)) hS.nodef ⟨rfl, fh⟩
   refine wp_seq_k (fun hw f6 => ?_)
   refine reg_seq (I := I2_ w dn) (ps := [VP aa 0, VI ap]) (by kernel_rfl) ?_ ?_ rfl hS ⟨fW, (bR dn)⟩ ?_ ?_
   ·exact bs2
   ·exact .v (.v (.nil))
   ·refine .on rfl (fun a w hS hI hp => does_val (x_fieldE (b := 0) rfl (hS.get 0 rfl) Try.underlying28 rfl rfl (by kernel_rfl)) rfl) ?_
    refine .on rfl (fun a w hS hI hp => does_val (x_load1 (d := .int .i64) rfl (hp.V 0 rfl rfl) (by kernel_rfl) rfl ((blk_cell (((hI.2).block aa (blk_lt aC)).trans aC) 0).trans rfl)) rfl) ?_
    exact .nil
   clear hS
   intro gX fN hS fB hp
   have gh : sl _ 32 = .int .i64 ap := hp 1 (by decide)
   have hS := hS.cons gh
   clear hp gh
   refine f6 _ _ ?_
   refine wp_block ?_
   refine wp_seq_k (fun hx f7 => ?_)
   refine reg_seq (I := I3_ w dn fN) (ps := [VB (decide (ap = 11)), VB (decide (ap = 11))]) (by kernel_rfl) ?_ ?_ rfl hS ⟨fB.1, fB.2, (bR fN)⟩ ?_ ?_
   ·exact bs3
   ·exact .v (.v (.nil))
   ·refine .on rfl (fun a w hS hI hp => does_val (x_bin rfl (hS.get 0 rfl) (rfl) (b_eql _ _ _ _ _ _)) rfl) ?_
    refine .asg 0 rfl rfl rfl ?_
    exact .nil
   clear hS
   intro gY eA hS dV hp
   have gi : sl _ 33 = .bool (decide (ap = 11)) := hp 1 (by decide)
   have hS := hS.cons gi
   clear hp gi
   refine f7 _ _ ?_
   by_cases c1 : ap = 11
   rotate_left
   ·rw [if_neg c1] at H
    refine wp_cond_false ((hS.get 0 rfl).trans (bF (decide_eq_false c1))) ?_
    refine wp_seq_k (fun gu eB => ?_)
    refine reg_seq (I := I3_ w dn eA) (ps := [VB (decide (ap = 13)), VB (decide (ap = 13))]) (by kernel_rfl) ?_ ?_ rfl hS ⟨dV.1, dV.2.1, (bR eA)⟩ ?_ ?_
    ·exact bs3
    ·exact .v (.v (.nil))
    ·refine .on rfl (fun a w hS hI hp => does_val (x_bin rfl (hS.get 1 rfl) (rfl) (b_eql _ _ _ _ _ _)) rfl) ?_
     refine .asg 0 rfl rfl rfl ?_
     exact .nil
    clear hS
    intro f2 e2 hS aW hp
    replace hS := (((hS.nil).cons (hS.get 4 rfl)).cons (hS.get 3 rfl)).cons (hS.get 2 rfl)
    have gj : sl _ 56 = .bool (decide (ap = 13)) := hp 1 (by decide)
    have hS := hS.cons gj
    clear hp gj
    refine eB _ _ ?_
    by_cases c2 : ap = 13
    rotate_left
    ·rw [if_neg c2] at H
     refine wp_cond_false ((hS.get 0 rfl).trans (bF (decide_eq_false c2))) ?_
     refine wp_skip ?_
     replace hS := ((hS.nil).cons (hS.get 3 rfl)).cons (hS.get 2 rfl)
     (try simp only [Exit.then, Exit.inBlock])
     exact J3 _ _ da db dc dd de df dg dh di dj bY bZ b0 b1 b2 b3 b4 b5 b6 b7 b8 b9 ca al aq ar au av aw ax ay az aA aB ak a9 aY aS aT aU aP aK aG an aL aH ao ab H hS aW.1 dr ((aW.2.1.block al (blk_lt a7)).trans a7) ad ((aW.2.1.block ab (blk_lt a8)).trans a8) ae
    rw [if_pos c2] at H
    refine wp_cond_true ((hS.get 0 rfl).trans (bT (decide_eq_true c2))) ?_
    refine reg_float (I := I3_ w dn e2) (C := fun x => x.heap[aa]? = some (.cells (body_own.c1 ap cZ c0 c3 c4 c5 c6 c7 c8 c9 bX af ag ah ai aj am aE aI aN aF aJ aO) 28 (0, 0))) [true, true, true, true, true, true, true, false, false, false, false, false] [.pointer (some ⟨aa, 20, none⟩), .int .i64 aF, .pointer (some ⟨aa, 21, none⟩), .int .i64 aJ, .pointer (some ⟨aa, 22, none⟩), .int .i64 aO, .pointer (some ⟨ab, 20, none⟩), undef, undef, undef, undef, undef] [0, 1, 0, 4, 0, 16, 3, 67, 207, 463, 1023, 2047] (by kernel_rfl) (by kernel_rfl) rfl ?_ ?_ hS ⟨aW.1, aW.2.1, (bR e2)⟩ ?_ ?_
    ·exact bs3
    ·exact fun x hI => ((hI.2.1.block aa (blk_lt aC)).trans aC)
    ·intro a hS hp
     refine .g (fun w hC => GRun.on rfl (x_fieldE (b := 0) rfl (hS.get 1 rfl) Try.underlying28 rfl rfl (by kernel_rfl))) ?_
     refine .g (fun w hC => GRun.on rfl (x_load1 (d := .int .i64) rfl ((hp.get 0 rfl rfl rfl)) (by kernel_rfl) rfl ((blk_cell ((((Below.refl _ _)).block aa (blk_lt hC)).trans hC) 20).trans rfl))) ?_
     refine .g (fun w hC => GRun.on rfl (x_fieldE (b := 0) rfl (hS.get 1 rfl) Try.underlying28 rfl rfl (by kernel_rfl))) ?_
     refine .g (fun w hC => GRun.on rfl (x_load1 (d := .int .i64) rfl ((hp.get 2 rfl rfl rfl)) (by kernel_rfl) rfl ((blk_cell ((((Below.refl _ _)).block aa (blk_lt hC)).trans hC) 21).trans rfl))) ?_
     refine .g (fun w hC => GRun.on rfl (x_fieldE (b := 0) rfl (hS.get 1 rfl) Try.underlying28 rfl rfl (by kernel_rfl))) ?_
     refine .g (fun w hC => GRun.on rfl (x_load1 (d := .int .i64) rfl ((hp.get 4 rfl rfl rfl)) (by kernel_rfl) rfl ((blk_cell ((((Below.refl _ _)).block aa (blk_lt hC)).trans hC) 22).trans rfl))) ?_
     refine .g (fun w hC => GRun.on rfl (x_fieldE (b := 0) rfl (hS.get 3 rfl) Try.underlying28 rfl rfl (by kernel_rfl))) ?_
     iterate 5 refine .t ?_
     exact .nil
    clear hS
    intro gZ hA hS hp dw
    have hS := hS.cons (show sl _ 59 = .int .i64 aF from hp.get 1 rfl rfl rfl)
    have hS := hS.cons (show sl _ 61 = .int .i64 aJ from hp.get 3 rfl rfl rfl)
    have hS := hS.cons (show sl _ 63 = .int .i64 aO from hp.get 5 rfl rfl rfl)
    have hS := hS.cons (show sl _ 64 = .pointer (some ⟨ab, 20, none⟩) from hp.get 6 rfl rfl rfl)
    clear hp
    show ListC _ _ _ _ [_, _, _, _, _] _ _
    refine lc_step rfl (does_store (g := ab) (off := 20) (v := .int .i64 aF) (new := (body_own.c1 aq ar au av aw ax ay az aA aB ak a9 aY aS aT aU aP aK aG an aF aH ao)) rfl (hS.get 0 rfl) (hS.get 3 rfl) ((dw.2.1.block ab (blk_lt a8)).trans a8) (by kernel_rfl) (by kernel_rfl) (by kernel_rfl) (by kernel_rfl)) ?_
    rintro hj fP ⟨rfl, eE, hT⟩
    have ci := hT.blk ((dw.2.1.block aa (blk_lt aC)).trans aC) (Ne.symm aD)
    have fp := hT.blk ((dw.2.1.block al (blk_lt a7)).trans a7) (Ne.symm ae)
    have fa := hT.below dw.1 ad (dw.1).size
    clear hT
    refine ⟨(((bR fP).block aa (blk_lt ci)).trans ci), ?_⟩
    refine lc_step rfl (R := fun v w' => Below _ _ w' ∧ (VP ab 21) v w') (does_val (x_fieldE (b := 0) rfl (hS.get 7 rfl) Try.underlying28 rfl rfl (by kernel_rfl)) rfl) ?_
    rintro fC e3 ⟨hb, he⟩
    have cc := below_step fa hb
    have a1 := below_step (bR fP) hb
    obtain rfl : fC = .pointer (some ⟨ab, 21, none⟩) := he
    refine ⟨((a1.block aa (blk_lt ci)).trans ci), ?_⟩
    refine hS.nextC (v := .pointer (some ⟨ab, 21, none⟩)) (d := 65) rfl (by decide) (by rfl) ?_
    clear hS
    intro g1 hS
    refine lc_step rfl (does_store (g := ab) (off := 21) (v := .int .i64 aJ) (new := (body_own.c1 aq ar au av aw ax ay az aA aB ak a9 aY aS aT aU aP aK aG an aF aJ ao)) rfl (hS.get 0 rfl) (hS.get 3 rfl) ((a1.block ab (blk_lt eE)).trans eE) (by kernel_rfl) (by kernel_rfl) (by kernel_rfl) (by kernel_rfl)) ?_
    rintro hk fQ ⟨rfl, eG, hT⟩
    have ck := hT.blk ((a1.block aa (blk_lt ci)).trans ci) (Ne.symm aD)
    have fr := hT.blk ((a1.block al (blk_lt fp)).trans fp) (Ne.symm ae)
    have fb := hT.below cc ad (cc).size
    clear hT
    refine ⟨(((bR fQ).block aa (blk_lt ck)).trans ck), ?_⟩
    refine lc_step rfl (R := fun v w' => Below _ _ w' ∧ (VP ab 22) v w') (does_val (x_fieldE (b := 0) rfl (hS.get 8 rfl) Try.underlying28 rfl rfl (by kernel_rfl)) rfl) ?_
    rintro fD e4 ⟨hb, he⟩
    have cd := below_step fb hb
    have a3 := below_step (bR fQ) hb
    obtain rfl : fD = .pointer (some ⟨ab, 22, none⟩) := he
    refine ⟨((a3.block aa (blk_lt ck)).trans ck), ?_⟩
    refine hS.nextC (v := .pointer (some ⟨ab, 22, none⟩)) (d := 66) rfl (by decide) (by rfl) ?_
    clear hS
    intro g3 hS
    refine lc_step rfl (does_store (g := ab) (off := 22) (v := .int .i64 aO) (new := (body_own.c1 aq ar au av aw ax ay az aA aB ak a9 aY aS aT aU aP aK aG an aF aJ aO)) rfl (hS.get 0 rfl) (hS.get 3 rfl) ((a3.block ab (blk_lt eG)).trans eG) (by kernel_rfl) (by kernel_rfl) (by kernel_rfl) (by kernel_rfl)) ?_
    rintro hl e5 ⟨rfl, eI, hT⟩
    have ft := hT.blk ((a3.block aa (blk_lt ck)).trans ck) (Ne.symm aD)
    have fu := hT.blk ((a3.block al (blk_lt fr)).trans fr) (Ne.symm ae)
    have fc := hT.below cd ad (cd).size
    clear hT
    refine ⟨(((bR e5).block aa (blk_lt ft)).trans ft), ?_⟩
    refine lc_nil ?_
    replace hS := ((hS.nil).cons (hS.get 9 rfl)).cons (hS.get 8 rfl)
    (try simp only [Exit.then, Exit.inBlock])
    exact J3 _ _ da db dc dd de df dg dh di dj bY bZ b0 b1 b2 b3 b4 b5 b6 b7 b8 b9 ca al aq ar au av aw ax ay az aA aB ak a9 aY aS aT aU aP aK aG an aF aJ aO ab H hS fc dr (((bR e5).block al (blk_lt fu)).trans fu) ad (((bR e5).block ab (blk_lt eI)).trans eI) ae
   rw [if_pos c1] at H
   refine wp_cond_true ((hS.get 0 rfl).trans (bT (decide_eq_true c1))) ?_
   refine wp_seq_k (fun gu eB => ?_)
   refine reg_float (I := I3_ w dn eA) (C := fun x => x.heap[aa]? = some (.cells (body_own.c1 ap cZ c0 c3 c4 c5 c6 c7 c8 c9 bX af ag ah ai aj am aE aI aN aF aJ aO) 28 (0, 0))) [true, true, true, true, true, true, true, true, true, false, false, false, false, false, false, false] [.pointer (some ⟨aa, 11, none⟩), .int .i64 af, .pointer (some ⟨aa, 12, none⟩), .int .i64 ag, .pointer (some ⟨aa, 13, none⟩), .agg #[.int .i64 ah, .int .i64 ai, .int .i64 aj], .pointer (some ⟨aa, 16, none⟩), .int .i64 am, .pointer (some ⟨ab, 11, none⟩), undef, undef, undef, undef, undef, undef, undef] [0, 1, 0, 4, 0, 16, 0, 64, 3, 259, 783, 1807, 3903, 7999, 16383, 32767] (by kernel_rfl) (by kernel_rfl) rfl ?_ ?_ hS ⟨dV.1, dV.2.1, (bR eA)⟩ ?_ ?_
   ·exact bs3
   ·exact fun x hI => ((hI.2.1.block aa (blk_lt aC)).trans aC)
   ·intro a hS hp
    refine .g (fun w hC => GRun.on rfl (x_fieldE (b := 0) rfl (hS.get 2 rfl) Try.underlying28 rfl rfl (by kernel_rfl))) ?_
    refine .g (fun w hC => GRun.on rfl (x_load1 (d := .int .i64) rfl ((hp.get 0 rfl rfl rfl)) (by kernel_rfl) rfl ((blk_cell ((((Below.refl _ _)).block aa (blk_lt hC)).trans hC) 11).trans rfl))) ?_
    refine .g (fun w hC => GRun.on rfl (x_fieldE (b := 0) rfl (hS.get 2 rfl) Try.underlying28 rfl rfl (by kernel_rfl))) ?_
    refine .g (fun w hC => GRun.on rfl (x_load1 (d := .int .i64) rfl ((hp.get 2 rfl rfl rfl)) (by kernel_rfl) rfl ((blk_cell ((((Below.refl _ _)).block aa (blk_lt hC)).trans hC) 12).trans rfl))) ?_
    refine .g (fun w hC => GRun.on rfl (x_fieldE (b := 0) rfl (hS.get 2 rfl) Try.underlying28 rfl rfl (by kernel_rfl))) ?_
    refine .g (fun w hC => GRun.on rfl (x_loadmid (cs := [.int .i64 ah, .int .i64 ai, .int .i64 aj]) rfl ((hp.get 4 rfl rfl rfl)) ((((Below.refl _ _)).block aa (blk_lt hC)).trans hC) (by kernel_rfl) Try.underlying26 rfl (by kernel_rfl))) ?_
    refine .g (fun w hC => GRun.on rfl (x_fieldE (b := 0) rfl (hS.get 2 rfl) Try.underlying28 rfl rfl (by kernel_rfl))) ?_
    refine .g (fun w hC => GRun.on rfl (x_load1 (d := .int .i64) rfl ((hp.get 6 rfl rfl rfl)) (by kernel_rfl) rfl ((blk_cell ((((Below.refl _ _)).block aa (blk_lt hC)).trans hC) 16).trans rfl))) ?_
    refine .g (fun w hC => GRun.on rfl (x_fieldE (b := 0) rfl (hS.get 4 rfl) Try.underlying28 rfl rfl (by kernel_rfl))) ?_
    iterate 7 refine .t ?_
    exact .nil
   clear hS
   intro f2 e2 hS hp aW
   have hS := hS.cons (show sl _ 36 = .int .i64 af from hp.get 1 rfl rfl rfl)
   have hS := hS.cons (show sl _ 38 = .int .i64 ag from hp.get 3 rfl rfl rfl)
   have hS := hS.cons (show sl _ 40 = .agg #[.int .i64 ah, .int .i64 ai, .int .i64 aj] from hp.get 5 rfl rfl rfl)
   have hS := hS.cons (show sl _ 42 = .int .i64 am from hp.get 7 rfl rfl rfl)
   have hS := hS.cons (show sl _ 43 = .pointer (some ⟨ab, 11, none⟩) from hp.get 8 rfl rfl rfl)
   clear hp
   show ListC _ _ _ _ [_, _, _, _, _, _, _] _ _
   refine lc_step rfl (does_store (g := ab) (off := 11) (v := .int .i64 af) (new := (body_own.c1 aq ar au av aw ax ay az aA aB ak af aY aS aT aU aP aK aG an aL aH ao)) rfl (hS.get 0 rfl) (hS.get 4 rfl) ((aW.2.1.block ab (blk_lt a8)).trans a8) (by kernel_rfl) (by kernel_rfl) (by kernel_rfl) (by kernel_rfl)) ?_
   rintro hi fO ⟨rfl, eD, hT⟩
   have ch := hT.blk ((aW.2.1.block aa (blk_lt aC)).trans aC) (Ne.symm aD)
   have fo := hT.blk ((aW.2.1.block al (blk_lt a7)).trans a7) (Ne.symm ae)
   have e9 := hT.below aW.1 ad (aW.1).size
   clear hT
   refine ⟨(((bR fO).block aa (blk_lt ch)).trans ch), ?_⟩
   refine lc_step rfl (R := fun v w' => Below _ _ w' ∧ (VP ab 12) v w') (does_val (x_fieldE (b := 0) rfl (hS.get 9 rfl) Try.underlying28 rfl rfl (by kernel_rfl)) rfl) ?_
   rintro gm hB ⟨hb, he⟩
   have ed := below_step e9 hb
   have a0 := below_step (bR fO) hb
   obtain rfl : gm = .pointer (some ⟨ab, 12, none⟩) := he
   refine ⟨((a0.block aa (blk_lt ch)).trans ch), ?_⟩
   refine hS.nextC (v := .pointer (some ⟨ab, 12, none⟩)) (d := 44) rfl (by decide) (by rfl) ?_
   clear hS
   intro g0 hS
   refine lc_step rfl (does_store (g := ab) (off := 12) (v := .int .i64 ag) (new := (body_own.c1 aq ar au av aw ax ay az aA aB ak af ag aS aT aU aP aK aG an aL aH ao)) rfl (hS.get 0 rfl) (hS.get 4 rfl) ((a0.block ab (blk_lt eD)).trans eD) (by kernel_rfl) (by kernel_rfl) (by kernel_rfl) (by kernel_rfl)) ?_
   rintro fC e3 ⟨rfl, eF, hT⟩
   have cj := hT.blk ((a0.block aa (blk_lt ch)).trans ch) (Ne.symm aD)
   have fq := hT.blk ((a0.block al (blk_lt fo)).trans fo) (Ne.symm ae)
   have cc := hT.below ed ad (ed).size
   clear hT
   refine ⟨(((bR e3).block aa (blk_lt cj)).trans cj), ?_⟩
   refine lc_step rfl (R := fun v w' => Below _ _ w' ∧ (VP ab 13) v w') (does_val (x_fieldE (b := 0) rfl (hS.get 10 rfl) Try.underlying28 rfl rfl (by kernel_rfl)) rfl) ?_
   rintro gn hD ⟨hb, he⟩
   have ee := below_step cc hb
   have a2 := below_step (bR e3) hb
   obtain rfl : gn = .pointer (some ⟨ab, 13, none⟩) := he
   refine ⟨((a2.block aa (blk_lt cj)).trans cj), ?_⟩
   refine hS.nextC (v := .pointer (some ⟨ab, 13, none⟩)) (d := 45) rfl (by decide) (by rfl) ?_
   clear hS
   intro g2 hS
   refine lc_step rfl (does_store (g := ab) (off := 13) (v := .agg #[.int .i64 ah, .int .i64 ai, .int .i64 aj]) (new := (body_own.c1 aq ar au av aw ax ay az aA aB ak af ag ah ai aj aP aK aG an aL aH ao)) rfl (hS.get 0 rfl) (hS.get 4 rfl) ((a2.block ab (blk_lt eF)).trans eF) (by kernel_rfl) (by kernel_rfl) (by kernel_rfl) (by kernel_rfl)) ?_
   rintro fD e4 ⟨rfl, eH, hT⟩
   have cl := hT.blk ((a2.block aa (blk_lt cj)).trans cj) (Ne.symm aD)
   have fs := hT.blk ((a2.block al (blk_lt fq)).trans fq) (Ne.symm ae)
   have cd := hT.below ee ad (ee).size
   clear hT
   refine ⟨(((bR e4).block aa (blk_lt cl)).trans cl), ?_⟩
   refine lc_step rfl (R := fun v w' => Below _ _ w' ∧ (VP ab 16) v w') (does_val (x_fieldE (b := 0) rfl (hS.get 11 rfl) Try.underlying28 rfl rfl (by kernel_rfl)) rfl) ?_
   rintro go hE ⟨hb, he⟩
   have ef := below_step cd hb
   have a4 := below_step (bR e4) hb
   obtain rfl : go = .pointer (some ⟨ab, 16, none⟩) := he
   refine ⟨((a4.block aa (blk_lt cl)).trans cl), ?_⟩
   refine hS.nextC (v := .pointer (some ⟨ab, 16, none⟩)) (d := 46) rfl (by decide) (by rfl) ?_
   clear hS
   intro g5 hS
   refine lc_step rfl (does_store (g := ab) (off := 16) (v := .int .i64 am) (new := (body_own.c1 aq ar au av aw ax ay az aA aB ak af ag ah ai aj am aK aG an aL aH ao)) rfl (hS.get 0 rfl) (hS.get 4 rfl) ((a4.block ab (blk_lt eH)).trans eH) (by kernel_rfl) (by kernel_rfl) (by kernel_rfl) (by kernel_rfl)) ?_
   rintro hm e6 ⟨rfl, eJ, hT⟩
   have cm := hT.blk ((a4.block aa (blk_lt cl)).trans cl) (Ne.symm aD)
   have fv := hT.blk ((a4.block al (blk_lt fs)).trans fs) (Ne.symm ae)
   have fd := hT.below ef ad (ef).size
   clear hT
   refine ⟨(((bR e6).block aa (blk_lt cm)).trans cm), ?_⟩
   refine lc_nil ?_
   refine eB _ _ ?_
   refine reg_float (I := I2_ w e6) (C := fun x => x.heap[aa]? = some (.cells (body_own.c1 ap cZ c0 c3 c4 c5 c6 c7 c8 c9 bX af ag ah ai aj am aE aI aN aF aJ aO) 28 (0, 0))) [true, true, true, true, true, true, true, false, false, false, false, false] [.pointer (some ⟨aa, 17, none⟩), .int .u64 aE, .pointer (some ⟨aa, 18, none⟩), .int .i64 aI, .pointer (some ⟨aa, 19, none⟩), .int .i64 aN, .pointer (some ⟨ab, 17, none⟩), undef, undef, undef, undef, undef] [0, 1, 0, 4, 0, 16, 3, 67, 207, 463, 1023, 2047] (by kernel_rfl) (by kernel_rfl) rfl ?_ ?_ hS ⟨fd, (bR e6)⟩ ?_ ?_
   ·exact bs2
   ·exact fun x hI => ((hI.2.block aa (blk_lt cm)).trans cm)
   ·intro a hS hp
    refine .g (fun w hC => GRun.on rfl (x_fieldE (b := 0) rfl (hS.get 10 rfl) Try.underlying28 rfl rfl (by kernel_rfl))) ?_
    refine .g (fun w hC => GRun.on rfl (x_load1 (d := .int .u64) rfl ((hp.get 0 rfl rfl rfl)) (by kernel_rfl) rfl ((blk_cell ((((Below.refl _ _)).block aa (blk_lt hC)).trans hC) 17).trans rfl))) ?_
    refine .g (fun w hC => GRun.on rfl (x_fieldE (b := 0) rfl (hS.get 10 rfl) Try.underlying28 rfl rfl (by kernel_rfl))) ?_
    refine .g (fun w hC => GRun.on rfl (x_load1 (d := .int .i64) rfl ((hp.get 2 rfl rfl rfl)) (by kernel_rfl) rfl ((blk_cell ((((Below.refl _ _)).block aa (blk_lt hC)).trans hC) 18).trans rfl))) ?_
    refine .g (fun w hC => GRun.on rfl (x_fieldE (b := 0) rfl (hS.get 10 rfl) Try.underlying28 rfl rfl (by kernel_rfl))) ?_
    refine .g (fun w hC => GRun.on rfl (x_load1 (d := .int .i64) rfl ((hp.get 4 rfl rfl rfl)) (by kernel_rfl) rfl ((blk_cell ((((Below.refl _ _)).block aa (blk_lt hC)).trans hC) 19).trans rfl))) ?_
    refine .g (fun w hC => GRun.on rfl (x_fieldE (b := 0) rfl (hS.get 12 rfl) Try.underlying28 rfl rfl (by kernel_rfl))) ?_
    iterate 5 refine .t ?_
    exact .nil
   clear hS
   intro g7 hF hS hp dx
   have hS := hS.cons (show sl _ 48 = .int .u64 aE from hp.get 1 rfl rfl rfl)
   have hS := hS.cons (show sl _ 50 = .int .i64 aI from hp.get 3 rfl rfl rfl)
   have hS := hS.cons (show sl _ 52 = .int .i64 aN from hp.get 5 rfl rfl rfl)
   have hS := hS.cons (show sl _ 53 = .pointer (some ⟨ab, 17, none⟩) from hp.get 6 rfl rfl rfl)
   clear hp
   show ListC _ _ _ _ [_, _, _, _, _] _ _
   refine lc_step rfl (does_store (g := ab) (off := 17) (v := .int .u64 aE) (new := (body_own.c1 aq ar au av aw ax ay az aA aB ak af ag ah ai aj am aE aG an aL aH ao)) rfl (hS.get 0 rfl) (hS.get 3 rfl) ((dx.2.block ab (blk_lt eJ)).trans eJ) (by kernel_rfl) (by kernel_rfl) (by kernel_rfl) (by kernel_rfl)) ?_
   rintro hn fR ⟨rfl, eK, hT⟩
   have cn := hT.blk ((dx.2.block aa (blk_lt cm)).trans cm) (Ne.symm aD)
   have fw := hT.blk ((dx.2.block al (blk_lt fv)).trans fv) (Ne.symm ae)
   have fe := hT.below dx.1 ad (dx.1).size
   clear hT
   refine ⟨(((bR fR).block aa (blk_lt cn)).trans cn), ?_⟩
   refine lc_step rfl (R := fun v w' => Below _ _ w' ∧ (VP ab 18) v w') (does_val (x_fieldE (b := 0) rfl (hS.get 16 rfl) Try.underlying28 rfl rfl (by kernel_rfl)) rfl) ?_
   rintro gp hG ⟨hb, he⟩
   have eg := below_step fe hb
   have a5 := below_step (bR fR) hb
   obtain rfl : gp = .pointer (some ⟨ab, 18, none⟩) := he
   refine ⟨((a5.block aa (blk_lt cn)).trans cn), ?_⟩
   refine hS.nextC (v := .pointer (some ⟨ab, 18, none⟩)) (d := 54) rfl (by decide) (by rfl) ?_
   clear hS
   intro g8 hS
   refine lc_step rfl (does_store (g := ab) (off := 18) (v := .int .i64 aI) (new := (body_own.c1 aq ar au av aw ax ay az aA aB ak af ag ah ai aj am aE aI an aL aH ao)) rfl (hS.get 0 rfl) (hS.get 3 rfl) ((a5.block ab (blk_lt eK)).trans eK) (by kernel_rfl) (by kernel_rfl) (by kernel_rfl) (by kernel_rfl)) ?_
   rintro ho fS ⟨rfl, eL, hT⟩
   have co := hT.blk ((a5.block aa (blk_lt cn)).trans cn) (Ne.symm aD)
   have fx := hT.blk ((a5.block al (blk_lt fw)).trans fw) (Ne.symm ae)
   have ff := hT.below eg ad (eg).size
   clear hT
   refine ⟨(((bR fS).block aa (blk_lt co)).trans co), ?_⟩
   refine lc_step rfl (R := fun v w' => Below _ _ w' ∧ (VP ab 19) v w') (does_val (x_fieldE (b := 0) rfl (hS.get 17 rfl) Try.underlying28 rfl rfl (by kernel_rfl)) rfl) ?_
   rintro gq hH ⟨hb, he⟩
   have eh := below_step ff hb
   have a6 := below_step (bR fS) hb
   obtain rfl : gq = .pointer (some ⟨ab, 19, none⟩) := he
   refine ⟨((a6.block aa (blk_lt co)).trans co), ?_⟩
   refine hS.nextC (v := .pointer (some ⟨ab, 19, none⟩)) (d := 55) rfl (by decide) (by rfl) ?_
   clear hS
   intro g9 hS
   refine lc_step rfl (does_store (g := ab) (off := 19) (v := .int .i64 aN) (new := (body_own.c1 aq ar au av aw ax ay az aA aB ak af ag ah ai aj am aE aI aN aL aH ao)) rfl (hS.get 0 rfl) (hS.get 3 rfl) ((a6.block ab (blk_lt eL)).trans eL) (by kernel_rfl) (by kernel_rfl) (by kernel_rfl) (by kernel_rfl)) ?_
   rintro hq e7 ⟨rfl, eM, hT⟩
   have fy := hT.blk ((a6.block aa (blk_lt co)).trans co) (Ne.symm aD)
   have fz := hT.blk ((a6.block al (blk_lt fx)).trans fx) (Ne.symm ae)
   have fg := hT.below eh ad (eh).size
   clear hT
   refine ⟨(((bR e7).block aa (blk_lt fy)).trans fy), ?_⟩
   refine lc_nil ?_
   replace hS := ((hS.nil).cons (hS.get 18 rfl)).cons (hS.get 17 rfl)
   (try simp only [Exit.then, Exit.inBlock])
   exact J3 _ _ da db dc dd de df dg dh di dj bY bZ b0 b1 b2 b3 b4 b5 b6 b7 b8 b9 ca al aq ar au av aw ax ay az aA aB ak af ag ah ai aj am aE aI aN aL aH ao ab H hS fg dr (((bR e7).block al (blk_lt fz)).trans fz) ad (((bR e7).block ab (blk_lt eM)).trans eM) ae
  obtain ⟨ez, fY, H⟩ := Option.bind_eq_some_iff.mp H
  refine wp_seq_k (fun hu f4 => ?_)
  refine reg_seq (I := I2_ w dX) (ps := [VP aR 0, VI cb, VB ez]) (by kernel_rfl) ?_ ?_ rfl hS ⟨fV, (bR dX)⟩ ?_ ?_
  ·exact bs2
  ·exact .v (.v (.v (.nil)))
  ·refine .on rfl (fun a w hS hI hp => does_val (x_fieldE (b := 0) rfl (hS.get 0 rfl) Try.underlying28 rfl rfl (by kernel_rfl)) rfl) ?_
   refine .on rfl (fun a w hS hI hp => does_val (x_load1 (d := .int .i64) rfl (hp.V 0 rfl rfl) (by kernel_rfl) rfl ((blk_cell (((hI.2).block aR (blk_lt aQ)).trans aQ) 0).trans rfl)) rfl) ?_
   refine .on rfl (fun a w hS hI hp => does_call (by kernel_rfl) (ar1 (hp.V 1 rfl rfl)) ((body_targeted.calls cb ez _  fY).mono fun _ _ h => ⟨_, h.1, h.2.below, rfl⟩)) ?_
   exact .nil
  clear hS
  intro gV fM hS cp hp
  have ge : sl _ 27 = .bool ez := hp 2 (by decide)
  have hS := hS.cons ge
  clear hp ge
  refine f4 _ _ ?_
  by_cases c1 : ez = true
  rotate_left
  ·rw [if_neg c1] at H
   refine wp_cond_false ((hS.get 0 rfl).trans (bF (Bool.eq_false_iff.2 c1))) ?_
   refine wp_skip ?_
   replace hS := (((hS.nil).cons (hS.get 3 rfl)).cons (hS.get 2 rfl)).cons (hS.get 1 rfl)
   (try simp only [Exit.then, Exit.inBlock])
   exact J2 _ _ cb dy dz dA dB dC dD dE dF aX aM cq cr ct cu cv cw cx cy cz cA cB cC aR dG dH dI dJ dK dL dM dN dO dP cD cE cF cG cH cI cJ cK cL cM cN cO cP bo cQ cR cS cT cU cV cW cX cY dY dS bJ bK bL bM bN bO bP bQ bS bU bV bW aV H hS cp.1 ej ((cp.2.block aR (blk_lt aQ)).trans aQ) ek ((cp.2.block bo (blk_lt ce)).trans ce) dq ((cp.2.block aV (blk_lt cf)).trans cf) el ds dt
  rw [if_pos c1] at H
  refine wp_cond_true ((hS.get 0 rfl).trans (bT c1)) ?_
  refine reg_seq_tail 3 (I := I3_ w dX fM) (ps := [VP aR 9, IsV (.agg #[.int .u64 aX, .int .i64 aM]), VP aV 9]) (by kernel_rfl) ?_ ?_ rfl hS ⟨cp.1, cp.2, (bR fM)⟩ ?_ ?_
  ·exact bs3
  ·exact .v (.v (.v (.nil)))
  ·refine .on rfl (fun a w hS hI hp => does_val (x_fieldE (b := 0) rfl (hS.get 1 rfl) Try.underlying28 rfl rfl (by kernel_rfl)) rfl) ?_
   refine .on rfl (fun a w hS hI hp => does_loadmid (cs := [.int .u64 aX, .int .i64 aM]) rfl (hp.V 0 rfl rfl) (((hI.2.1).block aR (blk_lt aQ)).trans aQ) (by kernel_rfl) Try.underlying24 rfl (by kernel_rfl) rfl) ?_
   refine .on rfl (fun a w hS hI hp => does_val (x_fieldE (b := 0) rfl (hS.get 3 rfl) Try.underlying28 rfl rfl (by kernel_rfl)) rfl) ?_
   exact .nil
  clear hS
  intro gW hz hS du hp
  replace hS := (((hS.nil).cons (hS.get 3 rfl)).cons (hS.get 2 rfl)).cons (hS.get 1 rfl)
  have gf : sl _ 29 = .agg #[.int .u64 aX, .int .i64 aM] := hp 1 (by decide)
  have gg : sl _ 30 = .pointer (some ⟨aV, 9, none⟩) := hp 2 (by decide)
  have hS := hS.cons gf
  have hS := hS.cons gg
  clear hp gf gg
  show wpList _ _ _ [_] _ _
  refine list_step rfl (does_store (g := aV) (off := 9) (v := .agg #[.int .u64 aX, .int .i64 aM]) (new := (body_own.c1 cQ cR cS cT cU cV cW cX cY aX aM bJ bK bL bM bN bO bP bQ bS bU bV bW)) rfl (hS.get 0 rfl) (hS.get 1 rfl) ((du.2.1.block aV (blk_lt cf)).trans cf) (by kernel_rfl) (by kernel_rfl) (by kernel_rfl) (by kernel_rfl)) ?_
  rintro hh e1 ⟨rfl, eC, hT⟩
  have fl := hT.blk ((du.2.1.block aR (blk_lt aQ)).trans aQ) (Ne.symm ds)
  have fm := hT.blk ((du.2.1.block bo (blk_lt ce)).trans ce) (Ne.symm dt)
  have e8 := hT.below du.1 dq (du.1).size
  clear hT
  refine wpList_nil ?_
  replace hS := (((hS.nil).cons (hS.get 4 rfl)).cons (hS.get 3 rfl)).cons (hS.get 2 rfl)
  (try simp only [Exit.then, Exit.inBlock])
  exact J2 _ _ cb dy dz dA dB dC dD dE dF aX aM cq cr ct cu cv cw cx cy cz cA cB cC aR dG dH dI dJ dK dL dM dN dO dP cD cE cF cG cH cI cJ cK cL cM cN cO cP bo cQ cR cS cT cU cV cW cX cY aX aM bJ bK bL bM bN bO bP bQ bS bU bV bW aV H hS e8 ej (((bR e1).block aR (blk_lt fl)).trans fl) ek (((bR e1).block bo (blk_lt fm)).trans fm) dq (((bR e1).block aV (blk_lt eC)).trans eC) el ds dt
 obtain ⟨fL, gQ, H⟩ := Option.bind_eq_some_iff.mp H
 refine wp_seq_k (fun hP gS => ?_)
 refine reg_seq (I := I4_ w w3 w5 gr) (ps := [VP g4 0, VI bn, VB fL]) (by kernel_rfl) ?_ ?_ rfl hS ⟨fT, fE, fF, (bR gr)⟩ ?_ ?_
 ·exact bs4
 ·exact .v (.v (.v (.nil)))
 ·refine .on rfl (fun a w hS hI hp => does_val (x_fieldE (b := 0) rfl (hS.get 3 rfl) Try.underlying28 rfl rfl (by kernel_rfl)) rfl) ?_
  refine .on rfl (fun a w hS hI hp => does_val (x_load1 (d := .int .i64) rfl (hp.V 0 rfl rfl) (by kernel_rfl) rfl ((blk_cell (((hI.2.1).block g4 (blk_lt ac)).trans ac) 0).trans rfl)) rfl) ?_
  refine .on rfl (fun a w hS hI hp => does_call (by kernel_rfl) (ar1 (hp.V 1 rfl rfl)) ((body_stamped.calls bn fL _  gQ).mono fun _ _ h => ⟨_, h.1, h.2.below, rfl⟩)) ?_
  exact .nil
 clear hS
 intro hL gP hS dv hp
 replace hS := (((hS.nil).cons (hS.get 3 rfl)).cons (hS.get 2 rfl)).cons (hS.get 0 rfl)
 have gb : sl _ 21 = .bool fL := hp 2 (by decide)
 have hS := hS.cons gb
 clear hp gb
 refine gS _ _ ?_
 by_cases c1 : fL = true
 rotate_left
 ·rw [if_neg c1] at H
  refine wp_cond_false ((hS.get 0 rfl).trans (bF (Bool.eq_false_iff.2 c1))) ?_
  refine wp_skip ?_
  replace hS := (((hS.nil).cons (hS.get 1 rfl)).cons (hS.get 2 rfl)).cons (hS.get 3 rfl)
  (try simp only [Exit.then, Exit.inBlock])
  exact J1 _ _ bn bC bD bE bp bq bG bH dk eZ em en eo ep eq er es et eu ev ew ex ey g4 0 0 0 0 0 0 0 0 0 0 0 0 0 0 0 0 0 0 0 0 0 0 0 g6 bn bC bD bE bp bq bG bH 0 0 0 0 0 0 0 0 0 0 0 0 0 0 0 dm H hS dv.1 fI ((dv.2.1.block g4 (blk_lt ac)).trans ac) (Nat.le_trans (gl).size e0) ((dv.2.2.1.block g6 (blk_lt dR)).trans dR) (Nat.le_trans (dp).size aZ) ((dv.2.2.2.block dm (blk_lt dU)).trans dU) f9 fJ fK
 rw [if_pos c1] at H
 refine wp_cond_true ((hS.get 0 rfl).trans (bT c1)) ?_
 refine reg_seq_tail 3 (I := I5_ w w3 w5 gr gP) (ps := [VP g4 8, VI dk, VP dm 8]) (by kernel_rfl) ?_ ?_ rfl hS ⟨dv.1, dv.2.1, dv.2.2.1, dv.2.2.2, (bR gP)⟩ ?_ ?_
 ·exact bs5
 ·exact .v (.v (.v (.nil)))
 ·refine .on rfl (fun a w hS hI hp => does_val (x_fieldE (b := 0) rfl (hS.get 3 rfl) Try.underlying28 rfl rfl (by kernel_rfl)) rfl) ?_
  refine .on rfl (fun a w hS hI hp => does_val (x_load1 (d := .int .i64) rfl (hp.V 0 rfl rfl) (by kernel_rfl) rfl ((blk_cell (((hI.2.1).block g4 (blk_lt ac)).trans ac) 8).trans rfl)) rfl) ?_
  refine .on rfl (fun a w hS hI hp => does_val (x_fieldE (b := 0) rfl (hS.get 1 rfl) Try.underlying28 rfl rfl (by kernel_rfl)) rfl) ?_
  exact .nil
 clear hS
 intro hM hV hS dT hp
 replace hS := (((hS.nil).cons (hS.get 3 rfl)).cons (hS.get 2 rfl)).cons (hS.get 1 rfl)
 have gc : sl _ 23 = .int .i64 dk := hp 1 (by decide)
 have gd : sl _ 24 = .pointer (some ⟨dm, 8, none⟩) := hp 2 (by decide)
 have hS := hS.cons gc
 have hS := hS.cons gd
 clear hp gc gd
 show wpList _ _ _ [_] _ _
 refine list_step rfl (does_store (g := dm) (off := 8) (v := .int .i64 dk) (new := (body_own.c1 bn bC bD bE bp bq bG bH dk 0 0 0 0 0 0 0 0 0 0 0 0 0 0)) rfl (hS.get 0 rfl) (hS.get 1 rfl) ((dT.2.2.2.1.block dm (blk_lt dU)).trans dU) (by kernel_rfl) (by kernel_rfl) (by kernel_rfl) (by kernel_rfl)) ?_
 rintro hO ht ⟨rfl, fj, hT⟩
 have fU := hT.below dT.1 (Nat.le_trans (dp).size aZ) (dT.1).size
 have fG := hT.below dT.2.1 (Nat.le_trans (dQ).size aZ) (dT.2.1).size
 have fH := hT.below dT.2.2.1 aZ (dT.2.2.1).size
 clear hT
 refine wpList_nil ?_
 replace hS := (((hS.nil).cons (hS.get 2 rfl)).cons (hS.get 3 rfl)).cons (hS.get 4 rfl)
 (try simp only [Exit.then, Exit.inBlock])
 exact J1 _ _ bn bC bD bE bp bq bG bH dk eZ em en eo ep eq er es et eu ev ew ex ey g4 0 0 0 0 0 0 0 0 0 0 0 0 0 0 0 0 0 0 0 0 0 0 0 g6 bn bC bD bE bp bq bG bH dk 0 0 0 0 0 0 0 0 0 0 0 0 0 0 dm H hS fU fI ((fG.block g4 (blk_lt ac)).trans ac) (Nat.le_trans (gl).size e0) ((fH.block g6 (blk_lt dR)).trans dR) (Nat.le_trans (dp).size aZ) (((bR ht).block dm (blk_lt fj)).trans fj) f9 fJ fK
def stamp_May.f (a0 : Int) : Option (Bool) := if a0 ≥ 0 then (some (decide (a0 ≤ 4000000000000000))) else (some false)
set_option maxHeartbeats 8000000 in
set_option maxRecDepth 100000 in
theorem stamp_May.calls (a0 : Int) (r : Bool) (w : World) (h : stamp_May.f a0 = some r) :
    Calls Try.prog 75 #[.int .i64 a0] w fun e w' => e = .returned (.bool r) ∧ Drawn0 w w' := by
  have H : (if a0 ≥ 0 then (some (decide (a0 ≤ 4000000000000000))) else (some false)) = some r := h
  clear h
  by_cases c2 : a0 ≥ 0
  · rw [if_pos c2] at H
    have c2b0 : decide (0 ≤ a0) = true := decide_eq_true c2
    clear c2
    obtain rfl := Option.some.inj H
    go_enter Try.func75, Try.ntmps75
    go_wp2
    all_goals
      go_ret
      exact ⟨by first | rfl | (simp; done) | (simp [*]; done), by repeat (first | exact Drawn0.refl _ | apply Drawn0.step)⟩
  · rw [if_neg c2] at H
    have c2b0 : decide (0 ≤ a0) = false := decide_eq_false c2
    clear c2
    obtain rfl := Option.some.inj H
    go_enter Try.func75, Try.ntmps75
    go_wp2
    all_goals
      go_ret
      exact ⟨by first | rfl | (simp; done) | (simp [*]; done), by repeat (first | exact Drawn0.refl _ | apply Drawn0.step)⟩
def body_in.f (a0 : Int) (a1 : Int) (a2 : Int) : Option (Bool) := if a0 ≥ a1 then (some (decide (a0 ≤ a2))) else (some false)
set_option maxHeartbeats 8000000 in
set_option maxRecDepth 100000 in
theorem body_in.calls (a0 : Int) (a1 : Int) (a2 : Int) (r : Bool) (w : World) (h : body_in.f a0 a1 a2 = some r) :
    Calls Try.prog 77 #[.int .i64 a0, .int .i64 a1, .int .i64 a2] w fun e w' => e = .returned (.bool r) ∧ Drawn0 w w' := by
  have H : (if a0 ≥ a1 then (some (decide (a0 ≤ a2))) else (some false)) = some r := h
  clear h
  by_cases c4 : a0 ≥ a1
  · rw [if_pos c4] at H
    have c4b0 : decide (a1 ≤ a0) = true := decide_eq_true c4
    clear c4
    obtain rfl := Option.some.inj H
    go_enter Try.func77, Try.ntmps77
    go_wp2
    all_goals
      go_ret
      exact ⟨by first | rfl | (simp; done) | (simp [*]; done), by repeat (first | exact Drawn0.refl _ | apply Drawn0.step)⟩
  · rw [if_neg c4] at H
    have c4b0 : decide (a1 ≤ a0) = false := decide_eq_false c4
    clear c4
    obtain rfl := Option.some.inj H
    go_enter Try.func77, Try.ntmps77
    go_wp2
    all_goals
      go_ret
      exact ⟨by first | rfl | (simp; done) | (simp [*]; done), by repeat (first | exact Drawn0.refl _ | apply Drawn0.step)⟩
def quality_May.f (a0_0 : Int) (a0_1 : Int) (a0_2 : Int) : Option (Bool) := if a0_0 ≥ 0 then (if a0_0 ≤ 255 then (if a0_1 ≥ 0 then (if a0_1 ≤ 255 then (if a0_2 ≥ 0 then (some (decide (a0_2 ≤ 65535))) else (some false)) else (some false)) else (some false)) else (some false)) else (some false)
set_option maxHeartbeats 8000000 in
set_option maxRecDepth 100000 in
theorem quality_May.calls (a0_0 : Int) (a0_1 : Int) (a0_2 : Int) (r : Bool) (w : World) (h : quality_May.f a0_0 a0_1 a0_2 = some r) :
    Calls Try.prog 78 #[.agg #[.int .i64 a0_0, .int .i64 a0_1, .int .i64 a0_2]] w fun e w' => e = .returned (.bool r) ∧ Below w.heap.size w w' := by
  have hu26 := Try.underlying26
  have HB := Aside0.mk (Below.refl w.heap.size w)
  have H : (if a0_0 ≥ 0 then (if a0_0 ≤ 255 then (if a0_1 ≥ 0 then (if a0_1 ≤ 255 then (if a0_2 ≥ 0 then (some (decide (a0_2 ≤ 65535))) else (some false)) else (some false)) else (some false)) else (some false)) else (some false)) = some r := h
  clear h
  by_cases c2 : a0_0 ≥ 0
  · rw [if_pos c2] at H
    have c2b0 : decide (0 ≤ a0_0) = true := decide_eq_true c2
    clear c2
    by_cases c3 : a0_0 ≤ 255
    · rw [if_pos c3] at H
      have c3b0 : decide (a0_0 ≤ 255) = true := decide_eq_true c3
      clear c3
      by_cases c4 : a0_1 ≥ 0
      · rw [if_pos c4] at H
        have c4b0 : decide (0 ≤ a0_1) = true := decide_eq_true c4
        clear c4
        by_cases c5 : a0_1 ≤ 255
        · rw [if_pos c5] at H
          have c5b0 : decide (a0_1 ≤ 255) = true := decide_eq_true c5
          clear c5
          by_cases c6 : a0_2 ≥ 0
          · rw [if_pos c6] at H
            have c6b0 : decide (0 ≤ a0_2) = true := decide_eq_true c6
            clear c6
            obtain rfl := Option.some.inj H
            go_enter Try.func78, Try.ntmps78
            go_wp2_with (first | ((with_reducible refine gate_dst (N := 1) rfl ?_); refine box_event ?hg (N := 1) ?hd (cs := #[.int .i64 a0_0, .int .i64 a0_1, .int .i64 a0_2]) (t := 26) ?hr ?_; (case hd => rfl); (case hg => rfl); (case hr => first | (go_simp; done) | (go_simp; rfl)); intro gb103 hg w7 hbox hb; have n0_ := Aside0.mk (below_step (by repeat (first | (with_reducible first | exact HB.out | apply below_alloc | apply pw_below_drewN | apply below_drew1) | exact HB.out)) hb); have n1_ := Aside0.mk (hbox); have n2_ := Aside0.mk ((by rw [hg]; exact (below_size (by repeat (first | (with_reducible first | exact HB.out | apply below_alloc | apply pw_below_drewN | apply below_drew1) | exact HB.out))) : w.heap.size ≤ gb103)); have n3_ := Aside0.mk ((by rw [hg]; exact (below_size (by repeat (first | (with_reducible first | exact HB.out | apply below_alloc | apply pw_below_drewN | apply below_drew1) | exact HB.out))) : w.heap.size ≤ gb103)); clear HB; have HB := n0_; have BK103 := n1_; have GW103 := n2_; have GE103 := n3_; clear n0_ n1_ n2_ n3_; clear hb hbox hg; have hcz8_0 : w7.cell? ⟨gb103, 0, none⟩ = some (.int .i64 a0_0) := (blk_cell BK103.out 0).trans rfl; have hcz8_1 : w7.cell? ⟨gb103, 1, none⟩ = some (.int .i64 a0_1) := (blk_cell BK103.out 1).trans rfl; have hcz8_2 : w7.cell? ⟨gb103, 2, none⟩ = some (.int .i64 a0_2) := (blk_cell BK103.out 2).trans rfl; have hfz8_0 := blk_frozen BK103.out 0; have hfz8_1 := blk_frozen BK103.out 1; have hfz8_2 := blk_frozen BK103.out 2))
            all_goals
              go_ret
              exact ⟨by first | rfl | (simp [errW_none, errW_some] <;> rfl) | (simp [*, errW_none, errW_some] <;> rfl), by repeat (first | (with_reducible first | exact HB.out | apply below_alloc | apply pw_below_drewN | apply below_drew1 | refine below_set ?_ GE103.out) | exact HB.out)⟩
          · rw [if_neg c6] at H
            have c6b0 : decide (0 ≤ a0_2) = false := decide_eq_false c6
            clear c6
            obtain rfl := Option.some.inj H
            go_enter Try.func78, Try.ntmps78
            go_wp2_with (first | ((with_reducible refine gate_dst (N := 1) rfl ?_); refine box_event ?hg (N := 1) ?hd (cs := #[.int .i64 a0_0, .int .i64 a0_1, .int .i64 a0_2]) (t := 26) ?hr ?_; (case hd => rfl); (case hg => rfl); (case hr => first | (go_simp; done) | (go_simp; rfl)); intro gb103 hg w9 hbox hb; have n0_ := Aside0.mk (below_step (by repeat (first | (with_reducible first | exact HB.out | apply below_alloc | apply pw_below_drewN | apply below_drew1) | exact HB.out)) hb); have n1_ := Aside0.mk (hbox); have n2_ := Aside0.mk ((by rw [hg]; exact (below_size (by repeat (first | (with_reducible first | exact HB.out | apply below_alloc | apply pw_below_drewN | apply below_drew1) | exact HB.out))) : w.heap.size ≤ gb103)); have n3_ := Aside0.mk ((by rw [hg]; exact (below_size (by repeat (first | (with_reducible first | exact HB.out | apply below_alloc | apply pw_below_drewN | apply below_drew1) | exact HB.out))) : w.heap.size ≤ gb103)); clear HB; have HB := n0_; have BK103 := n1_; have GW103 := n2_; have GE103 := n3_; clear n0_ n1_ n2_ n3_; clear hb hbox hg; have hcz10_0 : w9.cell? ⟨gb103, 0, none⟩ = some (.int .i64 a0_0) := (blk_cell BK103.out 0).trans rfl; have hcz10_1 : w9.cell? ⟨gb103, 1, none⟩ = some (.int .i64 a0_1) := (blk_cell BK103.out 1).trans rfl; have hcz10_2 : w9.cell? ⟨gb103, 2, none⟩ = some (.int .i64 a0_2) := (blk_cell BK103.out 2).trans rfl; have hfz10_0 := blk_frozen BK103.out 0; have hfz10_1 := blk_frozen BK103.out 1; have hfz10_2 := blk_frozen BK103.out 2))
            all_goals
              go_ret
              exact ⟨by first | rfl | (simp [errW_none, errW_some] <;> rfl) | (simp [*, errW_none, errW_some] <;> rfl), by repeat (first | (with_reducible first | exact HB.out | apply below_alloc | apply pw_below_drewN | apply below_drew1 | refine below_set ?_ GE103.out) | exact HB.out)⟩
        · rw [if_neg c5] at H
          have c5b0 : decide (a0_1 ≤ 255) = false := decide_eq_false c5
          clear c5
          obtain rfl := Option.some.inj H
          go_enter Try.func78, Try.ntmps78
          go_wp2_with (first | ((with_reducible refine gate_dst (N := 1) rfl ?_); refine box_event ?hg (N := 1) ?hd (cs := #[.int .i64 a0_0, .int .i64 a0_1, .int .i64 a0_2]) (t := 26) ?hr ?_; (case hd => rfl); (case hg => rfl); (case hr => first | (go_simp; done) | (go_simp; rfl)); intro gb103 hg w11 hbox hb; have n0_ := Aside0.mk (below_step (by repeat (first | (with_reducible first | exact HB.out | apply below_alloc | apply pw_below_drewN | apply below_drew1) | exact HB.out)) hb); have n1_ := Aside0.mk (hbox); have n2_ := Aside0.mk ((by rw [hg]; exact (below_size (by repeat (first | (with_reducible first | exact HB.out | apply below_alloc | apply pw_below_drewN | apply below_drew1) | exact HB.out))) : w.heap.size ≤ gb103)); have n3_ := Aside0.mk ((by rw [hg]; exact (below_size (by repeat (first | (with_reducible first | exact HB.out | apply below_alloc | apply pw_below_drewN | apply below_drew1) | exact HB.out))) : w.heap.size ≤ gb103)); clear HB; have HB := n0_; have BK103 := n1_; have GW103 := n2_; have GE103 := n3_; clear n0_ n1_ n2_ n3_; clear hb hbox hg; have hcz12_0 : w11.cell? ⟨gb103, 0, none⟩ = some (.int .i64 a0_0) := (blk_cell BK103.out 0).trans rfl; have hcz12_1 : w11.cell? ⟨gb103, 1, none⟩ = some (.int .i64 a0_1) := (blk_cell BK103.out 1).trans rfl; have hcz12_2 : w11.cell? ⟨gb103, 2, none⟩ = some (.int .i64 a0_2) := (blk_cell BK103.out 2).trans rfl; have hfz12_0 := blk_frozen BK103.out 0; have hfz12_1 := blk_frozen BK103.out 1; have hfz12_2 := blk_frozen BK103.out 2))
          all_goals
            go_ret
            exact ⟨by first | rfl | (simp [errW_none, errW_some] <;> rfl) | (simp [*, errW_none, errW_some] <;> rfl), by repeat (first | (with_reducible first | exact HB.out | apply below_alloc | apply pw_below_drewN | apply below_drew1 | refine below_set ?_ GE103.out) | exact HB.out)⟩
      · rw [if_neg c4] at H
        have c4b0 : decide (0 ≤ a0_1) = false := decide_eq_false c4
        clear c4
        obtain rfl := Option.some.inj H
        go_enter Try.func78, Try.ntmps78
        go_wp2_with (first | ((with_reducible refine gate_dst (N := 1) rfl ?_); refine box_event ?hg (N := 1) ?hd (cs := #[.int .i64 a0_0, .int .i64 a0_1, .int .i64 a0_2]) (t := 26) ?hr ?_; (case hd => rfl); (case hg => rfl); (case hr => first | (go_simp; done) | (go_simp; rfl)); intro gb103 hg w13 hbox hb; have n0_ := Aside0.mk (below_step (by repeat (first | (with_reducible first | exact HB.out | apply below_alloc | apply pw_below_drewN | apply below_drew1) | exact HB.out)) hb); have n1_ := Aside0.mk (hbox); have n2_ := Aside0.mk ((by rw [hg]; exact (below_size (by repeat (first | (with_reducible first | exact HB.out | apply below_alloc | apply pw_below_drewN | apply below_drew1) | exact HB.out))) : w.heap.size ≤ gb103)); have n3_ := Aside0.mk ((by rw [hg]; exact (below_size (by repeat (first | (with_reducible first | exact HB.out | apply below_alloc | apply pw_below_drewN | apply below_drew1) | exact HB.out))) : w.heap.size ≤ gb103)); clear HB; have HB := n0_; have BK103 := n1_; have GW103 := n2_; have GE103 := n3_; clear n0_ n1_ n2_ n3_; clear hb hbox hg; have hcz14_0 : w13.cell? ⟨gb103, 0, none⟩ = some (.int .i64 a0_0) := (blk_cell BK103.out 0).trans rfl; have hcz14_1 : w13.cell? ⟨gb103, 1, none⟩ = some (.int .i64 a0_1) := (blk_cell BK103.out 1).trans rfl; have hcz14_2 : w13.cell? ⟨gb103, 2, none⟩ = some (.int .i64 a0_2) := (blk_cell BK103.out 2).trans rfl; have hfz14_0 := blk_frozen BK103.out 0; have hfz14_1 := blk_frozen BK103.out 1; have hfz14_2 := blk_frozen BK103.out 2))
        all_goals
          go_ret
          exact ⟨by first | rfl | (simp [errW_none, errW_some] <;> rfl) | (simp [*, errW_none, errW_some] <;> rfl), by repeat (first | (with_reducible first | exact HB.out | apply below_alloc | apply pw_below_drewN | apply below_drew1 | refine below_set ?_ GE103.out) | exact HB.out)⟩
    · rw [if_neg c3] at H
      have c3b0 : decide (a0_0 ≤ 255) = false := decide_eq_false c3
      clear c3
      obtain rfl := Option.some.inj H
      go_enter Try.func78, Try.ntmps78
      go_wp2_with (first | ((with_reducible refine gate_dst (N := 1) rfl ?_); refine box_event ?hg (N := 1) ?hd (cs := #[.int .i64 a0_0, .int .i64 a0_1, .int .i64 a0_2]) (t := 26) ?hr ?_; (case hd => rfl); (case hg => rfl); (case hr => first | (go_simp; done) | (go_simp; rfl)); intro gb103 hg w15 hbox hb; have n0_ := Aside0.mk (below_step (by repeat (first | (with_reducible first | exact HB.out | apply below_alloc | apply pw_below_drewN | apply below_drew1) | exact HB.out)) hb); have n1_ := Aside0.mk (hbox); have n2_ := Aside0.mk ((by rw [hg]; exact (below_size (by repeat (first | (with_reducible first | exact HB.out | apply below_alloc | apply pw_below_drewN | apply below_drew1) | exact HB.out))) : w.heap.size ≤ gb103)); have n3_ := Aside0.mk ((by rw [hg]; exact (below_size (by repeat (first | (with_reducible first | exact HB.out | apply below_alloc | apply pw_below_drewN | apply below_drew1) | exact HB.out))) : w.heap.size ≤ gb103)); clear HB; have HB := n0_; have BK103 := n1_; have GW103 := n2_; have GE103 := n3_; clear n0_ n1_ n2_ n3_; clear hb hbox hg; have hcz16_0 : w15.cell? ⟨gb103, 0, none⟩ = some (.int .i64 a0_0) := (blk_cell BK103.out 0).trans rfl; have hcz16_1 : w15.cell? ⟨gb103, 1, none⟩ = some (.int .i64 a0_1) := (blk_cell BK103.out 1).trans rfl; have hcz16_2 : w15.cell? ⟨gb103, 2, none⟩ = some (.int .i64 a0_2) := (blk_cell BK103.out 2).trans rfl; have hfz16_0 := blk_frozen BK103.out 0; have hfz16_1 := blk_frozen BK103.out 1; have hfz16_2 := blk_frozen BK103.out 2))
      all_goals
        go_ret
        exact ⟨by first | rfl | (simp [errW_none, errW_some] <;> rfl) | (simp [*, errW_none, errW_some] <;> rfl), by repeat (first | (with_reducible first | exact HB.out | apply below_alloc | apply pw_below_drewN | apply below_drew1 | refine below_set ?_ GE103.out) | exact HB.out)⟩
  · rw [if_neg c2] at H
    have c2b0 : decide (0 ≤ a0_0) = false := decide_eq_false c2
    clear c2
    obtain rfl := Option.some.inj H
    go_enter Try.func78, Try.ntmps78
    go_wp2_with (first | ((with_reducible refine gate_dst (N := 1) rfl ?_); refine box_event ?hg (N := 1) ?hd (cs := #[.int .i64 a0_0, .int .i64 a0_1, .int .i64 a0_2]) (t := 26) ?hr ?_; (case hd => rfl); (case hg => rfl); (case hr => first | (go_simp; done) | (go_simp; rfl)); intro gb103 hg w17 hbox hb; have n0_ := Aside0.mk (below_step (by repeat (first | (with_reducible first | exact HB.out | apply below_alloc | apply pw_below_drewN | apply below_drew1) | exact HB.out)) hb); have n1_ := Aside0.mk (hbox); have n2_ := Aside0.mk ((by rw [hg]; exact (below_size (by repeat (first | (with_reducible first | exact HB.out | apply below_alloc | apply pw_below_drewN | apply below_drew1) | exact HB.out))) : w.heap.size ≤ gb103)); have n3_ := Aside0.mk ((by rw [hg]; exact (below_size (by repeat (first | (with_reducible first | exact HB.out | apply below_alloc | apply pw_below_drewN | apply below_drew1) | exact HB.out))) : w.heap.size ≤ gb103)); clear HB; have HB := n0_; have BK103 := n1_; have GW103 := n2_; have GE103 := n3_; clear n0_ n1_ n2_ n3_; clear hb hbox hg; have hcz18_0 : w17.cell? ⟨gb103, 0, none⟩ = some (.int .i64 a0_0) := (blk_cell BK103.out 0).trans rfl; have hcz18_1 : w17.cell? ⟨gb103, 1, none⟩ = some (.int .i64 a0_1) := (blk_cell BK103.out 1).trans rfl; have hcz18_2 : w17.cell? ⟨gb103, 2, none⟩ = some (.int .i64 a0_2) := (blk_cell BK103.out 2).trans rfl; have hfz18_0 := blk_frozen BK103.out 0; have hfz18_1 := blk_frozen BK103.out 1; have hfz18_2 := blk_frozen BK103.out 2))
    all_goals
      go_ret
      exact ⟨by first | rfl | (simp [errW_none, errW_some] <;> rfl) | (simp [*, errW_none, errW_some] <;> rfl), by repeat (first | (with_reducible first | exact HB.out | apply below_alloc | apply pw_below_drewN | apply below_drew1 | refine below_set ?_ GE103.out) | exact HB.out)⟩
end Go.Proofs.Ytiomlbkakiienaa.P
