/- Functions and loops of the given program as Lean functions, and that the code comes to what they say: written by this session's own program; Lean checks it. -/
import Derived.Test.YtiomlbkakiienaaZzPx0
namespace Go.Proofs.Ytiomlbkakiienaa.P
open Go.RowKit Go.Proofs.YtiomlbkakiienaaW.PrintWords Go.Proofs.YtiomlbkakiienaaW.PrintLast Go.Proofs.YtiomlbkakiienaaW.PrintMore
attribute [local go_sem] max2_int min2_int max_two min_two max_three min_three max_four min_four   -- for this text's walks alone
set_option linter.unusedVariables false
set_option linter.unusedSimpArgs false
def carillonlaw09_few.l0 : Nat → List (S43) → Int → Option (Bool)
  | 0, _, _ => none
  | k + 1, x0, x3 => if x3 < (x0.length : Int) then (if 0 ≤ x3 then (if (((rd_T43 x0 x3).f1).size : Int) > 600 then (some false) else (carillonlaw09_few.l0 k x0 (wrap64 (x3 + 1)))) else (none)) else (some (decide ((x0.length : Int) ≤ 20)))
def carillonlaw09_few.f (k : Nat) (l0 : List (S43)) : Option (Bool) := carillonlaw09_few.l0 k l0 0
set_option maxHeartbeats 8000000 in
set_option maxRecDepth 100000 in
theorem carillonlaw09_few.calls (k : Nat) (A0 : Option Addr) (c0 : Nat) (l0 : List (S43)) (r : Bool) (w : World) (hr0 : Kd.C k43 w A0 l0.length l0) (hc0 : l0.length ≤ c0) (h : carillonlaw09_few.f k l0 = some r) :
    Calls Try.prog 9 #[.slice A0 l0.length c0] w fun e w' => e = .returned (.bool r) ∧ Drawn0 w w' := by
  have HR0 := Aside0.mk hr0
  have HC0 := Aside0.mk hc0
  clear hr0 hc0
  have H : (carillonlaw09_few.l0 k l0 0) = some r := h
  clear h
  have H' := Aside0.mk H
  clear H
  go_enter Try.func9, Try.ntmps9
  go_wp2
  go_loopg [3] k (fun kq v3 w' => ∃ (x3_1 : Int), v3 = .int .i64 x3_1 ∧ Aside0 (carillonlaw09_few.l0 kq l0 x3_1 = some r) ∧ Aside0 (kq ≤ k) ∧ Drawn0 w w')
  case atStart => exact ⟨(0), (by first | rfl | (simp; done) | (simp [*]; done)), H', ⟨Nat.le_refl _⟩, by repeat (first | exact Drawn0.refl _ | apply Drawn0.step)⟩
  case round =>
    clear H'
    obtain ⟨x3_1, rfl, HA, HK1, ⟨m1, rfl⟩⟩ := hrel
    cases gk with
    | zero => exact absurd HA.out (by simp [carillonlaw09_few.l0])
    | succ k1 =>
      have H := HA.out
      clear HA
      simp only [carillonlaw09_few.l0] at H
      by_cases c2 : x3_1 < (l0.length : Int)
      · rw [if_pos c2] at H
        have c2b0 : decide (x3_1 < (l0.length : Int)) = true := decide_eq_true c2
        clear c2
        by_cases c3 : 0 ≤ x3_1
        · rw [if_pos c3] at H
          have c3b0 : decide (0 ≤ x3_1) = true := decide_eq_true c3
          clear c3
          by_cases c4 : (((rd_T43 l0 x3_1).f1).size : Int) > 600
          · rw [if_pos c4] at H
            have c4b0 : decide (600 < (((rd_T43 l0 x3_1).f1).size : Int)) = true := decide_eq_true c4
            have c4b1 : decide (600 < ((rd_T43 l0 x3_1).f1).size) = true := decide_eq_true (by omega)
            clear c4
            obtain rfl := Option.some.inj H
            have p101 : 0 ≤ (x3_1 : Int) := of_decide_eq_true (by first | (with_reducible assumption) | assumption)
            have q101 : x3_1 < (l0.length : Int) := of_decide_eq_true (by first | (with_reducible assumption) | assumption)
            obtain ⟨ad101, e101, hx101_0, hx101_1⟩ := at_T43 HR0.out x3_1 p101 q101
            cases e101
            replace p101 := eq_true p101
            replace q101 := eq_true q101
            go_wp2
            all_goals
              go_ret
              exact ⟨by first | rfl | (simp; done) | (simp [*]; done), by repeat (first | exact Drawn0.refl _ | apply Drawn0.step)⟩
          · rw [if_neg c4] at H
            have c4b0 : decide (600 < (((rd_T43 l0 x3_1).f1).size : Int)) = false := decide_eq_false c4
            have c4b1 : decide (600 < ((rd_T43 l0 x3_1).f1).size) = false := decide_eq_false (by omega)
            clear c4
            have H' := Aside0.mk H
            clear H
            have p101 : 0 ≤ (x3_1 : Int) := of_decide_eq_true (by first | (with_reducible assumption) | assumption)
            have q101 : x3_1 < (l0.length : Int) := of_decide_eq_true (by first | (with_reducible assumption) | assumption)
            obtain ⟨ad101, e101, hx101_0, hx101_1⟩ := at_T43 HR0.out x3_1 p101 q101
            cases e101
            replace p101 := eq_true p101
            replace q101 := eq_true q101
            go_wp2
            go_roundg k1
            case measure => have := HK1.out; omega
            case rel => exact ⟨(wrap64 (x3_1 + 1)), (by first | rfl | (simp; done) | (simp [*]; done)), H', ⟨by have := HK1.out; omega⟩, by repeat (first | exact Drawn0.refl _ | apply Drawn0.step)⟩
        · rw [if_neg c3] at H
          exact absurd H (by simp)
      · rw [if_neg c2] at H
        have c2b0 : decide (x3_1 < (l0.length : Int)) = false := decide_eq_false c2
        clear c2
        obtain rfl := Option.some.inj H
        go_wp2
        all_goals
          go_ret
          exact ⟨by first | rfl | (simp; done) | (simp [*]; done), by repeat (first | exact Drawn0.refl _ | apply Drawn0.step)⟩
def header_in.f (a0 : Int) (a1 : Int) (a2 : Int) : Option (Bool) := if a0 ≥ a1 then (some (decide (a0 ≤ a2))) else (some false)
set_option maxHeartbeats 8000000 in
set_option maxRecDepth 100000 in
theorem header_in.calls (a0 : Int) (a1 : Int) (a2 : Int) (r : Bool) (w : World) (h : header_in.f a0 a1 a2 = some r) :
    Calls Try.prog 44 #[.int .i64 a0, .int .i64 a1, .int .i64 a2] w fun e w' => e = .returned (.bool r) ∧ Drawn0 w w' := by
  have H : (if a0 ≥ a1 then (some (decide (a0 ≤ a2))) else (some false)) = some r := h
  clear h
  by_cases c4 : a0 ≥ a1
  · rw [if_pos c4] at H
    have c4b0 : decide (a1 ≤ a0) = true := decide_eq_true c4
    clear c4
    obtain rfl := Option.some.inj H
    go_enter Try.func44, Try.ntmps44
    go_wp2
    all_goals
      go_ret
      exact ⟨by first | rfl | (simp; done) | (simp [*]; done), by repeat (first | exact Drawn0.refl _ | apply Drawn0.step)⟩
  · rw [if_neg c4] at H
    have c4b0 : decide (a1 ≤ a0) = false := decide_eq_false c4
    clear c4
    obtain rfl := Option.some.inj H
    go_enter Try.func44, Try.ntmps44
    go_wp2
    all_goals
      go_ret
      exact ⟨by first | rfl | (simp; done) | (simp [*]; done), by repeat (first | exact Drawn0.refl _ | apply Drawn0.step)⟩
def header_Known.j0 : Nat → Int → Bool → Option (Bool)
  | 0, _, _ => none
  | k + 1, x3, x4 => if x4 = true then (some true) else (if x3 = 8 then (some true) else (if x3 = 9 then (some true) else (if x3 = 10 then (some true) else (if x3 = 11 then (some true) else (if x3 = 12 then (some true) else (if x3 = 13 then (some true) else (some false)))))))
def header_Known.f (k : Nat) (a0 : Int) : Option (Bool) := if a0 = 0 then (header_Known.j0 k a0 (a0 == 0)) else (if a0 = 1 then (header_Known.j0 k a0 (a0 == 1)) else (if a0 = 2 then (header_Known.j0 k a0 (a0 == 2)) else (header_Known.j0 k a0 (a0 == 3))))
set_option maxHeartbeats 8000000 in
set_option maxRecDepth 100000 in
theorem header_Known.calls (k : Nat) (a0 : Int) (r : Bool) (w : World) (h : header_Known.f k a0 = some r) :
    Calls Try.prog 60 #[.int .i64 a0] w fun e w' => e = .returned (.bool r) ∧ Drawn0 w w' := by
  have H : (if a0 = 0 then (header_Known.j0 k a0 (a0 == 0)) else (if a0 = 1 then (header_Known.j0 k a0 (a0 == 1)) else (if a0 = 2 then (header_Known.j0 k a0 (a0 == 2)) else (header_Known.j0 k a0 (a0 == 3))))) = some r := h
  clear h
  have HC2 := Aside0.mk H
  clear H
  go_enter Try.func60, Try.ntmps60
  go_upto_if 4 with (fail)
  go_cut [4] (fun v4 wc => ∃ (kq : Nat) (x4_1 : Bool), v4 = .bool x4_1 ∧ Aside0 (header_Known.j0 kq a0 x4_1 = some r) ∧ Aside0 (kq ≤ k) ∧ Drawn0 w wc)
  case first =>
    have H := HC2.out
    clear HC2
    by_cases c3 : a0 = 0
    · rw [if_pos c3] at H
      have c3b0 : (a0 == 0) = true := beq_iff_eq.mpr c3
      have c3b1 : (a0 != 0) = false := bne_eq_false_iff_eq.mpr c3
      clear c3
      (first | rw [c3b0] | (simp only [i64_w, i32_w]; rw [c3b0]) | skip)
      have H' := Aside0.mk H
      clear H
      go_wp2
      go_meet
      case rel => exact ⟨_, ((a0 == 0)), (by first | rfl | (simp; done) | (simp [*]; done)), H', ⟨by first | omega | exact Nat.le_refl _⟩, by repeat (first | exact Drawn0.refl _ | apply Drawn0.step)⟩
    · rw [if_neg c3] at H
      have c3b0 : (a0 == 0) = false := beq_eq_false_iff_ne.mpr c3
      have c3b1 : (a0 != 0) = true := bne_iff_ne.mpr c3
      (first | rw [c3b0] | (simp only [i64_w, i32_w]; rw [c3b0]) | skip)
      by_cases c4 : a0 = 1
      · rw [if_pos c4] at H
        have c4b0 : (a0 == 1) = true := beq_iff_eq.mpr c4
        have c4b1 : (a0 != 1) = false := bne_eq_false_iff_eq.mpr c4
        clear c4
        have H' := Aside0.mk H
        clear H
        go_wp2
        go_meet
        case rel => exact ⟨_, ((a0 == 1)), (by first | rfl | (simp; done) | (simp [*]; done)), H', ⟨by first | omega | exact Nat.le_refl _⟩, by repeat (first | exact Drawn0.refl _ | apply Drawn0.step)⟩
      · rw [if_neg c4] at H
        have c4b0 : (a0 == 1) = false := beq_eq_false_iff_ne.mpr c4
        have c4b1 : (a0 != 1) = true := bne_iff_ne.mpr c4
        by_cases c5 : a0 = 2
        · rw [if_pos c5] at H
          have c5b0 : (a0 == 2) = true := beq_iff_eq.mpr c5
          have c5b1 : (a0 != 2) = false := bne_eq_false_iff_eq.mpr c5
          clear c5
          have H' := Aside0.mk H
          clear H
          go_wp2
          go_meet
          case rel => exact ⟨_, ((a0 == 2)), (by first | rfl | (simp; done) | (simp [*]; done)), H', ⟨by first | omega | exact Nat.le_refl _⟩, by repeat (first | exact Drawn0.refl _ | apply Drawn0.step)⟩
        · rw [if_neg c5] at H
          have c5b0 : (a0 == 2) = false := beq_eq_false_iff_ne.mpr c5
          have c5b1 : (a0 != 2) = true := bne_iff_ne.mpr c5
          have H' := Aside0.mk H
          clear H
          go_wp2
          go_meet
          case rel => exact ⟨_, ((a0 == 3)), (by first | rfl | (simp; done) | (simp [*]; done)), H', ⟨by first | omega | exact Nat.le_refl _⟩, by repeat (first | exact Drawn0.refl _ | apply Drawn0.step)⟩
  case rest =>
    clear HC2
    try clear p2
    try clear c3
    try clear c3b0
    try clear c3b1
    try clear c4
    try clear c4b0
    try clear c4b1
    try clear c5
    try clear c5b0
    try clear c5b1
    obtain ⟨kq, x4_1, rfl, HA, HJ1, ⟨mc1, rfl⟩⟩ := hcut
    cases kq with
    | zero => exact absurd HA.out (by simp [header_Known.j0])
    | succ kj1 =>
      have H := HA.out
      clear HA
      simp only [header_Known.j0] at H
      by_cases c6 : x4_1 = true
      · subst c6
        have H1 : (some true) = some r := by rw [if_pos rfl] at H; exact H
        clear H
        have H := H1
        clear H1
        obtain rfl := Option.some.inj H
        go_wp2
        all_goals
          go_ret
          exact ⟨by first | rfl | (simp; done) | (simp [*]; done), by repeat (first | exact Drawn0.refl _ | apply Drawn0.step)⟩
      · replace c6 := Bool.eq_false_iff.mpr c6
        subst c6
        have H1 : (if a0 = 8 then (some true) else (if a0 = 9 then (some true) else (if a0 = 10 then (some true) else (if a0 = 11 then (some true) else (if a0 = 12 then (some true) else (if a0 = 13 then (some true) else (some false))))))) = some r := by rw [if_neg (show ¬ (false = true) by decide)] at H; exact H
        clear H
        have H := H1
        clear H1
        by_cases c7 : a0 = 8
        · rw [if_pos c7] at H
          have c7b0 : (a0 == 8) = true := beq_iff_eq.mpr c7
          have c7b1 : (a0 != 8) = false := bne_eq_false_iff_eq.mpr c7
          clear c7
          obtain rfl := Option.some.inj H
          go_wp2
          all_goals
            go_ret
            exact ⟨by first | rfl | (simp; done) | (simp [*]; done), by repeat (first | exact Drawn0.refl _ | apply Drawn0.step)⟩
        · rw [if_neg c7] at H
          have c7b0 : (a0 == 8) = false := beq_eq_false_iff_ne.mpr c7
          have c7b1 : (a0 != 8) = true := bne_iff_ne.mpr c7
          by_cases c8 : a0 = 9
          · rw [if_pos c8] at H
            have c8b0 : (a0 == 9) = true := beq_iff_eq.mpr c8
            have c8b1 : (a0 != 9) = false := bne_eq_false_iff_eq.mpr c8
            clear c8
            obtain rfl := Option.some.inj H
            go_wp2
            all_goals
              go_ret
              exact ⟨by first | rfl | (simp; done) | (simp [*]; done), by repeat (first | exact Drawn0.refl _ | apply Drawn0.step)⟩
          · rw [if_neg c8] at H
            have c8b0 : (a0 == 9) = false := beq_eq_false_iff_ne.mpr c8
            have c8b1 : (a0 != 9) = true := bne_iff_ne.mpr c8
            by_cases c9 : a0 = 10
            · rw [if_pos c9] at H
              have c9b0 : (a0 == 10) = true := beq_iff_eq.mpr c9
              have c9b1 : (a0 != 10) = false := bne_eq_false_iff_eq.mpr c9
              clear c9
              obtain rfl := Option.some.inj H
              go_wp2
              all_goals
                go_ret
                exact ⟨by first | rfl | (simp; done) | (simp [*]; done), by repeat (first | exact Drawn0.refl _ | apply Drawn0.step)⟩
            · rw [if_neg c9] at H
              have c9b0 : (a0 == 10) = false := beq_eq_false_iff_ne.mpr c9
              have c9b1 : (a0 != 10) = true := bne_iff_ne.mpr c9
              by_cases c10 : a0 = 11
              · rw [if_pos c10] at H
                have c10b0 : (a0 == 11) = true := beq_iff_eq.mpr c10
                have c10b1 : (a0 != 11) = false := bne_eq_false_iff_eq.mpr c10
                clear c10
                obtain rfl := Option.some.inj H
                go_wp2
                all_goals
                  go_ret
                  exact ⟨by first | rfl | (simp; done) | (simp [*]; done), by repeat (first | exact Drawn0.refl _ | apply Drawn0.step)⟩
              · rw [if_neg c10] at H
                have c10b0 : (a0 == 11) = false := beq_eq_false_iff_ne.mpr c10
                have c10b1 : (a0 != 11) = true := bne_iff_ne.mpr c10
                by_cases c11 : a0 = 12
                · rw [if_pos c11] at H
                  have c11b0 : (a0 == 12) = true := beq_iff_eq.mpr c11
                  have c11b1 : (a0 != 12) = false := bne_eq_false_iff_eq.mpr c11
                  clear c11
                  obtain rfl := Option.some.inj H
                  go_wp2
                  all_goals
                    go_ret
                    exact ⟨by first | rfl | (simp; done) | (simp [*]; done), by repeat (first | exact Drawn0.refl _ | apply Drawn0.step)⟩
                · rw [if_neg c11] at H
                  have c11b0 : (a0 == 12) = false := beq_eq_false_iff_ne.mpr c11
                  have c11b1 : (a0 != 12) = true := bne_iff_ne.mpr c11
                  by_cases c12 : a0 = 13
                  · rw [if_pos c12] at H
                    have c12b0 : (a0 == 13) = true := beq_iff_eq.mpr c12
                    have c12b1 : (a0 != 13) = false := bne_eq_false_iff_eq.mpr c12
                    clear c12
                    obtain rfl := Option.some.inj H
                    go_wp2
                    all_goals
                      go_ret
                      exact ⟨by first | rfl | (simp; done) | (simp [*]; done), by repeat (first | exact Drawn0.refl _ | apply Drawn0.step)⟩
                  · rw [if_neg c12] at H
                    have c12b0 : (a0 == 13) = false := beq_eq_false_iff_ne.mpr c12
                    have c12b1 : (a0 != 13) = true := bne_iff_ne.mpr c12
                    obtain rfl := Option.some.inj H
                    go_wp2
                    all_goals
                      go_ret
                      exact ⟨by first | rfl | (simp; done) | (simp [*]; done), by repeat (first | exact Drawn0.refl _ | apply Drawn0.step)⟩
def ident_May.f (a0_0 : Int) (a0_1 : Int) : Option (Bool) := if a0_1 ≥ 0 then (some (decide (a0_1 ≤ 65535))) else (some false)
set_option maxHeartbeats 8000000 in
set_option maxRecDepth 100000 in
theorem ident_May.calls (a0_0 : Int) (a0_1 : Int) (r : Bool) (w : World) (h : ident_May.f a0_0 a0_1 = some r) :
    Calls Try.prog 76 #[.agg #[.int .u64 a0_0, .int .i64 a0_1]] w fun e w' => e = .returned (.bool r) ∧ Below w.heap.size w w' := by
  have hu24 := Try.underlying24
  have HB := Aside0.mk (Below.refl w.heap.size w)
  have H : (if a0_1 ≥ 0 then (some (decide (a0_1 ≤ 65535))) else (some false)) = some r := h
  clear h
  by_cases c2 : a0_1 ≥ 0
  · rw [if_pos c2] at H
    have c2b0 : decide (0 ≤ a0_1) = true := decide_eq_true c2
    clear c2
    obtain rfl := Option.some.inj H
    go_enter Try.func76, Try.ntmps76
    go_wp2_with (first | ((with_reducible refine gate_dst (N := 1) rfl ?_); refine box_event ?hg (N := 1) ?hd (cs := #[.int .u64 a0_0, .int .i64 a0_1]) (t := 24) ?hr ?_; (case hd => rfl); (case hg => rfl); (case hr => first | (go_simp; done) | (go_simp; rfl)); intro gb102 hg w3 hbox hb; have n0_ := Aside0.mk (below_step (by repeat (first | (with_reducible first | exact HB.out | apply below_alloc | apply pw_below_drewN | apply below_drew1) | exact HB.out)) hb); have n1_ := Aside0.mk (hbox); have n2_ := Aside0.mk ((by rw [hg]; exact (below_size (by repeat (first | (with_reducible first | exact HB.out | apply below_alloc | apply pw_below_drewN | apply below_drew1) | exact HB.out))) : w.heap.size ≤ gb102)); have n3_ := Aside0.mk ((by rw [hg]; exact (below_size (by repeat (first | (with_reducible first | exact HB.out | apply below_alloc | apply pw_below_drewN | apply below_drew1) | exact HB.out))) : w.heap.size ≤ gb102)); clear HB; have HB := n0_; have BK102 := n1_; have GW102 := n2_; have GE102 := n3_; clear n0_ n1_ n2_ n3_; clear hb hbox hg; have hcz4_0 : w3.cell? ⟨gb102, 0, none⟩ = some (.int .u64 a0_0) := (blk_cell BK102.out 0).trans rfl; have hcz4_1 : w3.cell? ⟨gb102, 1, none⟩ = some (.int .i64 a0_1) := (blk_cell BK102.out 1).trans rfl; have hfz4_0 := blk_frozen BK102.out 0; have hfz4_1 := blk_frozen BK102.out 1))
    all_goals
      go_ret
      exact ⟨by first | rfl | (simp [errW_none, errW_some] <;> rfl) | (simp [*, errW_none, errW_some] <;> rfl), by repeat (first | (with_reducible first | exact HB.out | apply below_alloc | apply pw_below_drewN | apply below_drew1 | refine below_set ?_ GE102.out) | exact HB.out)⟩
  · rw [if_neg c2] at H
    have c2b0 : decide (0 ≤ a0_1) = false := decide_eq_false c2
    clear c2
    obtain rfl := Option.some.inj H
    go_enter Try.func76, Try.ntmps76
    go_wp2_with (first | ((with_reducible refine gate_dst (N := 1) rfl ?_); refine box_event ?hg (N := 1) ?hd (cs := #[.int .u64 a0_0, .int .i64 a0_1]) (t := 24) ?hr ?_; (case hd => rfl); (case hg => rfl); (case hr => first | (go_simp; done) | (go_simp; rfl)); intro gb102 hg w5 hbox hb; have n0_ := Aside0.mk (below_step (by repeat (first | (with_reducible first | exact HB.out | apply below_alloc | apply pw_below_drewN | apply below_drew1) | exact HB.out)) hb); have n1_ := Aside0.mk (hbox); have n2_ := Aside0.mk ((by rw [hg]; exact (below_size (by repeat (first | (with_reducible first | exact HB.out | apply below_alloc | apply pw_below_drewN | apply below_drew1) | exact HB.out))) : w.heap.size ≤ gb102)); have n3_ := Aside0.mk ((by rw [hg]; exact (below_size (by repeat (first | (with_reducible first | exact HB.out | apply below_alloc | apply pw_below_drewN | apply below_drew1) | exact HB.out))) : w.heap.size ≤ gb102)); clear HB; have HB := n0_; have BK102 := n1_; have GW102 := n2_; have GE102 := n3_; clear n0_ n1_ n2_ n3_; clear hb hbox hg; have hcz6_0 : w5.cell? ⟨gb102, 0, none⟩ = some (.int .u64 a0_0) := (blk_cell BK102.out 0).trans rfl; have hcz6_1 : w5.cell? ⟨gb102, 1, none⟩ = some (.int .i64 a0_1) := (blk_cell BK102.out 1).trans rfl; have hfz6_0 := blk_frozen BK102.out 0; have hfz6_1 := blk_frozen BK102.out 1))
    all_goals
      go_ret
      exact ⟨by first | rfl | (simp [errW_none, errW_some] <;> rfl) | (simp [*, errW_none, errW_some] <;> rfl), by repeat (first | (with_reducible first | exact HB.out | apply below_alloc | apply pw_below_drewN | apply below_drew1 | refine below_set ?_ GE102.out) | exact HB.out)⟩
def header_Check.f (k : Nat) (a0_0 a0_1 a0_2 a0_3 a0_4 a0_5 a0_6 a0_7 a0_8 a0_9 a0_10 a0_11 a0_12 a0_13 a0_14 a0_15 a0_16 a0_17 a0_18 a0_19 a0_20 a0_21 a0_22 : Int) : Option (Bool) := (header_Known.f k a0_0).bind fun t6 => (if t6 = true then ((header_in.f a0_1 0 255).bind fun t7 => (if t7 = true then ((header_in.f a0_2 0 65535).bind fun t8 => (if t8 = true then ((ident_May.f a0_4 a0_5).bind fun t9 => (if t9 = true then ((header_in.f a0_6 0 65535).bind fun t10 => (if t10 = true then ((header_in.f a0_7 (-128) 127).bind fun t11 => (some t11)) else (some false))) else (some false))) else (some false))) else (some false))) else (some false))
abbrev header_Check.v0 (x0 x1 x2 x3 x4 x5 x6 x7 x8 x9 x10 x11 x12 x13 x14 x15 x16 x17 x18 x19 x20 x21 x22 : Int) : Value := .agg #[.int .i64 x0, .int .i64 x1, .int .i64 x2, .int .i64 x3, .int .u64 x4, .int .i64 x5, .int .i64 x6, .int .i64 x7, .int .i64 x8, .int .u64 x9, .int .i64 x10, .int .i64 x11, .int .i64 x12, .int .i64 x13, .int .i64 x14, .int .i64 x15, .int .i64 x16, .int .u64 x17, .int .i64 x18, .int .i64 x19, .int .i64 x20, .int .i64 x21, .int .i64 x22]
abbrev header_Check.c1 (x0 x1 x2 x3 x4 x5 x6 x7 x8 x9 x10 x11 x12 x13 x14 x15 x16 x17 x18 x19 x20 x21 x22 : Int) : Array Value := #[.int .i64 x0, .int .i64 x1, .int .i64 x2, .int .i64 x3, .int .u64 x4, .int .i64 x5, .int .i64 x6, .int .i64 x7, .int .i64 x8, .int .u64 x9, .int .i64 x10, .int .i64 x11, .int .i64 x12, .int .i64 x13, .int .i64 x14, .int .i64 x15, .int .i64 x16, .int .u64 x17, .int .i64 x18, .int .i64 x19, .int .i64 x20, .int .i64 x21, .int .i64 x22]
open Go.Proofs.Ytiomlbkakiienaa.E in
set_option maxHeartbeats 60000000 in
set_option maxRecDepth 100000 in
theorem header_Check.calls (k : Nat) (ab ac af ax ad ae av aw ay az ag ah ai aj ak al am an ao ap aq ar au : Int) (r : Bool) (w : World) (h : header_Check.f k ab ac af ax ad ae av aw ay az ag ah ai aj ak al am an ao ap aq ar au = some r) :
    Calls Try.prog 43 #[.agg #[.int .i64 ab, .int .i64 ac, .int .i64 af, .int .i64 ax, .int .u64 ad, .int .i64 ae, .int .i64 av, .int .i64 aw, .int .i64 ay, .int .u64 az, .int .i64 ag, .int .i64 ah, .int .i64 ai, .int .i64 aj, .int .i64 ak, .int .i64 al, .int .i64 am, .int .u64 an, .int .i64 ao, .int .i64 ap, .int .i64 aq, .int .i64 ar, .int .i64 au]] w fun e w' => e = .returned (.bool r) ∧ Below w.heap.size w w' := by
 have H := h
 clear h
 unfold header_Check.f at H
 obtain ⟨t6, aI, H⟩ := Option.bind_eq_some_iff.mp H
 by_cases c1 : t6 = true
 rotate_left
 ·rw [if_neg c1] at H
  obtain rfl := Option.some.inj H
  refine calls_of_wp (fn := Try.f43) (by kernel_rfl) rfl ?_
  have hS := St.enter #[(header_Check.v0 ab ac af ax ad ae av aw ay az ag ah ai aj ak al am an ao ap aq ar au)] 31 (by simp) [(0, (header_Check.v0 ab ac af ax ad ae av aw ay az ag ah ai aj ak al am an ao ap aq ar au))] (by simp)
  have aC := Below.refl w.heap.size w
  refine wp_seq_k (fun K1 aD => ?_)
  refine reg_seq (I := I1_ w) (ps := [IsB (header_Check.c1 ab ac af ax ad ae av aw ay az ag ah ai aj ak al am an ao ap aq ar au) 28 w.heap.size, VB false]) (by kernel_rfl) ?_ ?_ rfl hS aC ?_ ?_
  ·exact bs1
  ·exact .cons (Stays.b _ _ _) (.v (.nil))
  ·refine .on rfl (fun a w hS hI hp => does_var (x_box rfl (congrArg Value.cells (hS.get 0 rfl))) (hI).size) ?_
   refine .on rfl (fun a w hS hI hp => does_val (x_assign rfl (rfl)) rfl) ?_
   exact .nil
  clear hS
  intro aL w3 hS aF hp
  replace hS := hS.nil
  obtain ⟨g4, aA, aG, aa⟩ := (show IsB _ 28 _ (sl _ 1) _ from hp 0 (by decide))
  have hS := hS.cons aA
  clear hp aA
  refine aD _ _ ?_
  refine wp_seq_k (fun K5 aE => ?_)
  refine reg_seq (I := I2_ w w3) (ps := [VP g4 0, VI ab, VB t6, VB t6, VU, VU, VU, VB false, VB false, VU, VU, VU, VB false, VB false, VU, VU, VU, VB false, VB false, VU, VU, VU, VB false, VB false, VU, VU, VU, VB false, VB false]) (by kernel_rfl) ?_ ?_ rfl hS ⟨aF, (bR w3)⟩ ?_ ?_
  ·exact bs2
  ·exact .v (.v (.v (.v (.v (.v (.v (.v (.v (.v (.v (.v (.v (.v (.v (.v (.v (.v (.v (.v (.v (.v (.v (.v (.v (.v (.v (.v (.v (.nil)))))))))))))))))))))))))))))
  ·refine .on rfl (fun a w hS hI hp => does_val (x_fieldE (b := 0) rfl (hS.get 0 rfl) Try.underlying28 rfl rfl (by kernel_rfl)) rfl) ?_
   refine .on rfl (fun a w hS hI hp => does_val (x_load1 (d := .int .i64) rfl (hp.V 0 rfl rfl) (by kernel_rfl) rfl ((blk_cell (((hI.2).block g4 (blk_lt aa)).trans aa) 0).trans rfl)) rfl) ?_
   refine .on rfl (fun a w hS hI hp => does_call (by kernel_rfl) (ar1 (hp.V 1 rfl rfl)) ((header_Known.calls k ab t6 _  aI).mono fun _ _ h => ⟨_, h.1, h.2.below, rfl⟩)) ?_
   refine .mv 2 rfl rfl rfl ?_
   iterate 3 refine .sn 3 6 rfl rfl ((Bool.eq_false_iff.2 c1)) ?_
   refine .pf 3 rfl rfl rfl ((Bool.eq_false_iff.2 c1)) (fun _ => rfl) ?_
   refine .mv 7 rfl rfl rfl ?_
   iterate 3 refine .sn 8 11 rfl rfl rfl ?_
   refine .pf 8 rfl rfl rfl rfl (fun _ => rfl) ?_
   refine .mv 12 rfl rfl rfl ?_
   iterate 3 refine .sn 13 16 rfl rfl rfl ?_
   refine .pf 13 rfl rfl rfl rfl (fun _ => rfl) ?_
   refine .mv 17 rfl rfl rfl ?_
   iterate 3 refine .sn 18 21 rfl rfl rfl ?_
   refine .pf 18 rfl rfl rfl rfl (fun _ => rfl) ?_
   refine .mv 22 rfl rfl rfl ?_
   iterate 3 refine .sn 23 26 rfl rfl rfl ?_
   refine .pf 23 rfl rfl rfl rfl (fun _ => rfl) ?_
   refine .asg 27 rfl rfl rfl ?_
   exact .nil
  clear hS
  intro aZ w8 hS aU hp
  replace hS := hS.nil
  have aB : sl _ 2 = .bool false := hp 28 (by decide)
  have hS := hS.cons aB
  clear hp aB
  refine aE _ _ ?_
  refine wp_ret ?_
  (try simp only [Exit.then, Exit.inBlock, Exit.jump, Exit.noGoto])
  exact bodyPost_ret (v := .bool false) (results_single rfl (Vals.at (hS.get 0 rfl) .nil)) hS.nodef ⟨rfl, aU.1⟩
 rw [if_pos c1] at H
 obtain ⟨t7, aK, H⟩ := Option.bind_eq_some_iff.mp H
 by_cases c2 : t7 = true
 rotate_left
 ·rw [if_neg c2] at H
  obtain rfl := Option.some.inj H
  refine calls_of_wp (fn := Try.f43) (by kernel_rfl) rfl ?_
  have hS := St.enter #[(header_Check.v0 ab ac af ax ad ae av aw ay az ag ah ai aj ak al am an ao ap aq ar au)] 31 (by simp) [(0, (header_Check.v0 ab ac af ax ad ae av aw ay az ag ah ai aj ak al am an ao ap aq ar au))] (by simp)
  have aC := Below.refl w.heap.size w
  refine wp_seq_k (fun K1 aD => ?_)
  refine reg_seq (I := I1_ w) (ps := [IsB (header_Check.c1 ab ac af ax ad ae av aw ay az ag ah ai aj ak al am an ao ap aq ar au) 28 w.heap.size, VB false]) (by kernel_rfl) ?_ ?_ rfl hS aC ?_ ?_
  ·exact bs1
  ·exact .cons (Stays.b _ _ _) (.v (.nil))
  ·refine .on rfl (fun a w hS hI hp => does_var (x_box rfl (congrArg Value.cells (hS.get 0 rfl))) (hI).size) ?_
   refine .on rfl (fun a w hS hI hp => does_val (x_assign rfl (rfl)) rfl) ?_
   exact .nil
  clear hS
  intro aL w3 hS aF hp
  replace hS := hS.nil
  obtain ⟨g4, aA, aG, aa⟩ := (show IsB _ 28 _ (sl _ 1) _ from hp 0 (by decide))
  have hS := hS.cons aA
  clear hp aA
  refine aD _ _ ?_
  refine wp_seq_k (fun K5 aE => ?_)
  refine reg_seq (I := I2_ w w3) (ps := [VP g4 0, VI ab, VB t6, VB t6, VP g4 1, VI ac, VB t7, VB t7, VB t7, VU, VU, VU, VB false, VB false, VU, VU, VU, VB false, VB false, VU, VU, VU, VB false, VB false, VU, VU, VU, VB false, VB false]) (by kernel_rfl) ?_ ?_ rfl hS ⟨aF, (bR w3)⟩ ?_ ?_
  ·exact bs2
  ·exact .v (.v (.v (.v (.v (.v (.v (.v (.v (.v (.v (.v (.v (.v (.v (.v (.v (.v (.v (.v (.v (.v (.v (.v (.v (.v (.v (.v (.v (.nil)))))))))))))))))))))))))))))
  ·refine .on rfl (fun a w hS hI hp => does_val (x_fieldE (b := 0) rfl (hS.get 0 rfl) Try.underlying28 rfl rfl (by kernel_rfl)) rfl) ?_
   refine .on rfl (fun a w hS hI hp => does_val (x_load1 (d := .int .i64) rfl (hp.V 0 rfl rfl) (by kernel_rfl) rfl ((blk_cell (((hI.2).block g4 (blk_lt aa)).trans aa) 0).trans rfl)) rfl) ?_
   refine .on rfl (fun a w hS hI hp => does_call (by kernel_rfl) (ar1 (hp.V 1 rfl rfl)) ((header_Known.calls k ab t6 _  aI).mono fun _ _ h => ⟨_, h.1, h.2.below, rfl⟩)) ?_
   refine .mv 2 rfl rfl rfl ?_
   refine .oy 3 6 rfl rfl c1 (fun a w hS hI hp => does_val (x_fieldE (b := 0) rfl (hS.get 0 rfl) Try.underlying28 rfl rfl (by kernel_rfl)) rfl) ?_
   refine .oy 3 6 rfl rfl c1 (fun a w hS hI hp => does_val (x_load1 (d := .int .i64) rfl (hp.V 4 rfl rfl) (by kernel_rfl) rfl ((blk_cell (((hI.2).block g4 (blk_lt aa)).trans aa) 1).trans rfl)) rfl) ?_
   refine .oy 3 6 rfl rfl c1 (fun a w hS hI hp => does_call (by kernel_rfl) (ar3 (hp.V 5 rfl rfl) (rfl) (rfl)) ((header_in.calls ac 0 255 t7 _  aK).mono fun _ _ h => ⟨_, h.1, h.2.below, rfl⟩)) ?_
   refine .pt 3 6 rfl rfl rfl c1 rfl ?_
   refine .mv 7 rfl rfl rfl ?_
   iterate 3 refine .sn 8 11 rfl rfl ((Bool.eq_false_iff.2 c2)) ?_
   refine .pf 8 rfl rfl rfl ((Bool.eq_false_iff.2 c2)) (fun _ => rfl) ?_
   refine .mv 12 rfl rfl rfl ?_
   iterate 3 refine .sn 13 16 rfl rfl rfl ?_
   refine .pf 13 rfl rfl rfl rfl (fun _ => rfl) ?_
   refine .mv 17 rfl rfl rfl ?_
   iterate 3 refine .sn 18 21 rfl rfl rfl ?_
   refine .pf 18 rfl rfl rfl rfl (fun _ => rfl) ?_
   refine .mv 22 rfl rfl rfl ?_
   iterate 3 refine .sn 23 26 rfl rfl rfl ?_
   refine .pf 23 rfl rfl rfl rfl (fun _ => rfl) ?_
   refine .asg 27 rfl rfl rfl ?_
   exact .nil
  clear hS
  intro a0 w9 hS aV hp
  replace hS := hS.nil
  have aB : sl _ 2 = .bool false := hp 28 (by decide)
  have hS := hS.cons aB
  clear hp aB
  refine aE _ _ ?_
  refine wp_ret ?_
  (try simp only [Exit.then, Exit.inBlock, Exit.jump, Exit.noGoto])
  exact bodyPost_ret (v := .bool false) (results_single rfl (Vals.at (hS.get 0 rfl) .nil)) hS.nodef ⟨rfl, aV.1⟩
 rw [if_pos c2] at H
 obtain ⟨t8, aM, H⟩ := Option.bind_eq_some_iff.mp H
 by_cases c3 : t8 = true
 rotate_left
 ·rw [if_neg c3] at H
  obtain rfl := Option.some.inj H
  refine calls_of_wp (fn := Try.f43) (by kernel_rfl) rfl ?_
  have hS := St.enter #[(header_Check.v0 ab ac af ax ad ae av aw ay az ag ah ai aj ak al am an ao ap aq ar au)] 31 (by simp) [(0, (header_Check.v0 ab ac af ax ad ae av aw ay az ag ah ai aj ak al am an ao ap aq ar au))] (by simp)
  have aC := Below.refl w.heap.size w
  refine wp_seq_k (fun K1 aD => ?_)
  refine reg_seq (I := I1_ w) (ps := [IsB (header_Check.c1 ab ac af ax ad ae av aw ay az ag ah ai aj ak al am an ao ap aq ar au) 28 w.heap.size, VB false]) (by kernel_rfl) ?_ ?_ rfl hS aC ?_ ?_
  ·exact bs1
  ·exact .cons (Stays.b _ _ _) (.v (.nil))
  ·refine .on rfl (fun a w hS hI hp => does_var (x_box rfl (congrArg Value.cells (hS.get 0 rfl))) (hI).size) ?_
   refine .on rfl (fun a w hS hI hp => does_val (x_assign rfl (rfl)) rfl) ?_
   exact .nil
  clear hS
  intro aL w3 hS aF hp
  replace hS := hS.nil
  obtain ⟨g4, aA, aG, aa⟩ := (show IsB _ 28 _ (sl _ 1) _ from hp 0 (by decide))
  have hS := hS.cons aA
  clear hp aA
  refine aD _ _ ?_
  refine wp_seq_k (fun K5 aE => ?_)
  refine reg_seq (I := I2_ w w3) (ps := [VP g4 0, VI ab, VB t6, VB t6, VP g4 1, VI ac, VB t7, VB t7, VB t7, VP g4 2, VI af, VB t8, VB t8, VB t8, VU, VU, VU, VB false, VB false, VU, VU, VU, VB false, VB false, VU, VU, VU, VB false, VB false]) (by kernel_rfl) ?_ ?_ rfl hS ⟨aF, (bR w3)⟩ ?_ ?_
  ·exact bs2
  ·exact .v (.v (.v (.v (.v (.v (.v (.v (.v (.v (.v (.v (.v (.v (.v (.v (.v (.v (.v (.v (.v (.v (.v (.v (.v (.v (.v (.v (.v (.nil)))))))))))))))))))))))))))))
  ·refine .on rfl (fun a w hS hI hp => does_val (x_fieldE (b := 0) rfl (hS.get 0 rfl) Try.underlying28 rfl rfl (by kernel_rfl)) rfl) ?_
   refine .on rfl (fun a w hS hI hp => does_val (x_load1 (d := .int .i64) rfl (hp.V 0 rfl rfl) (by kernel_rfl) rfl ((blk_cell (((hI.2).block g4 (blk_lt aa)).trans aa) 0).trans rfl)) rfl) ?_
   refine .on rfl (fun a w hS hI hp => does_call (by kernel_rfl) (ar1 (hp.V 1 rfl rfl)) ((header_Known.calls k ab t6 _  aI).mono fun _ _ h => ⟨_, h.1, h.2.below, rfl⟩)) ?_
   refine .mv 2 rfl rfl rfl ?_
   refine .oy 3 6 rfl rfl c1 (fun a w hS hI hp => does_val (x_fieldE (b := 0) rfl (hS.get 0 rfl) Try.underlying28 rfl rfl (by kernel_rfl)) rfl) ?_
   refine .oy 3 6 rfl rfl c1 (fun a w hS hI hp => does_val (x_load1 (d := .int .i64) rfl (hp.V 4 rfl rfl) (by kernel_rfl) rfl ((blk_cell (((hI.2).block g4 (blk_lt aa)).trans aa) 1).trans rfl)) rfl) ?_
   refine .oy 3 6 rfl rfl c1 (fun a w hS hI hp => does_call (by kernel_rfl) (ar3 (hp.V 5 rfl rfl) (rfl) (rfl)) ((header_in.calls ac 0 255 t7 _  aK).mono fun _ _ h => ⟨_, h.1, h.2.below, rfl⟩)) ?_
   refine .pt 3 6 rfl rfl rfl c1 rfl ?_
   refine .mv 7 rfl rfl rfl ?_
   refine .oy 8 11 rfl rfl c2 (fun a w hS hI hp => does_val (x_fieldE (b := 0) rfl (hS.get 0 rfl) Try.underlying28 rfl rfl (by kernel_rfl)) rfl) ?_
   refine .oy 8 11 rfl rfl c2 (fun a w hS hI hp => does_val (x_load1 (d := .int .i64) rfl (hp.V 9 rfl rfl) (by kernel_rfl) rfl ((blk_cell (((hI.2).block g4 (blk_lt aa)).trans aa) 2).trans rfl)) rfl) ?_
   refine .oy 8 11 rfl rfl c2 (fun a w hS hI hp => does_call (by kernel_rfl) (ar3 (hp.V 10 rfl rfl) (rfl) (rfl)) ((header_in.calls af 0 65535 t8 _  aM).mono fun _ _ h => ⟨_, h.1, h.2.below, rfl⟩)) ?_
   refine .pt 8 11 rfl rfl rfl c2 rfl ?_
   refine .mv 12 rfl rfl rfl ?_
   iterate 3 refine .sn 13 16 rfl rfl ((Bool.eq_false_iff.2 c3)) ?_
   refine .pf 13 rfl rfl rfl ((Bool.eq_false_iff.2 c3)) (fun _ => rfl) ?_
   refine .mv 17 rfl rfl rfl ?_
   iterate 3 refine .sn 18 21 rfl rfl rfl ?_
   refine .pf 18 rfl rfl rfl rfl (fun _ => rfl) ?_
   refine .mv 22 rfl rfl rfl ?_
   iterate 3 refine .sn 23 26 rfl rfl rfl ?_
   refine .pf 23 rfl rfl rfl rfl (fun _ => rfl) ?_
   refine .asg 27 rfl rfl rfl ?_
   exact .nil
  clear hS
  intro a1 a2 hS aQ hp
  replace hS := hS.nil
  have aB : sl _ 2 = .bool false := hp 28 (by decide)
  have hS := hS.cons aB
  clear hp aB
  refine aE _ _ ?_
  refine wp_ret ?_
  (try simp only [Exit.then, Exit.inBlock, Exit.jump, Exit.noGoto])
  exact bodyPost_ret (v := .bool false) (results_single rfl (Vals.at (hS.get 0 rfl) .nil)) hS.nodef ⟨rfl, aQ.1⟩
 rw [if_pos c3] at H
 obtain ⟨t9, aO, H⟩ := Option.bind_eq_some_iff.mp H
 by_cases c4 : t9 = true
 rotate_left
 ·rw [if_neg c4] at H
  obtain rfl := Option.some.inj H
  refine calls_of_wp (fn := Try.f43) (by kernel_rfl) rfl ?_
  have hS := St.enter #[(header_Check.v0 ab ac af ax ad ae av aw ay az ag ah ai aj ak al am an ao ap aq ar au)] 31 (by simp) [(0, (header_Check.v0 ab ac af ax ad ae av aw ay az ag ah ai aj ak al am an ao ap aq ar au))] (by simp)
  have aC := Below.refl w.heap.size w
  refine wp_seq_k (fun K1 aD => ?_)
  refine reg_seq (I := I1_ w) (ps := [IsB (header_Check.c1 ab ac af ax ad ae av aw ay az ag ah ai aj ak al am an ao ap aq ar au) 28 w.heap.size, VB false]) (by kernel_rfl) ?_ ?_ rfl hS aC ?_ ?_
  ·exact bs1
  ·exact .cons (Stays.b _ _ _) (.v (.nil))
  ·refine .on rfl (fun a w hS hI hp => does_var (x_box rfl (congrArg Value.cells (hS.get 0 rfl))) (hI).size) ?_
   refine .on rfl (fun a w hS hI hp => does_val (x_assign rfl (rfl)) rfl) ?_
   exact .nil
  clear hS
  intro aL w3 hS aF hp
  replace hS := hS.nil
  obtain ⟨g4, aA, aG, aa⟩ := (show IsB _ 28 _ (sl _ 1) _ from hp 0 (by decide))
  have hS := hS.cons aA
  clear hp aA
  refine aD _ _ ?_
  refine wp_seq_k (fun K5 aE => ?_)
  refine reg_seq (I := I2_ w w3) (ps := [VP g4 0, VI ab, VB t6, VB t6, VP g4 1, VI ac, VB t7, VB t7, VB t7, VP g4 2, VI af, VB t8, VB t8, VB t8, VP g4 4, IsV (.agg #[.int .u64 ad, .int .i64 ae]), VB t9, VB t9, VB t9, VU, VU, VU, VB false, VB false, VU, VU, VU, VB false, VB false]) (by kernel_rfl) ?_ ?_ rfl hS ⟨aF, (bR w3)⟩ ?_ ?_
  ·exact bs2
  ·exact .v (.v (.v (.v (.v (.v (.v (.v (.v (.v (.v (.v (.v (.v (.v (.v (.v (.v (.v (.v (.v (.v (.v (.v (.v (.v (.v (.v (.v (.nil)))))))))))))))))))))))))))))
  ·refine .on rfl (fun a w hS hI hp => does_val (x_fieldE (b := 0) rfl (hS.get 0 rfl) Try.underlying28 rfl rfl (by kernel_rfl)) rfl) ?_
   refine .on rfl (fun a w hS hI hp => does_val (x_load1 (d := .int .i64) rfl (hp.V 0 rfl rfl) (by kernel_rfl) rfl ((blk_cell (((hI.2).block g4 (blk_lt aa)).trans aa) 0).trans rfl)) rfl) ?_
   refine .on rfl (fun a w hS hI hp => does_call (by kernel_rfl) (ar1 (hp.V 1 rfl rfl)) ((header_Known.calls k ab t6 _  aI).mono fun _ _ h => ⟨_, h.1, h.2.below, rfl⟩)) ?_
   refine .mv 2 rfl rfl rfl ?_
   refine .oy 3 6 rfl rfl c1 (fun a w hS hI hp => does_val (x_fieldE (b := 0) rfl (hS.get 0 rfl) Try.underlying28 rfl rfl (by kernel_rfl)) rfl) ?_
   refine .oy 3 6 rfl rfl c1 (fun a w hS hI hp => does_val (x_load1 (d := .int .i64) rfl (hp.V 4 rfl rfl) (by kernel_rfl) rfl ((blk_cell (((hI.2).block g4 (blk_lt aa)).trans aa) 1).trans rfl)) rfl) ?_
   refine .oy 3 6 rfl rfl c1 (fun a w hS hI hp => does_call (by kernel_rfl) (ar3 (hp.V 5 rfl rfl) (rfl) (rfl)) ((header_in.calls ac 0 255 t7 _  aK).mono fun _ _ h => ⟨_, h.1, h.2.below, rfl⟩)) ?_
   refine .pt 3 6 rfl rfl rfl c1 rfl ?_
   refine .mv 7 rfl rfl rfl ?_
   refine .oy 8 11 rfl rfl c2 (fun a w hS hI hp => does_val (x_fieldE (b := 0) rfl (hS.get 0 rfl) Try.underlying28 rfl rfl (by kernel_rfl)) rfl) ?_
   refine .oy 8 11 rfl rfl c2 (fun a w hS hI hp => does_val (x_load1 (d := .int .i64) rfl (hp.V 9 rfl rfl) (by kernel_rfl) rfl ((blk_cell (((hI.2).block g4 (blk_lt aa)).trans aa) 2).trans rfl)) rfl) ?_
   refine .oy 8 11 rfl rfl c2 (fun a w hS hI hp => does_call (by kernel_rfl) (ar3 (hp.V 10 rfl rfl) (rfl) (rfl)) ((header_in.calls af 0 65535 t8 _  aM).mono fun _ _ h => ⟨_, h.1, h.2.below, rfl⟩)) ?_
   refine .pt 8 11 rfl rfl rfl c2 rfl ?_
   refine .mv 12 rfl rfl rfl ?_
   refine .oy 13 16 rfl rfl c3 (fun a w hS hI hp => does_val (x_fieldE (b := 0) rfl (hS.get 0 rfl) Try.underlying28 rfl rfl (by kernel_rfl)) rfl) ?_
   refine .oy 13 16 rfl rfl c3 (fun a w hS hI hp => does_loadmid (cs := [.int .u64 ad, .int .i64 ae]) rfl (hp.V 14 rfl rfl) (((hI.2).block g4 (blk_lt aa)).trans aa) (by kernel_rfl) Try.underlying24 rfl (by kernel_rfl) rfl) ?_
   refine .oy 13 16 rfl rfl c3 (fun a w hS hI hp => does_call (by kernel_rfl) (ar1 (hp.V 15 rfl rfl)) ((ident_May.calls ad ae t9 _  aO).mono fun _ _ h => ⟨_, h.1, h.2, rfl⟩)) ?_
   refine .pt 13 16 rfl rfl rfl c3 rfl ?_
   refine .mv 17 rfl rfl rfl ?_
   iterate 3 refine .sn 18 21 rfl rfl ((Bool.eq_false_iff.2 c4)) ?_
   refine .pf 18 rfl rfl rfl ((Bool.eq_false_iff.2 c4)) (fun _ => rfl) ?_
   refine .mv 22 rfl rfl rfl ?_
   iterate 3 refine .sn 23 26 rfl rfl rfl ?_
   refine .pf 23 rfl rfl rfl rfl (fun _ => rfl) ?_
   refine .asg 27 rfl rfl rfl ?_
   exact .nil
  clear hS
  intro aW a3 hS aR hp
  replace hS := hS.nil
  have aB : sl _ 2 = .bool false := hp 28 (by decide)
  have hS := hS.cons aB
  clear hp aB
  refine aE _ _ ?_
  refine wp_ret ?_
  (try simp only [Exit.then, Exit.inBlock, Exit.jump, Exit.noGoto])
  exact bodyPost_ret (v := .bool false) (results_single rfl (Vals.at (hS.get 0 rfl) .nil)) hS.nodef ⟨rfl, aR.1⟩
 rw [if_pos c4] at H
 obtain ⟨aH, aN, H⟩ := Option.bind_eq_some_iff.mp H
 by_cases c5 : aH = true
 rotate_left
 ·rw [if_neg c5] at H
  obtain rfl := Option.some.inj H
  refine calls_of_wp (fn := Try.f43) (by kernel_rfl) rfl ?_
  have hS := St.enter #[(header_Check.v0 ab ac af ax ad ae av aw ay az ag ah ai aj ak al am an ao ap aq ar au)] 31 (by simp) [(0, (header_Check.v0 ab ac af ax ad ae av aw ay az ag ah ai aj ak al am an ao ap aq ar au))] (by simp)
  have aC := Below.refl w.heap.size w
  refine wp_seq_k (fun K1 aD => ?_)
  refine reg_seq (I := I1_ w) (ps := [IsB (header_Check.c1 ab ac af ax ad ae av aw ay az ag ah ai aj ak al am an ao ap aq ar au) 28 w.heap.size, VB false]) (by kernel_rfl) ?_ ?_ rfl hS aC ?_ ?_
  ·exact bs1
  ·exact .cons (Stays.b _ _ _) (.v (.nil))
  ·refine .on rfl (fun a w hS hI hp => does_var (x_box rfl (congrArg Value.cells (hS.get 0 rfl))) (hI).size) ?_
   refine .on rfl (fun a w hS hI hp => does_val (x_assign rfl (rfl)) rfl) ?_
   exact .nil
  clear hS
  intro aL w3 hS aF hp
  replace hS := hS.nil
  obtain ⟨g4, aA, aG, aa⟩ := (show IsB _ 28 _ (sl _ 1) _ from hp 0 (by decide))
  have hS := hS.cons aA
  clear hp aA
  refine aD _ _ ?_
  refine wp_seq_k (fun K5 aE => ?_)
  refine reg_seq (I := I2_ w w3) (ps := [VP g4 0, VI ab, VB t6, VB t6, VP g4 1, VI ac, VB t7, VB t7, VB t7, VP g4 2, VI af, VB t8, VB t8, VB t8, VP g4 4, IsV (.agg #[.int .u64 ad, .int .i64 ae]), VB t9, VB t9, VB t9, VP g4 6, VI av, VB aH, VB aH, VB aH, VU, VU, VU, VB false, VB false]) (by kernel_rfl) ?_ ?_ rfl hS ⟨aF, (bR w3)⟩ ?_ ?_
  ·exact bs2
  ·exact .v (.v (.v (.v (.v (.v (.v (.v (.v (.v (.v (.v (.v (.v (.v (.v (.v (.v (.v (.v (.v (.v (.v (.v (.v (.v (.v (.v (.v (.nil)))))))))))))))))))))))))))))
  ·refine .on rfl (fun a w hS hI hp => does_val (x_fieldE (b := 0) rfl (hS.get 0 rfl) Try.underlying28 rfl rfl (by kernel_rfl)) rfl) ?_
   refine .on rfl (fun a w hS hI hp => does_val (x_load1 (d := .int .i64) rfl (hp.V 0 rfl rfl) (by kernel_rfl) rfl ((blk_cell (((hI.2).block g4 (blk_lt aa)).trans aa) 0).trans rfl)) rfl) ?_
   refine .on rfl (fun a w hS hI hp => does_call (by kernel_rfl) (ar1 (hp.V 1 rfl rfl)) ((header_Known.calls k ab t6 _  aI).mono fun _ _ h => ⟨_, h.1, h.2.below, rfl⟩)) ?_
   refine .mv 2 rfl rfl rfl ?_
   refine .oy 3 6 rfl rfl c1 (fun a w hS hI hp => does_val (x_fieldE (b := 0) rfl (hS.get 0 rfl) Try.underlying28 rfl rfl (by kernel_rfl)) rfl) ?_
   refine .oy 3 6 rfl rfl c1 (fun a w hS hI hp => does_val (x_load1 (d := .int .i64) rfl (hp.V 4 rfl rfl) (by kernel_rfl) rfl ((blk_cell (((hI.2).block g4 (blk_lt aa)).trans aa) 1).trans rfl)) rfl) ?_
   refine .oy 3 6 rfl rfl c1 (fun a w hS hI hp => does_call (by kernel_rfl) (ar3 (hp.V 5 rfl rfl) (rfl) (rfl)) ((header_in.calls ac 0 255 t7 _  aK).mono fun _ _ h => ⟨_, h.1, h.2.below, rfl⟩)) ?_
   refine .pt 3 6 rfl rfl rfl c1 rfl ?_
   refine .mv 7 rfl rfl rfl ?_
   refine .oy 8 11 rfl rfl c2 (fun a w hS hI hp => does_val (x_fieldE (b := 0) rfl (hS.get 0 rfl) Try.underlying28 rfl rfl (by kernel_rfl)) rfl) ?_
   refine .oy 8 11 rfl rfl c2 (fun a w hS hI hp => does_val (x_load1 (d := .int .i64) rfl (hp.V 9 rfl rfl) (by kernel_rfl) rfl ((blk_cell (((hI.2).block g4 (blk_lt aa)).trans aa) 2).trans rfl)) rfl) ?_
   refine .oy 8 11 rfl rfl c2 (fun a w hS hI hp => does_call (by kernel_rfl) (ar3 (hp.V 10 rfl rfl) (rfl) (rfl)) ((header_in.calls af 0 65535 t8 _  aM).mono fun _ _ h => ⟨_, h.1, h.2.below, rfl⟩)) ?_
   refine .pt 8 11 rfl rfl rfl c2 rfl ?_
   refine .mv 12 rfl rfl rfl ?_
   refine .oy 13 16 rfl rfl c3 (fun a w hS hI hp => does_val (x_fieldE (b := 0) rfl (hS.get 0 rfl) Try.underlying28 rfl rfl (by kernel_rfl)) rfl) ?_
   refine .oy 13 16 rfl rfl c3 (fun a w hS hI hp => does_loadmid (cs := [.int .u64 ad, .int .i64 ae]) rfl (hp.V 14 rfl rfl) (((hI.2).block g4 (blk_lt aa)).trans aa) (by kernel_rfl) Try.underlying24 rfl (by kernel_rfl) rfl) ?_
   refine .oy 13 16 rfl rfl c3 (fun a w hS hI hp => does_call (by kernel_rfl) (ar1 (hp.V 15 rfl rfl)) ((ident_May.calls ad ae t9 _  aO).mono fun _ _ h => ⟨_, h.1, h.2, rfl⟩)) ?_
   refine .pt 13 16 rfl rfl rfl c3 rfl ?_
   refine .mv 17 rfl rfl rfl ?_
   refine .oy 18 21 rfl rfl c4 (fun a w hS hI hp => does_val (x_fieldE (b := 0) rfl (hS.get 0 rfl) Try.underlying28 rfl rfl (by kernel_rfl)) rfl) ?_
   refine .oy 18 21 rfl rfl c4 (fun a w hS hI hp => does_val (x_load1 (d := .int .i64) rfl (hp.V 19 rfl rfl) (by kernel_rfl) rfl ((blk_cell (((hI.2).block g4 (blk_lt aa)).trans aa) 6).trans rfl)) rfl) ?_
   refine .oy 18 21 rfl rfl c4 (fun a w hS hI hp => does_call (by kernel_rfl) (ar3 (hp.V 20 rfl rfl) (rfl) (rfl)) ((header_in.calls av 0 65535 aH _  aN).mono fun _ _ h => ⟨_, h.1, h.2.below, rfl⟩)) ?_
   refine .pt 18 21 rfl rfl rfl c4 rfl ?_
   refine .mv 22 rfl rfl rfl ?_
   iterate 3 refine .sn 23 26 rfl rfl ((Bool.eq_false_iff.2 c5)) ?_
   refine .pf 23 rfl rfl rfl ((Bool.eq_false_iff.2 c5)) (fun _ => rfl) ?_
   refine .asg 27 rfl rfl rfl ?_
   exact .nil
  clear hS
  intro aX a4 hS aS hp
  replace hS := hS.nil
  have aB : sl _ 2 = .bool false := hp 28 (by decide)
  have hS := hS.cons aB
  clear hp aB
  refine aE _ _ ?_
  refine wp_ret ?_
  (try simp only [Exit.then, Exit.inBlock, Exit.jump, Exit.noGoto])
  exact bodyPost_ret (v := .bool false) (results_single rfl (Vals.at (hS.get 0 rfl) .nil)) hS.nodef ⟨rfl, aS.1⟩
 rw [if_pos c5] at H
 obtain ⟨aJ, aP, H⟩ := Option.bind_eq_some_iff.mp H
 obtain rfl := Option.some.inj H
 refine calls_of_wp (fn := Try.f43) (by kernel_rfl) rfl ?_
 have hS := St.enter #[(header_Check.v0 ab ac af ax ad ae av aw ay az ag ah ai aj ak al am an ao ap aq ar au)] 31 (by simp) [(0, (header_Check.v0 ab ac af ax ad ae av aw ay az ag ah ai aj ak al am an ao ap aq ar au))] (by simp)
 have aC := Below.refl w.heap.size w
 refine wp_seq_k (fun K1 aD => ?_)
 refine reg_seq (I := I1_ w) (ps := [IsB (header_Check.c1 ab ac af ax ad ae av aw ay az ag ah ai aj ak al am an ao ap aq ar au) 28 w.heap.size, VB false]) (by kernel_rfl) ?_ ?_ rfl hS aC ?_ ?_
 ·exact bs1
 ·exact .cons (Stays.b _ _ _) (.v (.nil))
 ·refine .on rfl (fun a w hS hI hp => does_var (x_box rfl (congrArg Value.cells (hS.get 0 rfl))) (hI).size) ?_
  refine .on rfl (fun a w hS hI hp => does_val (x_assign rfl (rfl)) rfl) ?_
  exact .nil
 clear hS
 intro aL w3 hS aF hp
 replace hS := hS.nil
 obtain ⟨g4, aA, aG, aa⟩ := (show IsB _ 28 _ (sl _ 1) _ from hp 0 (by decide))
 have hS := hS.cons aA
 clear hp aA
 refine aD _ _ ?_
 refine wp_seq_k (fun K5 aE => ?_)
 refine reg_seq (I := I2_ w w3) (ps := [VP g4 0, VI ab, VB t6, VB t6, VP g4 1, VI ac, VB t7, VB t7, VB t7, VP g4 2, VI af, VB t8, VB t8, VB t8, VP g4 4, IsV (.agg #[.int .u64 ad, .int .i64 ae]), VB t9, VB t9, VB t9, VP g4 6, VI av, VB aH, VB aH, VB aH, VP g4 7, VI aw, VB aJ, VB aJ, VB aJ]) (by kernel_rfl) ?_ ?_ rfl hS ⟨aF, (bR w3)⟩ ?_ ?_
 ·exact bs2
 ·exact .v (.v (.v (.v (.v (.v (.v (.v (.v (.v (.v (.v (.v (.v (.v (.v (.v (.v (.v (.v (.v (.v (.v (.v (.v (.v (.v (.v (.v (.nil)))))))))))))))))))))))))))))
 ·refine .on rfl (fun a w hS hI hp => does_val (x_fieldE (b := 0) rfl (hS.get 0 rfl) Try.underlying28 rfl rfl (by kernel_rfl)) rfl) ?_
  refine .on rfl (fun a w hS hI hp => does_val (x_load1 (d := .int .i64) rfl (hp.V 0 rfl rfl) (by kernel_rfl) rfl ((blk_cell (((hI.2).block g4 (blk_lt aa)).trans aa) 0).trans rfl)) rfl) ?_
  refine .on rfl (fun a w hS hI hp => does_call (by kernel_rfl) (ar1 (hp.V 1 rfl rfl)) ((header_Known.calls k ab t6 _  aI).mono fun _ _ h => ⟨_, h.1, h.2.below, rfl⟩)) ?_
  refine .mv 2 rfl rfl rfl ?_
  refine .oy 3 6 rfl rfl c1 (fun a w hS hI hp => does_val (x_fieldE (b := 0) rfl (hS.get 0 rfl) Try.underlying28 rfl rfl (by kernel_rfl)) rfl) ?_
  refine .oy 3 6 rfl rfl c1 (fun a w hS hI hp => does_val (x_load1 (d := .int .i64) rfl (hp.V 4 rfl rfl) (by kernel_rfl) rfl ((blk_cell (((hI.2).block g4 (blk_lt aa)).trans aa) 1).trans rfl)) rfl) ?_
  refine .oy 3 6 rfl rfl c1 (fun a w hS hI hp => does_call (by kernel_rfl) (ar3 (hp.V 5 rfl rfl) (rfl) (rfl)) ((header_in.calls ac 0 255 t7 _  aK).mono fun _ _ h => ⟨_, h.1, h.2.below, rfl⟩)) ?_
  refine .pt 3 6 rfl rfl rfl c1 rfl ?_
  refine .mv 7 rfl rfl rfl ?_
  refine .oy 8 11 rfl rfl c2 (fun a w hS hI hp => does_val (x_fieldE (b := 0) rfl (hS.get 0 rfl) Try.underlying28 rfl rfl (by kernel_rfl)) rfl) ?_
  refine .oy 8 11 rfl rfl c2 (fun a w hS hI hp => does_val (x_load1 (d := .int .i64) rfl (hp.V 9 rfl rfl) (by kernel_rfl) rfl ((blk_cell (((hI.2).block g4 (blk_lt aa)).trans aa) 2).trans rfl)) rfl) ?_
  refine .oy 8 11 rfl rfl c2 (fun a w hS hI hp => does_call (by kernel_rfl) (ar3 (hp.V 10 rfl rfl) (rfl) (rfl)) ((header_in.calls af 0 65535 t8 _  aM).mono fun _ _ h => ⟨_, h.1, h.2.below, rfl⟩)) ?_
  refine .pt 8 11 rfl rfl rfl c2 rfl ?_
  refine .mv 12 rfl rfl rfl ?_
  refine .oy 13 16 rfl rfl c3 (fun a w hS hI hp => does_val (x_fieldE (b := 0) rfl (hS.get 0 rfl) Try.underlying28 rfl rfl (by kernel_rfl)) rfl) ?_
  refine .oy 13 16 rfl rfl c3 (fun a w hS hI hp => does_loadmid (cs := [.int .u64 ad, .int .i64 ae]) rfl (hp.V 14 rfl rfl) (((hI.2).block g4 (blk_lt aa)).trans aa) (by kernel_rfl) Try.underlying24 rfl (by kernel_rfl) rfl) ?_
  refine .oy 13 16 rfl rfl c3 (fun a w hS hI hp => does_call (by kernel_rfl) (ar1 (hp.V 15 rfl rfl)) ((ident_May.calls ad ae t9 _  aO).mono fun _ _ h => ⟨_, h.1, h.2, rfl⟩)) ?_
  refine .pt 13 16 rfl rfl rfl c3 rfl ?_
  refine .mv 17 rfl rfl rfl ?_
  refine .oy 18 21 rfl rfl c4 (fun a w hS hI hp => does_val (x_fieldE (b := 0) rfl (hS.get 0 rfl) Try.underlying28 rfl rfl (by kernel_rfl)) rfl) ?_
  refine .oy 18 21 rfl rfl c4 (fun a w hS hI hp => does_val (x_load1 (d := .int .i64) rfl (hp.V 19 rfl rfl) (by kernel_rfl) rfl ((blk_cell (((hI.2).block g4 (blk_lt aa)).trans aa) 6).trans rfl)) rfl) ?_
  refine .oy 18 21 rfl rfl c4 (fun a w hS hI hp => does_call (by kernel_rfl) (ar3 (hp.V 20 rfl rfl) (rfl) (rfl)) ((header_in.calls av 0 65535 aH _  aN).mono fun _ _ h => ⟨_, h.1, h.2.below, rfl⟩)) ?_
  refine .pt 18 21 rfl rfl rfl c4 rfl ?_
  refine .mv 22 rfl rfl rfl ?_
  refine .oy 23 26 rfl rfl c5 (fun a w hS hI hp => does_val (x_fieldE (b := 0) rfl (hS.get 0 rfl) Try.underlying28 rfl rfl (by kernel_rfl)) rfl) ?_
  refine .oy 23 26 rfl rfl c5 (fun a w hS hI hp => does_val (x_load1 (d := .int .i64) rfl (hp.V 24 rfl rfl) (by kernel_rfl) rfl ((blk_cell (((hI.2).block g4 (blk_lt aa)).trans aa) 7).trans rfl)) rfl) ?_
  refine .oy 23 26 rfl rfl c5 (fun a w hS hI hp => does_call (by kernel_rfl) (ar3 (hp.V 25 rfl rfl) (rfl) (rfl)) ((header_in.calls aw (-128) 127 aJ _  aP).mono fun _ _ h => ⟨_, h.1, h.2.below, rfl⟩)) ?_
  refine .pt 23 26 rfl rfl rfl c5 rfl ?_
  refine .asg 27 rfl rfl rfl ?_
  exact .nil
 clear hS
 intro aY a5 hS aT hp
 replace hS := hS.nil
 have aB : sl _ 2 = .bool aJ := hp 28 (by decide)
 have hS := hS.cons aB
 clear hp aB
 refine aE _ _ ?_
 refine wp_ret ?_
 (try simp only [Exit.then, Exit.inBlock, Exit.jump, Exit.noGoto])
 exact bodyPost_ret (v := .bool aJ) (results_single rfl (Vals.at (hS.get 0 rfl) .nil)) hS.nodef ⟨rfl, aT.1⟩
def body_stamped.f (a0 : Int) : Option (Bool) := if a0 = 12 then (some false) else (some (a0 != 13))
set_option maxHeartbeats 8000000 in
set_option maxRecDepth 100000 in
theorem body_stamped.calls (a0 : Int) (r : Bool) (w : World) (h : body_stamped.f a0 = some r) :
    Calls Try.prog 35 #[.int .i64 a0] w fun e w' => e = .returned (.bool r) ∧ Drawn0 w w' := by
  have H : (if a0 = 12 then (some false) else (some (a0 != 13))) = some r := h
  clear h
  by_cases c2 : a0 = 12
  · rw [if_pos c2] at H
    have c2b0 : (a0 == 12) = true := beq_iff_eq.mpr c2
    have c2b1 : (a0 != 12) = false := bne_eq_false_iff_eq.mpr c2
    clear c2
    obtain rfl := Option.some.inj H
    go_enter Try.func35, Try.ntmps35
    go_wp2
    all_goals
      go_ret
      exact ⟨by first | rfl | (simp; done) | (simp [*]; done), by repeat (first | exact Drawn0.refl _ | apply Drawn0.step)⟩
  · rw [if_neg c2] at H
    have c2b0 : (a0 == 12) = false := beq_eq_false_iff_ne.mpr c2
    have c2b1 : (a0 != 12) = true := bne_iff_ne.mpr c2
    obtain rfl := Option.some.inj H
    go_enter Try.func35, Try.ntmps35
    go_wp2
    all_goals
      go_ret
      exact ⟨by first | rfl | (simp; done) | (simp [*]; done), by repeat (first | exact Drawn0.refl _ | apply Drawn0.step)⟩
def body_targeted.f (a0 : Int) : Option (Bool) := if a0 = 9 then (some true) else (if a0 = 3 then (some true) else (if a0 = 10 then (some true) else (if a0 = 12 then (some true) else (if a0 = 13 then (some true) else (some false)))))
set_option maxHeartbeats 8000000 in
set_option maxRecDepth 100000 in
theorem body_targeted.calls (a0 : Int) (r : Bool) (w : World) (h : body_targeted.f a0 = some r) :
    Calls Try.prog 37 #[.int .i64 a0] w fun e w' => e = .returned (.bool r) ∧ Drawn0 w w' := by
  have H : (if a0 = 9 then (some true) else (if a0 = 3 then (some true) else (if a0 = 10 then (some true) else (if a0 = 12 then (some true) else (if a0 = 13 then (some true) else (some false)))))) = some r := h
  clear h
  by_cases c2 : a0 = 9
  · rw [if_pos c2] at H
    have c2b0 : (a0 == 9) = true := beq_iff_eq.mpr c2
    have c2b1 : (a0 != 9) = false := bne_eq_false_iff_eq.mpr c2
    clear c2
    obtain rfl := Option.some.inj H
    go_enter Try.func37, Try.ntmps37
    go_wp2
    all_goals
      go_ret
      exact ⟨by first | rfl | (simp; done) | (simp [*]; done), by repeat (first | exact Drawn0.refl _ | apply Drawn0.step)⟩
  · rw [if_neg c2] at H
    have c2b0 : (a0 == 9) = false := beq_eq_false_iff_ne.mpr c2
    have c2b1 : (a0 != 9) = true := bne_iff_ne.mpr c2
    by_cases c3 : a0 = 3
    · rw [if_pos c3] at H
      have c3b0 : (a0 == 3) = true := beq_iff_eq.mpr c3
      have c3b1 : (a0 != 3) = false := bne_eq_false_iff_eq.mpr c3
      clear c3
      obtain rfl := Option.some.inj H
      go_enter Try.func37, Try.ntmps37
      go_wp2
      all_goals
        go_ret
        exact ⟨by first | rfl | (simp; done) | (simp [*]; done), by repeat (first | exact Drawn0.refl _ | apply Drawn0.step)⟩
    · rw [if_neg c3] at H
      have c3b0 : (a0 == 3) = false := beq_eq_false_iff_ne.mpr c3
      have c3b1 : (a0 != 3) = true := bne_iff_ne.mpr c3
      by_cases c4 : a0 = 10
      · rw [if_pos c4] at H
        have c4b0 : (a0 == 10) = true := beq_iff_eq.mpr c4
        have c4b1 : (a0 != 10) = false := bne_eq_false_iff_eq.mpr c4
        clear c4
        obtain rfl := Option.some.inj H
        go_enter Try.func37, Try.ntmps37
        go_wp2
        all_goals
          go_ret
          exact ⟨by first | rfl | (simp; done) | (simp [*]; done), by repeat (first | exact Drawn0.refl _ | apply Drawn0.step)⟩
      · rw [if_neg c4] at H
        have c4b0 : (a0 == 10) = false := beq_eq_false_iff_ne.mpr c4
        have c4b1 : (a0 != 10) = true := bne_iff_ne.mpr c4
        by_cases c5 : a0 = 12
        · rw [if_pos c5] at H
          have c5b0 : (a0 == 12) = true := beq_iff_eq.mpr c5
          have c5b1 : (a0 != 12) = false := bne_eq_false_iff_eq.mpr c5
          clear c5
          obtain rfl := Option.some.inj H
          go_enter Try.func37, Try.ntmps37
          go_wp2
          all_goals
            go_ret
            exact ⟨by first | rfl | (simp; done) | (simp [*]; done), by repeat (first | exact Drawn0.refl _ | apply Drawn0.step)⟩
        · rw [if_neg c5] at H
          have c5b0 : (a0 == 12) = false := beq_eq_false_iff_ne.mpr c5
          have c5b1 : (a0 != 12) = true := bne_iff_ne.mpr c5
          by_cases c6 : a0 = 13
          · rw [if_pos c6] at H
            have c6b0 : (a0 == 13) = true := beq_iff_eq.mpr c6
            have c6b1 : (a0 != 13) = false := bne_eq_false_iff_eq.mpr c6
            clear c6
            obtain rfl := Option.some.inj H
            go_enter Try.func37, Try.ntmps37
            go_wp2
            all_goals
              go_ret
              exact ⟨by first | rfl | (simp; done) | (simp [*]; done), by repeat (first | exact Drawn0.refl _ | apply Drawn0.step)⟩
          · rw [if_neg c6] at H
            have c6b0 : (a0 == 13) = false := beq_eq_false_iff_ne.mpr c6
            have c6b1 : (a0 != 13) = true := bne_iff_ne.mpr c6
            obtain rfl := Option.some.inj H
            go_enter Try.func37, Try.ntmps37
            go_wp2
            all_goals
              go_ret
              exact ⟨by first | rfl | (simp; done) | (simp [*]; done), by repeat (first | exact Drawn0.refl _ | apply Drawn0.step)⟩
def body_own.j3 (k : Nat) (x3_2_0 x3_2_1 x3_2_2 x3_2_3 x3_2_4 x3_2_5 x3_2_6 x3_2_7 x3_2_8 x3_2_9 x3_2_10 x3_2_11 x3_2_12 x3_2_13 x3_2_14 x3_2_15 x3_2_16 x3_2_17 x3_2_18 x3_2_19 x3_2_20 x3_2_21 x3_2_22 x3_3_0 x3_3_1 x3_3_2 x3_3_3 x3_3_4 x3_3_5 x3_3_6 x3_3_7 x3_3_8 x3_3_9 x3_3_10 x3_3_11 x3_3_12 x3_3_13 x3_3_14 x3_3_15 x3_3_16 x3_3_17 x3_3_18 x3_3_19 x3_3_20 x3_3_21 x3_3_22 : Int) : Option (Int × Int × Int × Int × Int × Int × Int × Int × Int × Int × Int × Int × Int × Int × Int × Int × Int × Int × Int × Int × Int × Int × Int) := some (x3_3_0, x3_3_1, x3_3_2, x3_3_3, x3_3_4, x3_3_5, x3_3_6, x3_3_7, x3_3_8, x3_3_9, x3_3_10, x3_3_11, x3_3_12, x3_3_13, x3_3_14, x3_3_15, x3_3_16, x3_3_17, x3_3_18, x3_3_19, x3_3_20, x3_3_21, x3_3_22)
def body_own.j2 (k : Nat) (x2_1_0 x2_1_1 x2_1_2 x2_1_3 x2_1_4 x2_1_5 x2_1_6 x2_1_7 x2_1_8 x2_1_9 x2_1_10 x2_1_11 x2_1_12 x2_1_13 x2_1_14 x2_1_15 x2_1_16 x2_1_17 x2_1_18 x2_1_19 x2_1_20 x2_1_21 x2_1_22 x2_2_0 x2_2_1 x2_2_2 x2_2_3 x2_2_4 x2_2_5 x2_2_6 x2_2_7 x2_2_8 x2_2_9 x2_2_10 x2_2_11 x2_2_12 x2_2_13 x2_2_14 x2_2_15 x2_2_16 x2_2_17 x2_2_18 x2_2_19 x2_2_20 x2_2_21 x2_2_22 x2_3_0 x2_3_1 x2_3_2 x2_3_3 x2_3_4 x2_3_5 x2_3_6 x2_3_7 x2_3_8 x2_3_9 x2_3_10 x2_3_11 x2_3_12 x2_3_13 x2_3_14 x2_3_15 x2_3_16 x2_3_17 x2_3_18 x2_3_19 x2_3_20 x2_3_21 x2_3_22 : Int) : Option (Int × Int × Int × Int × Int × Int × Int × Int × Int × Int × Int × Int × Int × Int × Int × Int × Int × Int × Int × Int × Int × Int × Int) := if x2_1_0 = 11 then (body_own.j3 k x2_2_0 x2_2_1 x2_2_2 x2_2_3 x2_2_4 x2_2_5 x2_2_6 x2_2_7 x2_2_8 x2_2_9 x2_2_10 x2_2_11 x2_2_12 x2_2_13 x2_2_14 x2_2_15 x2_2_16 x2_2_17 x2_2_18 x2_2_19 x2_2_20 x2_2_21 x2_2_22 x2_3_0 x2_3_1 x2_3_2 x2_3_3 x2_3_4 x2_3_5 x2_3_6 x2_3_7 x2_3_8 x2_3_9 x2_3_10 x2_1_11 x2_1_12 x2_1_13 x2_1_14 x2_1_15 x2_1_16 x2_1_17 x2_1_18 x2_1_19 x2_3_20 x2_3_21 x2_3_22) else (if x2_1_0 = 13 then (body_own.j3 k x2_2_0 x2_2_1 x2_2_2 x2_2_3 x2_2_4 x2_2_5 x2_2_6 x2_2_7 x2_2_8 x2_2_9 x2_2_10 x2_2_11 x2_2_12 x2_2_13 x2_2_14 x2_2_15 x2_2_16 x2_2_17 x2_2_18 x2_2_19 x2_2_20 x2_2_21 x2_2_22 x2_3_0 x2_3_1 x2_3_2 x2_3_3 x2_3_4 x2_3_5 x2_3_6 x2_3_7 x2_3_8 x2_3_9 x2_3_10 x2_3_11 x2_3_12 x2_3_13 x2_3_14 x2_3_15 x2_3_16 x2_3_17 x2_3_18 x2_3_19 x2_1_20 x2_1_21 x2_1_22) else (body_own.j3 k x2_2_0 x2_2_1 x2_2_2 x2_2_3 x2_2_4 x2_2_5 x2_2_6 x2_2_7 x2_2_8 x2_2_9 x2_2_10 x2_2_11 x2_2_12 x2_2_13 x2_2_14 x2_2_15 x2_2_16 x2_2_17 x2_2_18 x2_2_19 x2_2_20 x2_2_21 x2_2_22 x2_3_0 x2_3_1 x2_3_2 x2_3_3 x2_3_4 x2_3_5 x2_3_6 x2_3_7 x2_3_8 x2_3_9 x2_3_10 x2_3_11 x2_3_12 x2_3_13 x2_3_14 x2_3_15 x2_3_16 x2_3_17 x2_3_18 x2_3_19 x2_3_20 x2_3_21 x2_3_22))
def body_own.j1 (k : Nat) (x1_1_0 x1_1_1 x1_1_2 x1_1_3 x1_1_4 x1_1_5 x1_1_6 x1_1_7 x1_1_8 x1_1_9 x1_1_10 x1_1_11 x1_1_12 x1_1_13 x1_1_14 x1_1_15 x1_1_16 x1_1_17 x1_1_18 x1_1_19 x1_1_20 x1_1_21 x1_1_22 x1_2_0 x1_2_1 x1_2_2 x1_2_3 x1_2_4 x1_2_5 x1_2_6 x1_2_7 x1_2_8 x1_2_9 x1_2_10 x1_2_11 x1_2_12 x1_2_13 x1_2_14 x1_2_15 x1_2_16 x1_2_17 x1_2_18 x1_2_19 x1_2_20 x1_2_21 x1_2_22 x1_3_0 x1_3_1 x1_3_2 x1_3_3 x1_3_4 x1_3_5 x1_3_6 x1_3_7 x1_3_8 x1_3_9 x1_3_10 x1_3_11 x1_3_12 x1_3_13 x1_3_14 x1_3_15 x1_3_16 x1_3_17 x1_3_18 x1_3_19 x1_3_20 x1_3_21 x1_3_22 : Int) : Option (Int × Int × Int × Int × Int × Int × Int × Int × Int × Int × Int × Int × Int × Int × Int × Int × Int × Int × Int × Int × Int × Int × Int) := (body_targeted.f x1_1_0).bind fun t1003 => (if t1003 = true then (body_own.j2 k x1_1_0 x1_1_1 x1_1_2 x1_1_3 x1_1_4 x1_1_5 x1_1_6 x1_1_7 x1_1_8 x1_1_9 x1_1_10 x1_1_11 x1_1_12 x1_1_13 x1_1_14 x1_1_15 x1_1_16 x1_1_17 x1_1_18 x1_1_19 x1_1_20 x1_1_21 x1_1_22 x1_2_0 x1_2_1 x1_2_2 x1_2_3 x1_2_4 x1_2_5 x1_2_6 x1_2_7 x1_2_8 x1_2_9 x1_2_10 x1_2_11 x1_2_12 x1_2_13 x1_2_14 x1_2_15 x1_2_16 x1_2_17 x1_2_18 x1_2_19 x1_2_20 x1_2_21 x1_2_22 x1_3_0 x1_3_1 x1_3_2 x1_3_3 x1_3_4 x1_3_5 x1_3_6 x1_3_7 x1_3_8 x1_1_9 x1_1_10 x1_3_11 x1_3_12 x1_3_13 x1_3_14 x1_3_15 x1_3_16 x1_3_17 x1_3_18 x1_3_19 x1_3_20 x1_3_21 x1_3_22) else (body_own.j2 k x1_1_0 x1_1_1 x1_1_2 x1_1_3 x1_1_4 x1_1_5 x1_1_6 x1_1_7 x1_1_8 x1_1_9 x1_1_10 x1_1_11 x1_1_12 x1_1_13 x1_1_14 x1_1_15 x1_1_16 x1_1_17 x1_1_18 x1_1_19 x1_1_20 x1_1_21 x1_1_22 x1_2_0 x1_2_1 x1_2_2 x1_2_3 x1_2_4 x1_2_5 x1_2_6 x1_2_7 x1_2_8 x1_2_9 x1_2_10 x1_2_11 x1_2_12 x1_2_13 x1_2_14 x1_2_15 x1_2_16 x1_2_17 x1_2_18 x1_2_19 x1_2_20 x1_2_21 x1_2_22 x1_3_0 x1_3_1 x1_3_2 x1_3_3 x1_3_4 x1_3_5 x1_3_6 x1_3_7 x1_3_8 x1_3_9 x1_3_10 x1_3_11 x1_3_12 x1_3_13 x1_3_14 x1_3_15 x1_3_16 x1_3_17 x1_3_18 x1_3_19 x1_3_20 x1_3_21 x1_3_22))
def body_own.f (k : Nat) (a0_0 a0_1 a0_2 a0_3 a0_4 a0_5 a0_6 a0_7 a0_8 a0_9 a0_10 a0_11 a0_12 a0_13 a0_14 a0_15 a0_16 a0_17 a0_18 a0_19 a0_20 a0_21 a0_22 : Int) : Option (Int × Int × Int × Int × Int × Int × Int × Int × Int × Int × Int × Int × Int × Int × Int × Int × Int × Int × Int × Int × Int × Int × Int) := (body_stamped.f a0_0).bind fun t18 => (if t18 = true then (body_own.j1 k a0_0 a0_1 a0_2 a0_3 a0_4 a0_5 a0_6 a0_7 a0_8 a0_9 a0_10 a0_11 a0_12 a0_13 a0_14 a0_15 a0_16 a0_17 a0_18 a0_19 a0_20 a0_21 a0_22 0 0 0 0 0 0 0 0 0 0 0 0 0 0 0 0 0 0 0 0 0 0 0 a0_0 a0_1 a0_2 a0_3 a0_4 a0_5 a0_6 a0_7 a0_8 0 0 0 0 0 0 0 0 0 0 0 0 0 0) else (body_own.j1 k a0_0 a0_1 a0_2 a0_3 a0_4 a0_5 a0_6 a0_7 a0_8 a0_9 a0_10 a0_11 a0_12 a0_13 a0_14 a0_15 a0_16 a0_17 a0_18 a0_19 a0_20 a0_21 a0_22 0 0 0 0 0 0 0 0 0 0 0 0 0 0 0 0 0 0 0 0 0 0 0 a0_0 a0_1 a0_2 a0_3 a0_4 a0_5 a0_6 a0_7 0 0 0 0 0 0 0 0 0 0 0 0 0 0 0))
abbrev body_own.v0 (x0 x1 x2 x3 x4 x5 x6 x7 x8 x9 x10 x11 x12 x13 x14 x15 x16 x17 x18 x19 x20 x21 x22 : Int) : Value := .agg #[.int .i64 x0, .int .i64 x1, .int .i64 x2, .int .i64 x3, .int .u64 x4, .int .i64 x5, .int .i64 x6, .int .i64 x7, .int .i64 x8, .int .u64 x9, .int .i64 x10, .int .i64 x11, .int .i64 x12, .int .i64 x13, .int .i64 x14, .int .i64 x15, .int .i64 x16, .int .u64 x17, .int .i64 x18, .int .i64 x19, .int .i64 x20, .int .i64 x21, .int .i64 x22]
abbrev body_own.c1 (x0 x1 x2 x3 x4 x5 x6 x7 x8 x9 x10 x11 x12 x13 x14 x15 x16 x17 x18 x19 x20 x21 x22 : Int) : Array Value := #[.int .i64 x0, .int .i64 x1, .int .i64 x2, .int .i64 x3, .int .u64 x4, .int .i64 x5, .int .i64 x6, .int .i64 x7, .int .i64 x8, .int .u64 x9, .int .i64 x10, .int .i64 x11, .int .i64 x12, .int .i64 x13, .int .i64 x14, .int .i64 x15, .int .i64 x16, .int .u64 x17, .int .i64 x18, .int .i64 x19, .int .i64 x20, .int .i64 x21, .int .i64 x22]
open Go.Proofs.Ytiomlbkakiienaa.E in
set_option maxHeartbeats 60000000 in
set_option maxRecDepth 100000 in
theorem body_own.calls (k : Nat) (aZ bH bI bJ br bs bK bL dq fg ew ex ey ez eA eB eC eD eE eF eG eH eI r1 r2 r3 r4 r5 r6 r7 r8 r9 gK gL gM gN gO gP gQ gR gS gT gU gV gW gX : Int) (w : World) (h : body_own.f k aZ bH bI bJ br bs bK bL dq fg ew ex ey ez eA eB eC eD eE eF eG eH eI = some (r1, r2, r3, r4, r5, r6, r7, r8, r9, gK, gL, gM, gN, gO, gP, gQ, gR, gS, gT, gU, gV, gW, gX)) :
    Calls Try.prog 74 #[.agg #[.int .i64 aZ, .int .i64 bH, .int .i64 bI, .int .i64 bJ, .int .u64 br, .int .i64 bs, .int .i64 bK, .int .i64 bL, .int .i64 dq, .int .u64 fg, .int .i64 ew, .int .i64 ex, .int .i64 ey, .int .i64 ez, .int .i64 eA, .int .i64 eB, .int .i64 eC, .int .u64 eD, .int .i64 eE, .int .i64 eF, .int .i64 eG, .int .i64 eH, .int .i64 eI]] w fun e w' => e = .returned (.agg #[.int .i64 r1, .int .i64 r2, .int .i64 r3, .int .i64 r4, .int .u64 r5, .int .i64 r6, .int .i64 r7, .int .i64 r8, .int .i64 r9, .int .u64 gK, .int .i64 gL, .int .i64 gM, .int .i64 gN, .int .i64 gO, .int .i64 gP, .int .i64 gQ, .int .i64 gR, .int .u64 gS, .int .i64 gT, .int .i64 gU, .int .i64 gV, .int .i64 gW, .int .i64 gX]) ∧ Below w.heap.size w w' := by
 have H := h
 clear h
 unfold body_own.f at H
 refine calls_of_wp (fn := Try.f74) (by kernel_rfl) rfl ?_
 have hS := St.enter #[(body_own.v0 aZ bH bI bJ br bs bK bL dq fg ew ex ey ez eA eB eC eD eE eF eG eH eI)] 68 (by simp) [(0, (body_own.v0 aZ bH bI bJ br bs bK bL dq fg ew ex ey ez eA eB eC eD eE eF eG eH eI))] (by simp)
 have g0 := Below.refl w.heap.size w
 refine wp_seq_k (fun K1 hj => ?_)
 refine reg_seq_tail 1 (I := I1_ w) (ps := [IsB (body_own.c1 aZ bH bI bJ br bs bK bL dq fg ew ex ey ez eA eB eC eD eE eF eG eH eI) 28 w.heap.size]) (by kernel_rfl) ?_ ?_ rfl hS g0 ?_ ?_
 ·exact bs1
 ·exact .cons (Stays.b _ _ _) (.nil)
 ·refine .on rfl (fun a w hS hI hp => does_var (x_box rfl (congrArg Value.cells (hS.get 0 rfl))) (hI).size) ?_
  exact .nil
 clear hS
 intro hQ w3 hS gu hp
 replace hS := hS.nil
 obtain ⟨g4, gI, f5, ad⟩ := (show IsB _ 28 _ (sl _ 1) _ from hp 0 (by decide))
 have hS := hS.cons gI
 clear hp gI
 show wpList _ _ _ [_] _ _
 refine list_step rfl (R := fun v w' => Below _ _ w' ∧ (IsB (body_own.c1 0 0 0 0 0 0 0 0 0 0 0 0 0 0 0 0 0 0 0 0 0 0 0) 28 w3.heap.size) v w') (does_var (x_alloc rfl (by kernel_rfl)) ((bR w3)).size) ?_
 rintro hU w5 ⟨hb, he⟩
 have dv := below_step gu hb
 have d1 := below_step (bR w3) hb
 obtain ⟨g6, rfl, fh, d2⟩ := he
 have gn : g6 ≠ g4 := Nat.ne_of_gt (Nat.lt_of_lt_of_le (blk_lt (((bR w3).block g4 (blk_lt ad)).trans ad)) fh)
 refine hS.next (v := .pointer (some ⟨g6, 0, none⟩)) (d := 2) rfl (by decide) (by rfl) ?_
 clear hS
 intro hR hS
 refine wpList_nil ?_
 refine hj _ _ ?_
 refine wp_seq_k (fun K9 hk => ?_)
 refine reg_seq_tail 16 (I := I3_ w w3 w5) (ps := [VP g4 0, VI aZ, VP g4 1, VI bH, VP g4 2, VI bI, VP g4 3, VI bJ, VP g4 4, IsV (.agg #[.int .u64 br, .int .i64 bs]), VP g4 6, VI bK, VP g4 7, VI bL, IsV ((body_own.v0 aZ bH bI bJ br bs bK bL 0 0 0 0 0 0 0 0 0 0 0 0 0 0 0)), IsB (body_own.c1 0 0 0 0 0 0 0 0 0 0 0 0 0 0 0 0 0 0 0 0 0 0 0) 28 w5.heap.size]) (by kernel_rfl) ?_ ?_ rfl hS ⟨dv, d1, (bR w5)⟩ ?_ ?_
 ·exact bs3
 ·exact .v (.v (.v (.v (.v (.v (.v (.v (.v (.v (.v (.v (.v (.v (.v (.cons (Stays.b _ _ _) (.nil))))))))))))))))
 ·refine .on rfl (fun a w hS hI hp => does_val (x_fieldE (b := 0) rfl (hS.get 1 rfl) Try.underlying28 rfl rfl (by kernel_rfl)) rfl) ?_
  refine .on rfl (fun a w hS hI hp => does_val (x_load1 (d := .int .i64) rfl (hp.V 0 rfl rfl) (by kernel_rfl) rfl ((blk_cell (((hI.2.1).block g4 (blk_lt ad)).trans ad) 0).trans rfl)) rfl) ?_
  refine .on rfl (fun a w hS hI hp => does_val (x_fieldE (b := 0) rfl (hS.get 1 rfl) Try.underlying28 rfl rfl (by kernel_rfl)) rfl) ?_
  refine .on rfl (fun a w hS hI hp => does_val (x_load1 (d := .int .i64) rfl (hp.V 2 rfl rfl) (by kernel_rfl) rfl ((blk_cell (((hI.2.1).block g4 (blk_lt ad)).trans ad) 1).trans rfl)) rfl) ?_
  refine .on rfl (fun a w hS hI hp => does_val (x_fieldE (b := 0) rfl (hS.get 1 rfl) Try.underlying28 rfl rfl (by kernel_rfl)) rfl) ?_
  refine .on rfl (fun a w hS hI hp => does_val (x_load1 (d := .int .i64) rfl (hp.V 4 rfl rfl) (by kernel_rfl) rfl ((blk_cell (((hI.2.1).block g4 (blk_lt ad)).trans ad) 2).trans rfl)) rfl) ?_
  refine .on rfl (fun a w hS hI hp => does_val (x_fieldE (b := 0) rfl (hS.get 1 rfl) Try.underlying28 rfl rfl (by kernel_rfl)) rfl) ?_
  refine .on rfl (fun a w hS hI hp => does_val (x_load1 (d := .int .i64) rfl (hp.V 6 rfl rfl) (by kernel_rfl) rfl ((blk_cell (((hI.2.1).block g4 (blk_lt ad)).trans ad) 3).trans rfl)) rfl) ?_
  refine .on rfl (fun a w hS hI hp => does_val (x_fieldE (b := 0) rfl (hS.get 1 rfl) Try.underlying28 rfl rfl (by kernel_rfl)) rfl) ?_
  refine .on rfl (fun a w hS hI hp => does_loadmid (cs := [.int .u64 br, .int .i64 bs]) rfl (hp.V 8 rfl rfl) (((hI.2.1).block g4 (blk_lt ad)).trans ad) (by kernel_rfl) Try.underlying24 rfl (by kernel_rfl) rfl) ?_
  refine .on rfl (fun a w hS hI hp => does_val (x_fieldE (b := 0) rfl (hS.get 1 rfl) Try.underlying28 rfl rfl (by kernel_rfl)) rfl) ?_
  refine .on rfl (fun a w hS hI hp => does_val (x_load1 (d := .int .i64) rfl (hp.V 10 rfl rfl) (by kernel_rfl) rfl ((blk_cell (((hI.2.1).block g4 (blk_lt ad)).trans ad) 6).trans rfl)) rfl) ?_
  refine .on rfl (fun a w hS hI hp => does_val (x_fieldE (b := 0) rfl (hS.get 1 rfl) Try.underlying28 rfl rfl (by kernel_rfl)) rfl) ?_
  refine .on rfl (fun a w hS hI hp => does_val (x_load1 (d := .int .i64) rfl (hp.V 12 rfl rfl) (by kernel_rfl) rfl ((blk_cell (((hI.2.1).block g4 (blk_lt ad)).trans ad) 7).trans rfl)) rfl) ?_
  refine .on rfl (fun a w hS hI hp => does_val (x_build (vs := [(0, .int .i64 aZ), (1, .int .i64 bH), (2, .int .i64 bI), (3, .int .i64 bJ), (4, .agg #[.int .u64 br, .int .i64 bs]), (5, .int .i64 bK), (6, .int .i64 bL)]) rfl (by rw [Array.toList_map]; exact (show [(0, a.eval (.tmp 5)), (1, a.eval (.tmp 7)), (2, a.eval (.tmp 9)), (3, a.eval (.tmp 11)), (4, a.eval (.tmp 13)), (5, a.eval (.tmp 15)), (6, a.eval (.tmp 17))] = _ from (li_cons (hp.V 1 rfl rfl) (li_cons (hp.V 3 rfl rfl) (li_cons (hp.V 5 rfl rfl) (li_cons (hp.V 7 rfl rfl) (li_cons (hp.V 9 rfl rfl) (li_cons (hp.V 11 rfl rfl) (li_cons (hp.V 13 rfl rfl) rfl))))))))) (by kernel_rfl)) rfl) ?_
  refine .on rfl (fun a w hS hI hp => does_var (x_alloc rfl (by kernel_rfl)) (hI.2.2).size) ?_
  exact .nil
 clear hS
 intro hM hy hS d9 hp
 have go : sl _ 18 = (body_own.v0 aZ bH bI bJ br bs bK bL 0 0 0 0 0 0 0 0 0 0 0 0 0 0 0) := hp 14 (by decide)
 obtain ⟨du, gJ, a0, fE⟩ := (show IsB _ 28 _ (sl _ 3) _ from hp 15 (by decide))
 have f6 : du ≠ g4 := Nat.ne_of_gt (Nat.lt_of_lt_of_le (blk_lt ((d1.block g4 (blk_lt ad)).trans ad)) a0)
 have f7 : du ≠ g6 := Nat.ne_of_gt (Nat.lt_of_lt_of_le (blk_lt (((bR w5).block g6 (blk_lt d2)).trans d2)) a0)
 have hS := hS.cons go
 have hS := hS.cons gJ
 clear hp go gJ
 show wpList _ _ _ [_] _ _
 refine list_step rfl (does_storeAll (g := du) (cs := (body_own.c1 aZ bH bI bJ br bs bK bL 0 0 0 0 0 0 0 0 0 0 0 0 0 0 0)) rfl (hS.get 0 rfl) (hS.get 1 rfl) (((bR hy).block du (blk_lt fE)).trans fE) (by kernel_rfl) (by kernel_rfl) (by kernel_rfl)) ?_
 rintro hO fY ⟨rfl, d5, hT⟩
 have fe := hT.below d9.1 (Nat.le_trans (dv).size a0) (d9.1).size
 have eK := hT.below d9.2.1 (Nat.le_trans (d1).size a0) (d9.2.1).size
 have eL := hT.below d9.2.2 a0 (d9.2.2).size
 clear hT
 refine wpList_nil ?_
 refine hk _ _ ?_
 refine wp_seq_k (fun g1 gZ => ?_)
 have J1 : ∀ (gg : Act) (dI : World) (bq dJ dK dL dM dN dO dP dQ aX aO cw cx cy cz cA cB cC cD cE cF cG cH : Int) (aN : Nat) (dR dS dT dU dV dW dX dY dZ d0 cI cJ cK cL cM cN cO cP cQ cR cS cT cU : Int) (bo : Nat) (cV cW cX cY cZ c0 c3 c4 c5 d7 d3 bN bO bP bQ bS bU bV bW bX bY bZ b0 : Int) (aW : Nat), body_own.j1 k bq dJ dK dL dM dN dO dP dQ aX aO cw cx cy cz cA cB cC cD cE cF cG cH dR dS dT dU dV dW dX dY dZ d0 cI cJ cK cL cM cN cO cP cQ cR cS cT cU cV cW cX cY cZ c0 c3 c4 c5 d7 d3 bN bO bP bQ bS bU bV bW bX bY bZ b0 = some (r1, r2, r3, r4, r5, r6, r7, r8, r9, gK, gL, gM, gN, gO, gP, gQ, gR, gS, gT, gU, gV, gW, gX) → St 68 [(1, .pointer (some ⟨aN, 0, none⟩)), (2, .pointer (some ⟨bo, 0, none⟩)), (3, .pointer (some ⟨aW, 0, none⟩))] gg → Below w.heap.size w dI → w.heap.size ≤ aN → dI.heap[aN]? = some (.cells (body_own.c1 bq dJ dK dL dM dN dO dP dQ aX aO cw cx cy cz cA cB cC cD cE cF cG cH) 28 (0, 0)) → w.heap.size ≤ bo → dI.heap[bo]? = some (.cells (body_own.c1 dR dS dT dU dV dW dX dY dZ d0 cI cJ cK cL cM cN cO cP cQ cR cS cT cU) 28 (0, 0)) → w.heap.size ≤ aW → dI.heap[aW]? = some (.cells (body_own.c1 cV cW cX cY cZ c0 c3 c4 c5 d7 d3 bN bO bP bQ bS bU bV bW bX bY bZ b0) 28 (0, 0)) → bo ≠ aN → aW ≠ aN → aW ≠ bo → g1 gg dI := by
  intro gg dI bq dJ dK dL dM dN dO dP dQ aX aO cw cx cy cz cA cB cC cD cE cF cG cH aN dR dS dT dU dV dW dX dY dZ d0 cI cJ cK cL cM cN cO cP cQ cR cS cT cU bo cV cW cX cY cZ c0 c3 c4 c5 d7 d3 bN bO bP bQ bS bU bV bW bX bY bZ b0 aW H hS ff et aD eu ci dz cj ev dB dC
  unfold body_own.j1 at H
  (try dsimp only at H)
  refine gZ _ _ ?_
  refine wp_seq_k (fun gB gk => ?_)
  have J2 : ∀ (gh : Act) (bp : World) (ac c6 c7 c8 c9 da db dc dd de b1 ah ai aj ak al ao aF aJ aP aG aK aQ : Int) (aa : Nat) (df dg dh di dj dk dl dm dn dp b2 b3 b4 b5 b6 b7 b8 b9 ca cb cc cd ce : Int) (an : Nat) (ar au av aw ax ay az aA aB aC am ba aY aT aU aV aR aL aH ap aM aI aq : Int) (ab : Nat), body_own.j2 k ac c6 c7 c8 c9 da db dc dd de b1 ah ai aj ak al ao aF aJ aP aG aK aQ df dg dh di dj dk dl dm dn dp b2 b3 b4 b5 b6 b7 b8 b9 ca cb cc cd ce ar au av aw ax ay az aA aB aC am ba aY aT aU aV aR aL aH ap aM aI aq = some (r1, r2, r3, r4, r5, r6, r7, r8, r9, gK, gL, gM, gN, gO, gP, gQ, gR, gS, gT, gU, gV, gW, gX) → St 68 [(1, .pointer (some ⟨aa, 0, none⟩)), (2, .pointer (some ⟨an, 0, none⟩)), (3, .pointer (some ⟨ab, 0, none⟩))] gh → Below w.heap.size w bp → w.heap.size ≤ aa → bp.heap[aa]? = some (.cells (body_own.c1 ac c6 c7 c8 c9 da db dc dd de b1 ah ai aj ak al ao aF aJ aP aG aK aQ) 28 (0, 0)) → w.heap.size ≤ an → bp.heap[an]? = some (.cells (body_own.c1 df dg dh di dj dk dl dm dn dp b2 b3 b4 b5 b6 b7 b8 b9 ca cb cc cd ce) 28 (0, 0)) → w.heap.size ≤ ab → bp.heap[ab]? = some (.cells (body_own.c1 ar au av aw ax ay az aA aB aC am ba aY aT aU aV aR aL aH ap aM aI aq) 28 (0, 0)) → an ≠ aa → ab ≠ aa → ab ≠ an → gB gh bp := by
   intro gh bp ac c6 c7 c8 c9 da db dc dd de b1 ah ai aj ak al ao aF aJ aP aG aK aQ aa df dg dh di dj dk dl dm dn dp b2 b3 b4 b5 b6 b7 b8 b9 ca cb cc cd ce an ar au av aw ax ay az aA aB aC am ba aY aT aU aV aR aL aH ap aM aI aq ab H hS d8 gF ae dA a8 af a9 gH aE ag
   unfold body_own.j2 at H
   (try dsimp only at H)
   refine gk _ _ ?_
   refine wp_seq_k (fun gD gl => ?_)
   have J3 : ∀ (gi : Act) (e3 : World) (e4 e5 e6 e7 e8 e9 fa fb fc fd ea eb ec ed ee ef eg eh ei ej ek el em : Int) (bM : Nat) (bv bw bx bz bA bB bC bD bE bG bb bc bd be bf bg bh bi bj bk bl bm bn : Int) (dr : Nat), body_own.j3 k e4 e5 e6 e7 e8 e9 fa fb fc fd ea eb ec ed ee ef eg eh ei ej ek el em bv bw bx bz bA bB bC bD bE bG bb bc bd be bf bg bh bi bj bk bl bm bn = some (r1, r2, r3, r4, r5, r6, r7, r8, r9, gK, gL, gM, gN, gO, gP, gQ, gR, gS, gT, gU, gV, gW, gX) → St 68 [(2, .pointer (some ⟨bM, 0, none⟩)), (3, .pointer (some ⟨dr, 0, none⟩))] gi → Below w.heap.size w e3 → w.heap.size ≤ bM → e3.heap[bM]? = some (.cells (body_own.c1 e4 e5 e6 e7 e8 e9 fa fb fc fd ea eb ec ed ee ef eg eh ei ej ek el em) 28 (0, 0)) → w.heap.size ≤ dr → e3.heap[dr]? = some (.cells (body_own.c1 bv bw bx bz bA bB bC bD bE bG bb bc bd be bf bg bh bi bj bk bl bm bn) 28 (0, 0)) → dr ≠ bM → gD gi e3 := by
    intro gi e3 e4 e5 e6 e7 e8 e9 fa fb fc fd ea eb ec ed ee ef eg eh ei ej ek el em bM bv bw bx bz bA bB bC bD bE bG bb bc bd be bf bg bh bi bj bk bl bm bn dr H hS ge fG es gG ck fV
    unfold body_own.j3 at H
    (try dsimp only at H)
    simp only [Option.some.injEq, Prod.mk.injEq] at H
    obtain ⟨rfl, rfl, rfl, rfl, rfl, rfl, rfl, rfl, rfl, rfl, rfl, rfl, rfl, rfl, rfl, rfl, rfl, rfl, rfl, rfl, rfl, rfl, rfl⟩ := H
    refine gl _ _ ?_
    refine wp_seq_k (fun hA gm => ?_)
    refine reg_seq_tail 1 (I := I2_ w e3) (ps := [IsV ((body_own.v0 bv bw bx bz bA bB bC bD bE bG bb bc bd be bf bg bh bi bj bk bl bm bn))]) (by kernel_rfl) ?_ ?_ rfl hS ⟨ge, (bR e3)⟩ ?_ ?_
    ·exact bs2
    ·exact .v (.nil)
    ·refine .on rfl (fun a w hS hI hp => does_loadrow rfl (hS.get 1 rfl) (((hI.2).block dr (blk_lt ck)).trans ck) Try.underlying28 rfl (by kernel_rfl) rfl) ?_
     exact .nil
    clear hS
    intro hi hL hS d6 hp
    replace hS := (hS.nil).cons (hS.get 0 rfl)
    have gt : sl _ 67 = (body_own.v0 bv bw bx bz bA bB bC bD bE bG bb bc bd be bf bg bh bi bj bk bl bm bn) := hp 0 (by decide)
    have hS := hS.cons gt
    clear hp gt
    show wpList _ _ _ [_] _ _
    refine list_step rfl (does_storeAll (g := bM) (cs := (body_own.c1 bv bw bx bz bA bB bC bD bE bG bb bc bd be bf bg bh bi bj bk bl bm bn)) rfl (hS.get 1 rfl) (hS.get 0 rfl) ((d6.2.block bM (blk_lt es)).trans es) (by kernel_rfl) (by kernel_rfl) (by kernel_rfl)) ?_
    rintro hx gE ⟨rfl, eY, hT⟩
    have hl := hT.blk ((d6.2.block dr (blk_lt ck)).trans ck) fV
    have fD := hT.below d6.1 fG (d6.1).size
    clear hT
    refine wpList_nil ?_
    refine gm _ _ ?_
    refine wp_ret ?_
    (try simp only [Exit.then, Exit.inBlock, Exit.jump, Exit.noGoto])
    exact bodyPost_ret (v := (body_own.v0 bv bw bx bz bA bB bC bD bE bG bb bc bd be bf bg bh bi bj bk bl bm bn)) (results_single rfl (Vals.cell bM 28 (body_own.c1 bv bw bx bz bA bB bC bD bE bG bb bc bd be bf bg bh bi bj bk bl bm bn) (0, 0) _ (hS.get 1 rfl) (((bR gE).block bM (blk_lt eY)).trans eY) Try.underlying28 rfl (by kernel_rfl) .nil)) hS.nodef ⟨rfl, fD⟩
   by_cases c1 : ac = 11
   rotate_left
   ·rw [if_neg c1] at H
    by_cases c2 : ac = 13
    rotate_left
    ·rw [if_neg c2] at H
     refine wp_seq_k (fun f2 dw => ?_)
     refine reg_seq (I := I2_ w bp) (ps := [VP aa 0, VI ac]) (by kernel_rfl) ?_ ?_ rfl hS ⟨d8, (bR bp)⟩ ?_ ?_
     ·exact bs2
     ·exact .v (.v (.nil))
     ·refine .on rfl (fun a w hS hI hp => does_val (x_fieldE (b := 0) rfl (hS.get 0 rfl) Try.underlying28 rfl rfl (by kernel_rfl)) rfl) ?_
      refine .on rfl (fun a w hS hI hp => does_val (x_load1 (d := .int .i64) rfl (hp.V 0 rfl rfl) (by kernel_rfl) rfl ((blk_cell (((hI.2).block aa (blk_lt ae)).trans ae) 0).trans rfl)) rfl) ?_
      exact .nil
     clear hS
     intro fr cl hS bt hp
     have dD : sl _ 32 = .int .i64 ac := hp 1 (by decide)
     have hS := hS.cons dD
     clear hp dD
     refine dw _ _ ?_
     refine wp_block ?_
     refine wp_seq_k (fun f3 dx => ?_)
     refine reg_seq (I := I3_ w bp cl) (ps := [VB (decide (ac = 11)), VB (decide (ac = 11))]) (by kernel_rfl) ?_ ?_ rfl hS ⟨bt.1, bt.2, (bR cl)⟩ ?_ ?_
     ·exact bs3
     ·exact .v (.v (.nil))
     ·refine .on rfl (fun a w hS hI hp => does_val (x_bin rfl (hS.get 0 rfl) (rfl) (b_eql _ _ _ _ _ _)) rfl) ?_
      refine .asg 0 rfl rfl rfl ?_
      exact .nil
     clear hS
     intro fs cm hS bu hp
     have dE : sl _ 33 = .bool (decide (ac = 11)) := hp 1 (by decide)
     have hS := hS.cons dE
     clear hp dE
     refine dx _ _ ?_
     refine wp_cond_false ((hS.get 0 rfl).trans (bF (decide_eq_false c1))) ?_
     refine wp_seq_k (fun f4 dy => ?_)
     refine reg_seq (I := I3_ w bp cm) (ps := [VB (decide (ac = 13)), VB (decide (ac = 13))]) (by kernel_rfl) ?_ ?_ rfl hS ⟨bu.1, bu.2.1, (bR cm)⟩ ?_ ?_
     ·exact bs3
     ·exact .v (.v (.nil))
     ·refine .on rfl (fun a w hS hI hp => does_val (x_bin rfl (hS.get 1 rfl) (rfl) (b_eql _ _ _ _ _ _)) rfl) ?_
      refine .asg 0 rfl rfl rfl ?_
      exact .nil
     clear hS
     intro ft eJ hS aS hp
     replace hS := (((hS.nil).cons (hS.get 4 rfl)).cons (hS.get 3 rfl)).cons (hS.get 2 rfl)
     have e1 : sl _ 56 = .bool (decide (ac = 13)) := hp 1 (by decide)
     have hS := hS.cons e1
     clear hp e1
     refine dy _ _ ?_
     refine wp_cond_false ((hS.get 0 rfl).trans (bF (decide_eq_false c2))) ?_
     refine wp_skip ?_
     replace hS := ((hS.nil).cons (hS.get 3 rfl)).cons (hS.get 2 rfl)
     (try simp only [Exit.then, Exit.inBlock])
     exact J3 _ _ df dg dh di dj dk dl dm dn dp b2 b3 b4 b5 b6 b7 b8 b9 ca cb cc cd ce an ar au av aw ax ay az aA aB aC am ba aY aT aU aV aR aL aH ap aM aI aq ab H hS aS.1 dA ((aS.2.1.block an (blk_lt a8)).trans a8) af ((aS.2.1.block ab (blk_lt a9)).trans a9) ag
    rw [if_pos c2] at H
    refine wp_seq_k (fun f2 dw => ?_)
    refine reg_seq (I := I2_ w bp) (ps := [VP aa 0, VI ac]) (by kernel_rfl) ?_ ?_ rfl hS ⟨d8, (bR bp)⟩ ?_ ?_
    ·exact bs2
    ·exact .v (.v (.nil))
    ·refine .on rfl (fun a w hS hI hp => does_val (x_fieldE (b := 0) rfl (hS.get 0 rfl) Try.underlying28 rfl rfl (by kernel_rfl)) rfl) ?_
     refine .on rfl (fun a w hS hI hp => does_val (x_load1 (d := .int .i64) rfl (hp.V 0 rfl rfl) (by kernel_rfl) rfl ((blk_cell (((hI.2).block aa (blk_lt ae)).trans ae) 0).trans rfl)) rfl) ?_
     exact .nil
    clear hS
    intro fr cl hS bt hp
    have dD : sl _ 32 = .int .i64 ac := hp 1 (by decide)
    have hS := hS.cons dD
    clear hp dD
    refine dw _ _ ?_
    refine wp_block ?_
    refine wp_seq_k (fun f3 dx => ?_)
    refine reg_seq (I := I3_ w bp cl) (ps := [VB (decide (ac = 11)), VB (decide (ac = 11))]) (by kernel_rfl) ?_ ?_ rfl hS ⟨bt.1, bt.2, (bR cl)⟩ ?_ ?_
    ·exact bs3
    ·exact .v (.v (.nil))
    ·refine .on rfl (fun a w hS hI hp => does_val (x_bin rfl (hS.get 0 rfl) (rfl) (b_eql _ _ _ _ _ _)) rfl) ?_
     refine .asg 0 rfl rfl rfl ?_
     exact .nil
    clear hS
    intro fs cm hS bu hp
    have dE : sl _ 33 = .bool (decide (ac = 11)) := hp 1 (by decide)
    have hS := hS.cons dE
    clear hp dE
    refine dx _ _ ?_
    refine wp_cond_false ((hS.get 0 rfl).trans (bF (decide_eq_false c1))) ?_
    refine wp_seq_k (fun f4 dy => ?_)
    refine reg_seq (I := I3_ w bp cm) (ps := [VB (decide (ac = 13)), VB (decide (ac = 13))]) (by kernel_rfl) ?_ ?_ rfl hS ⟨bu.1, bu.2.1, (bR cm)⟩ ?_ ?_
    ·exact bs3
    ·exact .v (.v (.nil))
    ·refine .on rfl (fun a w hS hI hp => does_val (x_bin rfl (hS.get 1 rfl) (rfl) (b_eql _ _ _ _ _ _)) rfl) ?_
     refine .asg 0 rfl rfl rfl ?_
     exact .nil
    clear hS
    intro ft eJ hS aS hp
    replace hS := (((hS.nil).cons (hS.get 4 rfl)).cons (hS.get 3 rfl)).cons (hS.get 2 rfl)
    have e1 : sl _ 56 = .bool (decide (ac = 13)) := hp 1 (by decide)
    have hS := hS.cons e1
    clear hp e1
    refine dy _ _ ?_
    refine wp_cond_true ((hS.get 0 rfl).trans (bT (decide_eq_true c2))) ?_
    refine reg_float (I := I3_ w bp eJ) (C := fun x => x.heap[aa]? = some (.cells (body_own.c1 ac c6 c7 c8 c9 da db dc dd de b1 ah ai aj ak al ao aF aJ aP aG aK aQ) 28 (0, 0))) [true, true, true, true, true, true, true, false, false, false, false, false] [.pointer (some ⟨aa, 20, none⟩), .int .i64 aG, .pointer (some ⟨aa, 21, none⟩), .int .i64 aK, .pointer (some ⟨aa, 22, none⟩), .int .i64 aQ, .pointer (some ⟨ab, 20, none⟩), undef, undef, undef, undef, undef] [0, 1, 0, 4, 0, 16, 3, 67, 207, 463, 1023, 2047] (by kernel_rfl) (by kernel_rfl) rfl ?_ ?_ hS ⟨aS.1, aS.2.1, (bR eJ)⟩ ?_ ?_
    ·exact bs3
    ·exact fun x hI => ((hI.2.1.block aa (blk_lt ae)).trans ae)
    ·intro a hS hp
     refine .g (fun w hC => GRun.on rfl (x_fieldE (b := 0) rfl (hS.get 1 rfl) Try.underlying28 rfl rfl (by kernel_rfl))) ?_
     refine .g (fun w hC => GRun.on rfl (x_load1 (d := .int .i64) rfl ((hp.get 0 rfl rfl rfl)) (by kernel_rfl) rfl ((blk_cell ((((Below.refl _ _)).block aa (blk_lt hC)).trans hC) 20).trans rfl))) ?_
     refine .g (fun w hC => GRun.on rfl (x_fieldE (b := 0) rfl (hS.get 1 rfl) Try.underlying28 rfl rfl (by kernel_rfl))) ?_
     refine .g (fun w hC => GRun.on rfl (x_load1 (d := .int .i64) rfl ((hp.get 2 rfl rfl rfl)) (by kernel_rfl) rfl ((blk_cell ((((Below.refl _ _)).block aa (blk_lt hC)).trans hC) 21).trans rfl))) ?_
     refine .g (fun w hC => GRun.on rfl (x_fieldE (b := 0) rfl (hS.get 1 rfl) Try.underlying28 rfl rfl (by kernel_rfl))) ?_
     refine .g (fun w hC => GRun.on rfl (x_load1 (d := .int .i64) rfl ((hp.get 4 rfl rfl rfl)) (by kernel_rfl) rfl ((blk_cell ((((Below.refl _ _)).block aa (blk_lt hC)).trans hC) 22).trans rfl))) ?_
     refine .g (fun w hC => GRun.on rfl (x_fieldE (b := 0) rfl (hS.get 3 rfl) Try.underlying28 rfl rfl (by kernel_rfl))) ?_
     iterate 5 refine .t ?_
     exact .nil
    clear hS
    intro g5 hD hS hp dG
    have hS := hS.cons (show sl _ 59 = .int .i64 aG from hp.get 1 rfl rfl rfl)
    have hS := hS.cons (show sl _ 61 = .int .i64 aK from hp.get 3 rfl rfl rfl)
    have hS := hS.cons (show sl _ 63 = .int .i64 aQ from hp.get 5 rfl rfl rfl)
    have hS := hS.cons (show sl _ 64 = .pointer (some ⟨ab, 20, none⟩) from hp.get 6 rfl rfl rfl)
    clear hp
    show ListC _ _ _ _ [_, _, _, _, _] _ _
    refine lc_step rfl (does_store (g := ab) (off := 20) (v := .int .i64 aG) (new := (body_own.c1 ar au av aw ax ay az aA aB aC am ba aY aT aU aV aR aL aH ap aG aI aq)) rfl (hS.get 0 rfl) (hS.get 3 rfl) ((dG.2.1.block ab (blk_lt a9)).trans a9) (by kernel_rfl) (by kernel_rfl) (by kernel_rfl) (by kernel_rfl)) ?_
    rintro ho f9 ⟨rfl, eP, hT⟩
    have co := hT.blk ((dG.2.1.block aa (blk_lt ae)).trans ae) (Ne.symm aE)
    have fK := hT.blk ((dG.2.1.block an (blk_lt a8)).trans a8) (Ne.symm ag)
    have fw := hT.below dG.1 af (dG.1).size
    clear hT
    refine ⟨(((bR f9).block aa (blk_lt co)).trans co), ?_⟩
    refine lc_step rfl (R := fun v w' => Below _ _ w' ∧ (VP ab 21) v w') (does_val (x_fieldE (b := 0) rfl (hS.get 7 rfl) Try.underlying28 rfl rfl (by kernel_rfl)) rfl) ?_
    rintro fW fk ⟨hb, he⟩
    have cg := below_step fw hb
    have a2 := below_step (bR f9) hb
    obtain rfl : fW = .pointer (some ⟨ab, 21, none⟩) := he
    refine ⟨((a2.block aa (blk_lt co)).trans co), ?_⟩
    refine hS.nextC (v := .pointer (some ⟨ab, 21, none⟩)) (d := 65) rfl (by decide) (by rfl) ?_
    clear hS
    intro g8 hS
    refine lc_step rfl (does_store (g := ab) (off := 21) (v := .int .i64 aK) (new := (body_own.c1 ar au av aw ax ay az aA aB aC am ba aY aT aU aV aR aL aH ap aG aK aq)) rfl (hS.get 0 rfl) (hS.get 3 rfl) ((a2.block ab (blk_lt eP)).trans eP) (by kernel_rfl) (by kernel_rfl) (by kernel_rfl) (by kernel_rfl)) ?_
    rintro hq ga ⟨rfl, eR, hT⟩
    have cq := hT.blk ((a2.block aa (blk_lt co)).trans co) (Ne.symm aE)
    have fM := hT.blk ((a2.block an (blk_lt fK)).trans fK) (Ne.symm ag)
    have fx := hT.below cg af (cg).size
    clear hT
    refine ⟨(((bR ga).block aa (blk_lt cq)).trans cq), ?_⟩
    refine lc_step rfl (R := fun v w' => Below _ _ w' ∧ (VP ab 22) v w') (does_val (x_fieldE (b := 0) rfl (hS.get 8 rfl) Try.underlying28 rfl rfl (by kernel_rfl)) rfl) ?_
    rintro fX fl ⟨hb, he⟩
    have ch := below_step fx hb
    have a4 := below_step (bR ga) hb
    obtain rfl : fX = .pointer (some ⟨ab, 22, none⟩) := he
    refine ⟨((a4.block aa (blk_lt cq)).trans cq), ?_⟩
    refine hS.nextC (v := .pointer (some ⟨ab, 22, none⟩)) (d := 66) rfl (by decide) (by rfl) ?_
    clear hS
    intro ha hS
    refine lc_step rfl (does_store (g := ab) (off := 22) (v := .int .i64 aQ) (new := (body_own.c1 ar au av aw ax ay az aA aB aC am ba aY aT aU aV aR aL aH ap aG aK aQ)) rfl (hS.get 0 rfl) (hS.get 3 rfl) ((a4.block ab (blk_lt eR)).trans eR) (by kernel_rfl) (by kernel_rfl) (by kernel_rfl) (by kernel_rfl)) ?_
    rintro hr fm ⟨rfl, eT, hT⟩
    have fO := hT.blk ((a4.block aa (blk_lt cq)).trans cq) (Ne.symm aE)
    have fP := hT.blk ((a4.block an (blk_lt fM)).trans fM) (Ne.symm ag)
    have fy := hT.below ch af (ch).size
    clear hT
    refine ⟨(((bR fm).block aa (blk_lt fO)).trans fO), ?_⟩
    refine lc_nil ?_
    replace hS := ((hS.nil).cons (hS.get 9 rfl)).cons (hS.get 8 rfl)
    (try simp only [Exit.then, Exit.inBlock])
    exact J3 _ _ df dg dh di dj dk dl dm dn dp b2 b3 b4 b5 b6 b7 b8 b9 ca cb cc cd ce an ar au av aw ax ay az aA aB aC am ba aY aT aU aV aR aL aH ap aG aK aQ ab H hS fy dA (((bR fm).block an (blk_lt fP)).trans fP) af (((bR fm).block ab (blk_lt eT)).trans eT) ag
   rw [if_pos c1] at H
   refine wp_seq_k (fun f2 dw => ?_)
   refine reg_seq (I := I2_ w bp) (ps := [VP aa 0, VI ac]) (by kernel_rfl) ?_ ?_ rfl hS ⟨d8, (bR bp)⟩ ?_ ?_
   ·exact bs2
   ·exact .v (.v (.nil))
   ·refine .on rfl (fun a w hS hI hp => does_val (x_fieldE (b := 0) rfl (hS.get 0 rfl) Try.underlying28 rfl rfl (by kernel_rfl)) rfl) ?_
    refine .on rfl (fun a w hS hI hp => does_val (x_load1 (d := .int .i64) rfl (hp.V 0 rfl rfl) (by kernel_rfl) rfl ((blk_cell (((hI.2).block aa (blk_lt ae)).trans ae) 0).trans rfl)) rfl) ?_
    exact .nil
   clear hS
   intro fr cl hS bt hp
   have dD : sl _ 32 = .int .i64 ac := hp 1 (by decide)
   have hS := hS.cons dD
   clear hp dD
   refine dw _ _ ?_
   refine wp_block ?_
   refine wp_seq_k (fun f3 dx => ?_)
   refine reg_seq (I := I3_ w bp cl) (ps := [VB (decide (ac = 11)), VB (decide (ac = 11))]) (by kernel_rfl) ?_ ?_ rfl hS ⟨bt.1, bt.2, (bR cl)⟩ ?_ ?_
   ·exact bs3
   ·exact .v (.v (.nil))
   ·refine .on rfl (fun a w hS hI hp => does_val (x_bin rfl (hS.get 0 rfl) (rfl) (b_eql _ _ _ _ _ _)) rfl) ?_
    refine .asg 0 rfl rfl rfl ?_
    exact .nil
   clear hS
   intro fs cm hS bu hp
   have dE : sl _ 33 = .bool (decide (ac = 11)) := hp 1 (by decide)
   have hS := hS.cons dE
   clear hp dE
   refine dx _ _ ?_
   refine wp_cond_true ((hS.get 0 rfl).trans (bT (decide_eq_true c1))) ?_
   refine wp_seq_k (fun f4 dy => ?_)
   refine reg_float (I := I3_ w bp cm) (C := fun x => x.heap[aa]? = some (.cells (body_own.c1 ac c6 c7 c8 c9 da db dc dd de b1 ah ai aj ak al ao aF aJ aP aG aK aQ) 28 (0, 0))) [true, true, true, true, true, true, true, true, true, false, false, false, false, false, false, false] [.pointer (some ⟨aa, 11, none⟩), .int .i64 ah, .pointer (some ⟨aa, 12, none⟩), .int .i64 ai, .pointer (some ⟨aa, 13, none⟩), .agg #[.int .i64 aj, .int .i64 ak, .int .i64 al], .pointer (some ⟨aa, 16, none⟩), .int .i64 ao, .pointer (some ⟨ab, 11, none⟩), undef, undef, undef, undef, undef, undef, undef] [0, 1, 0, 4, 0, 16, 0, 64, 3, 259, 783, 1807, 3903, 7999, 16383, 32767] (by kernel_rfl) (by kernel_rfl) rfl ?_ ?_ hS ⟨bu.1, bu.2.1, (bR cm)⟩ ?_ ?_
   ·exact bs3
   ·exact fun x hI => ((hI.2.1.block aa (blk_lt ae)).trans ae)
   ·intro a hS hp
    refine .g (fun w hC => GRun.on rfl (x_fieldE (b := 0) rfl (hS.get 2 rfl) Try.underlying28 rfl rfl (by kernel_rfl))) ?_
    refine .g (fun w hC => GRun.on rfl (x_load1 (d := .int .i64) rfl ((hp.get 0 rfl rfl rfl)) (by kernel_rfl) rfl ((blk_cell ((((Below.refl _ _)).block aa (blk_lt hC)).trans hC) 11).trans rfl))) ?_
    refine .g (fun w hC => GRun.on rfl (x_fieldE (b := 0) rfl (hS.get 2 rfl) Try.underlying28 rfl rfl (by kernel_rfl))) ?_
    refine .g (fun w hC => GRun.on rfl (x_load1 (d := .int .i64) rfl ((hp.get 2 rfl rfl rfl)) (by kernel_rfl) rfl ((blk_cell ((((Below.refl _ _)).block aa (blk_lt hC)).trans hC) 12).trans rfl))) ?_
    refine .g (fun w hC => GRun.on rfl (x_fieldE (b := 0) rfl (hS.get 2 rfl) Try.underlying28 rfl rfl (by kernel_rfl))) ?_
    refine .g (fun w hC => GRun.on rfl (x_loadmid (cs := [.int .i64 aj, .int .i64 ak, .int .i64 al]) rfl ((hp.get 4 rfl rfl rfl)) ((((Below.refl _ _)).block aa (blk_lt hC)).trans hC) (by kernel_rfl) Try.underlying26 rfl (by kernel_rfl))) ?_
    refine .g (fun w hC => GRun.on rfl (x_fieldE (b := 0) rfl (hS.get 2 rfl) Try.underlying28 rfl rfl (by kernel_rfl))) ?_
    refine .g (fun w hC => GRun.on rfl (x_load1 (d := .int .i64) rfl ((hp.get 6 rfl rfl rfl)) (by kernel_rfl) rfl ((blk_cell ((((Below.refl _ _)).block aa (blk_lt hC)).trans hC) 16).trans rfl))) ?_
    refine .g (fun w hC => GRun.on rfl (x_fieldE (b := 0) rfl (hS.get 4 rfl) Try.underlying28 rfl rfl (by kernel_rfl))) ?_
    iterate 7 refine .t ?_
    exact .nil
   clear hS
   intro ft eJ hS hp aS
   have hS := hS.cons (show sl _ 36 = .int .i64 ah from hp.get 1 rfl rfl rfl)
   have hS := hS.cons (show sl _ 38 = .int .i64 ai from hp.get 3 rfl rfl rfl)
   have hS := hS.cons (show sl _ 40 = .agg #[.int .i64 aj, .int .i64 ak, .int .i64 al] from hp.get 5 rfl rfl rfl)
   have hS := hS.cons (show sl _ 42 = .int .i64 ao from hp.get 7 rfl rfl rfl)
   have hS := hS.cons (show sl _ 43 = .pointer (some ⟨ab, 11, none⟩) from hp.get 8 rfl rfl rfl)
   clear hp
   show ListC _ _ _ _ [_, _, _, _, _, _, _] _ _
   refine lc_step rfl (does_store (g := ab) (off := 11) (v := .int .i64 ah) (new := (body_own.c1 ar au av aw ax ay az aA aB aC am ah aY aT aU aV aR aL aH ap aM aI aq)) rfl (hS.get 0 rfl) (hS.get 4 rfl) ((aS.2.1.block ab (blk_lt a9)).trans a9) (by kernel_rfl) (by kernel_rfl) (by kernel_rfl) (by kernel_rfl)) ?_
   rintro hn f8 ⟨rfl, eO, hT⟩
   have cn := hT.blk ((aS.2.1.block aa (blk_lt ae)).trans ae) (Ne.symm aE)
   have fJ := hT.blk ((aS.2.1.block an (blk_lt a8)).trans a8) (Ne.symm ag)
   have fv := hT.below aS.1 af (aS.1).size
   clear hT
   refine ⟨(((bR f8).block aa (blk_lt cn)).trans cn), ?_⟩
   refine lc_step rfl (R := fun v w' => Below _ _ w' ∧ (VP ab 12) v w') (does_val (x_fieldE (b := 0) rfl (hS.get 9 rfl) Try.underlying28 rfl rfl (by kernel_rfl)) rfl) ?_
   rintro gv hE ⟨hb, he⟩
   have en := below_step fv hb
   have a1 := below_step (bR f8) hb
   obtain rfl : gv = .pointer (some ⟨ab, 12, none⟩) := he
   refine ⟨((a1.block aa (blk_lt cn)).trans cn), ?_⟩
   refine hS.nextC (v := .pointer (some ⟨ab, 12, none⟩)) (d := 44) rfl (by decide) (by rfl) ?_
   clear hS
   intro g7 hS
   refine lc_step rfl (does_store (g := ab) (off := 12) (v := .int .i64 ai) (new := (body_own.c1 ar au av aw ax ay az aA aB aC am ah ai aT aU aV aR aL aH ap aM aI aq)) rfl (hS.get 0 rfl) (hS.get 4 rfl) ((a1.block ab (blk_lt eO)).trans eO) (by kernel_rfl) (by kernel_rfl) (by kernel_rfl) (by kernel_rfl)) ?_
   rintro fW fk ⟨rfl, eQ, hT⟩
   have cp := hT.blk ((a1.block aa (blk_lt cn)).trans cn) (Ne.symm aE)
   have fL := hT.blk ((a1.block an (blk_lt fJ)).trans fJ) (Ne.symm ag)
   have cg := hT.below en af (en).size
   clear hT
   refine ⟨(((bR fk).block aa (blk_lt cp)).trans cp), ?_⟩
   refine lc_step rfl (R := fun v w' => Below _ _ w' ∧ (VP ab 13) v w') (does_val (x_fieldE (b := 0) rfl (hS.get 10 rfl) Try.underlying28 rfl rfl (by kernel_rfl)) rfl) ?_
   rintro gw hF ⟨hb, he⟩
   have eo := below_step cg hb
   have a3 := below_step (bR fk) hb
   obtain rfl : gw = .pointer (some ⟨ab, 13, none⟩) := he
   refine ⟨((a3.block aa (blk_lt cp)).trans cp), ?_⟩
   refine hS.nextC (v := .pointer (some ⟨ab, 13, none⟩)) (d := 45) rfl (by decide) (by rfl) ?_
   clear hS
   intro g9 hS
   refine lc_step rfl (does_store (g := ab) (off := 13) (v := .agg #[.int .i64 aj, .int .i64 ak, .int .i64 al]) (new := (body_own.c1 ar au av aw ax ay az aA aB aC am ah ai aj ak al aR aL aH ap aM aI aq)) rfl (hS.get 0 rfl) (hS.get 4 rfl) ((a3.block ab (blk_lt eQ)).trans eQ) (by kernel_rfl) (by kernel_rfl) (by kernel_rfl) (by kernel_rfl)) ?_
   rintro fX fl ⟨rfl, eS, hT⟩
   have cr := hT.blk ((a3.block aa (blk_lt cp)).trans cp) (Ne.symm aE)
   have fN := hT.blk ((a3.block an (blk_lt fL)).trans fL) (Ne.symm ag)
   have ch := hT.below eo af (eo).size
   clear hT
   refine ⟨(((bR fl).block aa (blk_lt cr)).trans cr), ?_⟩
   refine lc_step rfl (R := fun v w' => Below _ _ w' ∧ (VP ab 16) v w') (does_val (x_fieldE (b := 0) rfl (hS.get 11 rfl) Try.underlying28 rfl rfl (by kernel_rfl)) rfl) ?_
   rintro gx hG ⟨hb, he⟩
   have ep := below_step ch hb
   have a5 := below_step (bR fl) hb
   obtain rfl : gx = .pointer (some ⟨ab, 16, none⟩) := he
   refine ⟨((a5.block aa (blk_lt cr)).trans cr), ?_⟩
   refine hS.nextC (v := .pointer (some ⟨ab, 16, none⟩)) (d := 46) rfl (by decide) (by rfl) ?_
   clear hS
   intro hd hS
   refine lc_step rfl (does_store (g := ab) (off := 16) (v := .int .i64 ao) (new := (body_own.c1 ar au av aw ax ay az aA aB aC am ah ai aj ak al ao aL aH ap aM aI aq)) rfl (hS.get 0 rfl) (hS.get 4 rfl) ((a5.block ab (blk_lt eS)).trans eS) (by kernel_rfl) (by kernel_rfl) (by kernel_rfl) (by kernel_rfl)) ?_
   rintro hs fo ⟨rfl, eU, hT⟩
   have ct := hT.blk ((a5.block aa (blk_lt cr)).trans cr) (Ne.symm aE)
   have fQ := hT.blk ((a5.block an (blk_lt fN)).trans fN) (Ne.symm ag)
   have fz := hT.below ep af (ep).size
   clear hT
   refine ⟨(((bR fo).block aa (blk_lt ct)).trans ct), ?_⟩
   refine lc_nil ?_
   refine dy _ _ ?_
   refine reg_float (I := I2_ w fo) (C := fun x => x.heap[aa]? = some (.cells (body_own.c1 ac c6 c7 c8 c9 da db dc dd de b1 ah ai aj ak al ao aF aJ aP aG aK aQ) 28 (0, 0))) [true, true, true, true, true, true, true, false, false, false, false, false] [.pointer (some ⟨aa, 17, none⟩), .int .u64 aF, .pointer (some ⟨aa, 18, none⟩), .int .i64 aJ, .pointer (some ⟨aa, 19, none⟩), .int .i64 aP, .pointer (some ⟨ab, 17, none⟩), undef, undef, undef, undef, undef] [0, 1, 0, 4, 0, 16, 3, 67, 207, 463, 1023, 2047] (by kernel_rfl) (by kernel_rfl) rfl ?_ ?_ hS ⟨fz, (bR fo)⟩ ?_ ?_
   ·exact bs2
   ·exact fun x hI => ((hI.2.block aa (blk_lt ct)).trans ct)
   ·intro a hS hp
    refine .g (fun w hC => GRun.on rfl (x_fieldE (b := 0) rfl (hS.get 10 rfl) Try.underlying28 rfl rfl (by kernel_rfl))) ?_
    refine .g (fun w hC => GRun.on rfl (x_load1 (d := .int .u64) rfl ((hp.get 0 rfl rfl rfl)) (by kernel_rfl) rfl ((blk_cell ((((Below.refl _ _)).block aa (blk_lt hC)).trans hC) 17).trans rfl))) ?_
    refine .g (fun w hC => GRun.on rfl (x_fieldE (b := 0) rfl (hS.get 10 rfl) Try.underlying28 rfl rfl (by kernel_rfl))) ?_
    refine .g (fun w hC => GRun.on rfl (x_load1 (d := .int .i64) rfl ((hp.get 2 rfl rfl rfl)) (by kernel_rfl) rfl ((blk_cell ((((Below.refl _ _)).block aa (blk_lt hC)).trans hC) 18).trans rfl))) ?_
    refine .g (fun w hC => GRun.on rfl (x_fieldE (b := 0) rfl (hS.get 10 rfl) Try.underlying28 rfl rfl (by kernel_rfl))) ?_
    refine .g (fun w hC => GRun.on rfl (x_load1 (d := .int .i64) rfl ((hp.get 4 rfl rfl rfl)) (by kernel_rfl) rfl ((blk_cell ((((Below.refl _ _)).block aa (blk_lt hC)).trans hC) 19).trans rfl))) ?_
    refine .g (fun w hC => GRun.on rfl (x_fieldE (b := 0) rfl (hS.get 12 rfl) Try.underlying28 rfl rfl (by kernel_rfl))) ?_
    iterate 5 refine .t ?_
    exact .nil
   clear hS
   intro hf hH hS hp dH
   have hS := hS.cons (show sl _ 48 = .int .u64 aF from hp.get 1 rfl rfl rfl)
   have hS := hS.cons (show sl _ 50 = .int .i64 aJ from hp.get 3 rfl rfl rfl)
   have hS := hS.cons (show sl _ 52 = .int .i64 aP from hp.get 5 rfl rfl rfl)
   have hS := hS.cons (show sl _ 53 = .pointer (some ⟨ab, 17, none⟩) from hp.get 6 rfl rfl rfl)
   clear hp
   show ListC _ _ _ _ [_, _, _, _, _] _ _
   refine lc_step rfl (does_store (g := ab) (off := 17) (v := .int .u64 aF) (new := (body_own.c1 ar au av aw ax ay az aA aB aC am ah ai aj ak al ao aF aH ap aM aI aq)) rfl (hS.get 0 rfl) (hS.get 3 rfl) ((dH.2.block ab (blk_lt eU)).trans eU) (by kernel_rfl) (by kernel_rfl) (by kernel_rfl) (by kernel_rfl)) ?_
   rintro ht gb ⟨rfl, eV, hT⟩
   have cu := hT.blk ((dH.2.block aa (blk_lt ct)).trans ct) (Ne.symm aE)
   have fR := hT.blk ((dH.2.block an (blk_lt fQ)).trans fQ) (Ne.symm ag)
   have fA := hT.below dH.1 af (dH.1).size
   clear hT
   refine ⟨(((bR gb).block aa (blk_lt cu)).trans cu), ?_⟩
   refine lc_step rfl (R := fun v w' => Below _ _ w' ∧ (VP ab 18) v w') (does_val (x_fieldE (b := 0) rfl (hS.get 16 rfl) Try.underlying28 rfl rfl (by kernel_rfl)) rfl) ?_
   rintro gy hJ ⟨hb, he⟩
   have eq := below_step fA hb
   have a6 := below_step (bR gb) hb
   obtain rfl : gy = .pointer (some ⟨ab, 18, none⟩) := he
   refine ⟨((a6.block aa (blk_lt cu)).trans cu), ?_⟩
   refine hS.nextC (v := .pointer (some ⟨ab, 18, none⟩)) (d := 54) rfl (by decide) (by rfl) ?_
   clear hS
   intro hg hS
   refine lc_step rfl (does_store (g := ab) (off := 18) (v := .int .i64 aJ) (new := (body_own.c1 ar au av aw ax ay az aA aB aC am ah ai aj ak al ao aF aJ ap aM aI aq)) rfl (hS.get 0 rfl) (hS.get 3 rfl) ((a6.block ab (blk_lt eV)).trans eV) (by kernel_rfl) (by kernel_rfl) (by kernel_rfl) (by kernel_rfl)) ?_
   rintro hu gc ⟨rfl, eW, hT⟩
   have cv := hT.blk ((a6.block aa (blk_lt cu)).trans cu) (Ne.symm aE)
   have fS := hT.blk ((a6.block an (blk_lt fR)).trans fR) (Ne.symm ag)
   have fB := hT.below eq af (eq).size
   clear hT
   refine ⟨(((bR gc).block aa (blk_lt cv)).trans cv), ?_⟩
   refine lc_step rfl (R := fun v w' => Below _ _ w' ∧ (VP ab 19) v w') (does_val (x_fieldE (b := 0) rfl (hS.get 17 rfl) Try.underlying28 rfl rfl (by kernel_rfl)) rfl) ?_
   rintro gz hK ⟨hb, he⟩
   have er := below_step fB hb
   have a7 := below_step (bR gc) hb
   obtain rfl : gz = .pointer (some ⟨ab, 19, none⟩) := he
   refine ⟨((a7.block aa (blk_lt cv)).trans cv), ?_⟩
   refine hS.nextC (v := .pointer (some ⟨ab, 19, none⟩)) (d := 55) rfl (by decide) (by rfl) ?_
   clear hS
   intro hh hS
   refine lc_step rfl (does_store (g := ab) (off := 19) (v := .int .i64 aP) (new := (body_own.c1 ar au av aw ax ay az aA aB aC am ah ai aj ak al ao aF aJ aP aM aI aq)) rfl (hS.get 0 rfl) (hS.get 3 rfl) ((a7.block ab (blk_lt eW)).trans eW) (by kernel_rfl) (by kernel_rfl) (by kernel_rfl) (by kernel_rfl)) ?_
   rintro hw fp ⟨rfl, eX, hT⟩
   have fT := hT.blk ((a7.block aa (blk_lt cv)).trans cv) (Ne.symm aE)
   have fU := hT.blk ((a7.block an (blk_lt fS)).trans fS) (Ne.symm ag)
   have fC := hT.below er af (er).size
   clear hT
   refine ⟨(((bR fp).block aa (blk_lt fT)).trans fT), ?_⟩
   refine lc_nil ?_
   replace hS := ((hS.nil).cons (hS.get 18 rfl)).cons (hS.get 17 rfl)
   (try simp only [Exit.then, Exit.inBlock])
   exact J3 _ _ df dg dh di dj dk dl dm dn dp b2 b3 b4 b5 b6 b7 b8 b9 ca cb cc cd ce an ar au av aw ax ay az aA aB aC am ah ai aj ak al ao aF aJ aP aM aI aq ab H hS fC dA (((bR fp).block an (blk_lt fU)).trans fU) af (((bR fp).block ab (blk_lt eX)).trans eX) ag
  obtain ⟨dt, fq, H⟩ := Option.bind_eq_some_iff.mp H
  by_cases c1 : dt = true
  rotate_left
  ·rw [if_neg c1] at H
   refine wp_seq_k (fun gC eM => ?_)
   refine reg_seq (I := I2_ w dI) (ps := [VP aN 0, VI bq, VB dt]) (by kernel_rfl) ?_ ?_ rfl hS ⟨ff, (bR dI)⟩ ?_ ?_
   ·exact bs2
   ·exact .v (.v (.v (.nil)))
   ·refine .on rfl (fun a w hS hI hp => does_val (x_fieldE (b := 0) rfl (hS.get 0 rfl) Try.underlying28 rfl rfl (by kernel_rfl)) rfl) ?_
    refine .on rfl (fun a w hS hI hp => does_val (x_load1 (d := .int .i64) rfl (hp.V 0 rfl rfl) (by kernel_rfl) rfl ((blk_cell (((hI.2).block aN (blk_lt aD)).trans aD) 0).trans rfl)) rfl) ?_
    refine .on rfl (fun a w hS hI hp => does_call (by kernel_rfl) (ar1 (hp.V 1 rfl rfl)) ((body_targeted.calls bq dt _  fq).mono fun _ _ h => ⟨_, h.1, h.2.below, rfl⟩)) ?_
    exact .nil
   clear hS
   intro gj fi hS cf hp
   have e0 : sl _ 27 = .bool dt := hp 2 (by decide)
   have hS := hS.cons e0
   clear hp e0
   refine eM _ _ ?_
   refine wp_cond_false ((hS.get 0 rfl).trans (bF (Bool.eq_false_iff.2 c1))) ?_
   refine wp_skip ?_
   replace hS := (((hS.nil).cons (hS.get 3 rfl)).cons (hS.get 2 rfl)).cons (hS.get 1 rfl)
   (try simp only [Exit.then, Exit.inBlock])
   exact J2 _ _ bq dJ dK dL dM dN dO dP dQ aX aO cw cx cy cz cA cB cC cD cE cF cG cH aN dR dS dT dU dV dW dX dY dZ d0 cI cJ cK cL cM cN cO cP cQ cR cS cT cU bo cV cW cX cY cZ c0 c3 c4 c5 d7 d3 bN bO bP bQ bS bU bV bW bX bY bZ b0 aW H hS cf.1 et ((cf.2.block aN (blk_lt aD)).trans aD) eu ((cf.2.block bo (blk_lt ci)).trans ci) dz ((cf.2.block aW (blk_lt cj)).trans cj) ev dB dC
  rw [if_pos c1] at H
  refine wp_seq_k (fun gC eM => ?_)
  refine reg_seq (I := I2_ w dI) (ps := [VP aN 0, VI bq, VB dt]) (by kernel_rfl) ?_ ?_ rfl hS ⟨ff, (bR dI)⟩ ?_ ?_
  ·exact bs2
  ·exact .v (.v (.v (.nil)))
  ·refine .on rfl (fun a w hS hI hp => does_val (x_fieldE (b := 0) rfl (hS.get 0 rfl) Try.underlying28 rfl rfl (by kernel_rfl)) rfl) ?_
   refine .on rfl (fun a w hS hI hp => does_val (x_load1 (d := .int .i64) rfl (hp.V 0 rfl rfl) (by kernel_rfl) rfl ((blk_cell (((hI.2).block aN (blk_lt aD)).trans aD) 0).trans rfl)) rfl) ?_
   refine .on rfl (fun a w hS hI hp => does_call (by kernel_rfl) (ar1 (hp.V 1 rfl rfl)) ((body_targeted.calls bq dt _  fq).mono fun _ _ h => ⟨_, h.1, h.2.below, rfl⟩)) ?_
   exact .nil
  clear hS
  intro gj fi hS cf hp
  have e0 : sl _ 27 = .bool dt := hp 2 (by decide)
  have hS := hS.cons e0
  clear hp e0
  refine eM _ _ ?_
  refine wp_cond_true ((hS.get 0 rfl).trans (bT c1)) ?_
  refine reg_seq_tail 3 (I := I3_ w dI fi) (ps := [VP aN 9, IsV (.agg #[.int .u64 aX, .int .i64 aO]), VP aW 9]) (by kernel_rfl) ?_ ?_ rfl hS ⟨cf.1, cf.2, (bR fi)⟩ ?_ ?_
  ·exact bs3
  ·exact .v (.v (.v (.nil)))
  ·refine .on rfl (fun a w hS hI hp => does_val (x_fieldE (b := 0) rfl (hS.get 1 rfl) Try.underlying28 rfl rfl (by kernel_rfl)) rfl) ?_
   refine .on rfl (fun a w hS hI hp => does_loadmid (cs := [.int .u64 aX, .int .i64 aO]) rfl (hp.V 0 rfl rfl) (((hI.2.1).block aN (blk_lt aD)).trans aD) (by kernel_rfl) Try.underlying24 rfl (by kernel_rfl) rfl) ?_
   refine .on rfl (fun a w hS hI hp => does_val (x_fieldE (b := 0) rfl (hS.get 3 rfl) Try.underlying28 rfl rfl (by kernel_rfl)) rfl) ?_
   exact .nil
  clear hS
  intro g3 hB hS dF hp
  replace hS := (((hS.nil).cons (hS.get 3 rfl)).cons (hS.get 2 rfl)).cons (hS.get 1 rfl)
  have gr : sl _ 29 = .agg #[.int .u64 aX, .int .i64 aO] := hp 1 (by decide)
  have gs : sl _ 30 = .pointer (some ⟨aW, 9, none⟩) := hp 2 (by decide)
  have hS := hS.cons gr
  have hS := hS.cons gs
  clear hp gr gs
  show wpList _ _ _ [_] _ _
  refine list_step rfl (does_store (g := aW) (off := 9) (v := .agg #[.int .u64 aX, .int .i64 aO]) (new := (body_own.c1 cV cW cX cY cZ c0 c3 c4 c5 aX aO bN bO bP bQ bS bU bV bW bX bY bZ b0)) rfl (hS.get 0 rfl) (hS.get 1 rfl) ((dF.2.1.block aW (blk_lt cj)).trans cj) (by kernel_rfl) (by kernel_rfl) (by kernel_rfl) (by kernel_rfl)) ?_
  rintro hm fj ⟨rfl, eN, hT⟩
  have fH := hT.blk ((dF.2.1.block aN (blk_lt aD)).trans aD) (Ne.symm dB)
  have fI := hT.blk ((dF.2.1.block bo (blk_lt ci)).trans ci) (Ne.symm dC)
  have fu := hT.below dF.1 dz (dF.1).size
  clear hT
  refine wpList_nil ?_
  replace hS := (((hS.nil).cons (hS.get 4 rfl)).cons (hS.get 3 rfl)).cons (hS.get 2 rfl)
  (try simp only [Exit.then, Exit.inBlock])
  exact J2 _ _ bq dJ dK dL dM dN dO dP dQ aX aO cw cx cy cz cA cB cC cD cE cF cG cH aN dR dS dT dU dV dW dX dY dZ d0 cI cJ cK cL cM cN cO cP cQ cR cS cT cU bo cV cW cX cY cZ c0 c3 c4 c5 aX aO bN bO bP bQ bS bU bV bW bX bY bZ b0 aW H hS fu et (((bR fj).block aN (blk_lt fH)).trans fH) eu (((bR fj).block bo (blk_lt fI)).trans fI) dz (((bR fj).block aW (blk_lt eN)).trans eN) ev dB dC
 obtain ⟨e2, gf, H⟩ := Option.bind_eq_some_iff.mp H
 by_cases c1 : e2 = true
 rotate_left
 ·rw [if_neg c1] at H
  refine wp_seq_k (fun g2 f1 => ?_)
  refine reg_seq (I := I4_ w w3 w5 fY) (ps := [VP g4 0, VI aZ, VB e2]) (by kernel_rfl) ?_ ?_ rfl hS ⟨fe, eK, eL, (bR fY)⟩ ?_ ?_
  ·exact bs4
  ·exact .v (.v (.v (.nil)))
  ·refine .on rfl (fun a w hS hI hp => does_val (x_fieldE (b := 0) rfl (hS.get 3 rfl) Try.underlying28 rfl rfl (by kernel_rfl)) rfl) ?_
   refine .on rfl (fun a w hS hI hp => does_val (x_load1 (d := .int .i64) rfl (hp.V 0 rfl rfl) (by kernel_rfl) rfl ((blk_cell (((hI.2.1).block g4 (blk_lt ad)).trans ad) 0).trans rfl)) rfl) ?_
   refine .on rfl (fun a w hS hI hp => does_call (by kernel_rfl) (ar1 (hp.V 1 rfl rfl)) ((body_stamped.calls aZ e2 _  gf).mono fun _ _ h => ⟨_, h.1, h.2.below, rfl⟩)) ?_
   exact .nil
  clear hS
  intro gY gA hS ds hp
  replace hS := (((hS.nil).cons (hS.get 3 rfl)).cons (hS.get 2 rfl)).cons (hS.get 0 rfl)
  have eZ : sl _ 21 = .bool e2 := hp 2 (by decide)
  have hS := hS.cons eZ
  clear hp eZ
  refine f1 _ _ ?_
  refine wp_cond_false ((hS.get 0 rfl).trans (bF (Bool.eq_false_iff.2 c1))) ?_
  refine wp_skip ?_
  replace hS := (((hS.nil).cons (hS.get 1 rfl)).cons (hS.get 2 rfl)).cons (hS.get 3 rfl)
  (try simp only [Exit.then, Exit.inBlock])
  exact J1 _ _ aZ bH bI bJ br bs bK bL dq fg ew ex ey ez eA eB eC eD eE eF eG eH eI g4 0 0 0 0 0 0 0 0 0 0 0 0 0 0 0 0 0 0 0 0 0 0 0 g6 aZ bH bI bJ br bs bK bL 0 0 0 0 0 0 0 0 0 0 0 0 0 0 0 du H hS ds.1 f5 ((ds.2.1.block g4 (blk_lt ad)).trans ad) (Nat.le_trans (gu).size fh) ((ds.2.2.1.block g6 (blk_lt d2)).trans d2) (Nat.le_trans (dv).size a0) ((ds.2.2.2.block du (blk_lt d5)).trans d5) gn f6 f7
 rw [if_pos c1] at H
 refine wp_seq_k (fun g2 f1 => ?_)
 refine reg_seq (I := I4_ w w3 w5 fY) (ps := [VP g4 0, VI aZ, VB e2]) (by kernel_rfl) ?_ ?_ rfl hS ⟨fe, eK, eL, (bR fY)⟩ ?_ ?_
 ·exact bs4
 ·exact .v (.v (.v (.nil)))
 ·refine .on rfl (fun a w hS hI hp => does_val (x_fieldE (b := 0) rfl (hS.get 3 rfl) Try.underlying28 rfl rfl (by kernel_rfl)) rfl) ?_
  refine .on rfl (fun a w hS hI hp => does_val (x_load1 (d := .int .i64) rfl (hp.V 0 rfl rfl) (by kernel_rfl) rfl ((blk_cell (((hI.2.1).block g4 (blk_lt ad)).trans ad) 0).trans rfl)) rfl) ?_
  refine .on rfl (fun a w hS hI hp => does_call (by kernel_rfl) (ar1 (hp.V 1 rfl rfl)) ((body_stamped.calls aZ e2 _  gf).mono fun _ _ h => ⟨_, h.1, h.2.below, rfl⟩)) ?_
  exact .nil
 clear hS
 intro gY gA hS ds hp
 replace hS := (((hS.nil).cons (hS.get 3 rfl)).cons (hS.get 2 rfl)).cons (hS.get 0 rfl)
 have eZ : sl _ 21 = .bool e2 := hp 2 (by decide)
 have hS := hS.cons eZ
 clear hp eZ
 refine f1 _ _ ?_
 refine wp_cond_true ((hS.get 0 rfl).trans (bT c1)) ?_
 refine reg_seq_tail 3 (I := I5_ w w3 w5 fY gA) (ps := [VP g4 8, VI dq, VP du 8]) (by kernel_rfl) ?_ ?_ rfl hS ⟨ds.1, ds.2.1, ds.2.2.1, ds.2.2.2, (bR gA)⟩ ?_ ?_
 ·exact bs5
 ·exact .v (.v (.v (.nil)))
 ·refine .on rfl (fun a w hS hI hp => does_val (x_fieldE (b := 0) rfl (hS.get 3 rfl) Try.underlying28 rfl rfl (by kernel_rfl)) rfl) ?_
  refine .on rfl (fun a w hS hI hp => does_val (x_load1 (d := .int .i64) rfl (hp.V 0 rfl rfl) (by kernel_rfl) rfl ((blk_cell (((hI.2.1).block g4 (blk_lt ad)).trans ad) 8).trans rfl)) rfl) ?_
  refine .on rfl (fun a w hS hI hp => does_val (x_fieldE (b := 0) rfl (hS.get 1 rfl) Try.underlying28 rfl rfl (by kernel_rfl)) rfl) ?_
  exact .nil
 clear hS
 intro hN hV hS d4 hp
 replace hS := (((hS.nil).cons (hS.get 3 rfl)).cons (hS.get 2 rfl)).cons (hS.get 1 rfl)
 have gp : sl _ 23 = .int .i64 dq := hp 1 (by decide)
 have gq : sl _ 24 = .pointer (some ⟨du, 8, none⟩) := hp 2 (by decide)
 have hS := hS.cons gp
 have hS := hS.cons gq
 clear hp gp gq
 show wpList _ _ _ [_] _ _
 refine list_step rfl (does_store (g := du) (off := 8) (v := .int .i64 dq) (new := (body_own.c1 aZ bH bI bJ br bs bK bL dq 0 0 0 0 0 0 0 0 0 0 0 0 0 0)) rfl (hS.get 0 rfl) (hS.get 1 rfl) ((d4.2.2.2.1.block du (blk_lt d5)).trans d5) (by kernel_rfl) (by kernel_rfl) (by kernel_rfl) (by kernel_rfl)) ?_
 rintro hP hz ⟨rfl, fF, hT⟩
 have gd := hT.below d4.1 (Nat.le_trans (dv).size a0) (d4.1).size
 have fZ := hT.below d4.2.1 (Nat.le_trans (d1).size a0) (d4.2.1).size
 have f0 := hT.below d4.2.2.1 a0 (d4.2.2.1).size
 clear hT
 refine wpList_nil ?_
 replace hS := (((hS.nil).cons (hS.get 2 rfl)).cons (hS.get 3 rfl)).cons (hS.get 4 rfl)
 (try simp only [Exit.then, Exit.inBlock])
 exact J1 _ _ aZ bH bI bJ br bs bK bL dq fg ew ex ey ez eA eB eC eD eE eF eG eH eI g4 0 0 0 0 0 0 0 0 0 0 0 0 0 0 0 0 0 0 0 0 0 0 0 g6 aZ bH bI bJ br bs bK bL dq 0 0 0 0 0 0 0 0 0 0 0 0 0 0 du H hS gd f5 ((fZ.block g4 (blk_lt ad)).trans ad) (Nat.le_trans (gu).size fh) ((f0.block g6 (blk_lt d2)).trans d2) (Nat.le_trans (dv).size a0) (((bR hz).block du (blk_lt fF)).trans fF) gn f6 f7
def stamp_May.f (a0 : Int) : Option (Bool) := if a0 ≥ 0 then (some (decide (a0 ≤ 4000000000000000))) else (some false)
set_option maxHeartbeats 8000000 in
set_option maxRecDepth 100000 in
theorem stamp_May.calls (a0 : Int) (r : Bool) (w : World) (h : stamp_May.f a0 = some r) :
    Calls Try.prog 75 #[.int .i64 a0] w fun e w' => e = .returned (.bool r) ∧ Drawn0 w w' := by
  have H : (if a0 ≥ 0 then (some (decide (a0 ≤ 4000000000000000))) else (some false)) = some r := h
  clear h
  by_cases c2 : a0 ≥ 0
  · rw [if_pos c2] at H
    have c2b0 : decide (0 ≤ a0) = true := decide_eq_true c2
    clear c2
    obtain rfl := Option.some.inj H
    go_enter Try.func75, Try.ntmps75
    go_wp2
    all_goals
      go_ret
      exact ⟨by first | rfl | (simp; done) | (simp [*]; done), by repeat (first | exact Drawn0.refl _ | apply Drawn0.step)⟩
  · rw [if_neg c2] at H
    have c2b0 : decide (0 ≤ a0) = false := decide_eq_false c2
    clear c2
    obtain rfl := Option.some.inj H
    go_enter Try.func75, Try.ntmps75
    go_wp2
    all_goals
      go_ret
      exact ⟨by first | rfl | (simp; done) | (simp [*]; done), by repeat (first | exact Drawn0.refl _ | apply Drawn0.step)⟩
end Go.Proofs.Ytiomlbkakiienaa.P
