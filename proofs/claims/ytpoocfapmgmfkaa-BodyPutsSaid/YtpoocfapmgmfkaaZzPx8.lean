/- Functions and loops of the given program as Lean functions, and that the code comes to what they say: written by this session's own program; Lean checks it. -/
import Derived.Test.YtpoocfapmgmfkaaZzPx0
import Derived.Test.YtpoocfapmgmfkaaZzPx2
import Derived.Test.YtpoocfapmgmfkaaZzPx3
import Derived.Test.YtpoocfapmgmfkaaZzPx5
import Derived.Test.YtpoocfapmgmfkaaZzPx7
namespace Go.Proofs.Ytpoocfapmgmfkaa.P
open Go.RowKit Go.Proofs.YtpoocfapmgmfkaaW.PrintWords Go.Proofs.YtpoocfapmgmfkaaW.PrintLast Go.Proofs.YtpoocfapmgmfkaaW.PrintMore
attribute [local go_sem] max2_int min2_int max_two min_two max_three min_three max_four min_four   -- for this text's walks alone
set_option linter.unusedVariables false
set_option linter.unusedSimpArgs false
/-! ### carillonref07_Len: function 13 -/
mutual
def carillonref07_Len.j0 : Nat → Int → Bool → Option (Int)
  | 0, _, _ => none
  | k + 1, x3, x4 => if x4 = true then (some 10) else (if x3 = 2 then (carillonref07_Len.j1 k x3 (x3 == 2)) else (if x3 = 3 then (carillonref07_Len.j1 k x3 (x3 == 3)) else (if x3 = 10 then (carillonref07_Len.j1 k x3 (x3 == 10)) else (carillonref07_Len.j1 k x3 (x3 == 9)))))
def carillonref07_Len.j1 : Nat → Int → Bool → Option (Int)
  | 0, _, _ => none
  | k + 1, x3, x9 => if x9 = true then (some 20) else (if x3 = 11 then (some 30) else (if x3 = 13 then (some 14) else (some 0)))
end
def carillonref07_Len.f (k : Nat) (a0 : Int) : Option (Int) := if a0 = 0 then (carillonref07_Len.j0 k a0 (a0 == 0)) else (if a0 = 1 then (carillonref07_Len.j0 k a0 (a0 == 1)) else (if a0 = 8 then (carillonref07_Len.j0 k a0 (a0 == 8)) else (carillonref07_Len.j0 k a0 (a0 == 12))))
set_option maxHeartbeats 8000000 in
set_option maxRecDepth 100000 in
theorem carillonref07_Len.calls (k : Nat) (a0 : Int) (r : Int) (w : World) (h : carillonref07_Len.f k a0 = some r) :
    Calls Try.prog 13 #[.int .i64 a0] w fun e w' => e = .returned (.int .i64 r) ∧ Drawn0 w w' := by
  have H : (if a0 = 0 then (carillonref07_Len.j0 k a0 (a0 == 0)) else (if a0 = 1 then (carillonref07_Len.j0 k a0 (a0 == 1)) else (if a0 = 8 then (carillonref07_Len.j0 k a0 (a0 == 8)) else (carillonref07_Len.j0 k a0 (a0 == 12))))) = some r := h
  clear h
  have HC2 := Aside0.mk H
  clear H
  go_enter Try.func13, Try.ntmps13
  go_upto_if 4 with (fail)
  go_cut [4] (fun v4 wc => ∃ (kq : Nat) (x4_1 : Bool), v4 = .bool x4_1 ∧ Aside0 (carillonref07_Len.j0 kq a0 x4_1 = some r) ∧ Aside0 (kq ≤ k) ∧ Drawn0 w wc)
  case first =>
    have H := HC2.out
    clear HC2
    by_cases c3 : a0 = 0
    · rw [if_pos c3] at H
      have c3b0 : (a0 == 0) = true := beq_iff_eq.mpr c3
      have c3b1 : (a0 != 0) = false := bne_eq_false_iff_eq.mpr c3
      clear c3
      (first | rw [c3b0] | (simp only [i64_w, i32_w]; rw [c3b0]) | skip)
      have H' := Aside0.mk H
      clear H
      go_wp2
      go_meet
      case rel => exact ⟨_, ((a0 == 0)), (by first | rfl | (simp; done) | (simp [*]; done)), H', ⟨by first | omega | exact Nat.le_refl _⟩, by repeat (first | exact Drawn0.refl _ | apply Drawn0.step)⟩
    · rw [if_neg c3] at H
      have c3b0 : (a0 == 0) = false := beq_eq_false_iff_ne.mpr c3
      have c3b1 : (a0 != 0) = true := bne_iff_ne.mpr c3
      (first | rw [c3b0] | (simp only [i64_w, i32_w]; rw [c3b0]) | skip)
      by_cases c4 : a0 = 1
      · rw [if_pos c4] at H
        have c4b0 : (a0 == 1) = true := beq_iff_eq.mpr c4
        have c4b1 : (a0 != 1) = false := bne_eq_false_iff_eq.mpr c4
        clear c4
        have H' := Aside0.mk H
        clear H
        go_wp2
        go_meet
        case rel => exact ⟨_, ((a0 == 1)), (by first | rfl | (simp; done) | (simp [*]; done)), H', ⟨by first | omega | exact Nat.le_refl _⟩, by repeat (first | exact Drawn0.refl _ | apply Drawn0.step)⟩
      · rw [if_neg c4] at H
        have c4b0 : (a0 == 1) = false := beq_eq_false_iff_ne.mpr c4
        have c4b1 : (a0 != 1) = true := bne_iff_ne.mpr c4
        by_cases c5 : a0 = 8
        · rw [if_pos c5] at H
          have c5b0 : (a0 == 8) = true := beq_iff_eq.mpr c5
          have c5b1 : (a0 != 8) = false := bne_eq_false_iff_eq.mpr c5
          clear c5
          have H' := Aside0.mk H
          clear H
          go_wp2
          go_meet
          case rel => exact ⟨_, ((a0 == 8)), (by first | rfl | (simp; done) | (simp [*]; done)), H', ⟨by first | omega | exact Nat.le_refl _⟩, by repeat (first | exact Drawn0.refl _ | apply Drawn0.step)⟩
        · rw [if_neg c5] at H
          have c5b0 : (a0 == 8) = false := beq_eq_false_iff_ne.mpr c5
          have c5b1 : (a0 != 8) = true := bne_iff_ne.mpr c5
          have H' := Aside0.mk H
          clear H
          go_wp2
          go_meet
          case rel => exact ⟨_, ((a0 == 12)), (by first | rfl | (simp; done) | (simp [*]; done)), H', ⟨by first | omega | exact Nat.le_refl _⟩, by repeat (first | exact Drawn0.refl _ | apply Drawn0.step)⟩
  case rest =>
    clear HC2
    try clear c1
    try clear p2
    try clear c3
    try clear c3b0
    try clear c3b1
    try clear c4
    try clear c4b0
    try clear c4b1
    try clear c5
    try clear c5b0
    try clear c5b1
    obtain ⟨kq, x4_1, rfl, HA, HJ1, ⟨mc1, rfl⟩⟩ := hcut
    cases kq with
    | zero => exact absurd HA.out (by simp [carillonref07_Len.j0])
    | succ kj1 =>
      have H := HA.out
      clear HA
      simp only [carillonref07_Len.j0] at H
      by_cases c6 : x4_1 = true
      · subst c6
        have H1 : (some 10) = some r := by rw [if_pos rfl] at H; exact H
        clear H
        have H := H1
        clear H1
        obtain rfl := Option.some.inj H
        go_wp2
        all_goals
          go_ret
          exact ⟨by first | rfl | (simp; done) | (simp [*]; done), by repeat (first | exact Drawn0.refl _ | apply Drawn0.step)⟩
      · replace c6 := Bool.eq_false_iff.mpr c6
        subst c6
        have H1 : (if a0 = 2 then (carillonref07_Len.j1 kj1 a0 (a0 == 2)) else (if a0 = 3 then (carillonref07_Len.j1 kj1 a0 (a0 == 3)) else (if a0 = 10 then (carillonref07_Len.j1 kj1 a0 (a0 == 10)) else (carillonref07_Len.j1 kj1 a0 (a0 == 9))))) = some r := by rw [if_neg (show ¬ (false = true) by decide)] at H; exact H
        clear H
        have H := H1
        clear H1
        have HC7 := Aside0.mk H
        clear H
        go_upto_if 9 with (fail)
        go_cut [9] (fun v9 wc => ∃ (kq : Nat) (x9_6 : Bool), v9 = .bool x9_6 ∧ Aside0 (carillonref07_Len.j1 kq a0 x9_6 = some r) ∧ Aside0 (kq ≤ kj1) ∧ Drawn0 w wc)
        case first =>
          have H := HC7.out
          clear HC7
          by_cases c8 : a0 = 2
          · rw [if_pos c8] at H
            have c8b0 : (a0 == 2) = true := beq_iff_eq.mpr c8
            have c8b1 : (a0 != 2) = false := bne_eq_false_iff_eq.mpr c8
            clear c8
            (first | rw [c8b0] | (simp only [i64_w, i32_w]; rw [c8b0]) | skip)
            have H' := Aside0.mk H
            clear H
            go_wp2
            go_meet
            case rel => exact ⟨_, ((a0 == 2)), (by first | rfl | (simp; done) | (simp [*]; done)), H', ⟨by have := HJ1.out; first | omega | exact Nat.le_refl _⟩, by repeat (first | exact Drawn0.refl _ | apply Drawn0.step)⟩
          · rw [if_neg c8] at H
            have c8b0 : (a0 == 2) = false := beq_eq_false_iff_ne.mpr c8
            have c8b1 : (a0 != 2) = true := bne_iff_ne.mpr c8
            (first | rw [c8b0] | (simp only [i64_w, i32_w]; rw [c8b0]) | skip)
            by_cases c9 : a0 = 3
            · rw [if_pos c9] at H
              have c9b0 : (a0 == 3) = true := beq_iff_eq.mpr c9
              have c9b1 : (a0 != 3) = false := bne_eq_false_iff_eq.mpr c9
              clear c9
              have H' := Aside0.mk H
              clear H
              go_wp2
              go_meet
              case rel => exact ⟨_, ((a0 == 3)), (by first | rfl | (simp; done) | (simp [*]; done)), H', ⟨by have := HJ1.out; first | omega | exact Nat.le_refl _⟩, by repeat (first | exact Drawn0.refl _ | apply Drawn0.step)⟩
            · rw [if_neg c9] at H
              have c9b0 : (a0 == 3) = false := beq_eq_false_iff_ne.mpr c9
              have c9b1 : (a0 != 3) = true := bne_iff_ne.mpr c9
              by_cases c10 : a0 = 10
              · rw [if_pos c10] at H
                have c10b0 : (a0 == 10) = true := beq_iff_eq.mpr c10
                have c10b1 : (a0 != 10) = false := bne_eq_false_iff_eq.mpr c10
                clear c10
                have H' := Aside0.mk H
                clear H
                go_wp2
                go_meet
                case rel => exact ⟨_, ((a0 == 10)), (by first | rfl | (simp; done) | (simp [*]; done)), H', ⟨by have := HJ1.out; first | omega | exact Nat.le_refl _⟩, by repeat (first | exact Drawn0.refl _ | apply Drawn0.step)⟩
              · rw [if_neg c10] at H
                have c10b0 : (a0 == 10) = false := beq_eq_false_iff_ne.mpr c10
                have c10b1 : (a0 != 10) = true := bne_iff_ne.mpr c10
                have H' := Aside0.mk H
                clear H
                go_wp2
                go_meet
                case rel => exact ⟨_, ((a0 == 9)), (by first | rfl | (simp; done) | (simp [*]; done)), H', ⟨by have := HJ1.out; first | omega | exact Nat.le_refl _⟩, by repeat (first | exact Drawn0.refl _ | apply Drawn0.step)⟩
        case rest =>
          clear HC7
          try clear c1
          try clear p2
          try clear c3
          try clear c3b0
          try clear c3b1
          try clear c4
          try clear c4b0
          try clear c4b1
          try clear c5
          try clear c5b0
          try clear c5b1
          try clear c6
          try clear c8
          try clear c8b0
          try clear c8b1
          try clear c9
          try clear c9b0
          try clear c9b1
          try clear c10
          try clear c10b0
          try clear c10b1
          try clear p2
          obtain ⟨kq, x9_6, rfl, HA, HJ6, ⟨mc6, rfl⟩⟩ := hcut
          cases kq with
          | zero => exact absurd HA.out (by simp [carillonref07_Len.j1])
          | succ kj6 =>
            have H := HA.out
            clear HA
            simp only [carillonref07_Len.j1] at H
            by_cases c11 : x9_6 = true
            · subst c11
              have H1 : (some 20) = some r := by rw [if_pos rfl] at H; exact H
              clear H
              have H := H1
              clear H1
              obtain rfl := Option.some.inj H
              go_wp2
              all_goals
                go_ret
                exact ⟨by first | rfl | (simp; done) | (simp [*]; done), by repeat (first | exact Drawn0.refl _ | apply Drawn0.step)⟩
            · replace c11 := Bool.eq_false_iff.mpr c11
              subst c11
              have H1 : (if a0 = 11 then (some 30) else (if a0 = 13 then (some 14) else (some 0))) = some r := by rw [if_neg (show ¬ (false = true) by decide)] at H; exact H
              clear H
              have H := H1
              clear H1
              by_cases c12 : a0 = 11
              · rw [if_pos c12] at H
                have c12b0 : (a0 == 11) = true := beq_iff_eq.mpr c12
                have c12b1 : (a0 != 11) = false := bne_eq_false_iff_eq.mpr c12
                clear c12
                obtain rfl := Option.some.inj H
                go_wp2
                all_goals
                  go_ret
                  exact ⟨by first | rfl | (simp; done) | (simp [*]; done), by repeat (first | exact Drawn0.refl _ | apply Drawn0.step)⟩
              · rw [if_neg c12] at H
                have c12b0 : (a0 == 11) = false := beq_eq_false_iff_ne.mpr c12
                have c12b1 : (a0 != 11) = true := bne_iff_ne.mpr c12
                by_cases c13 : a0 = 13
                · rw [if_pos c13] at H
                  have c13b0 : (a0 == 13) = true := beq_iff_eq.mpr c13
                  have c13b1 : (a0 != 13) = false := bne_eq_false_iff_eq.mpr c13
                  clear c13
                  obtain rfl := Option.some.inj H
                  go_wp2
                  all_goals
                    go_ret
                    exact ⟨by first | rfl | (simp; done) | (simp [*]; done), by repeat (first | exact Drawn0.refl _ | apply Drawn0.step)⟩
                · rw [if_neg c13] at H
                  have c13b0 : (a0 == 13) = false := beq_eq_false_iff_ne.mpr c13
                  have c13b1 : (a0 != 13) = true := bne_iff_ne.mpr c13
                  obtain rfl := Option.some.inj H
                  go_wp2
                  all_goals
                    go_ret
                    exact ⟨by first | rfl | (simp; done) | (simp [*]; done), by repeat (first | exact Drawn0.refl _ | apply Drawn0.step)⟩
/-! ### carillonlaw07_awake: function 14: by our own printer -/
def carillonlaw07_awake.f (k : Nat)  : Option (Bool) := (body_Put.f k [] 11 0 0 0 0 0 0 0 0 0 0 0 0 0 0 0 0 0 0 0 0 0 0).bind fun t5 => (if t5.2 = true then (if (t5.1.length : Int) = 30 then ((body_Len.f k 13).bind fun t10 => (if t10 = 14 then ((body_Len.f k 4).bind fun t11 => (some (decide (t11 = 0)))) else (some false))) else (some false)) else (some false))
abbrev carillonlaw07_awake.v0 (x0 x1 x2 x3 x4 x5 x6 x7 x8 x9 x10 x11 x12 x13 x14 x15 x16 x17 x18 x19 x20 x21 x22 : Int) : Value := .agg #[.int .i64 x0, .int .i64 x1, .int .i64 x2, .int .i64 x3, .int .u64 x4, .int .i64 x5, .int .i64 x6, .int .i64 x7, .int .i64 x8, .int .u64 x9, .int .i64 x10, .int .i64 x11, .int .i64 x12, .int .i64 x13, .int .i64 x14, .int .i64 x15, .int .i64 x16, .int .u64 x17, .int .i64 x18, .int .i64 x19, .int .i64 x20, .int .i64 x21, .int .i64 x22]
open Go.Proofs.Ytpoocfapmgmfkaa.E in
set_option maxHeartbeats 60000000 in
set_option maxRecDepth 100000 in
theorem carillonlaw07_awake.calls (k : Nat) (r : Bool) (w : World) (h : carillonlaw07_awake.f k  = some r) :
    Calls Try.prog 14 #[] w fun e w' => e = .returned (.bool r) ∧ Below w.heap.size w w' := by
  have H := h
  clear h
  unfold carillonlaw07_awake.f at H
  obtain ⟨t5, At5, H⟩ := Option.bind_eq_some_iff.mp H
  obtain ⟨t5_1, t5_2⟩ := t5
  (try dsimp only at H)
  by_cases c1 : t5_2 = true
  rotate_left
  · rw [if_neg c1] at H
    obtain rfl := Option.some.inj H
    refine calls_of_wp (fn := Try.f14) (by kernel_rfl) rfl ?_
    have hS := St.enter #[] 22 (by simp) [] (by simp)
    have HB0 := Below.refl w.heap.size w
    refine wp_seq_k (fun K1 hK1 => ?_)
    refine reg_seq (N := 22) (bs := []) (I := fun x => Below w.heap.size w x) (ps := [VB false]) (by kernel_rfl) ?_ ?_ rfl hS HB0 ?_ ?_
    · exact fun x y hI hb => below_step hI hb
    · exact .v (.nil)
    · refine .on rfl (fun a w hS hI hp => does_val (x_assign rfl (rfl)) rfl) ?_
      exact .nil
    clear hS
    intro at2 w3 hS hI hp
    have hBw3_w := hI
    have hBw3_w3 := Below.refl w3.heap.size w3
    clear hp hI
    refine hK1 _ _ ?_
    (try clear hK1 K1)
    refine wp_seq_k (fun K4 hK4 => ?_)
    refine reg_seq (N := 22) (bs := []) (I := fun x => Below w.heap.size w x ∧ Below w3.heap.size w3 x) (ps := [IsV ((carillonlaw07_awake.v0 11 0 0 0 0 0 0 0 0 0 0 0 0 0 0 0 0 0 0 0 0 0 0)), IsT (fun v0_ => #[v0_, .bool t5_2]) (IsC (Kd.int .u8) t5_1), IsT (fun v0_ => #[v0_, .bool t5_2]) (IsC (Kd.int .u8) t5_1), IsC (Kd.int .u8) t5_1, VB t5_2, IsC (Kd.int .u8) t5_1, VB t5_2]) (by kernel_rfl) ?_ ?_ rfl hS ⟨hBw3_w, hBw3_w3⟩ ?_ ?_
    · exact fun x y hI hb => ⟨below_step hI.1 hb, below_step hI.2 hb⟩
    · exact .v (.cons (Stays.t _ (Stays.c _ _)) (.cons (Stays.t _ (Stays.c _ _)) (.cons (Stays.c _ _) (.v (.cons (Stays.c _ _) (.v (.nil)))))))
    · refine .on rfl (fun a w hS hI hp => does_val (x_build (vs := [(0, .int .i64 11)]) rfl (by rw [Array.toList_map]; exact (show [(0, a.eval (.const (.int .i64 11)))] = _ from (li_cons (rfl) rfl))) (by kernel_rfl)) rfl) ?_
      refine .on rfl (fun a w hS hI hp => does_call (by kernel_rfl) (ar2 (rfl) (hp.V 0 rfl rfl)) ((body_Put.calls k _ _ [] 11 0 0 0 0 0 0 0 0 0 0 0 0 0 0 0 0 0 0 0 0 0 0 t5_1 t5_2 _ (Kd.C_nil _ _) (Nat.le_refl _) At5).mono fun _ _ h => h.elim fun v0 h => ⟨_, h.1, h.2.2, v0, rfl, h.2.1⟩)) ?_
      refine .on rfl (fun a w hS hI hp => does_val (x_move rfl rfl) (hp.V 1 rfl rfl)) ?_
      refine .on rfl (fun a w hS hI hp => (hp.V 2 rfl rfl).elim fun v0 h0 => does_val (x_extract rfl h0.1 rfl) h0.2) ?_
      refine .on rfl (fun a w hS hI hp => (hp.V 2 rfl rfl).elim fun v0 h0 => does_val (x_extract rfl h0.1 rfl) rfl) ?_
      refine .on rfl (fun a w hS hI hp => does_val (x_assign rfl rfl) (hp.V 3 rfl rfl)) ?_
      refine .asg 4 rfl rfl rfl rfl ?_
      exact .nil
    clear hS
    intro at6 w7 hS hI hp
    have hBw7_w := hI.1
    have hBw7_w3 := hI.2
    obtain ⟨A8, C8, hv1, hl8, hc8⟩ := (show IsC (Kd.int .u8) t5_1 (sl _ 1) w7 from hp 5 (by decide))
    have hv2 : sl _ 2 = .bool t5_2 := hp 6 (by decide)
    have hBw7_w7 := Below.refl w7.heap.size w7
    have hS := hS.cons hv1
    have hS := hS.cons hv2
    clear hp hI hv1 hv2
    refine hK4 _ _ ?_
    (try clear hK4 K4)
    refine wp_seq_k (fun K9 hK9 => ?_)
    refine reg_seq (N := 22) (bs := [(2, .bool t5_2), (1, .slice A8 t5_1.length C8)]) (I := fun x => Below w.heap.size w x ∧ Below w7.heap.size w7 x) (ps := [VB t5_2, VB t5_2, VU, VU, VU, VB false, VB false, VU, VU, VB false, VB false, VU, VU, VB false, VB false]) (by kernel_rfl) ?_ ?_ rfl hS ⟨hBw7_w, hBw7_w7⟩ ?_ ?_
    · exact fun x y hI hb => ⟨below_step hI.1 hb, below_step hI.2 hb⟩
    · exact .v (.v (.v (.v (.v (.v (.v (.v (.v (.v (.v (.v (.v (.v (.v (.nil)))))))))))))))
    · refine .ms 0 rfl rfl rfl ?_
      refine .mv 0 rfl rfl rfl rfl ?_
      iterate 3 refine .sn 1 9 rfl rfl rfl rfl rfl ((Bool.eq_false_iff.2 c1)) ?_
      refine .pf 1 rfl rfl rfl rfl ((Bool.eq_false_iff.2 c1)) (fun _ => rfl) ?_
      refine .mv 5 rfl rfl rfl rfl ?_
      iterate 2 refine .sn 6 14 rfl rfl rfl rfl rfl rfl ?_
      refine .pf 6 rfl rfl rfl rfl rfl (fun _ => rfl) ?_
      refine .mv 9 rfl rfl rfl rfl ?_
      iterate 2 refine .sn 10 18 rfl rfl rfl rfl rfl rfl ?_
      refine .pf 10 rfl rfl rfl rfl rfl (fun _ => rfl) ?_
      refine .asg 13 rfl rfl rfl rfl ?_
      exact .nil
    clear hS
    intro at10 w11 hS hI hp
    have hBw11_w := hI.1
    have hBw11_w7 := hI.2
    replace hS := hS.nil
    have hv0 : sl _ 0 = .bool false := hp 14 (by decide)
    have hBw11_w11 := Below.refl w11.heap.size w11
    have hS := hS.cons hv0
    clear hp hI hv0
    refine hK9 _ _ ?_
    (try clear hK9 K9)
    refine wp_ret ?_
    (try simp only [Exit.then, Exit.inBlock, Exit.jump, Exit.noGoto])
    exact bodyPost_ret (v := .bool false) (results_single rfl (Vals.at (hS.get 0 rfl) .nil)) hS.nodef ⟨rfl, hBw11_w⟩
  rw [if_pos c1] at H
  by_cases c2 : (t5_1.length : Int) = 30
  rotate_left
  · rw [if_neg c2] at H
    obtain rfl := Option.some.inj H
    refine calls_of_wp (fn := Try.f14) (by kernel_rfl) rfl ?_
    have hS := St.enter #[] 22 (by simp) [] (by simp)
    have HB0 := Below.refl w.heap.size w
    refine wp_seq_k (fun K1 hK1 => ?_)
    refine reg_seq (N := 22) (bs := []) (I := fun x => Below w.heap.size w x) (ps := [VB false]) (by kernel_rfl) ?_ ?_ rfl hS HB0 ?_ ?_
    · exact fun x y hI hb => below_step hI hb
    · exact .v (.nil)
    · refine .on rfl (fun a w hS hI hp => does_val (x_assign rfl (rfl)) rfl) ?_
      exact .nil
    clear hS
    intro at2 w3 hS hI hp
    have hBw3_w := hI
    have hBw3_w3 := Below.refl w3.heap.size w3
    clear hp hI
    refine hK1 _ _ ?_
    (try clear hK1 K1)
    refine wp_seq_k (fun K4 hK4 => ?_)
    refine reg_seq (N := 22) (bs := []) (I := fun x => Below w.heap.size w x ∧ Below w3.heap.size w3 x) (ps := [IsV ((carillonlaw07_awake.v0 11 0 0 0 0 0 0 0 0 0 0 0 0 0 0 0 0 0 0 0 0 0 0)), IsT (fun v0_ => #[v0_, .bool t5_2]) (IsC (Kd.int .u8) t5_1), IsT (fun v0_ => #[v0_, .bool t5_2]) (IsC (Kd.int .u8) t5_1), IsC (Kd.int .u8) t5_1, VB t5_2, IsC (Kd.int .u8) t5_1, VB t5_2]) (by kernel_rfl) ?_ ?_ rfl hS ⟨hBw3_w, hBw3_w3⟩ ?_ ?_
    · exact fun x y hI hb => ⟨below_step hI.1 hb, below_step hI.2 hb⟩
    · exact .v (.cons (Stays.t _ (Stays.c _ _)) (.cons (Stays.t _ (Stays.c _ _)) (.cons (Stays.c _ _) (.v (.cons (Stays.c _ _) (.v (.nil)))))))
    · refine .on rfl (fun a w hS hI hp => does_val (x_build (vs := [(0, .int .i64 11)]) rfl (by rw [Array.toList_map]; exact (show [(0, a.eval (.const (.int .i64 11)))] = _ from (li_cons (rfl) rfl))) (by kernel_rfl)) rfl) ?_
      refine .on rfl (fun a w hS hI hp => does_call (by kernel_rfl) (ar2 (rfl) (hp.V 0 rfl rfl)) ((body_Put.calls k _ _ [] 11 0 0 0 0 0 0 0 0 0 0 0 0 0 0 0 0 0 0 0 0 0 0 t5_1 t5_2 _ (Kd.C_nil _ _) (Nat.le_refl _) At5).mono fun _ _ h => h.elim fun v0 h => ⟨_, h.1, h.2.2, v0, rfl, h.2.1⟩)) ?_
      refine .on rfl (fun a w hS hI hp => does_val (x_move rfl rfl) (hp.V 1 rfl rfl)) ?_
      refine .on rfl (fun a w hS hI hp => (hp.V 2 rfl rfl).elim fun v0 h0 => does_val (x_extract rfl h0.1 rfl) h0.2) ?_
      refine .on rfl (fun a w hS hI hp => (hp.V 2 rfl rfl).elim fun v0 h0 => does_val (x_extract rfl h0.1 rfl) rfl) ?_
      refine .on rfl (fun a w hS hI hp => does_val (x_assign rfl rfl) (hp.V 3 rfl rfl)) ?_
      refine .asg 4 rfl rfl rfl rfl ?_
      exact .nil
    clear hS
    intro at6 w7 hS hI hp
    have hBw7_w := hI.1
    have hBw7_w3 := hI.2
    obtain ⟨A8, C8, hv1, hl8, hc8⟩ := (show IsC (Kd.int .u8) t5_1 (sl _ 1) w7 from hp 5 (by decide))
    have hv2 : sl _ 2 = .bool t5_2 := hp 6 (by decide)
    have hBw7_w7 := Below.refl w7.heap.size w7
    have hS := hS.cons hv1
    have hS := hS.cons hv2
    clear hp hI hv1 hv2
    refine hK4 _ _ ?_
    (try clear hK4 K4)
    refine wp_seq_k (fun K9 hK9 => ?_)
    refine reg_seq (N := 22) (bs := [(2, .bool t5_2), (1, .slice A8 t5_1.length C8)]) (I := fun x => Below w.heap.size w x ∧ Below w7.heap.size w7 x) (ps := [VB t5_2, VB t5_2, IsV (.slice A8 t5_1.length C8), VI (t5_1.length : Int), VB (decide ((t5_1.length : Int) = 30)), VB (decide ((t5_1.length : Int) = 30)), VB (decide ((t5_1.length : Int) = 30)), VU, VU, VB false, VB false, VU, VU, VB false, VB false]) (by kernel_rfl) ?_ ?_ rfl hS ⟨hBw7_w, hBw7_w7⟩ ?_ ?_
    · exact fun x y hI hb => ⟨below_step hI.1 hb, below_step hI.2 hb⟩
    · exact .v (.v (.v (.v (.v (.v (.v (.v (.v (.v (.v (.v (.v (.v (.v (.nil)))))))))))))))
    · refine .ms 0 rfl rfl rfl ?_
      refine .mv 0 rfl rfl rfl rfl ?_
      refine .oy 1 9 rfl rfl rfl rfl rfl c1 (fun a w hS hI hp => does_val (x_move rfl (hS.get 1 rfl)) rfl) ?_
      refine .oy 1 9 rfl rfl rfl rfl rfl c1 (fun a w hS hI hp => does_val (x_len (e := 5) rfl (by kernel_rfl) (hp.V 2 rfl rfl)) rfl) ?_
      refine .oy 1 9 rfl rfl rfl rfl rfl c1 (fun a w hS hI hp => does_val (x_bin rfl (hp.V 3 rfl rfl) (rfl) (b_eql _ _ _ _ _ _)) rfl) ?_
      refine .pt 1 4 rfl rfl rfl rfl c1 rfl rfl ?_
      refine .mv 5 rfl rfl rfl rfl ?_
      iterate 2 refine .sn 6 14 rfl rfl rfl rfl rfl ((decide_eq_false c2)) ?_
      refine .pf 6 rfl rfl rfl rfl ((decide_eq_false c2)) (fun _ => rfl) ?_
      refine .mv 9 rfl rfl rfl rfl ?_
      iterate 2 refine .sn 10 18 rfl rfl rfl rfl rfl rfl ?_
      refine .pf 10 rfl rfl rfl rfl rfl (fun _ => rfl) ?_
      refine .asg 13 rfl rfl rfl rfl ?_
      exact .nil
    clear hS
    intro at10 w11 hS hI hp
    have hBw11_w := hI.1
    have hBw11_w7 := hI.2
    replace hS := hS.nil
    have hv0 : sl _ 0 = .bool false := hp 14 (by decide)
    have hBw11_w11 := Below.refl w11.heap.size w11
    have hS := hS.cons hv0
    clear hp hI hv0
    refine hK9 _ _ ?_
    (try clear hK9 K9)
    refine wp_ret ?_
    (try simp only [Exit.then, Exit.inBlock, Exit.jump, Exit.noGoto])
    exact bodyPost_ret (v := .bool false) (results_single rfl (Vals.at (hS.get 0 rfl) .nil)) hS.nodef ⟨rfl, hBw11_w⟩
  rw [if_pos c2] at H
  obtain ⟨t10, At10, H⟩ := Option.bind_eq_some_iff.mp H
  by_cases c3 : t10 = 14
  rotate_left
  · rw [if_neg c3] at H
    obtain rfl := Option.some.inj H
    refine calls_of_wp (fn := Try.f14) (by kernel_rfl) rfl ?_
    have hS := St.enter #[] 22 (by simp) [] (by simp)
    have HB0 := Below.refl w.heap.size w
    refine wp_seq_k (fun K1 hK1 => ?_)
    refine reg_seq (N := 22) (bs := []) (I := fun x => Below w.heap.size w x) (ps := [VB false]) (by kernel_rfl) ?_ ?_ rfl hS HB0 ?_ ?_
    · exact fun x y hI hb => below_step hI hb
    · exact .v (.nil)
    · refine .on rfl (fun a w hS hI hp => does_val (x_assign rfl (rfl)) rfl) ?_
      exact .nil
    clear hS
    intro at2 w3 hS hI hp
    have hBw3_w := hI
    have hBw3_w3 := Below.refl w3.heap.size w3
    clear hp hI
    refine hK1 _ _ ?_
    (try clear hK1 K1)
    refine wp_seq_k (fun K4 hK4 => ?_)
    refine reg_seq (N := 22) (bs := []) (I := fun x => Below w.heap.size w x ∧ Below w3.heap.size w3 x) (ps := [IsV ((carillonlaw07_awake.v0 11 0 0 0 0 0 0 0 0 0 0 0 0 0 0 0 0 0 0 0 0 0 0)), IsT (fun v0_ => #[v0_, .bool t5_2]) (IsC (Kd.int .u8) t5_1), IsT (fun v0_ => #[v0_, .bool t5_2]) (IsC (Kd.int .u8) t5_1), IsC (Kd.int .u8) t5_1, VB t5_2, IsC (Kd.int .u8) t5_1, VB t5_2]) (by kernel_rfl) ?_ ?_ rfl hS ⟨hBw3_w, hBw3_w3⟩ ?_ ?_
    · exact fun x y hI hb => ⟨below_step hI.1 hb, below_step hI.2 hb⟩
    · exact .v (.cons (Stays.t _ (Stays.c _ _)) (.cons (Stays.t _ (Stays.c _ _)) (.cons (Stays.c _ _) (.v (.cons (Stays.c _ _) (.v (.nil)))))))
    · refine .on rfl (fun a w hS hI hp => does_val (x_build (vs := [(0, .int .i64 11)]) rfl (by rw [Array.toList_map]; exact (show [(0, a.eval (.const (.int .i64 11)))] = _ from (li_cons (rfl) rfl))) (by kernel_rfl)) rfl) ?_
      refine .on rfl (fun a w hS hI hp => does_call (by kernel_rfl) (ar2 (rfl) (hp.V 0 rfl rfl)) ((body_Put.calls k _ _ [] 11 0 0 0 0 0 0 0 0 0 0 0 0 0 0 0 0 0 0 0 0 0 0 t5_1 t5_2 _ (Kd.C_nil _ _) (Nat.le_refl _) At5).mono fun _ _ h => h.elim fun v0 h => ⟨_, h.1, h.2.2, v0, rfl, h.2.1⟩)) ?_
      refine .on rfl (fun a w hS hI hp => does_val (x_move rfl rfl) (hp.V 1 rfl rfl)) ?_
      refine .on rfl (fun a w hS hI hp => (hp.V 2 rfl rfl).elim fun v0 h0 => does_val (x_extract rfl h0.1 rfl) h0.2) ?_
      refine .on rfl (fun a w hS hI hp => (hp.V 2 rfl rfl).elim fun v0 h0 => does_val (x_extract rfl h0.1 rfl) rfl) ?_
      refine .on rfl (fun a w hS hI hp => does_val (x_assign rfl rfl) (hp.V 3 rfl rfl)) ?_
      refine .asg 4 rfl rfl rfl rfl ?_
      exact .nil
    clear hS
    intro at6 w7 hS hI hp
    have hBw7_w := hI.1
    have hBw7_w3 := hI.2
    obtain ⟨A8, C8, hv1, hl8, hc8⟩ := (show IsC (Kd.int .u8) t5_1 (sl _ 1) w7 from hp 5 (by decide))
    have hv2 : sl _ 2 = .bool t5_2 := hp 6 (by decide)
    have hBw7_w7 := Below.refl w7.heap.size w7
    have hS := hS.cons hv1
    have hS := hS.cons hv2
    clear hp hI hv1 hv2
    refine hK4 _ _ ?_
    (try clear hK4 K4)
    refine wp_seq_k (fun K9 hK9 => ?_)
    refine reg_seq (N := 22) (bs := [(2, .bool t5_2), (1, .slice A8 t5_1.length C8)]) (I := fun x => Below w.heap.size w x ∧ Below w7.heap.size w7 x) (ps := [VB t5_2, VB t5_2, IsV (.slice A8 t5_1.length C8), VI (t5_1.length : Int), VB (decide ((t5_1.length : Int) = 30)), VB (decide ((t5_1.length : Int) = 30)), VB (decide ((t5_1.length : Int) = 30)), VI t10, VB (decide (t10 = 14)), VB (decide (t10 = 14)), VB (decide (t10 = 14)), VU, VU, VB false, VB false]) (by kernel_rfl) ?_ ?_ rfl hS ⟨hBw7_w, hBw7_w7⟩ ?_ ?_
    · exact fun x y hI hb => ⟨below_step hI.1 hb, below_step hI.2 hb⟩
    · exact .v (.v (.v (.v (.v (.v (.v (.v (.v (.v (.v (.v (.v (.v (.v (.nil)))))))))))))))
    · refine .ms 0 rfl rfl rfl ?_
      refine .mv 0 rfl rfl rfl rfl ?_
      refine .oy 1 9 rfl rfl rfl rfl rfl c1 (fun a w hS hI hp => does_val (x_move rfl (hS.get 1 rfl)) rfl) ?_
      refine .oy 1 9 rfl rfl rfl rfl rfl c1 (fun a w hS hI hp => does_val (x_len (e := 5) rfl (by kernel_rfl) (hp.V 2 rfl rfl)) rfl) ?_
      refine .oy 1 9 rfl rfl rfl rfl rfl c1 (fun a w hS hI hp => does_val (x_bin rfl (hp.V 3 rfl rfl) (rfl) (b_eql _ _ _ _ _ _)) rfl) ?_
      refine .pt 1 4 rfl rfl rfl rfl c1 rfl rfl ?_
      refine .mv 5 rfl rfl rfl rfl ?_
      refine .oy 6 14 rfl rfl rfl rfl rfl ((decide_eq_true c2)) (fun a w hS hI hp => does_call (by kernel_rfl) (ar1 (rfl)) ((body_Len.calls k 13 t10 _  At10).mono fun _ _ h => ⟨_, h.1, h.2.below, rfl⟩)) ?_
      refine .oy 6 14 rfl rfl rfl rfl rfl ((decide_eq_true c2)) (fun a w hS hI hp => does_val (x_bin rfl (hp.V 7 rfl rfl) (rfl) (b_eql _ _ _ _ _ _)) rfl) ?_
      refine .pt 6 8 rfl rfl rfl rfl ((decide_eq_true c2)) rfl rfl ?_
      refine .mv 9 rfl rfl rfl rfl ?_
      iterate 2 refine .sn 10 18 rfl rfl rfl rfl rfl ((decide_eq_false c3)) ?_
      refine .pf 10 rfl rfl rfl rfl ((decide_eq_false c3)) (fun _ => rfl) ?_
      refine .asg 13 rfl rfl rfl rfl ?_
      exact .nil
    clear hS
    intro at11 w12 hS hI hp
    have hBw12_w := hI.1
    have hBw12_w7 := hI.2
    replace hS := hS.nil
    have hv0 : sl _ 0 = .bool false := hp 14 (by decide)
    have hBw12_w12 := Below.refl w12.heap.size w12
    have hS := hS.cons hv0
    clear hp hI hv0
    refine hK9 _ _ ?_
    (try clear hK9 K9)
    refine wp_ret ?_
    (try simp only [Exit.then, Exit.inBlock, Exit.jump, Exit.noGoto])
    exact bodyPost_ret (v := .bool false) (results_single rfl (Vals.at (hS.get 0 rfl) .nil)) hS.nodef ⟨rfl, hBw12_w⟩
  rw [if_pos c3] at H
  obtain ⟨t11, At11, H⟩ := Option.bind_eq_some_iff.mp H
  obtain rfl := Option.some.inj H
  refine calls_of_wp (fn := Try.f14) (by kernel_rfl) rfl ?_
  have hS := St.enter #[] 22 (by simp) [] (by simp)
  have HB0 := Below.refl w.heap.size w
  refine wp_seq_k (fun K1 hK1 => ?_)
  refine reg_seq (N := 22) (bs := []) (I := fun x => Below w.heap.size w x) (ps := [VB false]) (by kernel_rfl) ?_ ?_ rfl hS HB0 ?_ ?_
  · exact fun x y hI hb => below_step hI hb
  · exact .v (.nil)
  · refine .on rfl (fun a w hS hI hp => does_val (x_assign rfl (rfl)) rfl) ?_
    exact .nil
  clear hS
  intro at2 w3 hS hI hp
  have hBw3_w := hI
  have hBw3_w3 := Below.refl w3.heap.size w3
  clear hp hI
  refine hK1 _ _ ?_
  (try clear hK1 K1)
  refine wp_seq_k (fun K4 hK4 => ?_)
  refine reg_seq (N := 22) (bs := []) (I := fun x => Below w.heap.size w x ∧ Below w3.heap.size w3 x) (ps := [IsV ((carillonlaw07_awake.v0 11 0 0 0 0 0 0 0 0 0 0 0 0 0 0 0 0 0 0 0 0 0 0)), IsT (fun v0_ => #[v0_, .bool t5_2]) (IsC (Kd.int .u8) t5_1), IsT (fun v0_ => #[v0_, .bool t5_2]) (IsC (Kd.int .u8) t5_1), IsC (Kd.int .u8) t5_1, VB t5_2, IsC (Kd.int .u8) t5_1, VB t5_2]) (by kernel_rfl) ?_ ?_ rfl hS ⟨hBw3_w, hBw3_w3⟩ ?_ ?_
  · exact fun x y hI hb => ⟨below_step hI.1 hb, below_step hI.2 hb⟩
  · exact .v (.cons (Stays.t _ (Stays.c _ _)) (.cons (Stays.t _ (Stays.c _ _)) (.cons (Stays.c _ _) (.v (.cons (Stays.c _ _) (.v (.nil)))))))
  · refine .on rfl (fun a w hS hI hp => does_val (x_build (vs := [(0, .int .i64 11)]) rfl (by rw [Array.toList_map]; exact (show [(0, a.eval (.const (.int .i64 11)))] = _ from (li_cons (rfl) rfl))) (by kernel_rfl)) rfl) ?_
    refine .on rfl (fun a w hS hI hp => does_call (by kernel_rfl) (ar2 (rfl) (hp.V 0 rfl rfl)) ((body_Put.calls k _ _ [] 11 0 0 0 0 0 0 0 0 0 0 0 0 0 0 0 0 0 0 0 0 0 0 t5_1 t5_2 _ (Kd.C_nil _ _) (Nat.le_refl _) At5).mono fun _ _ h => h.elim fun v0 h => ⟨_, h.1, h.2.2, v0, rfl, h.2.1⟩)) ?_
    refine .on rfl (fun a w hS hI hp => does_val (x_move rfl rfl) (hp.V 1 rfl rfl)) ?_
    refine .on rfl (fun a w hS hI hp => (hp.V 2 rfl rfl).elim fun v0 h0 => does_val (x_extract rfl h0.1 rfl) h0.2) ?_
    refine .on rfl (fun a w hS hI hp => (hp.V 2 rfl rfl).elim fun v0 h0 => does_val (x_extract rfl h0.1 rfl) rfl) ?_
    refine .on rfl (fun a w hS hI hp => does_val (x_assign rfl rfl) (hp.V 3 rfl rfl)) ?_
    refine .asg 4 rfl rfl rfl rfl ?_
    exact .nil
  clear hS
  intro at6 w7 hS hI hp
  have hBw7_w := hI.1
  have hBw7_w3 := hI.2
  obtain ⟨A8, C8, hv1, hl8, hc8⟩ := (show IsC (Kd.int .u8) t5_1 (sl _ 1) w7 from hp 5 (by decide))
  have hv2 : sl _ 2 = .bool t5_2 := hp 6 (by decide)
  have hBw7_w7 := Below.refl w7.heap.size w7
  have hS := hS.cons hv1
  have hS := hS.cons hv2
  clear hp hI hv1 hv2
  refine hK4 _ _ ?_
  (try clear hK4 K4)
  refine wp_seq_k (fun K9 hK9 => ?_)
  refine reg_seq (N := 22) (bs := [(2, .bool t5_2), (1, .slice A8 t5_1.length C8)]) (I := fun x => Below w.heap.size w x ∧ Below w7.heap.size w7 x) (ps := [VB t5_2, VB t5_2, IsV (.slice A8 t5_1.length C8), VI (t5_1.length : Int), VB (decide ((t5_1.length : Int) = 30)), VB (decide ((t5_1.length : Int) = 30)), VB (decide ((t5_1.length : Int) = 30)), VI t10, VB (decide (t10 = 14)), VB (decide (t10 = 14)), VB (decide (t10 = 14)), VI t11, VB (decide (t11 = 0)), VB (decide (t11 = 0)), VB (decide (t11 = 0))]) (by kernel_rfl) ?_ ?_ rfl hS ⟨hBw7_w, hBw7_w7⟩ ?_ ?_
  · exact fun x y hI hb => ⟨below_step hI.1 hb, below_step hI.2 hb⟩
  · exact .v (.v (.v (.v (.v (.v (.v (.v (.v (.v (.v (.v (.v (.v (.v (.nil)))))))))))))))
  · refine .ms 0 rfl rfl rfl ?_
    refine .mv 0 rfl rfl rfl rfl ?_
    refine .oy 1 9 rfl rfl rfl rfl rfl c1 (fun a w hS hI hp => does_val (x_move rfl (hS.get 1 rfl)) rfl) ?_
    refine .oy 1 9 rfl rfl rfl rfl rfl c1 (fun a w hS hI hp => does_val (x_len (e := 5) rfl (by kernel_rfl) (hp.V 2 rfl rfl)) rfl) ?_
    refine .oy 1 9 rfl rfl rfl rfl rfl c1 (fun a w hS hI hp => does_val (x_bin rfl (hp.V 3 rfl rfl) (rfl) (b_eql _ _ _ _ _ _)) rfl) ?_
    refine .pt 1 4 rfl rfl rfl rfl c1 rfl rfl ?_
    refine .mv 5 rfl rfl rfl rfl ?_
    refine .oy 6 14 rfl rfl rfl rfl rfl ((decide_eq_true c2)) (fun a w hS hI hp => does_call (by kernel_rfl) (ar1 (rfl)) ((body_Len.calls k 13 t10 _  At10).mono fun _ _ h => ⟨_, h.1, h.2.below, rfl⟩)) ?_
    refine .oy 6 14 rfl rfl rfl rfl rfl ((decide_eq_true c2)) (fun a w hS hI hp => does_val (x_bin rfl (hp.V 7 rfl rfl) (rfl) (b_eql _ _ _ _ _ _)) rfl) ?_
    refine .pt 6 8 rfl rfl rfl rfl ((decide_eq_true c2)) rfl rfl ?_
    refine .mv 9 rfl rfl rfl rfl ?_
    refine .oy 10 18 rfl rfl rfl rfl rfl ((decide_eq_true c3)) (fun a w hS hI hp => does_call (by kernel_rfl) (ar1 (rfl)) ((body_Len.calls k 4 t11 _  At11).mono fun _ _ h => ⟨_, h.1, h.2.below, rfl⟩)) ?_
    refine .oy 10 18 rfl rfl rfl rfl rfl ((decide_eq_true c3)) (fun a w hS hI hp => does_val (x_bin rfl (hp.V 11 rfl rfl) (rfl) (b_eql _ _ _ _ _ _)) rfl) ?_
    refine .pt 10 12 rfl rfl rfl rfl ((decide_eq_true c3)) rfl rfl ?_
    refine .asg 13 rfl rfl rfl rfl ?_
    exact .nil
  clear hS
  intro at12 w13 hS hI hp
  have hBw13_w := hI.1
  have hBw13_w7 := hI.2
  replace hS := hS.nil
  have hv0 : sl _ 0 = .bool (decide (t11 = 0)) := hp 14 (by decide)
  have hBw13_w13 := Below.refl w13.heap.size w13
  have hS := hS.cons hv0
  clear hp hI hv0
  refine hK9 _ _ ?_
  (try clear hK9 K9)
  refine wp_ret ?_
  (try simp only [Exit.then, Exit.inBlock, Exit.jump, Exit.noGoto])
  exact bodyPost_ret (v := .bool (decide (t11 = 0))) (results_single rfl (Vals.at (hS.get 0 rfl) .nil)) hS.nodef ⟨rfl, hBw13_w⟩
/-! ### carillonlaw07_BodyPuts: function 3: by our own printer -/
def carillonlaw07_BodyPuts.f (k : Nat) (l0 : List Int) (a1_0 a1_1 a1_2 a1_3 a1_4 a1_5 a1_6 a1_7 a1_8 a1_9 a1_10 a1_11 a1_12 a1_13 a1_14 a1_15 a1_16 a1_17 a1_18 a1_19 a1_20 a1_21 a1_22 : Int) : Option (Bool) := if l0.length * 1 ≤ 140737488355328 then (if (l0.length + [99].length) * 1 ≤ 140737488355328 then (if 0 ≤ (l0.length : Int) then (if (l0.length : Int) ≤ ((l0 ++ [99] : List Int).length : Int) then ((body_Put.f k ((l0 ++ [99] : List Int).take ((l0.length : Int) : Int).toNat) a1_0 a1_1 a1_2 a1_3 a1_4 a1_5 a1_6 a1_7 a1_8 a1_9 a1_10 a1_11 a1_12 a1_13 a1_14 a1_15 a1_16 a1_17 a1_18 a1_19 a1_20 a1_21 a1_22).bind fun t22 => ((carillonref07_Check.f k a1_0 a1_1 a1_2 a1_3 a1_4 a1_5 a1_6 a1_7 a1_8 a1_9 a1_10 a1_11 a1_12 a1_13 a1_14 a1_15 a1_16 a1_17 a1_18 a1_19 a1_20 a1_21 a1_22).bind fun t27 => (if t27 = true then ((carillonref07_Put.f k a1_0 a1_1 a1_2 a1_3 a1_4 a1_5 a1_6 a1_7 a1_8 a1_9 a1_10 a1_11 a1_12 a1_13 a1_14 a1_15 a1_16 a1_17 a1_18 a1_19 a1_20 a1_21 a1_22).bind fun t37 => (if (strOfNums l0).size + (strOfNums t37).size ≤ 9223372036854775807 then ((body_Check.f k a1_0 a1_1 a1_2 a1_3 a1_4 a1_5 a1_6 a1_7 a1_8 a1_9 a1_10 a1_11 a1_12 a1_13 a1_14 a1_15 a1_16 a1_17 a1_18 a1_19 a1_20 a1_21 a1_22).bind fun t43 => (if (t43 == t27) = true then (if (t22.2 == t27) = true then (if ((strOfNums t22.1).toList == ((strOfNums l0) ++ (strOfNums t37)).toList) = true then ((body_Len.f k a1_0).bind fun t44 => ((carillonref07_Len.f k a1_0).bind fun t45 => (if t44 = t45 then (if 0 ≤ (wrap64 ((l0.length : Int) + 1)) then (if (wrap64 ((l0.length : Int) + 1)) ≤ ((l0 ++ [99] : List Int).length : Int) then (if (l0.length : Int) < (((l0 ++ [99] : List Int).take (wrap64 ((l0.length : Int) + 1) : Int).toNat).length : Int) then (if (l0.length : Int) < ((l0 ++ [99] : List Int).length : Int) then (if (rd (l0 ++ [99] : List Int) (l0.length : Int)) = 99 then ((carillonlaw07_awake.f k ).bind fun t46 => (some t46)) else (some false)) else (none)) else (none)) else (none)) else (none)) else (some false)))) else (some false)) else (some false)) else (some false))) else (none))) else ((body_Check.f k a1_0 a1_1 a1_2 a1_3 a1_4 a1_5 a1_6 a1_7 a1_8 a1_9 a1_10 a1_11 a1_12 a1_13 a1_14 a1_15 a1_16 a1_17 a1_18 a1_19 a1_20 a1_21 a1_22).bind fun t38 => (if (t38 == t27) = true then (if (t22.2 == t27) = true then (if ((strOfNums t22.1).toList == (strOfNums l0).toList) = true then ((body_Len.f k a1_0).bind fun t39 => ((carillonref07_Len.f k a1_0).bind fun t40 => (if t39 = t40 then (if 0 ≤ (wrap64 ((l0.length : Int) + 1)) then (if (wrap64 ((l0.length : Int) + 1)) ≤ ((l0 ++ [99] : List Int).length : Int) then (if (l0.length : Int) < (((l0 ++ [99] : List Int).take (wrap64 ((l0.length : Int) + 1) : Int).toNat).length : Int) then (if (l0.length : Int) < ((l0 ++ [99] : List Int).length : Int) then (if (rd (l0 ++ [99] : List Int) (l0.length : Int)) = 99 then ((carillonlaw07_awake.f k ).bind fun t41 => (some t41)) else (some false)) else (none)) else (none)) else (none)) else (none)) else (some false)))) else (some false)) else (some false)) else (some false)))))) else (none)) else (none)) else (none)) else (none)
abbrev carillonlaw07_BodyPuts.v0 (x0 x1 x2 x3 x4 x5 x6 x7 x8 x9 x10 x11 x12 x13 x14 x15 x16 x17 x18 x19 x20 x21 x22 : Int) : Value := .agg #[.int .i64 x0, .int .i64 x1, .int .i64 x2, .int .i64 x3, .int .u64 x4, .int .i64 x5, .int .i64 x6, .int .i64 x7, .int .i64 x8, .int .u64 x9, .int .i64 x10, .int .i64 x11, .int .i64 x12, .int .i64 x13, .int .i64 x14, .int .i64 x15, .int .i64 x16, .int .u64 x17, .int .i64 x18, .int .i64 x19, .int .i64 x20, .int .i64 x21, .int .i64 x22]
abbrev carillonlaw07_BodyPuts.c1 (x0 x1 x2 x3 x4 x5 x6 x7 x8 x9 x10 x11 x12 x13 x14 x15 x16 x17 x18 x19 x20 x21 x22 : Int) : Array Value := #[.int .i64 x0, .int .i64 x1, .int .i64 x2, .int .i64 x3, .int .u64 x4, .int .i64 x5, .int .i64 x6, .int .i64 x7, .int .i64 x8, .int .u64 x9, .int .i64 x10, .int .i64 x11, .int .i64 x12, .int .i64 x13, .int .i64 x14, .int .i64 x15, .int .i64 x16, .int .u64 x17, .int .i64 x18, .int .i64 x19, .int .i64 x20, .int .i64 x21, .int .i64 x22]
open Go.Proofs.Ytpoocfapmgmfkaa.E in
set_option maxHeartbeats 60000000 in
set_option maxRecDepth 100000 in
theorem carillonlaw07_BodyPuts.calls (k : Nat) (A0 : Option Addr) (cp0 : Nat) (l0 : List Int) (a1_0 a1_1 a1_2 a1_3 a1_4 a1_5 a1_6 a1_7 a1_8 a1_9 a1_10 a1_11 a1_12 a1_13 a1_14 a1_15 a1_16 a1_17 a1_18 a1_19 a1_20 a1_21 a1_22 : Int) (w : World) (HR0 : Kd.C (Kd.int .u8) w A0 l0.length l0) (HC0 : l0.length ≤ cp0) (h : carillonlaw07_BodyPuts.f k l0 a1_0 a1_1 a1_2 a1_3 a1_4 a1_5 a1_6 a1_7 a1_8 a1_9 a1_10 a1_11 a1_12 a1_13 a1_14 a1_15 a1_16 a1_17 a1_18 a1_19 a1_20 a1_21 a1_22 = some true) :
    Calls Try.prog 3 #[.slice A0 l0.length cp0, .agg #[.int .i64 a1_0, .int .i64 a1_1, .int .i64 a1_2, .int .i64 a1_3, .int .u64 a1_4, .int .i64 a1_5, .int .i64 a1_6, .int .i64 a1_7, .int .i64 a1_8, .int .u64 a1_9, .int .i64 a1_10, .int .i64 a1_11, .int .i64 a1_12, .int .i64 a1_13, .int .i64 a1_14, .int .i64 a1_15, .int .i64 a1_16, .int .u64 a1_17, .int .i64 a1_18, .int .i64 a1_19, .int .i64 a1_20, .int .i64 a1_21, .int .i64 a1_22]] w fun e w' => e = .returned (.bool true) ∧ Below w.heap.size w w' := by
  have H := h
  clear h
  unfold carillonlaw07_BodyPuts.f at H
  by_cases c1 : l0.length * 1 ≤ 140737488355328
  rotate_left
  · rw [if_neg c1] at H
    exact absurd H (by simp)
  rw [if_pos c1] at H
  by_cases c2 : (l0.length + [99].length) * 1 ≤ 140737488355328
  rotate_left
  · rw [if_neg c2] at H
    exact absurd H (by simp)
  rw [if_pos c2] at H
  by_cases c3 : 0 ≤ (l0.length : Int)
  rotate_left
  · rw [if_neg c3] at H
    exact absurd H (by simp)
  rw [if_pos c3] at H
  by_cases c4 : (l0.length : Int) ≤ ((l0 ++ [99] : List Int).length : Int)
  rotate_left
  · rw [if_neg c4] at H
    exact absurd H (by simp)
  rw [if_pos c4] at H
  obtain ⟨t22, At22, H⟩ := Option.bind_eq_some_iff.mp H
  obtain ⟨t22_1, t22_2⟩ := t22
  (try dsimp only at H)
  obtain ⟨t27, At27, H⟩ := Option.bind_eq_some_iff.mp H
  by_cases c5 : t27 = true
  rotate_left
  · rw [if_neg c5] at H
    obtain ⟨t38, At38, H⟩ := Option.bind_eq_some_iff.mp H
    by_cases c6 : (t38 == t27) = true
    rotate_left
    · rw [if_neg c6] at H
      exact absurd H (by simp)
    rw [if_pos c6] at H
    by_cases c7 : (t22_2 == t27) = true
    rotate_left
    · rw [if_neg c7] at H
      exact absurd H (by simp)
    rw [if_pos c7] at H
    by_cases c8 : ((strOfNums t22_1).toList == (strOfNums l0).toList) = true
    rotate_left
    · rw [if_neg c8] at H
      exact absurd H (by simp)
    rw [if_pos c8] at H
    obtain ⟨t39, At39, H⟩ := Option.bind_eq_some_iff.mp H
    obtain ⟨t40, At40, H⟩ := Option.bind_eq_some_iff.mp H
    by_cases c9 : t39 = t40
    rotate_left
    · rw [if_neg c9] at H
      exact absurd H (by simp)
    rw [if_pos c9] at H
    by_cases c10 : 0 ≤ (wrap64 ((l0.length : Int) + 1))
    rotate_left
    · rw [if_neg c10] at H
      exact absurd H (by simp)
    rw [if_pos c10] at H
    by_cases c11 : (wrap64 ((l0.length : Int) + 1)) ≤ ((l0 ++ [99] : List Int).length : Int)
    rotate_left
    · rw [if_neg c11] at H
      exact absurd H (by simp)
    rw [if_pos c11] at H
    by_cases c12 : (l0.length : Int) < (((l0 ++ [99] : List Int).take (wrap64 ((l0.length : Int) + 1) : Int).toNat).length : Int)
    rotate_left
    · rw [if_neg c12] at H
      exact absurd H (by simp)
    rw [if_pos c12] at H
    by_cases c13 : (l0.length : Int) < ((l0 ++ [99] : List Int).length : Int)
    rotate_left
    · rw [if_neg c13] at H
      exact absurd H (by simp)
    rw [if_pos c13] at H
    by_cases c14 : (rd (l0 ++ [99] : List Int) (l0.length : Int)) = 99
    rotate_left
    · rw [if_neg c14] at H
      exact absurd H (by simp)
    rw [if_pos c14] at H
    obtain ⟨t41, At41, H⟩ := Option.bind_eq_some_iff.mp H
    have hret := Option.some.inj H
    clear H
    refine calls_of_wp (fn := Try.f3) (by kernel_rfl) rfl ?_
    have hS := St.enter #[.slice A0 l0.length cp0, (carillonlaw07_BodyPuts.v0 a1_0 a1_1 a1_2 a1_3 a1_4 a1_5 a1_6 a1_7 a1_8 a1_9 a1_10 a1_11 a1_12 a1_13 a1_14 a1_15 a1_16 a1_17 a1_18 a1_19 a1_20 a1_21 a1_22)] 72 (by simp) [(0, .slice A0 l0.length cp0), (1, (carillonlaw07_BodyPuts.v0 a1_0 a1_1 a1_2 a1_3 a1_4 a1_5 a1_6 a1_7 a1_8 a1_9 a1_10 a1_11 a1_12 a1_13 a1_14 a1_15 a1_16 a1_17 a1_18 a1_19 a1_20 a1_21 a1_22))] (by simp)
    have HB0 := Below.refl w.heap.size w
    refine wp_seq_k (fun K1 hK1 => ?_)
    refine reg_seq (N := 72) (bs := [(0, .slice A0 l0.length cp0), (1, (carillonlaw07_BodyPuts.v0 a1_0 a1_1 a1_2 a1_3 a1_4 a1_5 a1_6 a1_7 a1_8 a1_9 a1_10 a1_11 a1_12 a1_13 a1_14 a1_15 a1_16 a1_17 a1_18 a1_19 a1_20 a1_21 a1_22))]) (I := fun x => Below w.heap.size w x) (ps := [IsB (carillonlaw07_BodyPuts.c1 a1_0 a1_1 a1_2 a1_3 a1_4 a1_5 a1_6 a1_7 a1_8 a1_9 a1_10 a1_11 a1_12 a1_13 a1_14 a1_15 a1_16 a1_17 a1_18 a1_19 a1_20 a1_21 a1_22) 29 w.heap.size, VB false]) (by kernel_rfl) ?_ ?_ rfl hS HB0 ?_ ?_
    · exact fun x y hI hb => below_step hI hb
    · exact .cons (Stays.b _ _ _) (.v (.nil))
    · refine .on rfl (fun a w hS hI hp => does_var (x_box rfl (congrArg Value.cells (hS.get 1 rfl))) (hI).size) ?_
      refine .on rfl (fun a w hS hI hp => does_val (x_assign rfl (rfl)) rfl) ?_
      exact .nil
    clear hS
    intro at2 w3 hS hI hp
    have hBw3_w := hI
    replace hS := (hS.nil).cons (hS.get 0 rfl)
    obtain ⟨g4, hv3, hgeg4, hbxg4⟩ := (show IsB _ 29 _ (sl _ 3) _ from hp 0 (by decide))
    have hBw3_w3 := Below.refl w3.heap.size w3
    have hS := hS.cons hv3
    clear hp hI hv3
    refine hK1 _ _ ?_
    (try clear hK1 K1)
    refine wp_seq_k (fun K5 hK5 => ?_)
    refine reg_seq_tail 3 (N := 72) (bs := [(3, .pointer (some ⟨g4, 0, none⟩)), (0, .slice A0 l0.length cp0)]) (I := fun x => Below w.heap.size w x ∧ Below w3.heap.size w3 x) (ps := [IsV (.slice A0 l0.length cp0), IsR (Kd.int .u8) 5 w3.heap.size l0, IsR (Kd.int .u8) 5 w3.heap.size [99]]) (by kernel_rfl) ?_ ?_ rfl hS ⟨hBw3_w, hBw3_w3⟩ ?_ ?_
    · exact fun x y hI hb => ⟨below_step hI.1 hb, below_step hI.2 hb⟩
    · exact .v (.cons (Stays.r _ _ _ _) (.cons (Stays.r _ _ _ _) (.nil)))
    · refine .ms 1 rfl rfl rfl ?_
      refine .on rfl (fun a w hS hI hp => does_copy w3.heap.size _ (.tmp 10) 22 5 1 rfl (by kernel_rfl) (by kernel_rfl) (by decide) l0 _ _ (rfl) (hp.V 0 rfl rfl) ((Kd.C_below HR0 hI.1)) (hI.2).size c1) ?_
      refine .on rfl (fun a w hS hI hp => does_lit w3.heap.size 22 5 1 _ [(0, .int .u8 99)] [99] rfl (by kernel_rfl) (by rw [Array.toList_map]; exact (show [(0, a.eval (.const (.int .u8 99)))] = _ from (li_cons (rfl) rfl))) (by kernel_rfl) rfl (hI.2).size (Nat.le_of_ble_eq_true rfl)) ?_
      exact .nil
    clear hS
    intro at6 w7 hS hI hp
    have hBw7_w := hI.1
    have hBw7_w3 := hI.2
    obtain ⟨A8, C8, hv11, hl8, hc8⟩ := Kd.R_reads (show Kd.R (Kd.int .u8) 5 w7 w3.heap.size (fun _ => True) (sl _ 11) l0 from hp 1 (by decide))
    have ho8 : Kd.R (Kd.int .u8) 5 w7 w3.heap.size (fun _ => True) (.slice A8 l0.length C8) l0 := hv11 ▸ (hp 1 (by decide))
    obtain ⟨A9, C9, hv12, hl9, hc9⟩ := Kd.R_reads (show Kd.R (Kd.int .u8) 5 w7 w3.heap.size (fun _ => True) (sl _ 12) [99] from hp 2 (by decide))
    have ho9 : Kd.R (Kd.int .u8) 5 w7 w3.heap.size (fun _ => True) (.slice A9 [99].length C9) [99] := hv12 ▸ (hp 2 (by decide))
    have hBw7_w7 := Below.refl w7.heap.size w7
    have hS := hS.cons hv11
    have hS := hS.cons hv12
    clear hp hI hv11 hv12
    show wpList _ _ _ [_, _, _, _, _] _ _
    refine list_step rfl (does_more (W := w3) (.tmp 11) (.tmp 12) 22 5 1 rfl (by kernel_rfl) (by kernel_rfl) (by decide) _ l0 [99] _ _ (hS.get 1 rfl) (hS.get 0 rfl) (Kd.R_below ho8 hBw7_w7) (Kd.C_below hc9 hBw7_w7) hBw7_w3 c2) ?_
    rintro vw10 w10 ⟨hb, hr, hk⟩
    clear hk
    have hBw10_w := below_step hBw3_w hb
    have hBw10_w3 := hb
    replace hS := ((hS.nil).cons (hS.get 3 rfl)).cons (hS.get 2 rfl)
    have hBw10_w10 := Below.refl w10.heap.size w10
    obtain ⟨A11, C11, rfl, hl11, hc11⟩ := Kd.R_reads hr
    have hr11 := hr
    clear hr
    refine hS.next (v := .slice A11 ((l0 ++ [99] : List Int).length) C11) (d := 13) rfl (by decide) (by rfl) ?_
    clear hS
    intro at12 hS
    refine list_step rfl (R := fun v w' => Below _ _ w' ∧ (IsV (.slice A0 l0.length cp0)) v w') (does_val (x_move rfl (hS.get 2 rfl)) rfl) ?_
    rintro vw13 w13 ⟨hb, he⟩
    have hBw13_w := below_step hBw10_w hb
    have hBw13_w3 := below_step hBw10_w3 hb
    have hBw13_w10 := below_step hBw10_w10 hb
    have hBw13_w13 := Below.refl w13.heap.size w13
    obtain rfl : vw13 = .slice A0 l0.length cp0 := he
    refine hS.next (v := .slice A0 l0.length cp0) (d := 14) rfl (by decide) (by rfl) ?_
    clear hS
    intro at14 hS
    refine list_step rfl (R := fun v w' => Below _ _ w' ∧ (VI (l0.length : Int)) v w') (does_val (x_len (e := 5) rfl (by kernel_rfl) (hS.get 0 rfl)) rfl) ?_
    rintro vw15 w15 ⟨hb, he⟩
    have hBw15_w := below_step hBw13_w hb
    have hBw15_w3 := below_step hBw13_w3 hb
    have hBw15_w10 := below_step hBw13_w10 hb
    have hBw15_w13 := below_step hBw13_w13 hb
    have hBw15_w15 := Below.refl w15.heap.size w15
    obtain rfl : vw15 = .int .i64 (l0.length : Int) := he
    refine hS.next (v := .int .i64 (l0.length : Int)) (d := 15) rfl (by decide) (by rfl) ?_
    clear hS
    intro at16 hS
    refine list_step rfl (R := fun v w' => Below _ _ w' ∧ (IsV (.slice A11 (((l0 ++ [99] : List Int).take ((l0.length : Int) : Int).toNat).length) C11)) v w') (does_val (x_cuthi rfl (e := 5) (xs := (l0 ++ [99] : List Int)) (by kernel_rfl) (by kernel_rfl) (hS.get 2 rfl) (hS.get 0 rfl) c3 c4 hl11) rfl) ?_
    rintro vw17 w17 ⟨hb, he⟩
    have hBw17_w := below_step hBw15_w hb
    have hBw17_w3 := below_step hBw15_w3 hb
    have hBw17_w10 := below_step hBw15_w10 hb
    have hBw17_w15 := below_step hBw15_w15 hb
    have hBw17_w17 := Below.refl w17.heap.size w17
    obtain rfl : vw17 = .slice A11 (((l0 ++ [99] : List Int).take ((l0.length : Int) : Int).toNat).length) C11 := he
    refine hS.next (v := .slice A11 (((l0 ++ [99] : List Int).take ((l0.length : Int) : Int).toNat).length) C11) (d := 16) rfl (by decide) (by rfl) ?_
    clear hS
    intro at18 hS
    refine list_step rfl (R := fun v w' => Below _ _ w' ∧ (IsV (.slice A11 (((l0 ++ [99] : List Int).take ((l0.length : Int) : Int).toNat).length) C11)) v w') (does_val (x_assign rfl (hS.get 0 rfl)) rfl) ?_
    rintro vw19 w19 ⟨hb, he⟩
    have hBw19_w := below_step hBw17_w hb
    have hBw19_w3 := below_step hBw17_w3 hb
    have hBw19_w10 := below_step hBw17_w10 hb
    have hBw19_w17 := below_step hBw17_w17 hb
    have hBw19_w19 := Below.refl w19.heap.size w19
    obtain rfl : vw19 = .slice A11 (((l0 ++ [99] : List Int).take ((l0.length : Int) : Int).toNat).length) C11 := he
    refine hS.next (v := .slice A11 (((l0 ++ [99] : List Int).take ((l0.length : Int) : Int).toNat).length) C11) (d := 5) rfl (by decide) (by rfl) ?_
    clear hS
    intro at20 hS
    refine wpList_nil ?_
    refine hK5 _ _ ?_
    (try clear hK5 K5)
    refine wp_seq_k (fun K21 hK21 => ?_)
    refine reg_seq (N := 72) (bs := [(5, .slice A11 (((l0 ++ [99] : List Int).take ((l0.length : Int) : Int).toNat).length) C11), (16, .slice A11 (((l0 ++ [99] : List Int).take ((l0.length : Int) : Int).toNat).length) C11), (15, .int .i64 (l0.length : Int)), (14, .slice A0 l0.length cp0), (13, .slice A11 ((l0 ++ [99] : List Int).length) C11), (3, .pointer (some ⟨g4, 0, none⟩)), (0, .slice A0 l0.length cp0)]) (I := fun x => Below w.heap.size w x ∧ Below w3.heap.size w3 x ∧ Below w10.heap.size w10 x ∧ Below w19.heap.size w19 x) (ps := [IsV (.slice A11 (((l0 ++ [99] : List Int).take ((l0.length : Int) : Int).toNat).length) C11), IsV ((carillonlaw07_BodyPuts.v0 a1_0 a1_1 a1_2 a1_3 a1_4 a1_5 a1_6 a1_7 a1_8 a1_9 a1_10 a1_11 a1_12 a1_13 a1_14 a1_15 a1_16 a1_17 a1_18 a1_19 a1_20 a1_21 a1_22)), IsT (fun v0_ => #[v0_, .bool t22_2]) (IsC (Kd.int .u8) t22_1), IsT (fun v0_ => #[v0_, .bool t22_2]) (IsC (Kd.int .u8) t22_1), IsC (Kd.int .u8) t22_1, VB t22_2, IsC (Kd.int .u8) t22_1, VB t22_2]) (by kernel_rfl) ?_ ?_ rfl hS ⟨hBw19_w, hBw19_w3, hBw19_w10, hBw19_w19⟩ ?_ ?_
    · exact fun x y hI hb => ⟨below_step hI.1 hb, below_step hI.2.1 hb, below_step hI.2.2.1 hb, below_step hI.2.2.2 hb⟩
    · exact .v (.v (.cons (Stays.t _ (Stays.c _ _)) (.cons (Stays.t _ (Stays.c _ _)) (.cons (Stays.c _ _) (.v (.cons (Stays.c _ _) (.v (.nil))))))))
    · refine .ms 0 rfl rfl rfl ?_
      refine .on rfl (fun a w hS hI hp => does_loadrow rfl (hS.get 5 rfl) (((hI.2.1).block g4 (blk_lt hbxg4)).trans hbxg4) Try.underlying29 rfl (by kernel_rfl) rfl) ?_
      refine .on rfl (fun a w hS hI hp => does_call (by kernel_rfl) (ar2 (hp.V 0 rfl rfl) (hp.V 1 rfl rfl)) ((body_Put.calls k _ _ ((l0 ++ [99] : List Int).take ((l0.length : Int) : Int).toNat) a1_0 a1_1 a1_2 a1_3 a1_4 a1_5 a1_6 a1_7 a1_8 a1_9 a1_10 a1_11 a1_12 a1_13 a1_14 a1_15 a1_16 a1_17 a1_18 a1_19 a1_20 a1_21 a1_22 t22_1 t22_2 _ (Kd.C_take (m := ((l0.length : Int) : Int).toNat) (Kd.C_below hc11 hI.2.2.1) (by have := c4; omega)) (Nat.le_trans (List.length_take_le' _ _) hl11) At22).mono fun _ _ h => h.elim fun v0 h => ⟨_, h.1, h.2.2, v0, rfl, h.2.1⟩)) ?_
      refine .on rfl (fun a w hS hI hp => does_val (x_move rfl rfl) (hp.V 2 rfl rfl)) ?_
      refine .on rfl (fun a w hS hI hp => (hp.V 3 rfl rfl).elim fun v0 h0 => does_val (x_extract rfl h0.1 rfl) h0.2) ?_
      refine .on rfl (fun a w hS hI hp => (hp.V 3 rfl rfl).elim fun v0 h0 => does_val (x_extract rfl h0.1 rfl) rfl) ?_
      refine .on rfl (fun a w hS hI hp => does_val (x_assign rfl rfl) (hp.V 4 rfl rfl)) ?_
      refine .asg 5 rfl rfl rfl rfl ?_
      exact .nil
    clear hS
    intro at23 w24 hS hI hp
    have hBw24_w := hI.1
    have hBw24_w3 := hI.2.1
    have hBw24_w10 := hI.2.2.1
    have hBw24_w19 := hI.2.2.2
    replace hS := (((hS.nil).cons (hS.get 6 rfl)).cons (hS.get 5 rfl)).cons (hS.get 0 rfl)
    obtain ⟨A25, C25, hv6, hl25, hc25⟩ := (show IsC (Kd.int .u8) t22_1 (sl _ 6) w24 from hp 6 (by decide))
    have hv7 : sl _ 7 = .bool t22_2 := hp 7 (by decide)
    have hBw24_w24 := Below.refl w24.heap.size w24
    have hS := hS.cons hv6
    have hS := hS.cons hv7
    clear hp hI hv6 hv7
    refine hK21 _ _ ?_
    (try clear hK21 K21)
    refine wp_seq_k (fun K26 hK26 => ?_)
    refine reg_seq (N := 72) (bs := [(7, .bool t22_2), (6, .slice A25 t22_1.length C25), (5, .slice A11 (((l0 ++ [99] : List Int).take ((l0.length : Int) : Int).toNat).length) C11), (3, .pointer (some ⟨g4, 0, none⟩)), (0, .slice A0 l0.length cp0)]) (I := fun x => Below w.heap.size w x ∧ Below w3.heap.size w3 x ∧ Below w10.heap.size w10 x ∧ Below w24.heap.size w24 x) (ps := [IsV ((carillonlaw07_BodyPuts.v0 a1_0 a1_1 a1_2 a1_3 a1_4 a1_5 a1_6 a1_7 a1_8 a1_9 a1_10 a1_11 a1_12 a1_13 a1_14 a1_15 a1_16 a1_17 a1_18 a1_19 a1_20 a1_21 a1_22)), VB t27, VB t27]) (by kernel_rfl) ?_ ?_ rfl hS ⟨hBw24_w, hBw24_w3, hBw24_w10, hBw24_w24⟩ ?_ ?_
    · exact fun x y hI hb => ⟨below_step hI.1 hb, below_step hI.2.1 hb, below_step hI.2.2.1 hb, below_step hI.2.2.2 hb⟩
    · exact .v (.v (.v (.nil)))
    · refine .on rfl (fun a w hS hI hp => does_loadrow rfl (hS.get 3 rfl) (((hI.2.1).block g4 (blk_lt hbxg4)).trans hbxg4) Try.underlying29 rfl (by kernel_rfl) rfl) ?_
      refine .on rfl (fun a w hS hI hp => does_call (by kernel_rfl) (ar1 (hp.V 0 rfl rfl)) ((carillonref07_Check.calls k a1_0 a1_1 a1_2 a1_3 a1_4 a1_5 a1_6 a1_7 a1_8 a1_9 a1_10 a1_11 a1_12 a1_13 a1_14 a1_15 a1_16 a1_17 a1_18 a1_19 a1_20 a1_21 a1_22 t27 _  At27).mono fun _ _ h => ⟨_, h.1, h.2, rfl⟩)) ?_
      refine .asg 1 rfl rfl rfl rfl ?_
      exact .nil
    clear hS
    intro at28 w29 hS hI hp
    have hBw29_w := hI.1
    have hBw29_w3 := hI.2.1
    have hBw29_w10 := hI.2.2.1
    have hBw29_w24 := hI.2.2.2
    have hv8 : sl _ 8 = .bool t27 := hp 2 (by decide)
    have hBw29_w29 := Below.refl w29.heap.size w29
    have hS := hS.cons hv8
    clear hp hI hv8
    refine hK26 _ _ ?_
    (try clear hK26 K26)
    refine wp_seq_k (fun K30 hK30 => ?_)
    refine reg_seq (N := 72) (bs := [(8, .bool t27), (7, .bool t22_2), (6, .slice A25 t22_1.length C25), (5, .slice A11 (((l0 ++ [99] : List Int).take ((l0.length : Int) : Int).toNat).length) C11), (3, .pointer (some ⟨g4, 0, none⟩)), (0, .slice A0 l0.length cp0)]) (I := fun x => Below w.heap.size w x ∧ Below w3.heap.size w3 x ∧ Below w10.heap.size w10 x ∧ Below w24.heap.size w24 x ∧ Below w29.heap.size w29 x) (ps := [IsV (.slice A0 l0.length cp0), IsV (.string (strOfNums l0)), IsV (.string (strOfNums l0))]) (by kernel_rfl) ?_ ?_ rfl hS ⟨hBw29_w, hBw29_w3, hBw29_w10, hBw29_w24, hBw29_w29⟩ ?_ ?_
    · exact fun x y hI hb => ⟨below_step hI.1 hb, below_step hI.2.1 hb, below_step hI.2.2.1 hb, below_step hI.2.2.2.1 hb, below_step hI.2.2.2.2 hb⟩
    · exact .v (.v (.v (.nil)))
    · refine .ms 5 rfl rfl rfl ?_
      refine .on rfl (fun a w hS hI hp => does_val (x_conv rfl (hp.V 0 rfl rfl) (Kd.C_string (by kernel_rfl) (e := 5) (by kernel_rfl) (by kernel_rfl) (Kd.C_below HR0 hI.1))) rfl) ?_
      refine .asg 1 rfl rfl rfl rfl ?_
      exact .nil
    clear hS
    intro at31 w32 hS hI hp
    have hBw32_w := hI.1
    have hBw32_w3 := hI.2.1
    have hBw32_w10 := hI.2.2.1
    have hBw32_w24 := hI.2.2.2.1
    have hBw32_w29 := hI.2.2.2.2
    have hv9 : sl _ 9 = .string (strOfNums l0) := hp 2 (by decide)
    have hBw32_w32 := Below.refl w32.heap.size w32
    have hS := hS.cons hv9
    clear hp hI hv9
    refine hK30 _ _ ?_
    (try clear hK30 K30)
    refine wp_seq_k (fun K33 hK33 => ?_)
    refine wp_seq_k (fun K34 hK34 => ?_)
    refine reg_seq (N := 72) (bs := [(9, .string (strOfNums l0)), (8, .bool t27), (7, .bool t22_2), (6, .slice A25 t22_1.length C25), (5, .slice A11 (((l0 ++ [99] : List Int).take ((l0.length : Int) : Int).toNat).length) C11), (3, .pointer (some ⟨g4, 0, none⟩)), (0, .slice A0 l0.length cp0)]) (I := fun x => Below w.heap.size w x ∧ Below w3.heap.size w3 x ∧ Below w10.heap.size w10 x ∧ Below w24.heap.size w24 x ∧ Below w32.heap.size w32 x) (ps := [VB t27]) (by kernel_rfl) ?_ ?_ rfl hS ⟨hBw32_w, hBw32_w3, hBw32_w10, hBw32_w24, hBw32_w32⟩ ?_ ?_
    · exact fun x y hI hb => ⟨below_step hI.1 hb, below_step hI.2.1 hb, below_step hI.2.2.1 hb, below_step hI.2.2.2.1 hb, below_step hI.2.2.2.2 hb⟩
    · exact .v (.nil)
    · refine .ms 1 rfl rfl rfl ?_
      exact .nil
    clear hS
    intro at35 w36 hS hI hp
    have hBw36_w := hI.1
    have hBw36_w3 := hI.2.1
    have hBw36_w10 := hI.2.2.1
    have hBw36_w24 := hI.2.2.2.1
    have hBw36_w32 := hI.2.2.2.2
    have hv27 : sl _ 27 = .bool t27 := hp 0 (by decide)
    have hBw36_w36 := Below.refl w36.heap.size w36
    have hS := hS.cons hv27
    clear hp hI hv27
    refine hK34 _ _ ?_
    (try clear hK34 K34)
    refine wp_cond_false ((hS.get 0 rfl).trans (bF (Bool.eq_false_iff.2 c5))) ?_
    refine wp_skip ?_
    refine hK33 _ _ ?_
    (try clear hK33 K33)
    refine wp_seq_k (fun K37 hK37 => ?_)
    refine reg_any (N := 72) (bs := [(27, .bool t27), (9, .string (strOfNums l0)), (8, .bool t27), (7, .bool t22_2), (6, .slice A25 t22_1.length C25), (5, .slice A11 (((l0 ++ [99] : List Int).take ((l0.length : Int) : Int).toNat).length) C11), (3, .pointer (some ⟨g4, 0, none⟩)), (0, .slice A0 l0.length cp0)]) (I := fun x => Below w.heap.size w x ∧ Below w3.heap.size w3 x ∧ Below w10.heap.size w10 x ∧ Below w24.heap.size w24 x ∧ Below w36.heap.size w36 x) (ps := [IsV ((carillonlaw07_BodyPuts.v0 a1_0 a1_1 a1_2 a1_3 a1_4 a1_5 a1_6 a1_7 a1_8 a1_9 a1_10 a1_11 a1_12 a1_13 a1_14 a1_15 a1_16 a1_17 a1_18 a1_19 a1_20 a1_21 a1_22)), VB t38, VB t27, VB (t38 == t27), VB (t38 == t27), VB t22_2, VB t27, VB (t22_2 == t27), VB (t22_2 == t27), VB (t22_2 == t27), IsV (.slice A25 t22_1.length C25), IsV (.string (strOfNums t22_1)), IsV (.string (strOfNums l0)), VB ((strOfNums t22_1).toList == (strOfNums l0).toList), VB ((strOfNums t22_1).toList == (strOfNums l0).toList), VB ((strOfNums t22_1).toList == (strOfNums l0).toList), VP g4 0, VI a1_0, VI t39, VP g4 0, VI a1_0, VI t40, VB (decide (t39 = t40)), VB (decide (t39 = t40)), VB (decide (t39 = t40)), IsV (.slice A11 (((l0 ++ [99] : List Int).take ((l0.length : Int) : Int).toNat).length) C11), IsV (.slice A0 l0.length cp0), VI (l0.length : Int), VI (wrap64 ((l0.length : Int) + 1)), IsV (.slice A11 (((l0 ++ [99] : List Int).take (wrap64 ((l0.length : Int) + 1) : Int).toNat).length) C11), IsV (.slice A0 l0.length cp0), VI (l0.length : Int), IsA (.int .u8 (rd (l0 ++ [99] : List Int) (l0.length : Int))), IsV (.int .u8 (rd (l0 ++ [99] : List Int) (l0.length : Int))), VB (decide ((rd (l0 ++ [99] : List Int) (l0.length : Int)) = 99)), VB (decide ((rd (l0 ++ [99] : List Int) (l0.length : Int)) = 99)), VB (decide ((rd (l0 ++ [99] : List Int) (l0.length : Int)) = 99)), VB t41, VB t41, VB t41]) (by kernel_rfl) (by kernel_rfl) ?_ ?_ rfl hS ⟨hBw36_w, hBw36_w3, hBw36_w10, hBw36_w24, hBw36_w36⟩ ?_ ?_
    · exact fun x y hI hb => ⟨below_step hI.1 hb, below_step hI.2.1 hb, below_step hI.2.2.1 hb, below_step hI.2.2.2.1 hb, below_step hI.2.2.2.2 hb⟩
    · exact .v (.v (.v (.v (.v (.v (.v (.v (.v (.v (.v (.v (.v (.v (.v (.v (.v (.v (.v (.v (.v (.v (.v (.v (.v (.v (.v (.v (.v (.v (.v (.v (.cons (Stays.a _) (.v (.v (.v (.v (.v (.v (.v (.nil))))))))))))))))))))))))))))))))))))))))
    · refine .on rfl (fun a w hS hI hp => does_loadrow rfl (hS.get 6 rfl) (((hI.2.1).block g4 (blk_lt hbxg4)).trans hbxg4) Try.underlying29 rfl (by kernel_rfl) rfl) ?_
      refine .on rfl (fun a w hS hI hp => does_call (by kernel_rfl) (ar1 (hp.V 0 rfl rfl)) ((body_Check.calls k a1_0 a1_1 a1_2 a1_3 a1_4 a1_5 a1_6 a1_7 a1_8 a1_9 a1_10 a1_11 a1_12 a1_13 a1_14 a1_15 a1_16 a1_17 a1_18 a1_19 a1_20 a1_21 a1_22 t38 _  At38).mono fun _ _ h => ⟨_, h.1, h.2, rfl⟩)) ?_
      refine .ms 2 rfl rfl rfl ?_
      refine .on rfl (fun a w hS hI hp => does_val (x_bin rfl (hp.V 1 rfl rfl) (hp.V 2 rfl rfl) (b_eqb _ _ _ _ _ (by kernel_rfl))) rfl) ?_
      refine .mv 3 rfl rfl rfl rfl ?_
      refine .oy 4 37 rfl rfl rfl rfl rfl c6 (fun a w hS hI hp => does_val (x_move rfl (hS.get 3 rfl)) rfl) ?_
      refine .oy 4 37 rfl rfl rfl rfl rfl c6 (fun a w hS hI hp => does_val (x_move rfl (hS.get 2 rfl)) rfl) ?_
      refine .oy 4 37 rfl rfl rfl rfl rfl c6 (fun a w hS hI hp => does_val (x_bin rfl (hp.V 5 rfl rfl) (hp.V 6 rfl rfl) (b_eqb _ _ _ _ _ (by kernel_rfl))) rfl) ?_
      refine .pt 4 7 rfl rfl rfl rfl c6 rfl rfl ?_
      refine .mv 8 rfl rfl rfl rfl ?_
      refine .oy 9 42 rfl rfl rfl rfl rfl c7 (fun a w hS hI hp => does_val (x_move rfl (hS.get 4 rfl)) rfl) ?_
      refine .oy 9 42 rfl rfl rfl rfl rfl c7 (fun a w hS hI hp => does_val (x_conv rfl (hp.V 10 rfl rfl) (Kd.C_string (by kernel_rfl) (e := 5) (by kernel_rfl) (by kernel_rfl) (Kd.C_below hc25 hI.2.2.2.1))) rfl) ?_
      refine .oy 9 42 rfl rfl rfl rfl rfl c7 (fun a w hS hI hp => does_val (x_move rfl (hS.get 1 rfl)) rfl) ?_
      refine .oy 9 42 rfl rfl rfl rfl rfl c7 (fun a w hS hI hp => does_val (x_bin rfl (hp.V 11 rfl rfl) (hp.V 12 rfl rfl) (b_eqs _ _ _ _ _)) rfl) ?_
      refine .pt 9 13 rfl rfl rfl rfl c7 rfl rfl ?_
      refine .mv 14 rfl rfl rfl rfl ?_
      refine .oy 15 48 rfl rfl rfl rfl rfl c8 (fun a w hS hI hp => does_val (x_fieldE (b := 0) rfl (hS.get 6 rfl) Try.underlying29 rfl rfl (by kernel_rfl)) rfl) ?_
      refine .oy 15 48 rfl rfl rfl rfl rfl c8 (fun a w hS hI hp => does_val (x_load1 (d := .int .i64) rfl (hp.V 16 rfl rfl) (by kernel_rfl) rfl ((blk_cell (((hI.2.1).block g4 (blk_lt hbxg4)).trans hbxg4) 0).trans rfl)) rfl) ?_
      refine .oy 15 48 rfl rfl rfl rfl rfl c8 (fun a w hS hI hp => does_call (by kernel_rfl) (ar1 (hp.V 17 rfl rfl)) ((body_Len.calls k a1_0 t39 _  At39).mono fun _ _ h => ⟨_, h.1, h.2.below, rfl⟩)) ?_
      refine .oy 15 48 rfl rfl rfl rfl rfl c8 (fun a w hS hI hp => does_val (x_fieldE (b := 0) rfl (hS.get 6 rfl) Try.underlying29 rfl rfl (by kernel_rfl)) rfl) ?_
      refine .oy 15 48 rfl rfl rfl rfl rfl c8 (fun a w hS hI hp => does_val (x_load1 (d := .int .i64) rfl (hp.V 19 rfl rfl) (by kernel_rfl) rfl ((blk_cell (((hI.2.1).block g4 (blk_lt hbxg4)).trans hbxg4) 0).trans rfl)) rfl) ?_
      refine .oy 15 48 rfl rfl rfl rfl rfl c8 (fun a w hS hI hp => does_call (by kernel_rfl) (ar1 (hp.V 20 rfl rfl)) ((carillonref07_Len.calls k a1_0 t40 _  At40).mono fun _ _ h => ⟨_, h.1, h.2.below, rfl⟩)) ?_
      refine .oy 15 48 rfl rfl rfl rfl rfl c8 (fun a w hS hI hp => does_val (x_bin rfl (hp.V 18 rfl rfl) (hp.V 21 rfl rfl) (b_eql _ _ _ _ _ _)) rfl) ?_
      refine .pt 15 22 rfl rfl rfl rfl c8 rfl rfl ?_
      refine .mv 23 rfl rfl rfl rfl ?_
      refine .oy 24 57 rfl rfl rfl rfl rfl ((decide_eq_true c9)) (fun a w hS hI hp => does_val (x_move rfl (hS.get 5 rfl)) rfl) ?_
      refine .oy 24 57 rfl rfl rfl rfl rfl ((decide_eq_true c9)) (fun a w hS hI hp => does_val (x_move rfl (hS.get 7 rfl)) rfl) ?_
      refine .oy 24 57 rfl rfl rfl rfl rfl ((decide_eq_true c9)) (fun a w hS hI hp => does_val (x_len (e := 5) rfl (by kernel_rfl) (hp.V 26 rfl rfl)) rfl) ?_
      refine .oy 24 57 rfl rfl rfl rfl rfl ((decide_eq_true c9)) (fun a w hS hI hp => does_val (x_bin rfl (hp.V 27 rfl rfl) (rfl) (b_add _ _ _ _ _)) rfl) ?_
      refine .oy 24 57 rfl rfl rfl rfl rfl ((decide_eq_true c9)) (fun a w hS hI hp => does_val (x_cuthi rfl (e := 5) (xs := (l0 ++ [99] : List Int)) (by kernel_rfl) (by kernel_rfl) (hp.V 25 rfl rfl) (hp.V 28 rfl rfl) c10 c11 hl11) rfl) ?_
      refine .oy 24 57 rfl rfl rfl rfl rfl ((decide_eq_true c9)) (fun a w hS hI hp => does_val (x_move rfl (hS.get 7 rfl)) rfl) ?_
      refine .oy 24 57 rfl rfl rfl rfl rfl ((decide_eq_true c9)) (fun a w hS hI hp => does_val (x_len (e := 5) rfl (by kernel_rfl) (hp.V 30 rfl rfl)) rfl) ?_
      refine .oy 24 57 rfl rfl rfl rfl rfl ((decide_eq_true c9)) (fun a w hS hI hp => does_index (e := 5) (xs := (l0 ++ [99] : List Int)) rfl (hp.V 29 rfl rfl) (hp.V 31 rfl rfl) (by kernel_rfl) (by kernel_rfl) c3 c12 c13 ((Kd.C_below hc11 hI.2.2.1))) ?_
      refine .oy 24 57 rfl rfl rfl rfl rfl ((decide_eq_true c9)) (fun a w hS hI hp => (hp.V 32 rfl rfl).elim fun _ h_ => does_val (x_load1 (d := .int .u8) rfl h_.1 (by kernel_rfl) rfl h_.2.2) rfl) ?_
      refine .oy 24 57 rfl rfl rfl rfl rfl ((decide_eq_true c9)) (fun a w hS hI hp => does_val (x_bin rfl (hp.V 33 rfl rfl) (rfl) (b_eql _ _ _ _ _ _)) rfl) ?_
      refine .pt 24 34 rfl rfl rfl rfl ((decide_eq_true c9)) rfl rfl ?_
      refine .mv 35 rfl rfl rfl rfl ?_
      refine .oy 36 69 rfl rfl rfl rfl rfl ((decide_eq_true c14)) (fun a w hS hI hp => does_call (by kernel_rfl) rfl ((carillonlaw07_awake.calls k  t41 _  At41).mono fun _ _ h => ⟨_, h.1, h.2, rfl⟩)) ?_
      refine .pt 36 37 rfl rfl rfl rfl ((decide_eq_true c14)) rfl rfl ?_
      refine .asg 38 rfl rfl rfl rfl ?_
      exact .nil
    clear hS
    intro at42 w43 hS hI hp
    have hBw43_w := hI.1
    have hBw43_w3 := hI.2.1
    have hBw43_w10 := hI.2.2.1
    have hBw43_w24 := hI.2.2.2.1
    have hBw43_w36 := hI.2.2.2.2
    replace hS := hS.nil
    have hv4 : sl _ 4 = .bool t41 := hp 39 (by decide)
    have hBw43_w43 := Below.refl w43.heap.size w43
    have hS := hS.cons hv4
    clear hp hI hv4
    refine hK37 _ _ ?_
    (try clear hK37 K37)
    refine wp_ret ?_
    (try simp only [Exit.then, Exit.inBlock, Exit.jump, Exit.noGoto])
    exact bodyPost_ret (v := .bool true) (by rw [results_tmp rfl]; exact congrArg (Result.ok · _) ((hS.get 0 rfl).trans (congrArg Value.bool hret))) hS.nodef ⟨rfl, hBw43_w⟩
  rw [if_pos c5] at H
  obtain ⟨t37, At37, H⟩ := Option.bind_eq_some_iff.mp H
  by_cases c6 : (strOfNums l0).size + (strOfNums t37).size ≤ 9223372036854775807
  rotate_left
  · rw [if_neg c6] at H
    exact absurd H (by simp)
  rw [if_pos c6] at H
  obtain ⟨t43, At43, H⟩ := Option.bind_eq_some_iff.mp H
  by_cases c7 : (t43 == t27) = true
  rotate_left
  · rw [if_neg c7] at H
    exact absurd H (by simp)
  rw [if_pos c7] at H
  by_cases c8 : (t22_2 == t27) = true
  rotate_left
  · rw [if_neg c8] at H
    exact absurd H (by simp)
  rw [if_pos c8] at H
  by_cases c9 : ((strOfNums t22_1).toList == ((strOfNums l0) ++ (strOfNums t37)).toList) = true
  rotate_left
  · rw [if_neg c9] at H
    exact absurd H (by simp)
  rw [if_pos c9] at H
  obtain ⟨t44, At44, H⟩ := Option.bind_eq_some_iff.mp H
  obtain ⟨t45, At45, H⟩ := Option.bind_eq_some_iff.mp H
  by_cases c10 : t44 = t45
  rotate_left
  · rw [if_neg c10] at H
    exact absurd H (by simp)
  rw [if_pos c10] at H
  by_cases c11 : 0 ≤ (wrap64 ((l0.length : Int) + 1))
  rotate_left
  · rw [if_neg c11] at H
    exact absurd H (by simp)
  rw [if_pos c11] at H
  by_cases c12 : (wrap64 ((l0.length : Int) + 1)) ≤ ((l0 ++ [99] : List Int).length : Int)
  rotate_left
  · rw [if_neg c12] at H
    exact absurd H (by simp)
  rw [if_pos c12] at H
  by_cases c13 : (l0.length : Int) < (((l0 ++ [99] : List Int).take (wrap64 ((l0.length : Int) + 1) : Int).toNat).length : Int)
  rotate_left
  · rw [if_neg c13] at H
    exact absurd H (by simp)
  rw [if_pos c13] at H
  by_cases c14 : (l0.length : Int) < ((l0 ++ [99] : List Int).length : Int)
  rotate_left
  · rw [if_neg c14] at H
    exact absurd H (by simp)
  rw [if_pos c14] at H
  by_cases c15 : (rd (l0 ++ [99] : List Int) (l0.length : Int)) = 99
  rotate_left
  · rw [if_neg c15] at H
    exact absurd H (by simp)
  rw [if_pos c15] at H
  obtain ⟨t46, At46, H⟩ := Option.bind_eq_some_iff.mp H
  have hret := Option.some.inj H
  clear H
  refine calls_of_wp (fn := Try.f3) (by kernel_rfl) rfl ?_
  have hS := St.enter #[.slice A0 l0.length cp0, (carillonlaw07_BodyPuts.v0 a1_0 a1_1 a1_2 a1_3 a1_4 a1_5 a1_6 a1_7 a1_8 a1_9 a1_10 a1_11 a1_12 a1_13 a1_14 a1_15 a1_16 a1_17 a1_18 a1_19 a1_20 a1_21 a1_22)] 72 (by simp) [(0, .slice A0 l0.length cp0), (1, (carillonlaw07_BodyPuts.v0 a1_0 a1_1 a1_2 a1_3 a1_4 a1_5 a1_6 a1_7 a1_8 a1_9 a1_10 a1_11 a1_12 a1_13 a1_14 a1_15 a1_16 a1_17 a1_18 a1_19 a1_20 a1_21 a1_22))] (by simp)
  have HB0 := Below.refl w.heap.size w
  refine wp_seq_k (fun K1 hK1 => ?_)
  refine reg_seq (N := 72) (bs := [(0, .slice A0 l0.length cp0), (1, (carillonlaw07_BodyPuts.v0 a1_0 a1_1 a1_2 a1_3 a1_4 a1_5 a1_6 a1_7 a1_8 a1_9 a1_10 a1_11 a1_12 a1_13 a1_14 a1_15 a1_16 a1_17 a1_18 a1_19 a1_20 a1_21 a1_22))]) (I := fun x => Below w.heap.size w x) (ps := [IsB (carillonlaw07_BodyPuts.c1 a1_0 a1_1 a1_2 a1_3 a1_4 a1_5 a1_6 a1_7 a1_8 a1_9 a1_10 a1_11 a1_12 a1_13 a1_14 a1_15 a1_16 a1_17 a1_18 a1_19 a1_20 a1_21 a1_22) 29 w.heap.size, VB false]) (by kernel_rfl) ?_ ?_ rfl hS HB0 ?_ ?_
  · exact fun x y hI hb => below_step hI hb
  · exact .cons (Stays.b _ _ _) (.v (.nil))
  · refine .on rfl (fun a w hS hI hp => does_var (x_box rfl (congrArg Value.cells (hS.get 1 rfl))) (hI).size) ?_
    refine .on rfl (fun a w hS hI hp => does_val (x_assign rfl (rfl)) rfl) ?_
    exact .nil
  clear hS
  intro at2 w3 hS hI hp
  have hBw3_w := hI
  replace hS := (hS.nil).cons (hS.get 0 rfl)
  obtain ⟨g4, hv3, hgeg4, hbxg4⟩ := (show IsB _ 29 _ (sl _ 3) _ from hp 0 (by decide))
  have hBw3_w3 := Below.refl w3.heap.size w3
  have hS := hS.cons hv3
  clear hp hI hv3
  refine hK1 _ _ ?_
  (try clear hK1 K1)
  refine wp_seq_k (fun K5 hK5 => ?_)
  refine reg_seq_tail 3 (N := 72) (bs := [(3, .pointer (some ⟨g4, 0, none⟩)), (0, .slice A0 l0.length cp0)]) (I := fun x => Below w.heap.size w x ∧ Below w3.heap.size w3 x) (ps := [IsV (.slice A0 l0.length cp0), IsR (Kd.int .u8) 5 w3.heap.size l0, IsR (Kd.int .u8) 5 w3.heap.size [99]]) (by kernel_rfl) ?_ ?_ rfl hS ⟨hBw3_w, hBw3_w3⟩ ?_ ?_
  · exact fun x y hI hb => ⟨below_step hI.1 hb, below_step hI.2 hb⟩
  · exact .v (.cons (Stays.r _ _ _ _) (.cons (Stays.r _ _ _ _) (.nil)))
  · refine .ms 1 rfl rfl rfl ?_
    refine .on rfl (fun a w hS hI hp => does_copy w3.heap.size _ (.tmp 10) 22 5 1 rfl (by kernel_rfl) (by kernel_rfl) (by decide) l0 _ _ (rfl) (hp.V 0 rfl rfl) ((Kd.C_below HR0 hI.1)) (hI.2).size c1) ?_
    refine .on rfl (fun a w hS hI hp => does_lit w3.heap.size 22 5 1 _ [(0, .int .u8 99)] [99] rfl (by kernel_rfl) (by rw [Array.toList_map]; exact (show [(0, a.eval (.const (.int .u8 99)))] = _ from (li_cons (rfl) rfl))) (by kernel_rfl) rfl (hI.2).size (Nat.le_of_ble_eq_true rfl)) ?_
    exact .nil
  clear hS
  intro at6 w7 hS hI hp
  have hBw7_w := hI.1
  have hBw7_w3 := hI.2
  obtain ⟨A8, C8, hv11, hl8, hc8⟩ := Kd.R_reads (show Kd.R (Kd.int .u8) 5 w7 w3.heap.size (fun _ => True) (sl _ 11) l0 from hp 1 (by decide))
  have ho8 : Kd.R (Kd.int .u8) 5 w7 w3.heap.size (fun _ => True) (.slice A8 l0.length C8) l0 := hv11 ▸ (hp 1 (by decide))
  obtain ⟨A9, C9, hv12, hl9, hc9⟩ := Kd.R_reads (show Kd.R (Kd.int .u8) 5 w7 w3.heap.size (fun _ => True) (sl _ 12) [99] from hp 2 (by decide))
  have ho9 : Kd.R (Kd.int .u8) 5 w7 w3.heap.size (fun _ => True) (.slice A9 [99].length C9) [99] := hv12 ▸ (hp 2 (by decide))
  have hBw7_w7 := Below.refl w7.heap.size w7
  have hS := hS.cons hv11
  have hS := hS.cons hv12
  clear hp hI hv11 hv12
  show wpList _ _ _ [_, _, _, _, _] _ _
  refine list_step rfl (does_more (W := w3) (.tmp 11) (.tmp 12) 22 5 1 rfl (by kernel_rfl) (by kernel_rfl) (by decide) _ l0 [99] _ _ (hS.get 1 rfl) (hS.get 0 rfl) (Kd.R_below ho8 hBw7_w7) (Kd.C_below hc9 hBw7_w7) hBw7_w3 c2) ?_
  rintro vw10 w10 ⟨hb, hr, hk⟩
  clear hk
  have hBw10_w := below_step hBw3_w hb
  have hBw10_w3 := hb
  replace hS := ((hS.nil).cons (hS.get 3 rfl)).cons (hS.get 2 rfl)
  have hBw10_w10 := Below.refl w10.heap.size w10
  obtain ⟨A11, C11, rfl, hl11, hc11⟩ := Kd.R_reads hr
  have hr11 := hr
  clear hr
  refine hS.next (v := .slice A11 ((l0 ++ [99] : List Int).length) C11) (d := 13) rfl (by decide) (by rfl) ?_
  clear hS
  intro at12 hS
  refine list_step rfl (R := fun v w' => Below _ _ w' ∧ (IsV (.slice A0 l0.length cp0)) v w') (does_val (x_move rfl (hS.get 2 rfl)) rfl) ?_
  rintro vw13 w13 ⟨hb, he⟩
  have hBw13_w := below_step hBw10_w hb
  have hBw13_w3 := below_step hBw10_w3 hb
  have hBw13_w10 := below_step hBw10_w10 hb
  have hBw13_w13 := Below.refl w13.heap.size w13
  obtain rfl : vw13 = .slice A0 l0.length cp0 := he
  refine hS.next (v := .slice A0 l0.length cp0) (d := 14) rfl (by decide) (by rfl) ?_
  clear hS
  intro at14 hS
  refine list_step rfl (R := fun v w' => Below _ _ w' ∧ (VI (l0.length : Int)) v w') (does_val (x_len (e := 5) rfl (by kernel_rfl) (hS.get 0 rfl)) rfl) ?_
  rintro vw15 w15 ⟨hb, he⟩
  have hBw15_w := below_step hBw13_w hb
  have hBw15_w3 := below_step hBw13_w3 hb
  have hBw15_w10 := below_step hBw13_w10 hb
  have hBw15_w13 := below_step hBw13_w13 hb
  have hBw15_w15 := Below.refl w15.heap.size w15
  obtain rfl : vw15 = .int .i64 (l0.length : Int) := he
  refine hS.next (v := .int .i64 (l0.length : Int)) (d := 15) rfl (by decide) (by rfl) ?_
  clear hS
  intro at16 hS
  refine list_step rfl (R := fun v w' => Below _ _ w' ∧ (IsV (.slice A11 (((l0 ++ [99] : List Int).take ((l0.length : Int) : Int).toNat).length) C11)) v w') (does_val (x_cuthi rfl (e := 5) (xs := (l0 ++ [99] : List Int)) (by kernel_rfl) (by kernel_rfl) (hS.get 2 rfl) (hS.get 0 rfl) c3 c4 hl11) rfl) ?_
  rintro vw17 w17 ⟨hb, he⟩
  have hBw17_w := below_step hBw15_w hb
  have hBw17_w3 := below_step hBw15_w3 hb
  have hBw17_w10 := below_step hBw15_w10 hb
  have hBw17_w15 := below_step hBw15_w15 hb
  have hBw17_w17 := Below.refl w17.heap.size w17
  obtain rfl : vw17 = .slice A11 (((l0 ++ [99] : List Int).take ((l0.length : Int) : Int).toNat).length) C11 := he
  refine hS.next (v := .slice A11 (((l0 ++ [99] : List Int).take ((l0.length : Int) : Int).toNat).length) C11) (d := 16) rfl (by decide) (by rfl) ?_
  clear hS
  intro at18 hS
  refine list_step rfl (R := fun v w' => Below _ _ w' ∧ (IsV (.slice A11 (((l0 ++ [99] : List Int).take ((l0.length : Int) : Int).toNat).length) C11)) v w') (does_val (x_assign rfl (hS.get 0 rfl)) rfl) ?_
  rintro vw19 w19 ⟨hb, he⟩
  have hBw19_w := below_step hBw17_w hb
  have hBw19_w3 := below_step hBw17_w3 hb
  have hBw19_w10 := below_step hBw17_w10 hb
  have hBw19_w17 := below_step hBw17_w17 hb
  have hBw19_w19 := Below.refl w19.heap.size w19
  obtain rfl : vw19 = .slice A11 (((l0 ++ [99] : List Int).take ((l0.length : Int) : Int).toNat).length) C11 := he
  refine hS.next (v := .slice A11 (((l0 ++ [99] : List Int).take ((l0.length : Int) : Int).toNat).length) C11) (d := 5) rfl (by decide) (by rfl) ?_
  clear hS
  intro at20 hS
  refine wpList_nil ?_
  refine hK5 _ _ ?_
  (try clear hK5 K5)
  refine wp_seq_k (fun K21 hK21 => ?_)
  refine reg_seq (N := 72) (bs := [(5, .slice A11 (((l0 ++ [99] : List Int).take ((l0.length : Int) : Int).toNat).length) C11), (16, .slice A11 (((l0 ++ [99] : List Int).take ((l0.length : Int) : Int).toNat).length) C11), (15, .int .i64 (l0.length : Int)), (14, .slice A0 l0.length cp0), (13, .slice A11 ((l0 ++ [99] : List Int).length) C11), (3, .pointer (some ⟨g4, 0, none⟩)), (0, .slice A0 l0.length cp0)]) (I := fun x => Below w.heap.size w x ∧ Below w3.heap.size w3 x ∧ Below w10.heap.size w10 x ∧ Below w19.heap.size w19 x) (ps := [IsV (.slice A11 (((l0 ++ [99] : List Int).take ((l0.length : Int) : Int).toNat).length) C11), IsV ((carillonlaw07_BodyPuts.v0 a1_0 a1_1 a1_2 a1_3 a1_4 a1_5 a1_6 a1_7 a1_8 a1_9 a1_10 a1_11 a1_12 a1_13 a1_14 a1_15 a1_16 a1_17 a1_18 a1_19 a1_20 a1_21 a1_22)), IsT (fun v0_ => #[v0_, .bool t22_2]) (IsC (Kd.int .u8) t22_1), IsT (fun v0_ => #[v0_, .bool t22_2]) (IsC (Kd.int .u8) t22_1), IsC (Kd.int .u8) t22_1, VB t22_2, IsC (Kd.int .u8) t22_1, VB t22_2]) (by kernel_rfl) ?_ ?_ rfl hS ⟨hBw19_w, hBw19_w3, hBw19_w10, hBw19_w19⟩ ?_ ?_
  · exact fun x y hI hb => ⟨below_step hI.1 hb, below_step hI.2.1 hb, below_step hI.2.2.1 hb, below_step hI.2.2.2 hb⟩
  · exact .v (.v (.cons (Stays.t _ (Stays.c _ _)) (.cons (Stays.t _ (Stays.c _ _)) (.cons (Stays.c _ _) (.v (.cons (Stays.c _ _) (.v (.nil))))))))
  · refine .ms 0 rfl rfl rfl ?_
    refine .on rfl (fun a w hS hI hp => does_loadrow rfl (hS.get 5 rfl) (((hI.2.1).block g4 (blk_lt hbxg4)).trans hbxg4) Try.underlying29 rfl (by kernel_rfl) rfl) ?_
    refine .on rfl (fun a w hS hI hp => does_call (by kernel_rfl) (ar2 (hp.V 0 rfl rfl) (hp.V 1 rfl rfl)) ((body_Put.calls k _ _ ((l0 ++ [99] : List Int).take ((l0.length : Int) : Int).toNat) a1_0 a1_1 a1_2 a1_3 a1_4 a1_5 a1_6 a1_7 a1_8 a1_9 a1_10 a1_11 a1_12 a1_13 a1_14 a1_15 a1_16 a1_17 a1_18 a1_19 a1_20 a1_21 a1_22 t22_1 t22_2 _ (Kd.C_take (m := ((l0.length : Int) : Int).toNat) (Kd.C_below hc11 hI.2.2.1) (by have := c4; omega)) (Nat.le_trans (List.length_take_le' _ _) hl11) At22).mono fun _ _ h => h.elim fun v0 h => ⟨_, h.1, h.2.2, v0, rfl, h.2.1⟩)) ?_
    refine .on rfl (fun a w hS hI hp => does_val (x_move rfl rfl) (hp.V 2 rfl rfl)) ?_
    refine .on rfl (fun a w hS hI hp => (hp.V 3 rfl rfl).elim fun v0 h0 => does_val (x_extract rfl h0.1 rfl) h0.2) ?_
    refine .on rfl (fun a w hS hI hp => (hp.V 3 rfl rfl).elim fun v0 h0 => does_val (x_extract rfl h0.1 rfl) rfl) ?_
    refine .on rfl (fun a w hS hI hp => does_val (x_assign rfl rfl) (hp.V 4 rfl rfl)) ?_
    refine .asg 5 rfl rfl rfl rfl ?_
    exact .nil
  clear hS
  intro at23 w24 hS hI hp
  have hBw24_w := hI.1
  have hBw24_w3 := hI.2.1
  have hBw24_w10 := hI.2.2.1
  have hBw24_w19 := hI.2.2.2
  replace hS := (((hS.nil).cons (hS.get 6 rfl)).cons (hS.get 5 rfl)).cons (hS.get 0 rfl)
  obtain ⟨A25, C25, hv6, hl25, hc25⟩ := (show IsC (Kd.int .u8) t22_1 (sl _ 6) w24 from hp 6 (by decide))
  have hv7 : sl _ 7 = .bool t22_2 := hp 7 (by decide)
  have hBw24_w24 := Below.refl w24.heap.size w24
  have hS := hS.cons hv6
  have hS := hS.cons hv7
  clear hp hI hv6 hv7
  refine hK21 _ _ ?_
  (try clear hK21 K21)
  refine wp_seq_k (fun K26 hK26 => ?_)
  refine reg_seq (N := 72) (bs := [(7, .bool t22_2), (6, .slice A25 t22_1.length C25), (5, .slice A11 (((l0 ++ [99] : List Int).take ((l0.length : Int) : Int).toNat).length) C11), (3, .pointer (some ⟨g4, 0, none⟩)), (0, .slice A0 l0.length cp0)]) (I := fun x => Below w.heap.size w x ∧ Below w3.heap.size w3 x ∧ Below w10.heap.size w10 x ∧ Below w24.heap.size w24 x) (ps := [IsV ((carillonlaw07_BodyPuts.v0 a1_0 a1_1 a1_2 a1_3 a1_4 a1_5 a1_6 a1_7 a1_8 a1_9 a1_10 a1_11 a1_12 a1_13 a1_14 a1_15 a1_16 a1_17 a1_18 a1_19 a1_20 a1_21 a1_22)), VB t27, VB t27]) (by kernel_rfl) ?_ ?_ rfl hS ⟨hBw24_w, hBw24_w3, hBw24_w10, hBw24_w24⟩ ?_ ?_
  · exact fun x y hI hb => ⟨below_step hI.1 hb, below_step hI.2.1 hb, below_step hI.2.2.1 hb, below_step hI.2.2.2 hb⟩
  · exact .v (.v (.v (.nil)))
  · refine .on rfl (fun a w hS hI hp => does_loadrow rfl (hS.get 3 rfl) (((hI.2.1).block g4 (blk_lt hbxg4)).trans hbxg4) Try.underlying29 rfl (by kernel_rfl) rfl) ?_
    refine .on rfl (fun a w hS hI hp => does_call (by kernel_rfl) (ar1 (hp.V 0 rfl rfl)) ((carillonref07_Check.calls k a1_0 a1_1 a1_2 a1_3 a1_4 a1_5 a1_6 a1_7 a1_8 a1_9 a1_10 a1_11 a1_12 a1_13 a1_14 a1_15 a1_16 a1_17 a1_18 a1_19 a1_20 a1_21 a1_22 t27 _  At27).mono fun _ _ h => ⟨_, h.1, h.2, rfl⟩)) ?_
    refine .asg 1 rfl rfl rfl rfl ?_
    exact .nil
  clear hS
  intro at28 w29 hS hI hp
  have hBw29_w := hI.1
  have hBw29_w3 := hI.2.1
  have hBw29_w10 := hI.2.2.1
  have hBw29_w24 := hI.2.2.2
  have hv8 : sl _ 8 = .bool t27 := hp 2 (by decide)
  have hBw29_w29 := Below.refl w29.heap.size w29
  have hS := hS.cons hv8
  clear hp hI hv8
  refine hK26 _ _ ?_
  (try clear hK26 K26)
  refine wp_seq_k (fun K30 hK30 => ?_)
  refine reg_seq (N := 72) (bs := [(8, .bool t27), (7, .bool t22_2), (6, .slice A25 t22_1.length C25), (5, .slice A11 (((l0 ++ [99] : List Int).take ((l0.length : Int) : Int).toNat).length) C11), (3, .pointer (some ⟨g4, 0, none⟩)), (0, .slice A0 l0.length cp0)]) (I := fun x => Below w.heap.size w x ∧ Below w3.heap.size w3 x ∧ Below w10.heap.size w10 x ∧ Below w24.heap.size w24 x ∧ Below w29.heap.size w29 x) (ps := [IsV (.slice A0 l0.length cp0), IsV (.string (strOfNums l0)), IsV (.string (strOfNums l0))]) (by kernel_rfl) ?_ ?_ rfl hS ⟨hBw29_w, hBw29_w3, hBw29_w10, hBw29_w24, hBw29_w29⟩ ?_ ?_
  · exact fun x y hI hb => ⟨below_step hI.1 hb, below_step hI.2.1 hb, below_step hI.2.2.1 hb, below_step hI.2.2.2.1 hb, below_step hI.2.2.2.2 hb⟩
  · exact .v (.v (.v (.nil)))
  · refine .ms 5 rfl rfl rfl ?_
    refine .on rfl (fun a w hS hI hp => does_val (x_conv rfl (hp.V 0 rfl rfl) (Kd.C_string (by kernel_rfl) (e := 5) (by kernel_rfl) (by kernel_rfl) (Kd.C_below HR0 hI.1))) rfl) ?_
    refine .asg 1 rfl rfl rfl rfl ?_
    exact .nil
  clear hS
  intro at31 w32 hS hI hp
  have hBw32_w := hI.1
  have hBw32_w3 := hI.2.1
  have hBw32_w10 := hI.2.2.1
  have hBw32_w24 := hI.2.2.2.1
  have hBw32_w29 := hI.2.2.2.2
  have hv9 : sl _ 9 = .string (strOfNums l0) := hp 2 (by decide)
  have hBw32_w32 := Below.refl w32.heap.size w32
  have hS := hS.cons hv9
  clear hp hI hv9
  refine hK30 _ _ ?_
  (try clear hK30 K30)
  refine wp_seq_k (fun K33 hK33 => ?_)
  refine wp_seq_k (fun K34 hK34 => ?_)
  refine reg_seq (N := 72) (bs := [(9, .string (strOfNums l0)), (8, .bool t27), (7, .bool t22_2), (6, .slice A25 t22_1.length C25), (5, .slice A11 (((l0 ++ [99] : List Int).take ((l0.length : Int) : Int).toNat).length) C11), (3, .pointer (some ⟨g4, 0, none⟩)), (0, .slice A0 l0.length cp0)]) (I := fun x => Below w.heap.size w x ∧ Below w3.heap.size w3 x ∧ Below w10.heap.size w10 x ∧ Below w24.heap.size w24 x ∧ Below w32.heap.size w32 x) (ps := [VB t27]) (by kernel_rfl) ?_ ?_ rfl hS ⟨hBw32_w, hBw32_w3, hBw32_w10, hBw32_w24, hBw32_w32⟩ ?_ ?_
  · exact fun x y hI hb => ⟨below_step hI.1 hb, below_step hI.2.1 hb, below_step hI.2.2.1 hb, below_step hI.2.2.2.1 hb, below_step hI.2.2.2.2 hb⟩
  · exact .v (.nil)
  · refine .ms 1 rfl rfl rfl ?_
    exact .nil
  clear hS
  intro at35 w36 hS hI hp
  have hBw36_w := hI.1
  have hBw36_w3 := hI.2.1
  have hBw36_w10 := hI.2.2.1
  have hBw36_w24 := hI.2.2.2.1
  have hBw36_w32 := hI.2.2.2.2
  have hv27 : sl _ 27 = .bool t27 := hp 0 (by decide)
  have hBw36_w36 := Below.refl w36.heap.size w36
  have hS := hS.cons hv27
  clear hp hI hv27
  refine hK34 _ _ ?_
  (try clear hK34 K34)
  refine wp_cond_true ((hS.get 0 rfl).trans (bT c5)) ?_
  refine reg_seq_tail 5 (N := 72) (bs := [(27, .bool t27), (9, .string (strOfNums l0)), (8, .bool t27), (7, .bool t22_2), (6, .slice A25 t22_1.length C25), (5, .slice A11 (((l0 ++ [99] : List Int).take ((l0.length : Int) : Int).toNat).length) C11), (3, .pointer (some ⟨g4, 0, none⟩)), (0, .slice A0 l0.length cp0)]) (I := fun x => Below w.heap.size w x ∧ Below w3.heap.size w3 x ∧ Below w10.heap.size w10 x ∧ Below w24.heap.size w24 x ∧ Below w36.heap.size w36 x) (ps := [IsV (.string (strOfNums l0)), IsV ((carillonlaw07_BodyPuts.v0 a1_0 a1_1 a1_2 a1_3 a1_4 a1_5 a1_6 a1_7 a1_8 a1_9 a1_10 a1_11 a1_12 a1_13 a1_14 a1_15 a1_16 a1_17 a1_18 a1_19 a1_20 a1_21 a1_22)), IsR (Kd.int .u8) 5 w36.heap.size t37, IsV (.string (strOfNums t37)), IsV (.string ((strOfNums l0) ++ (strOfNums t37)))]) (by kernel_rfl) ?_ ?_ rfl hS ⟨hBw36_w, hBw36_w3, hBw36_w10, hBw36_w24, hBw36_w36⟩ ?_ ?_
  · exact fun x y hI hb => ⟨below_step hI.1 hb, below_step hI.2.1 hb, below_step hI.2.2.1 hb, below_step hI.2.2.2.1 hb, below_step hI.2.2.2.2 hb⟩
  · exact .v (.v (.cons (Stays.r _ _ _ _) (.v (.v (.nil)))))
  · refine .ms 1 rfl rfl rfl ?_
    refine .on rfl (fun a w hS hI hp => does_loadrow rfl (hS.get 6 rfl) (((hI.2.1).block g4 (blk_lt hbxg4)).trans hbxg4) Try.underlying29 rfl (by kernel_rfl) rfl) ?_
    refine .on rfl (fun a w hS hI hp => does_call (by kernel_rfl) (ar1 (hp.V 1 rfl rfl)) ((carillonref07_Put.calls k a1_0 a1_1 a1_2 a1_3 a1_4 a1_5 a1_6 a1_7 a1_8 a1_9 a1_10 a1_11 a1_12 a1_13 a1_14 a1_15 a1_16 a1_17 a1_18 a1_19 a1_20 a1_21 a1_22 t37 _  At37).mono fun _ _ h => h.elim fun v0 h => ⟨v0, h.1, h.2.2, Kd.R_lower h.2.1 hI.2.2.2.2.size⟩)) ?_
    refine .on rfl (fun a w hS hI hp => (IsC.of_r (hp.V 2 rfl rfl)).elim fun A_ h_ => h_.elim fun c_ h_ => h_.elim fun hv_ h_ => h_.elim fun hl_ hc_ => does_val (x_conv rfl hv_ (Kd.C_string (by kernel_rfl) (e := 5) (by kernel_rfl) (by kernel_rfl) hc_)) rfl) ?_
    refine .on rfl (fun a w hS hI hp => does_val (x_bin rfl (hp.V 0 rfl rfl) (hp.V 3 rfl rfl) (b_adds _ _ _ _ _ c6)) rfl) ?_
    exact .nil
  clear hS
  intro at38 w39 hS hI hp
  have hBw39_w := hI.1
  have hBw39_w3 := hI.2.1
  have hBw39_w10 := hI.2.2.1
  have hBw39_w24 := hI.2.2.2.1
  have hBw39_w36 := hI.2.2.2.2
  replace hS := (((((((hS.nil).cons (hS.get 7 rfl)).cons (hS.get 6 rfl)).cons (hS.get 5 rfl)).cons (hS.get 4 rfl)).cons (hS.get 3 rfl)).cons (hS.get 2 rfl)).cons (hS.get 1 rfl)
  have hv32 : sl _ 32 = .string ((strOfNums l0) ++ (strOfNums t37)) := hp 4 (by decide)
  have hBw39_w39 := Below.refl w39.heap.size w39
  have hS := hS.cons hv32
  clear hp hI hv32
  show wpList _ _ _ [_] _ _
  refine list_step rfl (R := fun v w' => Below _ _ w' ∧ (IsV (.string ((strOfNums l0) ++ (strOfNums t37)))) v w') (does_val (x_assign rfl (hS.get 0 rfl)) rfl) ?_
  rintro vw40 w40 ⟨hb, he⟩
  have hBw40_w := below_step hBw39_w hb
  have hBw40_w3 := below_step hBw39_w3 hb
  have hBw40_w10 := below_step hBw39_w10 hb
  have hBw40_w24 := below_step hBw39_w24 hb
  have hBw40_w39 := below_step hBw39_w39 hb
  have hBw40_w40 := Below.refl w40.heap.size w40
  obtain rfl : vw40 = .string ((strOfNums l0) ++ (strOfNums t37)) := he
  replace hS := (((((((hS.nil).cons (hS.get 7 rfl)).cons (hS.get 6 rfl)).cons (hS.get 5 rfl)).cons (hS.get 4 rfl)).cons (hS.get 3 rfl)).cons (hS.get 2 rfl)).cons (hS.get 0 rfl)
  refine hS.next (v := .string ((strOfNums l0) ++ (strOfNums t37))) (d := 9) rfl (by decide) (by rfl) ?_
  clear hS
  intro at41 hS
  refine wpList_nil ?_
  refine hK33 _ _ ?_
  (try clear hK33 K33)
  refine wp_seq_k (fun K42 hK42 => ?_)
  refine reg_any (N := 72) (bs := [(9, .string ((strOfNums l0) ++ (strOfNums t37))), (32, .string ((strOfNums l0) ++ (strOfNums t37))), (8, .bool t27), (7, .bool t22_2), (6, .slice A25 t22_1.length C25), (5, .slice A11 (((l0 ++ [99] : List Int).take ((l0.length : Int) : Int).toNat).length) C11), (3, .pointer (some ⟨g4, 0, none⟩)), (0, .slice A0 l0.length cp0)]) (I := fun x => Below w.heap.size w x ∧ Below w3.heap.size w3 x ∧ Below w10.heap.size w10 x ∧ Below w24.heap.size w24 x ∧ Below w40.heap.size w40 x) (ps := [IsV ((carillonlaw07_BodyPuts.v0 a1_0 a1_1 a1_2 a1_3 a1_4 a1_5 a1_6 a1_7 a1_8 a1_9 a1_10 a1_11 a1_12 a1_13 a1_14 a1_15 a1_16 a1_17 a1_18 a1_19 a1_20 a1_21 a1_22)), VB t43, VB t27, VB (t43 == t27), VB (t43 == t27), VB t22_2, VB t27, VB (t22_2 == t27), VB (t22_2 == t27), VB (t22_2 == t27), IsV (.slice A25 t22_1.length C25), IsV (.string (strOfNums t22_1)), IsV (.string ((strOfNums l0) ++ (strOfNums t37))), VB ((strOfNums t22_1).toList == ((strOfNums l0) ++ (strOfNums t37)).toList), VB ((strOfNums t22_1).toList == ((strOfNums l0) ++ (strOfNums t37)).toList), VB ((strOfNums t22_1).toList == ((strOfNums l0) ++ (strOfNums t37)).toList), VP g4 0, VI a1_0, VI t44, VP g4 0, VI a1_0, VI t45, VB (decide (t44 = t45)), VB (decide (t44 = t45)), VB (decide (t44 = t45)), IsV (.slice A11 (((l0 ++ [99] : List Int).take ((l0.length : Int) : Int).toNat).length) C11), IsV (.slice A0 l0.length cp0), VI (l0.length : Int), VI (wrap64 ((l0.length : Int) + 1)), IsV (.slice A11 (((l0 ++ [99] : List Int).take (wrap64 ((l0.length : Int) + 1) : Int).toNat).length) C11), IsV (.slice A0 l0.length cp0), VI (l0.length : Int), IsA (.int .u8 (rd (l0 ++ [99] : List Int) (l0.length : Int))), IsV (.int .u8 (rd (l0 ++ [99] : List Int) (l0.length : Int))), VB (decide ((rd (l0 ++ [99] : List Int) (l0.length : Int)) = 99)), VB (decide ((rd (l0 ++ [99] : List Int) (l0.length : Int)) = 99)), VB (decide ((rd (l0 ++ [99] : List Int) (l0.length : Int)) = 99)), VB t46, VB t46, VB t46]) (by kernel_rfl) (by kernel_rfl) ?_ ?_ rfl hS ⟨hBw40_w, hBw40_w3, hBw40_w10, hBw40_w24, hBw40_w40⟩ ?_ ?_
  · exact fun x y hI hb => ⟨below_step hI.1 hb, below_step hI.2.1 hb, below_step hI.2.2.1 hb, below_step hI.2.2.2.1 hb, below_step hI.2.2.2.2 hb⟩
  · exact .v (.v (.v (.v (.v (.v (.v (.v (.v (.v (.v (.v (.v (.v (.v (.v (.v (.v (.v (.v (.v (.v (.v (.v (.v (.v (.v (.v (.v (.v (.v (.v (.cons (Stays.a _) (.v (.v (.v (.v (.v (.v (.v (.nil))))))))))))))))))))))))))))))))))))))))
  · refine .on rfl (fun a w hS hI hp => does_loadrow rfl (hS.get 6 rfl) (((hI.2.1).block g4 (blk_lt hbxg4)).trans hbxg4) Try.underlying29 rfl (by kernel_rfl) rfl) ?_
    refine .on rfl (fun a w hS hI hp => does_call (by kernel_rfl) (ar1 (hp.V 0 rfl rfl)) ((body_Check.calls k a1_0 a1_1 a1_2 a1_3 a1_4 a1_5 a1_6 a1_7 a1_8 a1_9 a1_10 a1_11 a1_12 a1_13 a1_14 a1_15 a1_16 a1_17 a1_18 a1_19 a1_20 a1_21 a1_22 t43 _  At43).mono fun _ _ h => ⟨_, h.1, h.2, rfl⟩)) ?_
    refine .ms 2 rfl rfl rfl ?_
    refine .on rfl (fun a w hS hI hp => does_val (x_bin rfl (hp.V 1 rfl rfl) (hp.V 2 rfl rfl) (b_eqb _ _ _ _ _ (by kernel_rfl))) rfl) ?_
    refine .mv 3 rfl rfl rfl rfl ?_
    refine .oy 4 37 rfl rfl rfl rfl rfl c7 (fun a w hS hI hp => does_val (x_move rfl (hS.get 3 rfl)) rfl) ?_
    refine .oy 4 37 rfl rfl rfl rfl rfl c7 (fun a w hS hI hp => does_val (x_move rfl (hS.get 2 rfl)) rfl) ?_
    refine .oy 4 37 rfl rfl rfl rfl rfl c7 (fun a w hS hI hp => does_val (x_bin rfl (hp.V 5 rfl rfl) (hp.V 6 rfl rfl) (b_eqb _ _ _ _ _ (by kernel_rfl))) rfl) ?_
    refine .pt 4 7 rfl rfl rfl rfl c7 rfl rfl ?_
    refine .mv 8 rfl rfl rfl rfl ?_
    refine .oy 9 42 rfl rfl rfl rfl rfl c8 (fun a w hS hI hp => does_val (x_move rfl (hS.get 4 rfl)) rfl) ?_
    refine .oy 9 42 rfl rfl rfl rfl rfl c8 (fun a w hS hI hp => does_val (x_conv rfl (hp.V 10 rfl rfl) (Kd.C_string (by kernel_rfl) (e := 5) (by kernel_rfl) (by kernel_rfl) (Kd.C_below hc25 hI.2.2.2.1))) rfl) ?_
    refine .oy 9 42 rfl rfl rfl rfl rfl c8 (fun a w hS hI hp => does_val (x_move rfl (hS.get 0 rfl)) rfl) ?_
    refine .oy 9 42 rfl rfl rfl rfl rfl c8 (fun a w hS hI hp => does_val (x_bin rfl (hp.V 11 rfl rfl) (hp.V 12 rfl rfl) (b_eqs _ _ _ _ _)) rfl) ?_
    refine .pt 9 13 rfl rfl rfl rfl c8 rfl rfl ?_
    refine .mv 14 rfl rfl rfl rfl ?_
    refine .oy 15 48 rfl rfl rfl rfl rfl c9 (fun a w hS hI hp => does_val (x_fieldE (b := 0) rfl (hS.get 6 rfl) Try.underlying29 rfl rfl (by kernel_rfl)) rfl) ?_
    refine .oy 15 48 rfl rfl rfl rfl rfl c9 (fun a w hS hI hp => does_val (x_load1 (d := .int .i64) rfl (hp.V 16 rfl rfl) (by kernel_rfl) rfl ((blk_cell (((hI.2.1).block g4 (blk_lt hbxg4)).trans hbxg4) 0).trans rfl)) rfl) ?_
    refine .oy 15 48 rfl rfl rfl rfl rfl c9 (fun a w hS hI hp => does_call (by kernel_rfl) (ar1 (hp.V 17 rfl rfl)) ((body_Len.calls k a1_0 t44 _  At44).mono fun _ _ h => ⟨_, h.1, h.2.below, rfl⟩)) ?_
    refine .oy 15 48 rfl rfl rfl rfl rfl c9 (fun a w hS hI hp => does_val (x_fieldE (b := 0) rfl (hS.get 6 rfl) Try.underlying29 rfl rfl (by kernel_rfl)) rfl) ?_
    refine .oy 15 48 rfl rfl rfl rfl rfl c9 (fun a w hS hI hp => does_val (x_load1 (d := .int .i64) rfl (hp.V 19 rfl rfl) (by kernel_rfl) rfl ((blk_cell (((hI.2.1).block g4 (blk_lt hbxg4)).trans hbxg4) 0).trans rfl)) rfl) ?_
    refine .oy 15 48 rfl rfl rfl rfl rfl c9 (fun a w hS hI hp => does_call (by kernel_rfl) (ar1 (hp.V 20 rfl rfl)) ((carillonref07_Len.calls k a1_0 t45 _  At45).mono fun _ _ h => ⟨_, h.1, h.2.below, rfl⟩)) ?_
    refine .oy 15 48 rfl rfl rfl rfl rfl c9 (fun a w hS hI hp => does_val (x_bin rfl (hp.V 18 rfl rfl) (hp.V 21 rfl rfl) (b_eql _ _ _ _ _ _)) rfl) ?_
    refine .pt 15 22 rfl rfl rfl rfl c9 rfl rfl ?_
    refine .mv 23 rfl rfl rfl rfl ?_
    refine .oy 24 57 rfl rfl rfl rfl rfl ((decide_eq_true c10)) (fun a w hS hI hp => does_val (x_move rfl (hS.get 5 rfl)) rfl) ?_
    refine .oy 24 57 rfl rfl rfl rfl rfl ((decide_eq_true c10)) (fun a w hS hI hp => does_val (x_move rfl (hS.get 7 rfl)) rfl) ?_
    refine .oy 24 57 rfl rfl rfl rfl rfl ((decide_eq_true c10)) (fun a w hS hI hp => does_val (x_len (e := 5) rfl (by kernel_rfl) (hp.V 26 rfl rfl)) rfl) ?_
    refine .oy 24 57 rfl rfl rfl rfl rfl ((decide_eq_true c10)) (fun a w hS hI hp => does_val (x_bin rfl (hp.V 27 rfl rfl) (rfl) (b_add _ _ _ _ _)) rfl) ?_
    refine .oy 24 57 rfl rfl rfl rfl rfl ((decide_eq_true c10)) (fun a w hS hI hp => does_val (x_cuthi rfl (e := 5) (xs := (l0 ++ [99] : List Int)) (by kernel_rfl) (by kernel_rfl) (hp.V 25 rfl rfl) (hp.V 28 rfl rfl) c11 c12 hl11) rfl) ?_
    refine .oy 24 57 rfl rfl rfl rfl rfl ((decide_eq_true c10)) (fun a w hS hI hp => does_val (x_move rfl (hS.get 7 rfl)) rfl) ?_
    refine .oy 24 57 rfl rfl rfl rfl rfl ((decide_eq_true c10)) (fun a w hS hI hp => does_val (x_len (e := 5) rfl (by kernel_rfl) (hp.V 30 rfl rfl)) rfl) ?_
    refine .oy 24 57 rfl rfl rfl rfl rfl ((decide_eq_true c10)) (fun a w hS hI hp => does_index (e := 5) (xs := (l0 ++ [99] : List Int)) rfl (hp.V 29 rfl rfl) (hp.V 31 rfl rfl) (by kernel_rfl) (by kernel_rfl) c3 c13 c14 ((Kd.C_below hc11 hI.2.2.1))) ?_
    refine .oy 24 57 rfl rfl rfl rfl rfl ((decide_eq_true c10)) (fun a w hS hI hp => (hp.V 32 rfl rfl).elim fun _ h_ => does_val (x_load1 (d := .int .u8) rfl h_.1 (by kernel_rfl) rfl h_.2.2) rfl) ?_
    refine .oy 24 57 rfl rfl rfl rfl rfl ((decide_eq_true c10)) (fun a w hS hI hp => does_val (x_bin rfl (hp.V 33 rfl rfl) (rfl) (b_eql _ _ _ _ _ _)) rfl) ?_
    refine .pt 24 34 rfl rfl rfl rfl ((decide_eq_true c10)) rfl rfl ?_
    refine .mv 35 rfl rfl rfl rfl ?_
    refine .oy 36 69 rfl rfl rfl rfl rfl ((decide_eq_true c15)) (fun a w hS hI hp => does_call (by kernel_rfl) rfl ((carillonlaw07_awake.calls k  t46 _  At46).mono fun _ _ h => ⟨_, h.1, h.2, rfl⟩)) ?_
    refine .pt 36 37 rfl rfl rfl rfl ((decide_eq_true c15)) rfl rfl ?_
    refine .asg 38 rfl rfl rfl rfl ?_
    exact .nil
  clear hS
  intro at47 w48 hS hI hp
  have hBw48_w := hI.1
  have hBw48_w3 := hI.2.1
  have hBw48_w10 := hI.2.2.1
  have hBw48_w24 := hI.2.2.2.1
  have hBw48_w40 := hI.2.2.2.2
  replace hS := hS.nil
  have hv4 : sl _ 4 = .bool t46 := hp 39 (by decide)
  have hBw48_w48 := Below.refl w48.heap.size w48
  have hS := hS.cons hv4
  clear hp hI hv4
  refine hK42 _ _ ?_
  (try clear hK42 K42)
  refine wp_ret ?_
  (try simp only [Exit.then, Exit.inBlock, Exit.jump, Exit.noGoto])
  exact bodyPost_ret (v := .bool true) (by rw [results_tmp rfl]; exact congrArg (Result.ok · _) ((hS.get 0 rfl).trans (congrArg Value.bool hret))) hS.nodef ⟨rfl, hBw48_w⟩
def carillonlaw07_BodyPuts.Pure : Prop := ∀ (l0 : List Int) (a1_0 a1_1 a1_2 a1_3 a1_4 a1_5 a1_6 a1_7 a1_8 a1_9 a1_10 a1_11 a1_12 a1_13 a1_14 a1_15 a1_16 a1_17 a1_18 a1_19 a1_20 a1_21 a1_22 : Int), l0.length ≤ maxLen → l0.length * 1 ≤ 140737488351232 → (∀ x ∈ l0, (Lit.int .u8 x).wf = true) → (Lit.int .i64 a1_0).wf = true → (Lit.int .i64 a1_1).wf = true → (Lit.int .i64 a1_2).wf = true → (Lit.int .i64 a1_3).wf = true → (Lit.int .u64 a1_4).wf = true → (Lit.int .i64 a1_5).wf = true → (Lit.int .i64 a1_6).wf = true → (Lit.int .i64 a1_7).wf = true → (Lit.int .i64 a1_8).wf = true → (Lit.int .u64 a1_9).wf = true → (Lit.int .i64 a1_10).wf = true → (Lit.int .i64 a1_11).wf = true → (Lit.int .i64 a1_12).wf = true → (Lit.int .i64 a1_13).wf = true → (Lit.int .i64 a1_14).wf = true → (Lit.int .i64 a1_15).wf = true → (Lit.int .i64 a1_16).wf = true → (Lit.int .u64 a1_17).wf = true → (Lit.int .i64 a1_18).wf = true → (Lit.int .i64 a1_19).wf = true → (Lit.int .i64 a1_20).wf = true → (Lit.int .i64 a1_21).wf = true → (Lit.int .i64 a1_22).wf = true → ∃ k, carillonlaw07_BodyPuts.f k l0 a1_0 a1_1 a1_2 a1_3 a1_4 a1_5 a1_6 a1_7 a1_8 a1_9 a1_10 a1_11 a1_12 a1_13 a1_14 a1_15 a1_16 a1_17 a1_18 a1_19 a1_20 a1_21 a1_22 = some true
theorem carillonlaw07_BodyPuts.walk (P : carillonlaw07_BodyPuts.Pure) (a0 : Option Addr) (len0 cap0 : Nat) (z0 : List Int) (a1_0 a1_1 a1_2 a1_3 a1_4 a1_5 a1_6 a1_7 a1_8 a1_9 a1_10 a1_11 a1_12 a1_13 a1_14 a1_15 a1_16 a1_17 a1_18 a1_19 a1_20 a1_21 a1_22 : Int) (w : World) (w0 : (a0 = none ∧ len0 = 0 ∧ cap0 = 0 ∧ z0 = []) ∨ ∃ x, a0 = some x ∧ len0 ≤ cap0 ∧ cap0 ≤ maxLen ∧ z0.length = cap0 ∧ (∀ i, i < z0.length → w.cell? (x.add i) = some (.int .u8 (z0.getD i 0))) ∧ ∀ n ∈ z0, (Lit.int .u8 n).wf = true) (y0 : len0 * 1 ≤ 140737488351232) (w1_0 : (Lit.int .i64 a1_0).wf = true) (w1_1 : (Lit.int .i64 a1_1).wf = true) (w1_2 : (Lit.int .i64 a1_2).wf = true) (w1_3 : (Lit.int .i64 a1_3).wf = true) (w1_4 : (Lit.int .u64 a1_4).wf = true) (w1_5 : (Lit.int .i64 a1_5).wf = true) (w1_6 : (Lit.int .i64 a1_6).wf = true) (w1_7 : (Lit.int .i64 a1_7).wf = true) (w1_8 : (Lit.int .i64 a1_8).wf = true) (w1_9 : (Lit.int .u64 a1_9).wf = true) (w1_10 : (Lit.int .i64 a1_10).wf = true) (w1_11 : (Lit.int .i64 a1_11).wf = true) (w1_12 : (Lit.int .i64 a1_12).wf = true) (w1_13 : (Lit.int .i64 a1_13).wf = true) (w1_14 : (Lit.int .i64 a1_14).wf = true) (w1_15 : (Lit.int .i64 a1_15).wf = true) (w1_16 : (Lit.int .i64 a1_16).wf = true) (w1_17 : (Lit.int .u64 a1_17).wf = true) (w1_18 : (Lit.int .i64 a1_18).wf = true) (w1_19 : (Lit.int .i64 a1_19).wf = true) (w1_20 : (Lit.int .i64 a1_20).wf = true) (w1_21 : (Lit.int .i64 a1_21).wf = true) (w1_22 : (Lit.int .i64 a1_22).wf = true) :
    Calls Try.prog 3 #[.slice a0 len0 cap0, (carillonlaw07_BodyPuts.v0 a1_0 a1_1 a1_2 a1_3 a1_4 a1_5 a1_6 a1_7 a1_8 a1_9 a1_10 a1_11 a1_12 a1_13 a1_14 a1_15 a1_16 a1_17 a1_18 a1_19 a1_20 a1_21 a1_22)] w fun e w' => e = .returned (.bool true) ∧ Below w.heap.size w w' := by
  obtain ⟨l0, rfl, hr0, hm0, hw0, hc0⟩ := ReadsInt.ofRowC w0
  obtain ⟨k, h⟩ := P l0 a1_0 a1_1 a1_2 a1_3 a1_4 a1_5 a1_6 a1_7 a1_8 a1_9 a1_10 a1_11 a1_12 a1_13 a1_14 a1_15 a1_16 a1_17 a1_18 a1_19 a1_20 a1_21 a1_22 hm0 y0 hw0 w1_0 w1_1 w1_2 w1_3 w1_4 w1_5 w1_6 w1_7 w1_8 w1_9 w1_10 w1_11 w1_12 w1_13 w1_14 w1_15 w1_16 w1_17 w1_18 w1_19 w1_20 w1_21 w1_22
  refine (carillonlaw07_BodyPuts.calls k _ _ l0 a1_0 a1_1 a1_2 a1_3 a1_4 a1_5 a1_6 a1_7 a1_8 a1_9 a1_10 a1_11 a1_12 a1_13 a1_14 a1_15 a1_16 a1_17 a1_18 a1_19 a1_20 a1_21 a1_22 w (Kd.C_of_reads (d := (0 : Int)) (h1 := fun _ => rfl) hr0) hc0 h).mono ?_
  rintro e w' ⟨rfl, hd⟩
  exact ⟨rfl, hd⟩
end Go.Proofs.Ytpoocfapmgmfkaa.P
