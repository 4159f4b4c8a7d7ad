/- Functions and loops of the given program as Lean functions, and that the code comes to what they say: written by this session's own program; Lean checks it. -/
import Derived.Test.YtpoocfapmgmfkaaZzPx0
import Derived.Test.YtpoocfapmgmfkaaZzPx5
namespace Go.Proofs.Ytpoocfapmgmfkaa.P
open Go.RowKit Go.Proofs.YtpoocfapmgmfkaaW.PrintWords Go.Proofs.YtpoocfapmgmfkaaW.PrintLast Go.Proofs.YtpoocfapmgmfkaaW.PrintMore
attribute [local go_sem] max2_int min2_int max_two min_two max_three min_three max_four min_four   -- for this text's walks alone
set_option linter.unusedVariables false
set_option linter.unusedSimpArgs false
/-! ### body_Len: function 12 -/
mutual
def body_Len.j0 : Nat → Int → Bool → Option (Int)
  | 0, _, _ => none
  | k + 1, x3, x4 => if x4 = true then (some 10) else (if x3 = 2 then (body_Len.j1 k x3 (x3 == 2)) else (if x3 = 3 then (body_Len.j1 k x3 (x3 == 3)) else (if x3 = 10 then (body_Len.j1 k x3 (x3 == 10)) else (body_Len.j1 k x3 (x3 == 9)))))
def body_Len.j1 : Nat → Int → Bool → Option (Int)
  | 0, _, _ => none
  | k + 1, x3, x9 => if x9 = true then (some 20) else (if x3 = 11 then (some 30) else (if x3 = 13 then (some 14) else (some 0)))
end
def body_Len.f (k : Nat) (a0 : Int) : Option (Int) := if a0 = 0 then (body_Len.j0 k a0 (a0 == 0)) else (if a0 = 1 then (body_Len.j0 k a0 (a0 == 1)) else (if a0 = 8 then (body_Len.j0 k a0 (a0 == 8)) else (body_Len.j0 k a0 (a0 == 12))))
set_option maxHeartbeats 8000000 in
set_option maxRecDepth 100000 in
theorem body_Len.calls (k : Nat) (a0 : Int) (r : Int) (w : World) (h : body_Len.f k a0 = some r) :
    Calls Try.prog 12 #[.int .i64 a0] w fun e w' => e = .returned (.int .i64 r) ∧ Drawn0 w w' := by
  have H : (if a0 = 0 then (body_Len.j0 k a0 (a0 == 0)) else (if a0 = 1 then (body_Len.j0 k a0 (a0 == 1)) else (if a0 = 8 then (body_Len.j0 k a0 (a0 == 8)) else (body_Len.j0 k a0 (a0 == 12))))) = some r := h
  clear h
  have HC2 := Aside0.mk H
  clear H
  go_enter Try.func12, Try.ntmps12
  go_upto_if 4 with (fail)
  go_cut [4] (fun v4 wc => ∃ (kq : Nat) (x4_1 : Bool), v4 = .bool x4_1 ∧ Aside0 (body_Len.j0 kq a0 x4_1 = some r) ∧ Aside0 (kq ≤ k) ∧ Drawn0 w wc)
  case first =>
    have H := HC2.out
    clear HC2
    by_cases c3 : a0 = 0
    · rw [if_pos c3] at H
      have c3b0 : (a0 == 0) = true := beq_iff_eq.mpr c3
      have c3b1 : (a0 != 0) = false := bne_eq_false_iff_eq.mpr c3
      clear c3
      (first | rw [c3b0] | (simp only [i64_w, i32_w]; rw [c3b0]) | skip)
      have H' := Aside0.mk H
      clear H
      go_wp2
      go_meet
      case rel => exact ⟨_, ((a0 == 0)), (by first | rfl | (simp; done) | (simp [*]; done)), H', ⟨by first | omega | exact Nat.le_refl _⟩, by repeat (first | exact Drawn0.refl _ | apply Drawn0.step)⟩
    · rw [if_neg c3] at H
      have c3b0 : (a0 == 0) = false := beq_eq_false_iff_ne.mpr c3
      have c3b1 : (a0 != 0) = true := bne_iff_ne.mpr c3
      (first | rw [c3b0] | (simp only [i64_w, i32_w]; rw [c3b0]) | skip)
      by_cases c4 : a0 = 1
      · rw [if_pos c4] at H
        have c4b0 : (a0 == 1) = true := beq_iff_eq.mpr c4
        have c4b1 : (a0 != 1) = false := bne_eq_false_iff_eq.mpr c4
        clear c4
        have H' := Aside0.mk H
        clear H
        go_wp2
        go_meet
        case rel => exact ⟨_, ((a0 == 1)), (by first | rfl | (simp; done) | (simp [*]; done)), H', ⟨by first | omega | exact Nat.le_refl _⟩, by repeat (first | exact Drawn0.refl _ | apply Drawn0.step)⟩
      · rw [if_neg c4] at H
        have c4b0 : (a0 == 1) = false := beq_eq_false_iff_ne.mpr c4
        have c4b1 : (a0 != 1) = true := bne_iff_ne.mpr c4
        by_cases c5 : a0 = 8
        · rw [if_pos c5] at H
          have c5b0 : (a0 == 8) = true := beq_iff_eq.mpr c5
          have c5b1 : (a0 != 8) = false := bne_eq_false_iff_eq.mpr c5
          clear c5
          have H' := Aside0.mk H
          clear H
          go_wp2
          go_meet
          case rel => exact ⟨_, ((a0 == 8)), (by first | rfl | (simp; done) | (simp [*]; done)), H', ⟨by first | omega | exact Nat.le_refl _⟩, by repeat (first | exact Drawn0.refl _ | apply Drawn0.step)⟩
        · rw [if_neg c5] at H
          have c5b0 : (a0 == 8) = false := beq_eq_false_iff_ne.mpr c5
          have c5b1 : (a0 != 8) = true := bne_iff_ne.mpr c5
          have H' := Aside0.mk H
          clear H
          go_wp2
          go_meet
          case rel => exact ⟨_, ((a0 == 12)), (by first | rfl | (simp; done) | (simp [*]; done)), H', ⟨by first | omega | exact Nat.le_refl _⟩, by repeat (first | exact Drawn0.refl _ | apply Drawn0.step)⟩
  case rest =>
    clear HC2
    try clear c1
    try clear p2
    try clear c3
    try clear c3b0
    try clear c3b1
    try clear c4
    try clear c4b0
    try clear c4b1
    try clear c5
    try clear c5b0
    try clear c5b1
    obtain ⟨kq, x4_1, rfl, HA, HJ1, ⟨mc1, rfl⟩⟩ := hcut
    cases kq with
    | zero => exact absurd HA.out (by simp [body_Len.j0])
    | succ kj1 =>
      have H := HA.out
      clear HA
      simp only [body_Len.j0] at H
      by_cases c6 : x4_1 = true
      · subst c6
        have H1 : (some 10) = some r := by rw [if_pos rfl] at H; exact H
        clear H
        have H := H1
        clear H1
        obtain rfl := Option.some.inj H
        go_wp2
        all_goals
          go_ret
          exact ⟨by first | rfl | (simp; done) | (simp [*]; done), by repeat (first | exact Drawn0.refl _ | apply Drawn0.step)⟩
      · replace c6 := Bool.eq_false_iff.mpr c6
        subst c6
        have H1 : (if a0 = 2 then (body_Len.j1 kj1 a0 (a0 == 2)) else (if a0 = 3 then (body_Len.j1 kj1 a0 (a0 == 3)) else (if a0 = 10 then (body_Len.j1 kj1 a0 (a0 == 10)) else (body_Len.j1 kj1 a0 (a0 == 9))))) = some r := by rw [if_neg (show ¬ (false = true) by decide)] at H; exact H
        clear H
        have H := H1
        clear H1
        have HC7 := Aside0.mk H
        clear H
        go_upto_if 9 with (fail)
        go_cut [9] (fun v9 wc => ∃ (kq : Nat) (x9_6 : Bool), v9 = .bool x9_6 ∧ Aside0 (body_Len.j1 kq a0 x9_6 = some r) ∧ Aside0 (kq ≤ kj1) ∧ Drawn0 w wc)
        case first =>
          have H := HC7.out
          clear HC7
          by_cases c8 : a0 = 2
          · rw [if_pos c8] at H
            have c8b0 : (a0 == 2) = true := beq_iff_eq.mpr c8
            have c8b1 : (a0 != 2) = false := bne_eq_false_iff_eq.mpr c8
            clear c8
            (first | rw [c8b0] | (simp only [i64_w, i32_w]; rw [c8b0]) | skip)
            have H' := Aside0.mk H
            clear H
            go_wp2
            go_meet
            case rel => exact ⟨_, ((a0 == 2)), (by first | rfl | (simp; done) | (simp [*]; done)), H', ⟨by have := HJ1.out; first | omega | exact Nat.le_refl _⟩, by repeat (first | exact Drawn0.refl _ | apply Drawn0.step)⟩
          · rw [if_neg c8] at H
            have c8b0 : (a0 == 2) = false := beq_eq_false_iff_ne.mpr c8
            have c8b1 : (a0 != 2) = true := bne_iff_ne.mpr c8
            (first | rw [c8b0] | (simp only [i64_w, i32_w]; rw [c8b0]) | skip)
            by_cases c9 : a0 = 3
            · rw [if_pos c9] at H
              have c9b0 : (a0 == 3) = true := beq_iff_eq.mpr c9
              have c9b1 : (a0 != 3) = false := bne_eq_false_iff_eq.mpr c9
              clear c9
              have H' := Aside0.mk H
              clear H
              go_wp2
              go_meet
              case rel => exact ⟨_, ((a0 == 3)), (by first | rfl | (simp; done) | (simp [*]; done)), H', ⟨by have := HJ1.out; first | omega | exact Nat.le_refl _⟩, by repeat (first | exact Drawn0.refl _ | apply Drawn0.step)⟩
            · rw [if_neg c9] at H
              have c9b0 : (a0 == 3) = false := beq_eq_false_iff_ne.mpr c9
              have c9b1 : (a0 != 3) = true := bne_iff_ne.mpr c9
              by_cases c10 : a0 = 10
              · rw [if_pos c10] at H
                have c10b0 : (a0 == 10) = true := beq_iff_eq.mpr c10
                have c10b1 : (a0 != 10) = false := bne_eq_false_iff_eq.mpr c10
                clear c10
                have H' := Aside0.mk H
                clear H
                go_wp2
                go_meet
                case rel => exact ⟨_, ((a0 == 10)), (by first | rfl | (simp; done) | (simp [*]; done)), H', ⟨by have := HJ1.out; first | omega | exact Nat.le_refl _⟩, by repeat (first | exact Drawn0.refl _ | apply Drawn0.step)⟩
              · rw [if_neg c10] at H
                have c10b0 : (a0 == 10) = false := beq_eq_false_iff_ne.mpr c10
                have c10b1 : (a0 != 10) = true := bne_iff_ne.mpr c10
                have H' := Aside0.mk H
                clear H
                go_wp2
                go_meet
                case rel => exact ⟨_, ((a0 == 9)), (by first | rfl | (simp; done) | (simp [*]; done)), H', ⟨by have := HJ1.out; first | omega | exact Nat.le_refl _⟩, by repeat (first | exact Drawn0.refl _ | apply Drawn0.step)⟩
        case rest =>
          clear HC7
          try clear c1
          try clear p2
          try clear c3
          try clear c3b0
          try clear c3b1
          try clear c4
          try clear c4b0
          try clear c4b1
          try clear c5
          try clear c5b0
          try clear c5b1
          try clear c6
          try clear c8
          try clear c8b0
          try clear c8b1
          try clear c9
          try clear c9b0
          try clear c9b1
          try clear c10
          try clear c10b0
          try clear c10b1
          try clear p2
          obtain ⟨kq, x9_6, rfl, HA, HJ6, ⟨mc6, rfl⟩⟩ := hcut
          cases kq with
          | zero => exact absurd HA.out (by simp [body_Len.j1])
          | succ kj6 =>
            have H := HA.out
            clear HA
            simp only [body_Len.j1] at H
            by_cases c11 : x9_6 = true
            · subst c11
              have H1 : (some 20) = some r := by rw [if_pos rfl] at H; exact H
              clear H
              have H := H1
              clear H1
              obtain rfl := Option.some.inj H
              go_wp2
              all_goals
                go_ret
                exact ⟨by first | rfl | (simp; done) | (simp [*]; done), by repeat (first | exact Drawn0.refl _ | apply Drawn0.step)⟩
            · replace c11 := Bool.eq_false_iff.mpr c11
              subst c11
              have H1 : (if a0 = 11 then (some 30) else (if a0 = 13 then (some 14) else (some 0))) = some r := by rw [if_neg (show ¬ (false = true) by decide)] at H; exact H
              clear H
              have H := H1
              clear H1
              by_cases c12 : a0 = 11
              · rw [if_pos c12] at H
                have c12b0 : (a0 == 11) = true := beq_iff_eq.mpr c12
                have c12b1 : (a0 != 11) = false := bne_eq_false_iff_eq.mpr c12
                clear c12
                obtain rfl := Option.some.inj H
                go_wp2
                all_goals
                  go_ret
                  exact ⟨by first | rfl | (simp; done) | (simp [*]; done), by repeat (first | exact Drawn0.refl _ | apply Drawn0.step)⟩
              · rw [if_neg c12] at H
                have c12b0 : (a0 == 11) = false := beq_eq_false_iff_ne.mpr c12
                have c12b1 : (a0 != 11) = true := bne_iff_ne.mpr c12
                by_cases c13 : a0 = 13
                · rw [if_pos c13] at H
                  have c13b0 : (a0 == 13) = true := beq_iff_eq.mpr c13
                  have c13b1 : (a0 != 13) = false := bne_eq_false_iff_eq.mpr c13
                  clear c13
                  obtain rfl := Option.some.inj H
                  go_wp2
                  all_goals
                    go_ret
                    exact ⟨by first | rfl | (simp; done) | (simp [*]; done), by repeat (first | exact Drawn0.refl _ | apply Drawn0.step)⟩
                · rw [if_neg c13] at H
                  have c13b0 : (a0 == 13) = false := beq_eq_false_iff_ne.mpr c13
                  have c13b1 : (a0 != 13) = true := bne_iff_ne.mpr c13
                  obtain rfl := Option.some.inj H
                  go_wp2
                  all_goals
                    go_ret
                    exact ⟨by first | rfl | (simp; done) | (simp [*]; done), by repeat (first | exact Drawn0.refl _ | apply Drawn0.step)⟩
/-! ### carillonlaw07_awake: function 14: by our own printer -/
def carillonlaw07_awake.f (k : Nat)  : Option (Bool) := (body_Put.f k [] 11 0 0 0 0 0 0 0 0 0 0 0 0 0 0 0 0 0 0 0 0 0 0).bind fun t5 => (if t5.2 = true then (if (t5.1.length : Int) = 30 then ((body_Len.f k 13).bind fun t10 => (if t10 = 14 then ((body_Len.f k 4).bind fun t11 => (some (decide (t11 = 0)))) else (some false))) else (some false)) else (some false))
abbrev carillonlaw07_awake.v0 (x0 x1 x2 x3 x4 x5 x6 x7 x8 x9 x10 x11 x12 x13 x14 x15 x16 x17 x18 x19 x20 x21 x22 : Int) : Value := .agg #[.int .i64 x0, .int .i64 x1, .int .i64 x2, .int .i64 x3, .int .u64 x4, .int .i64 x5, .int .i64 x6, .int .i64 x7, .int .i64 x8, .int .u64 x9, .int .i64 x10, .int .i64 x11, .int .i64 x12, .int .i64 x13, .int .i64 x14, .int .i64 x15, .int .i64 x16, .int .u64 x17, .int .i64 x18, .int .i64 x19, .int .i64 x20, .int .i64 x21, .int .i64 x22]
open Go.Proofs.Ytpoocfapmgmfkaa.E in
set_option maxHeartbeats 60000000 in
set_option maxRecDepth 100000 in
theorem carillonlaw07_awake.calls (k : Nat) (r : Bool) (w : World) (h : carillonlaw07_awake.f k  = some r) :
    Calls Try.prog 14 #[] w fun e w' => e = .returned (.bool r) ∧ Below w.heap.size w w' := by
  have H := h
  clear h
  unfold carillonlaw07_awake.f at H
  obtain ⟨t5, At5, H⟩ := Option.bind_eq_some_iff.mp H
  obtain ⟨t5_1, t5_2⟩ := t5
  (try dsimp only at H)
  by_cases c1 : t5_2 = true
  rotate_left
  · rw [if_neg c1] at H
    obtain rfl := Option.some.inj H
    refine calls_of_wp (fn := Try.f14) (by kernel_rfl) rfl ?_
    have hS := St.enter #[] 22 (by simp) [] (by simp)
    have HB0 := Below.refl w.heap.size w
    refine wp_seq_k (fun K1 hK1 => ?_)
    refine reg_seq (N := 22) (bs := []) (I := fun x => Below w.heap.size w x) (ps := [VB false]) (by kernel_rfl) ?_ ?_ rfl hS HB0 ?_ ?_
    · exact fun x y hI hb => below_step hI hb
    · exact .v (.nil)
    · refine .on rfl (fun a w hS hI hp => does_val (x_assign rfl (rfl)) rfl) ?_
      exact .nil
    clear hS
    intro at2 w3 hS hI hp
    have hBw3_w := hI
    have hBw3_w3 := Below.refl w3.heap.size w3
    clear hp hI
    refine hK1 _ _ ?_
    (try clear hK1 K1)
    refine wp_seq_k (fun K4 hK4 => ?_)
    refine reg_seq (N := 22) (bs := []) (I := fun x => Below w.heap.size w x ∧ Below w3.heap.size w3 x) (ps := [IsV ((carillonlaw07_awake.v0 11 0 0 0 0 0 0 0 0 0 0 0 0 0 0 0 0 0 0 0 0 0 0)), IsT (fun v0_ => #[v0_, .bool t5_2]) (IsC (Kd.int .u8) t5_1), IsT (fun v0_ => #[v0_, .bool t5_2]) (IsC (Kd.int .u8) t5_1), IsC (Kd.int .u8) t5_1, VB t5_2, IsC (Kd.int .u8) t5_1, VB t5_2]) (by kernel_rfl) ?_ ?_ rfl hS ⟨hBw3_w, hBw3_w3⟩ ?_ ?_
    · exact fun x y hI hb => ⟨below_step hI.1 hb, below_step hI.2 hb⟩
    · exact .v (.cons (Stays.t _ (Stays.c _ _)) (.cons (Stays.t _ (Stays.c _ _)) (.cons (Stays.c _ _) (.v (.cons (Stays.c _ _) (.v (.nil)))))))
    · refine .on rfl (fun a w hS hI hp => does_val (x_build (vs := [(0, .int .i64 11)]) rfl (by rw [Array.toList_map]; exact (show [(0, a.eval (.const (.int .i64 11)))] = _ from (li_cons (rfl) rfl))) (by kernel_rfl)) rfl) ?_
      refine .on rfl (fun a w hS hI hp => does_call (by kernel_rfl) (ar2 (rfl) (hp.V 0 rfl rfl)) ((body_Put.calls k _ _ [] 11 0 0 0 0 0 0 0 0 0 0 0 0 0 0 0 0 0 0 0 0 0 0 t5_1 t5_2 _ (Kd.C_nil _ _) (Nat.le_refl _) At5).mono fun _ _ h => h.elim fun v0 h => ⟨_, h.1, h.2.2, v0, rfl, h.2.1⟩)) ?_
      refine .on rfl (fun a w hS hI hp => does_val (x_move rfl rfl) (hp.V 1 rfl rfl)) ?_
      refine .on rfl (fun a w hS hI hp => (hp.V 2 rfl rfl).elim fun v0 h0 => does_val (x_extract rfl h0.1 rfl) h0.2) ?_
      refine .on rfl (fun a w hS hI hp => (hp.V 2 rfl rfl).elim fun v0 h0 => does_val (x_extract rfl h0.1 rfl) rfl) ?_
      refine .on rfl (fun a w hS hI hp => does_val (x_assign rfl rfl) (hp.V 3 rfl rfl)) ?_
      refine .asg 4 rfl rfl rfl rfl ?_
      exact .nil
    clear hS
    intro at6 w7 hS hI hp
    have hBw7_w := hI.1
    have hBw7_w3 := hI.2
    obtain ⟨A8, C8, hv1, hl8, hc8⟩ := (show IsC (Kd.int .u8) t5_1 (sl _ 1) w7 from hp 5 (by decide))
    have hv2 : sl _ 2 = .bool t5_2 := hp 6 (by decide)
    have hBw7_w7 := Below.refl w7.heap.size w7
    have hS := hS.cons hv1
    have hS := hS.cons hv2
    clear hp hI hv1 hv2
    refine hK4 _ _ ?_
    (try clear hK4 K4)
    refine wp_seq_k (fun K9 hK9 => ?_)
    refine reg_seq (N := 22) (bs := [(2, .bool t5_2), (1, .slice A8 t5_1.length C8)]) (I := fun x => Below w.heap.size w x ∧ Below w7.heap.size w7 x) (ps := [VB t5_2, VB t5_2, VU, VU, VU, VB false, VB false, VU, VU, VB false, VB false, VU, VU, VB false, VB false]) (by kernel_rfl) ?_ ?_ rfl hS ⟨hBw7_w, hBw7_w7⟩ ?_ ?_
    · exact fun x y hI hb => ⟨below_step hI.1 hb, below_step hI.2 hb⟩
    · exact .v (.v (.v (.v (.v (.v (.v (.v (.v (.v (.v (.v (.v (.v (.v (.nil)))))))))))))))
    · refine .ms 0 rfl rfl rfl ?_
      refine .mv 0 rfl rfl rfl rfl ?_
      iterate 3 refine .sn 1 9 rfl rfl rfl rfl rfl ((Bool.eq_false_iff.2 c1)) ?_
      refine .pf 1 rfl rfl rfl rfl ((Bool.eq_false_iff.2 c1)) (fun _ => rfl) ?_
      refine .mv 5 rfl rfl rfl rfl ?_
      iterate 2 refine .sn 6 14 rfl rfl rfl rfl rfl rfl ?_
      refine .pf 6 rfl rfl rfl rfl rfl (fun _ => rfl) ?_
      refine .mv 9 rfl rfl rfl rfl ?_
      iterate 2 refine .sn 10 18 rfl rfl rfl rfl rfl rfl ?_
      refine .pf 10 rfl rfl rfl rfl rfl (fun _ => rfl) ?_
      refine .asg 13 rfl rfl rfl rfl ?_
      exact .nil
    clear hS
    intro at10 w11 hS hI hp
    have hBw11_w := hI.1
    have hBw11_w7 := hI.2
    replace hS := hS.nil
    have hv0 : sl _ 0 = .bool false := hp 14 (by decide)
    have hBw11_w11 := Below.refl w11.heap.size w11
    have hS := hS.cons hv0
    clear hp hI hv0
    refine hK9 _ _ ?_
    (try clear hK9 K9)
    refine wp_ret ?_
    (try simp only [Exit.then, Exit.inBlock, Exit.jump, Exit.noGoto])
    exact bodyPost_ret (v := .bool false) (results_single rfl (Vals.at (hS.get 0 rfl) .nil)) hS.nodef ⟨rfl, hBw11_w⟩
  rw [if_pos c1] at H
  by_cases c2 : (t5_1.length : Int) = 30
  rotate_left
  · rw [if_neg c2] at H
    obtain rfl := Option.some.inj H
    refine calls_of_wp (fn := Try.f14) (by kernel_rfl) rfl ?_
    have hS := St.enter #[] 22 (by simp) [] (by simp)
    have HB0 := Below.refl w.heap.size w
    refine wp_seq_k (fun K1 hK1 => ?_)
    refine reg_seq (N := 22) (bs := []) (I := fun x => Below w.heap.size w x) (ps := [VB false]) (by kernel_rfl) ?_ ?_ rfl hS HB0 ?_ ?_
    · exact fun x y hI hb => below_step hI hb
    · exact .v (.nil)
    · refine .on rfl (fun a w hS hI hp => does_val (x_assign rfl (rfl)) rfl) ?_
      exact .nil
    clear hS
    intro at2 w3 hS hI hp
    have hBw3_w := hI
    have hBw3_w3 := Below.refl w3.heap.size w3
    clear hp hI
    refine hK1 _ _ ?_
    (try clear hK1 K1)
    refine wp_seq_k (fun K4 hK4 => ?_)
    refine reg_seq (N := 22) (bs := []) (I := fun x => Below w.heap.size w x ∧ Below w3.heap.size w3 x) (ps := [IsV ((carillonlaw07_awake.v0 11 0 0 0 0 0 0 0 0 0 0 0 0 0 0 0 0 0 0 0 0 0 0)), IsT (fun v0_ => #[v0_, .bool t5_2]) (IsC (Kd.int .u8) t5_1), IsT (fun v0_ => #[v0_, .bool t5_2]) (IsC (Kd.int .u8) t5_1), IsC (Kd.int .u8) t5_1, VB t5_2, IsC (Kd.int .u8) t5_1, VB t5_2]) (by kernel_rfl) ?_ ?_ rfl hS ⟨hBw3_w, hBw3_w3⟩ ?_ ?_
    · exact fun x y hI hb => ⟨below_step hI.1 hb, below_step hI.2 hb⟩
    · exact .v (.cons (Stays.t _ (Stays.c _ _)) (.cons (Stays.t _ (Stays.c _ _)) (.cons (Stays.c _ _) (.v (.cons (Stays.c _ _) (.v (.nil)))))))
    · refine .on rfl (fun a w hS hI hp => does_val (x_build (vs := [(0, .int .i64 11)]) rfl (by rw [Array.toList_map]; exact (show [(0, a.eval (.const (.int .i64 11)))] = _ from (li_cons (rfl) rfl))) (by kernel_rfl)) rfl) ?_
      refine .on rfl (fun a w hS hI hp => does_call (by kernel_rfl) (ar2 (rfl) (hp.V 0 rfl rfl)) ((body_Put.calls k _ _ [] 11 0 0 0 0 0 0 0 0 0 0 0 0 0 0 0 0 0 0 0 0 0 0 t5_1 t5_2 _ (Kd.C_nil _ _) (Nat.le_refl _) At5).mono fun _ _ h => h.elim fun v0 h => ⟨_, h.1, h.2.2, v0, rfl, h.2.1⟩)) ?_
      refine .on rfl (fun a w hS hI hp => does_val (x_move rfl rfl) (hp.V 1 rfl rfl)) ?_
      refine .on rfl (fun a w hS hI hp => (hp.V 2 rfl rfl).elim fun v0 h0 => does_val (x_extract rfl h0.1 rfl) h0.2) ?_
      refine .on rfl (fun a w hS hI hp => (hp.V 2 rfl rfl).elim fun v0 h0 => does_val (x_extract rfl h0.1 rfl) rfl) ?_
      refine .on rfl (fun a w hS hI hp => does_val (x_assign rfl rfl) (hp.V 3 rfl rfl)) ?_
      refine .asg 4 rfl rfl rfl rfl ?_
      exact .nil
    clear hS
    intro at6 w7 hS hI hp
    have hBw7_w := hI.1
    have hBw7_w3 := hI.2
    obtain ⟨A8, C8, hv1, hl8, hc8⟩ := (show IsC (Kd.int .u8) t5_1 (sl _ 1) w7 from hp 5 (by decide))
    have hv2 : sl _ 2 = .bool t5_2 := hp 6 (by decide)
    have hBw7_w7 := Below.refl w7.heap.size w7
    have hS := hS.cons hv1
    have hS := hS.cons hv2
    clear hp hI hv1 hv2
    refine hK4 _ _ ?_
    (try clear hK4 K4)
    refine wp_seq_k (fun K9 hK9 => ?_)
    refine reg_seq (N := 22) (bs := [(2, .bool t5_2), (1, .slice A8 t5_1.length C8)]) (I := fun x => Below w.heap.size w x ∧ Below w7.heap.size w7 x) (ps := [VB t5_2, VB t5_2, IsV (.slice A8 t5_1.length C8), VI (t5_1.length : Int), VB (decide ((t5_1.length : Int) = 30)), VB (decide ((t5_1.length : Int) = 30)), VB (decide ((t5_1.length : Int) = 30)), VU, VU, VB false, VB false, VU, VU, VB false, VB false]) (by kernel_rfl) ?_ ?_ rfl hS ⟨hBw7_w, hBw7_w7⟩ ?_ ?_
    · exact fun x y hI hb => ⟨below_step hI.1 hb, below_step hI.2 hb⟩
    · exact .v (.v (.v (.v (.v (.v (.v (.v (.v (.v (.v (.v (.v (.v (.v (.nil)))))))))))))))
    · refine .ms 0 rfl rfl rfl ?_
      refine .mv 0 rfl rfl rfl rfl ?_
      refine .oy 1 9 rfl rfl rfl rfl rfl c1 (fun a w hS hI hp => does_val (x_move rfl (hS.get 1 rfl)) rfl) ?_
      refine .oy 1 9 rfl rfl rfl rfl rfl c1 (fun a w hS hI hp => does_val (x_len (e := 5) rfl (by kernel_rfl) (hp.V 2 rfl rfl)) rfl) ?_
      refine .oy 1 9 rfl rfl rfl rfl rfl c1 (fun a w hS hI hp => does_val (x_bin rfl (hp.V 3 rfl rfl) (rfl) (b_eql _ _ _ _ _ _)) rfl) ?_
      refine .pt 1 4 rfl rfl rfl rfl c1 rfl rfl ?_
      refine .mv 5 rfl rfl rfl rfl ?_
      iterate 2 refine .sn 6 14 rfl rfl rfl rfl rfl ((decide_eq_false c2)) ?_
      refine .pf 6 rfl rfl rfl rfl ((decide_eq_false c2)) (fun _ => rfl) ?_
      refine .mv 9 rfl rfl rfl rfl ?_
      iterate 2 refine .sn 10 18 rfl rfl rfl rfl rfl rfl ?_
      refine .pf 10 rfl rfl rfl rfl rfl (fun _ => rfl) ?_
      refine .asg 13 rfl rfl rfl rfl ?_
      exact .nil
    clear hS
    intro at10 w11 hS hI hp
    have hBw11_w := hI.1
    have hBw11_w7 := hI.2
    replace hS := hS.nil
    have hv0 : sl _ 0 = .bool false := hp 14 (by decide)
    have hBw11_w11 := Below.refl w11.heap.size w11
    have hS := hS.cons hv0
    clear hp hI hv0
    refine hK9 _ _ ?_
    (try clear hK9 K9)
    refine wp_ret ?_
    (try simp only [Exit.then, Exit.inBlock, Exit.jump, Exit.noGoto])
    exact bodyPost_ret (v := .bool false) (results_single rfl (Vals.at (hS.get 0 rfl) .nil)) hS.nodef ⟨rfl, hBw11_w⟩
  rw [if_pos c2] at H
  obtain ⟨t10, At10, H⟩ := Option.bind_eq_some_iff.mp H
  by_cases c3 : t10 = 14
  rotate_left
  · rw [if_neg c3] at H
    obtain rfl := Option.some.inj H
    refine calls_of_wp (fn := Try.f14) (by kernel_rfl) rfl ?_
    have hS := St.enter #[] 22 (by simp) [] (by simp)
    have HB0 := Below.refl w.heap.size w
    refine wp_seq_k (fun K1 hK1 => ?_)
    refine reg_seq (N := 22) (bs := []) (I := fun x => Below w.heap.size w x) (ps := [VB false]) (by kernel_rfl) ?_ ?_ rfl hS HB0 ?_ ?_
    · exact fun x y hI hb => below_step hI hb
    · exact .v (.nil)
    · refine .on rfl (fun a w hS hI hp => does_val (x_assign rfl (rfl)) rfl) ?_
      exact .nil
    clear hS
    intro at2 w3 hS hI hp
    have hBw3_w := hI
    have hBw3_w3 := Below.refl w3.heap.size w3
    clear hp hI
    refine hK1 _ _ ?_
    (try clear hK1 K1)
    refine wp_seq_k (fun K4 hK4 => ?_)
    refine reg_seq (N := 22) (bs := []) (I := fun x => Below w.heap.size w x ∧ Below w3.heap.size w3 x) (ps := [IsV ((carillonlaw07_awake.v0 11 0 0 0 0 0 0 0 0 0 0 0 0 0 0 0 0 0 0 0 0 0 0)), IsT (fun v0_ => #[v0_, .bool t5_2]) (IsC (Kd.int .u8) t5_1), IsT (fun v0_ => #[v0_, .bool t5_2]) (IsC (Kd.int .u8) t5_1), IsC (Kd.int .u8) t5_1, VB t5_2, IsC (Kd.int .u8) t5_1, VB t5_2]) (by kernel_rfl) ?_ ?_ rfl hS ⟨hBw3_w, hBw3_w3⟩ ?_ ?_
    · exact fun x y hI hb => ⟨below_step hI.1 hb, below_step hI.2 hb⟩
    · exact .v (.cons (Stays.t _ (Stays.c _ _)) (.cons (Stays.t _ (Stays.c _ _)) (.cons (Stays.c _ _) (.v (.cons (Stays.c _ _) (.v (.nil)))))))
    · refine .on rfl (fun a w hS hI hp => does_val (x_build (vs := [(0, .int .i64 11)]) rfl (by rw [Array.toList_map]; exact (show [(0, a.eval (.const (.int .i64 11)))] = _ from (li_cons (rfl) rfl))) (by kernel_rfl)) rfl) ?_
      refine .on rfl (fun a w hS hI hp => does_call (by kernel_rfl) (ar2 (rfl) (hp.V 0 rfl rfl)) ((body_Put.calls k _ _ [] 11 0 0 0 0 0 0 0 0 0 0 0 0 0 0 0 0 0 0 0 0 0 0 t5_1 t5_2 _ (Kd.C_nil _ _) (Nat.le_refl _) At5).mono fun _ _ h => h.elim fun v0 h => ⟨_, h.1, h.2.2, v0, rfl, h.2.1⟩)) ?_
      refine .on rfl (fun a w hS hI hp => does_val (x_move rfl rfl) (hp.V 1 rfl rfl)) ?_
      refine .on rfl (fun a w hS hI hp => (hp.V 2 rfl rfl).elim fun v0 h0 => does_val (x_extract rfl h0.1 rfl) h0.2) ?_
      refine .on rfl (fun a w hS hI hp => (hp.V 2 rfl rfl).elim fun v0 h0 => does_val (x_extract rfl h0.1 rfl) rfl) ?_
      refine .on rfl (fun a w hS hI hp => does_val (x_assign rfl rfl) (hp.V 3 rfl rfl)) ?_
      refine .asg 4 rfl rfl rfl rfl ?_
      exact .nil
    clear hS
    intro at6 w7 hS hI hp
    have hBw7_w := hI.1
    have hBw7_w3 := hI.2
    obtain ⟨A8, C8, hv1, hl8, hc8⟩ := (show IsC (Kd.int .u8) t5_1 (sl _ 1) w7 from hp 5 (by decide))
    have hv2 : sl _ 2 = .bool t5_2 := hp 6 (by decide)
    have hBw7_w7 := Below.refl w7.heap.size w7
    have hS := hS.cons hv1
    have hS := hS.cons hv2
    clear hp hI hv1 hv2
    refine hK4 _ _ ?_
    (try clear hK4 K4)
    refine wp_seq_k (fun K9 hK9 => ?_)
    refine reg_seq (N := 22) (bs := [(2, .bool t5_2), (1, .slice A8 t5_1.length C8)]) (I := fun x => Below w.heap.size w x ∧ Below w7.heap.size w7 x) (ps := [VB t5_2, VB t5_2, IsV (.slice A8 t5_1.length C8), VI (t5_1.length : Int), VB (decide ((t5_1.length : Int) = 30)), VB (decide ((t5_1.length : Int) = 30)), VB (decide ((t5_1.length : Int) = 30)), VI t10, VB (decide (t10 = 14)), VB (decide (t10 = 14)), VB (decide (t10 = 14)), VU, VU, VB false, VB false]) (by kernel_rfl) ?_ ?_ rfl hS ⟨hBw7_w, hBw7_w7⟩ ?_ ?_
    · exact fun x y hI hb => ⟨below_step hI.1 hb, below_step hI.2 hb⟩
    · exact .v (.v (.v (.v (.v (.v (.v (.v (.v (.v (.v (.v (.v (.v (.v (.nil)))))))))))))))
    · refine .ms 0 rfl rfl rfl ?_
      refine .mv 0 rfl rfl rfl rfl ?_
      refine .oy 1 9 rfl rfl rfl rfl rfl c1 (fun a w hS hI hp => does_val (x_move rfl (hS.get 1 rfl)) rfl) ?_
      refine .oy 1 9 rfl rfl rfl rfl rfl c1 (fun a w hS hI hp => does_val (x_len (e := 5) rfl (by kernel_rfl) (hp.V 2 rfl rfl)) rfl) ?_
      refine .oy 1 9 rfl rfl rfl rfl rfl c1 (fun a w hS hI hp => does_val (x_bin rfl (hp.V 3 rfl rfl) (rfl) (b_eql _ _ _ _ _ _)) rfl) ?_
      refine .pt 1 4 rfl rfl rfl rfl c1 rfl rfl ?_
      refine .mv 5 rfl rfl rfl rfl ?_
      refine .oy 6 14 rfl rfl rfl rfl rfl ((decide_eq_true c2)) (fun a w hS hI hp => does_call (by kernel_rfl) (ar1 (rfl)) ((body_Len.calls k 13 t10 _  At10).mono fun _ _ h => ⟨_, h.1, h.2.below, rfl⟩)) ?_
      refine .oy 6 14 rfl rfl rfl rfl rfl ((decide_eq_true c2)) (fun a w hS hI hp => does_val (x_bin rfl (hp.V 7 rfl rfl) (rfl) (b_eql _ _ _ _ _ _)) rfl) ?_
      refine .pt 6 8 rfl rfl rfl rfl ((decide_eq_true c2)) rfl rfl ?_
      refine .mv 9 rfl rfl rfl rfl ?_
      iterate 2 refine .sn 10 18 rfl rfl rfl rfl rfl ((decide_eq_false c3)) ?_
      refine .pf 10 rfl rfl rfl rfl ((decide_eq_false c3)) (fun _ => rfl) ?_
      refine .asg 13 rfl rfl rfl rfl ?_
      exact .nil
    clear hS
    intro at11 w12 hS hI hp
    have hBw12_w := hI.1
    have hBw12_w7 := hI.2
    replace hS := hS.nil
    have hv0 : sl _ 0 = .bool false := hp 14 (by decide)
    have hBw12_w12 := Below.refl w12.heap.size w12
    have hS := hS.cons hv0
    clear hp hI hv0
    refine hK9 _ _ ?_
    (try clear hK9 K9)
    refine wp_ret ?_
    (try simp only [Exit.then, Exit.inBlock, Exit.jump, Exit.noGoto])
    exact bodyPost_ret (v := .bool false) (results_single rfl (Vals.at (hS.get 0 rfl) .nil)) hS.nodef ⟨rfl, hBw12_w⟩
  rw [if_pos c3] at H
  obtain ⟨t11, At11, H⟩ := Option.bind_eq_some_iff.mp H
  obtain rfl := Option.some.inj H
  refine calls_of_wp (fn := Try.f14) (by kernel_rfl) rfl ?_
  have hS := St.enter #[] 22 (by simp) [] (by simp)
  have HB0 := Below.refl w.heap.size w
  refine wp_seq_k (fun K1 hK1 => ?_)
  refine reg_seq (N := 22) (bs := []) (I := fun x => Below w.heap.size w x) (ps := [VB false]) (by kernel_rfl) ?_ ?_ rfl hS HB0 ?_ ?_
  · exact fun x y hI hb => below_step hI hb
  · exact .v (.nil)
  · refine .on rfl (fun a w hS hI hp => does_val (x_assign rfl (rfl)) rfl) ?_
    exact .nil
  clear hS
  intro at2 w3 hS hI hp
  have hBw3_w := hI
  have hBw3_w3 := Below.refl w3.heap.size w3
  clear hp hI
  refine hK1 _ _ ?_
  (try clear hK1 K1)
  refine wp_seq_k (fun K4 hK4 => ?_)
  refine reg_seq (N := 22) (bs := []) (I := fun x => Below w.heap.size w x ∧ Below w3.heap.size w3 x) (ps := [IsV ((carillonlaw07_awake.v0 11 0 0 0 0 0 0 0 0 0 0 0 0 0 0 0 0 0 0 0 0 0 0)), IsT (fun v0_ => #[v0_, .bool t5_2]) (IsC (Kd.int .u8) t5_1), IsT (fun v0_ => #[v0_, .bool t5_2]) (IsC (Kd.int .u8) t5_1), IsC (Kd.int .u8) t5_1, VB t5_2, IsC (Kd.int .u8) t5_1, VB t5_2]) (by kernel_rfl) ?_ ?_ rfl hS ⟨hBw3_w, hBw3_w3⟩ ?_ ?_
  · exact fun x y hI hb => ⟨below_step hI.1 hb, below_step hI.2 hb⟩
  · exact .v (.cons (Stays.t _ (Stays.c _ _)) (.cons (Stays.t _ (Stays.c _ _)) (.cons (Stays.c _ _) (.v (.cons (Stays.c _ _) (.v (.nil)))))))
  · refine .on rfl (fun a w hS hI hp => does_val (x_build (vs := [(0, .int .i64 11)]) rfl (by rw [Array.toList_map]; exact (show [(0, a.eval (.const (.int .i64 11)))] = _ from (li_cons (rfl) rfl))) (by kernel_rfl)) rfl) ?_
    refine .on rfl (fun a w hS hI hp => does_call (by kernel_rfl) (ar2 (rfl) (hp.V 0 rfl rfl)) ((body_Put.calls k _ _ [] 11 0 0 0 0 0 0 0 0 0 0 0 0 0 0 0 0 0 0 0 0 0 0 t5_1 t5_2 _ (Kd.C_nil _ _) (Nat.le_refl _) At5).mono fun _ _ h => h.elim fun v0 h => ⟨_, h.1, h.2.2, v0, rfl, h.2.1⟩)) ?_
    refine .on rfl (fun a w hS hI hp => does_val (x_move rfl rfl) (hp.V 1 rfl rfl)) ?_
    refine .on rfl (fun a w hS hI hp => (hp.V 2 rfl rfl).elim fun v0 h0 => does_val (x_extract rfl h0.1 rfl) h0.2) ?_
    refine .on rfl (fun a w hS hI hp => (hp.V 2 rfl rfl).elim fun v0 h0 => does_val (x_extract rfl h0.1 rfl) rfl) ?_
    refine .on rfl (fun a w hS hI hp => does_val (x_assign rfl rfl) (hp.V 3 rfl rfl)) ?_
    refine .asg 4 rfl rfl rfl rfl ?_
    exact .nil
  clear hS
  intro at6 w7 hS hI hp
  have hBw7_w := hI.1
  have hBw7_w3 := hI.2
  obtain ⟨A8, C8, hv1, hl8, hc8⟩ := (show IsC (Kd.int .u8) t5_1 (sl _ 1) w7 from hp 5 (by decide))
  have hv2 : sl _ 2 = .bool t5_2 := hp 6 (by decide)
  have hBw7_w7 := Below.refl w7.heap.size w7
  have hS := hS.cons hv1
  have hS := hS.cons hv2
  clear hp hI hv1 hv2
  refine hK4 _ _ ?_
  (try clear hK4 K4)
  refine wp_seq_k (fun K9 hK9 => ?_)
  refine reg_seq (N := 22) (bs := [(2, .bool t5_2), (1, .slice A8 t5_1.length C8)]) (I := fun x => Below w.heap.size w x ∧ Below w7.heap.size w7 x) (ps := [VB t5_2, VB t5_2, IsV (.slice A8 t5_1.length C8), VI (t5_1.length : Int), VB (decide ((t5_1.length : Int) = 30)), VB (decide ((t5_1.length : Int) = 30)), VB (decide ((t5_1.length : Int) = 30)), VI t10, VB (decide (t10 = 14)), VB (decide (t10 = 14)), VB (decide (t10 = 14)), VI t11, VB (decide (t11 = 0)), VB (decide (t11 = 0)), VB (decide (t11 = 0))]) (by kernel_rfl) ?_ ?_ rfl hS ⟨hBw7_w, hBw7_w7⟩ ?_ ?_
  · exact fun x y hI hb => ⟨below_step hI.1 hb, below_step hI.2 hb⟩
  · exact .v (.v (.v (.v (.v (.v (.v (.v (.v (.v (.v (.v (.v (.v (.v (.nil)))))))))))))))
  · refine .ms 0 rfl rfl rfl ?_
    refine .mv 0 rfl rfl rfl rfl ?_
    refine .oy 1 9 rfl rfl rfl rfl rfl c1 (fun a w hS hI hp => does_val (x_move rfl (hS.get 1 rfl)) rfl) ?_
    refine .oy 1 9 rfl rfl rfl rfl rfl c1 (fun a w hS hI hp => does_val (x_len (e := 5) rfl (by kernel_rfl) (hp.V 2 rfl rfl)) rfl) ?_
    refine .oy 1 9 rfl rfl rfl rfl rfl c1 (fun a w hS hI hp => does_val (x_bin rfl (hp.V 3 rfl rfl) (rfl) (b_eql _ _ _ _ _ _)) rfl) ?_
    refine .pt 1 4 rfl rfl rfl rfl c1 rfl rfl ?_
    refine .mv 5 rfl rfl rfl rfl ?_
    refine .oy 6 14 rfl rfl rfl rfl rfl ((decide_eq_true c2)) (fun a w hS hI hp => does_call (by kernel_rfl) (ar1 (rfl)) ((body_Len.calls k 13 t10 _  At10).mono fun _ _ h => ⟨_, h.1, h.2.below, rfl⟩)) ?_
    refine .oy 6 14 rfl rfl rfl rfl rfl ((decide_eq_true c2)) (fun a w hS hI hp => does_val (x_bin rfl (hp.V 7 rfl rfl) (rfl) (b_eql _ _ _ _ _ _)) rfl) ?_
    refine .pt 6 8 rfl rfl rfl rfl ((decide_eq_true c2)) rfl rfl ?_
    refine .mv 9 rfl rfl rfl rfl ?_
    refine .oy 10 18 rfl rfl rfl rfl rfl ((decide_eq_true c3)) (fun a w hS hI hp => does_call (by kernel_rfl) (ar1 (rfl)) ((body_Len.calls k 4 t11 _  At11).mono fun _ _ h => ⟨_, h.1, h.2.below, rfl⟩)) ?_
    refine .oy 10 18 rfl rfl rfl rfl rfl ((decide_eq_true c3)) (fun a w hS hI hp => does_val (x_bin rfl (hp.V 11 rfl rfl) (rfl) (b_eql _ _ _ _ _ _)) rfl) ?_
    refine .pt 10 12 rfl rfl rfl rfl ((decide_eq_true c3)) rfl rfl ?_
    refine .asg 13 rfl rfl rfl rfl ?_
    exact .nil
  clear hS
  intro at12 w13 hS hI hp
  have hBw13_w := hI.1
  have hBw13_w7 := hI.2
  replace hS := hS.nil
  have hv0 : sl _ 0 = .bool (decide (t11 = 0)) := hp 14 (by decide)
  have hBw13_w13 := Below.refl w13.heap.size w13
  have hS := hS.cons hv0
  clear hp hI hv0
  refine hK9 _ _ ?_
  (try clear hK9 K9)
  refine wp_ret ?_
  (try simp only [Exit.then, Exit.inBlock, Exit.jump, Exit.noGoto])
  exact bodyPost_ret (v := .bool (decide (t11 = 0))) (results_single rfl (Vals.at (hS.get 0 rfl) .nil)) hS.nodef ⟨rfl, hBw13_w⟩
/-! ### carillonlaw00_Place: function 16 -/
end Go.Proofs.Ytpoocfapmgmfkaa.P
